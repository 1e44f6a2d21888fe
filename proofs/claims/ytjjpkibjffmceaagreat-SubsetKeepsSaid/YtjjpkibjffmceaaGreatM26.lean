/-
  The maker: outlines.
-/
import Derived.Test.YtjjpkibjffmceaaGreatM25
import Derived.Test.YtjjpkibjffmceaaGreatM22
namespace Go.Proofs.YtjjpkibjffmceaaGreat
open Go.RowKit
attribute [local irreducible] AT bT AX AO Av Kt bk ej DA cX
variable (s : List Int) (hs : s.length ≤ 1000000) (F : MF)
include hs
abbrev bI : AV := .sc (.slice none 0 0)
set_option maxHeartbeats 8000000 in
theorem rl : pz 96 [] s F (iQ s) Ei := by
 intro b m
 refine aP Tryz.func96 rfl Tryz.ntmps96 rfl fun B => ?_
 repeat' (first|refine ah ?_|refine a7 ?_|refine a8 ?_|refine aa ?_|refine ae a6 rfl rfl ?_|refine b5 a6 fun _=>?_|fail)
 rename_i rb ob
 refine aO (aK (L' := dV b s F m :: (ob, .box [bI, bI] 57) :: (rb, .box [bI, bI] 57) :: []) (List.perm_append_comm (l₁ := [_, _]))) ?_
 refine aO (bi 1 (cs' := [.vec none 3 [], .vec none 1 []]) rfl fun σ vs h => mZ.vrs (a := [bI, bI]) (b := [.vec none 3 [], .vec none 1 []]) ⟨dw.vecN 3, dw.vecN 1, trivial⟩ h) ?_
 refine cD ?_
 have hk := cf s hs m.a (n := 3) (by omega)
 have hk : 0 ≤ (dr s 3 m).1 ∧ (dr s 3 m).1 < 3 := hk
 generalize e1 : dr s 3 m = p1 at hk ⊢
 obtain ⟨k, hkk⟩ : ∃ k : Nat, p1.1 = k := ⟨p1.1.toNat, by omega⟩
 rw [hkk]
 have hok : ∀ i, rG i (gK s i p1.2).1 := fun i => sO s i p1.2
 repeat' (first|refine ah ?_|refine a7 ?_|refine aq ?_|refine a8 ?_|refine aa ?_|refine ae a6 rfl rfl ?_)
 refine aN [0, 2, 3, 4] (α := Nat × Option (Nat × Nat) × Option (Nat × Nat)) (fun x => [(5, aM x.1)]) (fun x => x.1 ≤ k) (fun x => dV b s F (gK s x.1 p1.2).2 :: (ob, .box [.vec x.2.1 3 ((gK s x.1 p1.2).1.1.map cP), .vec x.2.2 1 (aU (gK s x.1 p1.2).1.2)] 57) :: (rb, .box [bI, bI] 57) :: (tok x.2.1 72 3 ((gK s x.1 p1.2).1.1.map cP).length ++ (tok x.2.2 3 1 (aU (gK s x.1 p1.2).1.2).length ++ []))) (fun x => k - x.1) (0, none, none) rfl ⟨rfl, trivial⟩ (Nat.zero_le _) (fun _ _ h => by simpa [gK, gz, cA, tok, fS, aU] using h) ?_
 rintro ⟨i, q1, q2⟩ hi
 dsimp only at hi ⊢
 try dsimp only [Gr, Gq, Gp, Gj]
 repeat' (first|refine ah ?_|refine a7 ?_|refine a8 ?_|refine aa ?_|refine ae a6 rfl rfl ?_)
 refine aw rfl (fun h => ?_) (fun h => ?_)
 ·have hil : i < k := by have := Gz h; omega
  have hoi := hok i
  have hoi1 := hok (i + 1)
  have hstep : gK s (i + 1) p1.2 = c9 (dr s 4) (fun k => c9 (mO s (gK s i p1.2).1.1 (2 + k).toNat) fun l => cA (l, (gK s i p1.2).1.2 ++ [(l.length : Int) - 1])) (gK s i p1.2).2 := rfl
  rw [hstep] at hoi1
  generalize gK s i p1.2 = st at hoi hoi1 hstep ⊢
  have hln := hoi.len
  have hle := hoi.endl
  repeat' (first|refine ah ?_|refine a7 ?_|refine aq ?_|refine au ?_|refine a8 ?_|refine ae a6 rfl rfl ?_)
  refine cD ?_
  have hc := cf s hs st.2.a (n := 4) (by omega)
  have hc : 0 ≤ (dr s 4 st.2).1 ∧ (dr s 4 st.2).1 < 4 := hc
  unfold c9 at hstep hoi1
  generalize dr s 4 st.2 = p2 at hc hstep hoi1 ⊢
  obtain ⟨c, hcc⟩ : ∃ k : Nat, 2 + p2.1 = k := ⟨(2 + p2.1).toNat, by omega⟩
  dsimp only at hstep hoi1
  rw [hcc] at hstep hoi1
  dsimp only [Int.toNat_natCast] at hstep hoi1
  repeat' (first|refine ah ?_|refine a7 ?_|refine aq ?_|refine a8 ?_|refine aa ?_|refine ae a6 rfl rfl ?_|(apply aW; refine aV ?_)|fail)
  rw [hcc]
  have hpt : ∀ j, (mO s st.1.1 j p2.2).1.length = st.1.1.length + j := fun j => (vp s st.1.1 hoi.pts j p2.2).1
  refine aN [0, 2, 3, 4, 5, 6] (α := Nat × Option (Nat × Nat)) (fun x => [(7, aM x.1)]) (fun x => x.1 ≤ c) (fun x => dV b s F (mO s st.1.1 x.1 p2.2).2 :: (ob, .box [.vec x.2 3 ((mO s st.1.1 x.1 p2.2).1.map cP), .vec q2 1 (aU st.1.2)] 57) :: (rb, .box [bI, bI] 57) :: (tok x.2 72 3 ((mO s st.1.1 x.1 p2.2).1.map cP).length ++ (tok q2 3 1 (aU st.1.2).length ++ []))) (fun x => c - x.1) (0, q1) rfl ⟨rfl, trivial⟩ (Nat.zero_le _) (fun _ _ h => h) ?_
  rintro ⟨j, q⟩ hj
  dsimp only at hj ⊢
  try dsimp only [Gr, Gq, Gp, Gj]
  repeat' (first|refine ah ?_|refine a7 ?_|refine a8 ?_|refine aa ?_|refine ae a6 rfl rfl ?_)
  refine aw rfl (fun h => ?_) (fun h => ?_)
  ·have hjl : j < c := by have := Gz h; omega
   have hl0 := hpt j
   have hstep2 : mO s st.1.1 (j + 1) p2.2 = ((mO s st.1.1 j p2.2).1 ++ [(C2 s j (mO s st.1.1 j p2.2).2).1], (C2 s j (mO s st.1.1 j p2.2).2).2) := rfl
   generalize mO s st.1.1 j p2.2 = u at hl0 hstep2 ⊢
   repeat' (first|refine ah ?_|refine aq ?_|refine au ?_|refine a8 ?_)
   refine dg [.cell (ob, 0, .vec q 3 (u.1.map cP))] 19 [(0, .v), (1, .k), (2, .v), (6, .v), (10, .v), (11, .v), (3, .f), (4, .v), (5, .v), (7, .f), (8, .v), (9, .v), (12, .v), (13, .v), (14, .f), (15, .v), (16, .v), (17, .v), (18, .v)] none ?_ trivial rfl (by kernel_rfl) (by kernel_rfl) (by kernel_rfl) mixed (by kernel_rfl) rfl
   repeat' (first|refine aE ?_|refine aZ a6 ?_|fail)
   refine eg a6 0 rfl rfl rfl (bM 1 rfl rfl bW) (by first | trivial | rfl) ?_
   repeat' (first|refine aE ?_|refine aZ a6 ?_|fail)
   refine eD (bM 1 rfl rfl bW) ?_
   have hx := cf s hs u.2.a (n := 21) (by omega)
   have hx : 0 ≤ (dr s 21 u.2).1 ∧ (dr s 21 u.2).1 < 21 := hx
   generalize e2 : dr s 21 u.2 = x1 at hx ⊢
   repeat' (first|refine aE ?_|(apply eP;refine fU ?_)|fail)
   refine eD (bM 1 rfl rfl bW) ?_
   have hy := cf s hs x1.2.a (n := 21) (by omega)
   have hy : 0 ≤ (dr s 21 x1.2).1 ∧ (dr s 21 x1.2).1 < 21 := hy
   generalize e3 : dr s 21 x1.2 = y1 at hy ⊢
   repeat' (first|refine aE ?_|refine aZ a6 ?_|(apply eP;refine fU ?_)|fail)
   by_cases hp : j = 0
   ·rw [decide_eq_true (show ((j : Int) = 0) by omega)]
    repeat' (first|refine aE ?_|refine kD rfl rfl ?_)
    refine Cy rfl rfl ?_
    have hpd : C2 s j u.2 = (⟨x1.1 * 50 - 100, y1.1 * 50 - 200, true⟩, y1.2) := by simp [C2, c9, cA, e2, e3, hp]
    rw [hpd] at hstep2
    dsimp only at hstep2
    repeat' (first|refine aE ?_|refine aZ a6 ?_|refine ee a6 ?_|refine kD rfl rfl ?_)
    refine br [0, 2, 3, 4, 5, 6, 7, 24, 41] rfl rfl ?_
    repeat' (first|fail)
    refine bF a6 _ rfl rfl rfl rfl (eG (A := [_, _, _])) (by simp; omega) (by simp; omega) rfl fun q' => ?_
    refine aO (aK (eG (A := [_, _, _])).symm) ?_
    repeat' (first|refine a7 ?_|refine a8 ?_|refine aI ?_|refine aa ?_|refine ae a6 rfl rfl ?_|(apply aW; refine aV ?_)|(apply aH; first|refine aj a6 0 rfl rfl rfl rfl rfl rfl rfl ?_|refine aj a6 1 rfl rfl rfl rfl rfl rfl rfl ?_|refine aj a6 2 rfl rfl rfl rfl rfl rfl rfl ?_|refine aj a6 3 rfl rfl rfl rfl rfl rfl rfl ?_|fail))
    exact aC (j + 1, q') rfl ⟨by rw [Gw]; rfl, trivial⟩ (by dsimp only; omega) (by dsimp only; omega) (fun _ _ h => by dsimp only; rw [hstep2]; simpa [fS, gg, cP] using h)
   ·rw [decide_eq_false (show ¬ ((j : Int) = 0) by omega)]
    repeat' (first|refine aE ?_|refine aZ a6 ?_|fail)
    refine eD (bM 1 rfl rfl bW) ?_
    generalize e4 : dr s 4 y1.2 = z1
    have hpd : C2 s j u.2 = (⟨x1.1 * 50 - 100, y1.1 * 50 - 200, decide (0 < z1.1)⟩, z1.2) := by simp [C2, c9, cA, e2, e3, e4, hp]
    rw [hpd] at hstep2
    dsimp only at hstep2
    repeat' (first|refine aE ?_|refine aZ a6 ?_|refine ee a6 ?_|fail)
    refine br [0, 2, 3, 4, 5, 6, 7, 24, 41] rfl rfl ?_
    repeat' (first|fail)
    refine bF a6 _ rfl rfl rfl rfl (eG (A := [_, _, _])) (by simp; omega) (by simp; omega) rfl fun q' => ?_
    refine aO (aK (eG (A := [_, _, _])).symm) ?_
    repeat' (first|refine a7 ?_|refine a8 ?_|refine aI ?_|refine aa ?_|refine ae a6 rfl rfl ?_|(apply aW; refine aV ?_)|(apply aH; first|refine aj a6 0 rfl rfl rfl rfl rfl rfl rfl ?_|refine aj a6 1 rfl rfl rfl rfl rfl rfl rfl ?_|refine aj a6 2 rfl rfl rfl rfl rfl rfl rfl ?_|refine aj a6 3 rfl rfl rfl rfl rfl rfl rfl ?_|fail))
    exact aC (j + 1, q') rfl ⟨by rw [Gw]; rfl, trivial⟩ (by dsimp only; omega) (by dsimp only; omega) (fun _ _ h => by dsimp only; rw [hstep2]; simpa [fS, gg, cP] using h)
  have hjl : j = c := by have := Gy h; omega
  subst hjl
  have hjn := hpt j
  generalize mO s st.1.1 j p2.2 = u at hjn hstep hoi1 ⊢
  have hul : (u.1.map cP).length = u.1.length := Gu ..
  have hel : (aU st.1.2).length = st.1.2.length := aQ _
  repeat' (first|refine a7 ?_|refine aR ?_|refine a8 ?_|refine av ?_|refine aB ?_|refine ay ?_|refine ae a6 rfl rfl ?_|(apply bB; first|refine ak a6 0 rfl rfl rfl rfl rfl ?_|refine ak a6 1 rfl rfl rfl rfl rfl ?_|refine ak a6 2 rfl rfl rfl rfl rfl ?_|refine ak a6 3 rfl rfl rfl rfl rfl ?_|refine aD a6 0 rfl rfl rfl rfl rfl ?_|refine aD a6 1 rfl rfl rfl rfl rfl ?_|refine aD a6 2 rfl rfl rfl rfl rfl ?_|refine ak a6 1 rfl rfl rfl (by assumption) rfl ?_|refine ak a6 0 rfl rfl rfl (by assumption) rfl ?_|fail)|(apply aW; refine aV ?_)|refine bz a6 ?_|fail)
  refine bF a6 _ rfl rfl rfl rfl (El (A := [_, _, _])) (by simp [aQ]; omega) (by simp [aQ]; omega) rfl fun q' => ?_
  refine aO (aK (El (A := [_, _, _])).symm) ?_
  repeat' (first|refine a7 ?_|refine a8 ?_|refine aI ?_|refine aa ?_|refine ae a6 rfl rfl ?_|(apply aW; refine aV ?_)|(apply aH; first|refine aj a6 0 rfl rfl rfl rfl rfl rfl rfl ?_|refine aj a6 1 rfl rfl rfl rfl rfl rfl rfl ?_|refine aj a6 2 rfl rfl rfl rfl rfl rfl rfl ?_|refine aj a6 3 rfl rfl rfl rfl rfl rfl rfl ?_|fail))
  exact aC (i + 1, q, q') rfl ⟨by rw [Gw]; rfl, trivial⟩ (by dsimp only; omega) (by dsimp only; omega) (fun _ _ h => by dsimp only; rw [hstep]; simpa [fS, gg, cA, aU, hul] using h)
 have hil : i = k := by have := Gy h; omega
 subst hil
 have hv : iQ s m = gK s i p1.2 := by
  unfold iQ c9
  rw [e1]
  dsimp only
  rw [hkk]
  rfl
 rw [hv]
 generalize gK s i p1.2 = st
 repeat' (first|refine ah ?_|refine a7 ?_|refine ar ?_|refine aR ?_|refine a8 ?_|refine av ?_|refine aB ?_|refine ay ?_|refine aa ?_|(apply bB; first|refine ak a6 0 rfl rfl rfl rfl rfl ?_|refine ak a6 1 rfl rfl rfl rfl rfl ?_|refine ak a6 2 rfl rfl rfl rfl rfl ?_|refine ak a6 3 rfl rfl rfl rfl rfl ?_|refine aD a6 0 rfl rfl rfl rfl rfl ?_|refine aD a6 1 rfl rfl rfl rfl rfl ?_|refine aD a6 2 rfl rfl rfl rfl rfl ?_|refine ak a6 1 rfl rfl rfl (by assumption) rfl ?_|refine ak a6 0 rfl rfl rfl (by assumption) rfl ?_|fail)|(apply aH; first|refine aj a6 0 rfl rfl rfl rfl rfl rfl rfl ?_|refine aj a6 1 rfl rfl rfl rfl rfl rfl rfl ?_|refine aj a6 2 rfl rfl rfl rfl rfl rfl rfl ?_|refine aj a6 3 rfl rfl rfl rfl rfl rfl rfl ?_|fail))
 refine ba (bi 2 (cs' := [.imm 3 (st.1.1.map cP), .imm 1 (aU st.1.2)]) rfl fun σ vs h => mZ.vrs (a := [.vec q1 3 (st.1.1.map cP), .vec q2 1 (aU st.1.2)]) (b := [.imm 3 (st.1.1.map cP), .imm 1 (aU st.1.2)]) ⟨dw.im, dw.im, trivial⟩ h) (ip a6 2 [dV b s F st.2] rfl rfl rfl rfl rfl (List.Sublist.cons_cons _ (List.nil_sublist _)) ⟨rfl, rfl⟩)
end Go.Proofs.YtjjpkibjffmceaaGreat
namespace Go.Proofs.YtjjpkibjffmceaaGreat
open Go.RowKit
attribute [local irreducible] AT bT AX AO Av Kt bk ej DA cX
variable (s : List Int) (hs : s.length ≤ 1000000) (F : MF)
include hs
theorem yL (a : Int) (m : MS) (k : Nat) : (f8 s a k m).1.length ≤ 1 + k := by
 have _ := hs
 clear hs
 refine (bS.runs (fun i (l : List Int) => l.length ≤ 1 + i) k (by simp) fun i l _ h => bS.ite (fun _ => (bS.any _).bnd fun z _ => bS.ret ?_) fun _ => bS.ret (by omega)) m
 split
 ·simp; omega
 ·omega
theorem wH (a : Int) (m : MS) {j : Nat} (h : 4 ≤ (f8 s a j m).1.length) : ∀ k, j ≤ k → f8 s a k m = f8 s a j m := by
 have _ := hs
 clear hs
 intro k hk
 induction k with
 | zero => rw [show j = 0 by omega]
 | succ k ih =>
  by_cases e : j = k + 1
  ·rw [e]
  ·have h1 := ih (by omega)
   have h2 : f8 s a (k + 1) m = (if (f8 s a k m).1.length < 4 then c9 (dr s 3) fun z => cA (if z = 0 then (f8 s a k m).1 ++ [a + 1 + k] else (f8 s a k m).1) else cA (f8 s a k m).1) (f8 s a k m).2 := rfl
   rw [h2, h1, if_neg (by omega)]
   rfl
def Bn (l : List Int) : AV := .imm 1 (aU l)
def zl (l : List (List Int)) : AV := .imm 1 (bq l)
set_option maxHeartbeats 4000000 in
theorem pb {kg : Option (Nat × Nat)} {gl : List (List AV)} (hF : F.gl = .vec kg 9 gl) (n : Nat) (hn : gl.length = n) (h0 : 0 < n ∧ n ≤ 1000) : pz 153 [] s F (m9 s n) Bn := by
 intro b m
 refine aP Tryz.func153 rfl Tryz.ntmps153 rfl fun B => ?_
 repeat' (first|refine ah ?_|refine a7 ?_|refine a8 ?_|refine aa ?_|refine ae a6 rfl rfl ?_|(apply bB; first|refine ak a6 0 rfl rfl rfl rfl rfl ?_|refine ak a6 1 rfl rfl rfl rfl rfl ?_|refine ak a6 2 rfl rfl rfl rfl rfl ?_|refine ak a6 3 rfl rfl rfl rfl rfl ?_|refine aD a6 0 rfl rfl rfl rfl rfl ?_|refine aD a6 1 rfl rfl rfl rfl rfl ?_|refine aD a6 2 rfl rfl rfl rfl rfl ?_|refine ak a6 1 rfl rfl rfl (by assumption) rfl ?_|refine ak a6 0 rfl rfl rfl (by assumption) rfl ?_|fail)|fail)
 rw [hF]
 repeat' (first|refine ah ?_|refine a7 ?_|refine a8 ?_|refine aa ?_|refine ae a6 rfl rfl ?_)
 rw [hn]
 refine cD ?_
 have hk := cf s hs m.a (n := n) (by omega)
 have hk : 0 ≤ (dr s n m).1 ∧ (dr s n m).1 < n := hk
 generalize e1 : dr s n m = p1 at hk ⊢
 repeat' (first|refine ah ?_|refine a7 ?_|refine aq ?_|refine a8 ?_|refine aa ?_|refine ae a6 rfl rfl ?_|(apply aW; refine aV ?_)|refine jU (d := 17) a6 fun _=>?_|fail)
 rename_i kb
 refine bK (aK (L' := [dV b s F p1.2] ++ (tok (some (kb, 1)) 3 1 1 ++ [])) (List.perm_append_comm (l₁ := [_]))) ?_
 have hmx : ∀ j, (f8 s p1.1 j p1.2).1.length ≤ 1 + j := fun j => yL s hs _ _ j
 refine aN [0, 3] (α := Nat × Option (Nat × Nat)) (fun x => [(6, aM (p1.1 + 1 + x.1)), (5, .vec x.2 1 (aU (f8 s p1.1 x.1 p1.2).1))]) (fun x => x.1 ≤ (n - (p1.1 + 1)).toNat) (fun x => [dV b s F (f8 s p1.1 x.1 p1.2).2] ++ (tok x.2 3 1 (aU (f8 s p1.1 x.1 p1.2).1).length ++ [])) (fun x => (n - (p1.1 + 1)).toNat - x.1) (0, some (kb, 1)) rfl ⟨by simp [cb], rfl, trivial⟩ (Nat.zero_le _) (fun _ _ h => h) ?_
 rintro ⟨j, q⟩ hj
 dsimp only at hj ⊢
 have hl := hmx j
 have hstop := wH s hs p1.1 p1.2 (j := j)
 have hstep : f8 s p1.1 (j + 1) p1.2 = (if (f8 s p1.1 j p1.2).1.length < 4 then c9 (dr s 3) fun z => cA (if z = 0 then (f8 s p1.1 j p1.2).1 ++ [p1.1 + 1 + j] else (f8 s p1.1 j p1.2).1) else cA (f8 s p1.1 j p1.2).1) (f8 s p1.1 j p1.2).2 := rfl
 have hv : m9 s n m = f8 s p1.1 (n - (p1.1 + 1)).toNat p1.2 := by
  unfold m9 c9
  rw [e1]
 generalize e2 : f8 s p1.1 j p1.2 = st at hl hstop hstep ⊢
 have hil : (aU st.1).length = st.1.length := aQ _
 try dsimp only [Gr, Gq, Gp, Gj]
 repeat' (first|refine ah ?_|refine a7 ?_|refine ae a6 rfl rfl ?_)
 by_cases hlt : p1.1 + 1 + (j : Int) < (n : Int)
 ·rw [decide_eq_true hlt]
  repeat' (first|refine a8 ?_|refine aa ?_|refine ae a6 rfl rfl ?_|refine aG rfl rfl ?_)
  refine aw rfl (fun h => ?_) (fun h => ?_)
  ·have h4 : st.1.length < 4 := by have := Gz h; omega
   repeat' (first|refine ah ?_|refine a7 ?_|refine aq ?_|refine au ?_|refine a8 ?_|refine ae a6 rfl rfl ?_)
   rw [if_pos h4] at hstep
   unfold c9 at hstep
   refine cD ?_
   generalize dr s 3 st.2 = z at hstep ⊢
   dsimp only at hstep
   repeat' (first|refine a8 ?_|refine aa ?_|refine ae a6 rfl rfl ?_)
   refine aw rfl (fun hz => ?_) (fun hz => ?_)
   ·rw [if_pos (Gz hz)] at hstep
    repeat' (first|refine a7 ?_|refine ae a6 rfl rfl ?_|refine bz a6 ?_|fail)
    refine bF a6 _ rfl rfl rfl rfl (eG (A := [_])) (by simp [aQ]; omega) (by simp [aQ]; omega) rfl fun q' => ?_
    refine aO (aK (eG (A := [_])).symm) ?_
    repeat' (first|refine a7 ?_|refine a8 ?_|refine aI ?_|refine aa ?_|refine ae a6 rfl rfl ?_|(apply aW; refine aV ?_)|fail)
    exact aC (j + 1, q') rfl ⟨by dsimp only; rw [show p1.1 + 1 + ((j + 1 : Nat) : Int) = p1.1 + 1 + (j : Int) + 1 by omega]; rfl, by rw [hstep]; dsimp only [cA]; rw [show aU (st.1 ++ [p1.1 + 1 + (j : Int)]) = aU st.1 ++ [[aM (p1.1 + 1 + (j : Int))]] from List.map_append ..]; rfl, trivial⟩ (by dsimp only; omega) (by dsimp only; omega) (fun _ _ h => by dsimp only; rw [hstep]; simpa [cA, aU] using h)
   ·rw [if_neg (Gy hz)] at hstep
    repeat' (first|refine a7 ?_|refine au ?_|refine a8 ?_|refine aI ?_|refine aa ?_|refine ae a6 rfl rfl ?_|(apply aW; refine aV ?_)|fail)
    exact aC (j + 1, q) rfl ⟨by dsimp only; rw [show p1.1 + 1 + ((j + 1 : Nat) : Int) = p1.1 + 1 + (j : Int) + 1 by omega]; rfl, by rw [hstep]; rfl, trivial⟩ (by dsimp only; omega) (by dsimp only; omega) (fun _ _ h => by dsimp only; rw [hstep]; simpa [cA] using h)
  ·have h4 : ¬ st.1.length < 4 := by have := Gy h; omega
   repeat' (first|refine ah ?_|refine a7 ?_|refine ar ?_|refine aR ?_|refine a8 ?_|refine av ?_|refine aB ?_|refine ay ?_|refine aa ?_|refine ae a6 rfl rfl ?_)
   refine ba (bY (L' := [dV b s F st.2]) (List.Sublist.cons_cons _ (List.nil_sublist _))) ?_
   refine ba (bg (t := 2) (c' := .imm 1 (aU st.1)) rfl fun σ v h => VR.im h) (aA rfl rfl ?_)
   rw [hv, hstop (by omega) _ hj]
   exact ⟨rfl, rfl⟩
 ·rw [decide_eq_false hlt]
  repeat' (first|refine ah ?_|refine a7 ?_|refine ar ?_|refine aR ?_|refine a8 ?_|refine av ?_|refine aB ?_|refine ay ?_|refine aa ?_|refine ae a6 rfl rfl ?_|refine aL rfl rfl rfl rfl ?_|refine bv rfl ?_)
  refine ba (bY (L' := [dV b s F st.2]) (List.Sublist.cons_cons _ (List.nil_sublist _))) ?_
  refine ba (bg (t := 2) (c' := .imm 1 (aU st.1)) rfl fun σ v h => VR.im h) (aA rfl rfl ?_)
  rw [hv, show (n - (p1.1 + 1)).toNat = j by omega, e2]
  exact ⟨rfl, rfl⟩
theorem fo (l : List (List Int)) : (bq l).length = l.length := by
 have _ := hs
 clear hs
 simp [bq]
set_option maxHeartbeats 2000000 in
theorem m8 {kg : Option (Nat × Nat)} {gl : List (List AV)} (hF : F.gl = .vec kg 9 gl) (n : Nat) (hn : gl.length = n) (h0 : 0 < n ∧ n ≤ 1000) (most : Int) (hm : 0 ≤ most ∧ most ≤ 6) : pz 154 [aM most] s F (nH s n most) zl := by
 intro b m
 refine aP Tryz.func154 rfl Tryz.ntmps154 rfl fun B => ?_
 repeat' (first|refine ah ?_|refine a7 ?_|refine a8 ?_|refine aa ?_|refine ae a6 rfl rfl ?_|(apply aW; refine aV ?_)|fail)
 refine cD ?_
 have hk := cf s hs m.a (n := most + 1) (by omega)
 have hk : 0 ≤ (dr s (most + 1) m).1 ∧ (dr s (most + 1) m).1 < most + 1 := hk
 generalize e1 : dr s (most + 1) m = p1 at hk ⊢
 obtain ⟨k, hkk⟩ : ∃ k : Nat, p1.1 = k := ⟨p1.1.toNat, by omega⟩
 rw [hkk]
 have hln : ∀ j, (gL s n j p1.2).1.length = j := fun j => by
  induction j with
  | zero => rfl
  | succ j ih =>
   have : gL s n (j + 1) p1.2 = ((gL s n j p1.2).1 ++ [(m9 s n (gL s n j p1.2).2).1], (m9 s n (gL s n j p1.2).2).2) := rfl
   rw [this]
   simp [ih]
 repeat' (first|refine ah ?_|refine a7 ?_|refine aq ?_|refine a8 ?_|refine aa ?_|refine ae a6 rfl rfl ?_)
 refine bK (bg (t := 5) (c' := .vec none 1 []) rfl fun σ v h => co 1 h) ?_
 refine aN [0, 6] (α := Nat × Option (Nat × Nat)) (fun x => [(7, aM x.1), (5, .vec x.2 1 (bq (gL s n x.1 p1.2).1))]) (fun x => x.1 ≤ k) (fun x => [dV b s F (gL s n x.1 p1.2).2] ++ (tok x.2 22 1 (bq (gL s n x.1 p1.2).1).length ++ [])) (fun x => k - x.1) (0, none) rfl ⟨rfl, rfl, trivial⟩ (Nat.zero_le _) (fun _ _ h => h) ?_
 rintro ⟨j, q⟩ hj
 dsimp only at hj ⊢
 have hl := hln j
 have hstep : gL s n (j + 1) p1.2 = ((gL s n j p1.2).1 ++ [(m9 s n (gL s n j p1.2).2).1], (m9 s n (gL s n j p1.2).2).2) := rfl
 try dsimp only [Gr, Gq, Gp, Gj]
 repeat' (first|refine ah ?_|refine a7 ?_|refine a8 ?_|refine aa ?_|refine ae a6 rfl rfl ?_)
 refine aw rfl (fun h => ?_) (fun h => ?_)
 ·have hjl : j < k := by have := Gz h; omega
  generalize gL s n j p1.2 = st at hl hstep ⊢
  have hrl := fo s hs st.1
  repeat' (first|refine ah ?_|refine a7 ?_|refine aq ?_|refine au ?_|refine a8 ?_|refine ae a6 rfl rfl ?_)
  refine sG (pb s hs F hF n hn h0) ?_
  generalize m9 s n st.2 = y at hstep ⊢
  unfold Bn
  repeat' (first|refine bz a6 ?_|fail)
  refine bF a6 _ rfl rfl rfl rfl (eG (A := [_])) (by simp [fo s hs]; omega) (by simp [fo s hs]; omega) rfl fun q' => ?_
  refine aO (aK (eG (A := [_])).symm) ?_
  repeat' (first|refine a7 ?_|refine a8 ?_|refine aI ?_|refine aa ?_|refine ae a6 rfl rfl ?_|(apply aW; refine aV ?_)|fail)
  exact aC (j + 1, q') rfl ⟨by rw [Gw]; rfl, by rw [hstep]; dsimp only; rw [show bq (st.1 ++ [y.1]) = bq st.1 ++ [[.imm 1 (aU y.1)]] from List.map_append ..]; rfl, trivial⟩ (by dsimp only; omega) (by dsimp only; omega) (fun _ _ h => by dsimp only; rw [hstep]; simpa [bq] using h)
 have hjl : j = k := by have := Gy h; omega
 subst hjl
 have hv : nH s n most m = gL s n j p1.2 := by
  unfold nH c9
  rw [e1]
  dsimp only
  rw [hkk]
  rfl
 rw [hv]
 generalize gL s n j p1.2 = st
 repeat' (first|refine ah ?_|refine a7 ?_|refine ar ?_|refine aR ?_|refine a8 ?_|refine av ?_|refine aB ?_|refine ay ?_|refine aa ?_|refine ae a6 rfl rfl ?_)
 refine ba (bY (L' := [dV b s F st.2]) (List.Sublist.cons_cons _ (List.nil_sublist _))) ?_
 exact ba (bg (t := 4) (c' := .imm 1 (bq st.1)) rfl fun σ v h => VR.im h) (aA rfl rfl ⟨rfl, rfl⟩)
end Go.Proofs.YtjjpkibjffmceaaGreat
namespace Go.Proofs.YtjjpkibjffmceaaGreat
open Go.RowKit
attribute [local irreducible] AT bT AX AO Av Kt bk ej DA cX
variable (s : List Int) (hs : s.length ≤ 1000000) (F : MF)
include hs
def C3 (r : bV) : AV := .agg (bC r)
def FA (rb : Nat) (b0 b1 b2 b3 b4 : AV) (x : Int) : Nat × AB := (rb, .box [b0, b1, b2, b3, b4, aM x] 81)
theorem qu (a : List Int) (l : List (List Int)) : bq [a] ++ bq l = bq (a :: l) := by
 have _ := hs
 clear hs
 rfl
theorem sN (n : Int) (m : MS) (k : Nat) : (fD s n k m).1.length = k := by
 have _ := hs
 clear hs
 induction k with
 | zero => rfl
 | succ k ih =>
  have : fD s n (k + 1) m = ((fD s n k m).1 ++ [(dr s n (fD s n k m).2).1], (dr s n (fD s n k m).2).2) := rfl
  rw [this]
  simp [ih]
theorem tJ (nn : Int) (calls : List Int) (m : MS) (k : Nat) : (eZ s nn calls k m).1.length = k := by
 have _ := hs
 clear hs
 induction k with
 | zero => rfl
 | succ i ih =>
  have : eZ s nn calls (i + 1) m = (c9 (dr s nn) fun a => c9 (dr s calls.length) fun z => cA ((eZ s nn calls i m).1 ++ [(⟨a, calls.getD z.toNat 0⟩ : fF)])) (eZ s nn calls i m).2 := rfl
  rw [this]
  simp [c9, cA, ih]
set_option maxHeartbeats 16000000 in
theorem x5 {kg : Option (Nat × Nat)} {gl : List (List AV)} (hF : F.gl = .vec kg 9 gl) (n : Nat) (hn : gl.length = n) (h0 : 0 < n ∧ n ≤ 1000) (kind : Int) (hk : 1 ≤ kind ∧ kind ≤ 6) (calls : List Int) (hcl : calls.length ≤ 1000) : pz 97 [aM kind, .imm 1 (aU calls)] s F (fW s n kind calls) C3 := by
 intro b m
 refine aP Tryz.func97 rfl Tryz.ntmps97 rfl fun B => ?_
 repeat' (first|refine ah ?_|refine a7 ?_|refine a8 ?_|refine aa ?_|refine ae a6 rfl rfl ?_|(apply bB; first|refine ak a6 0 rfl rfl rfl rfl rfl ?_|refine ak a6 1 rfl rfl rfl rfl rfl ?_|refine ak a6 2 rfl rfl rfl rfl rfl ?_|refine ak a6 3 rfl rfl rfl rfl rfl ?_|refine aD a6 0 rfl rfl rfl rfl rfl ?_|refine aD a6 1 rfl rfl rfl rfl rfl ?_|refine aD a6 2 rfl rfl rfl rfl rfl ?_|refine ak a6 1 rfl rfl rfl (by assumption) rfl ?_|refine ak a6 0 rfl rfl rfl (by assumption) rfl ?_|fail)|refine b5 a6 fun _=>?_|fail)
 rw [hF]
 repeat' (first|refine ah ?_|refine a7 ?_|refine a8 ?_|refine aa ?_|refine ae a6 rfl rfl ?_)
 rw [hn]
 rename_i tb rb
 refine aO (aK (L' := [dV b s F m, (rb, .box [bI, bI, bI, bI, bI, aM 0] 81), (tb, .box [bI, bI, bI, bI, bI, aM 0] 81)]) (List.perm_append_comm (l₁ := [_, _]))) ?_
 refine sG (pb s hs F hF n hn h0) ?_
 have ha := nT s (n := n) (by omega) m
 generalize e1 : m9 s n m = p1 at ha ⊢
 have haf := ha.few
 unfold Bn
 repeat' (first|refine ah ?_|refine a7 ?_|refine a8 ?_|refine aa ?_|refine ae a6 rfl rfl ?_|(apply aH; first|refine aj a6 0 rfl rfl rfl rfl rfl rfl rfl ?_|refine aj a6 1 rfl rfl rfl rfl rfl rfl rfl ?_|refine aj a6 2 rfl rfl rfl rfl rfl rfl rfl ?_|refine aj a6 3 rfl rfl rfl rfl rfl rfl rfl ?_|fail)|refine jU (d := 22) a6 fun _=>?_|fail)
 rename_i kb
 refine bK (aK (L' := [dV b s F p1.2, (rb, .box [bI, .vec (some (kb, 1)) 1 (bq [p1.1]), bI, bI, bI, aM 0] 81), (tb, .box [bI, bI, bI, bI, bI, aM 0] 81)] ++ (tok (some (kb, 1)) 22 1 1 ++ [])) (List.perm_append_comm (l₁ := [_]))) ?_
 repeat' (first|fail)
 refine aw rfl (fun h6 => ?_) (fun h6 => ?_)
 ·have h6 := Gz h6
  subst h6
  repeat' (first|refine ah ?_)
  refine dg [.cell (rb, 1, .vec (some (kb, 1)) 1 (bq [p1.1]))] 5 [(0, .v), (1, .k), (2, .v), (3, .f), (4, .v)] none ?_ trivial rfl (by kernel_rfl) (by kernel_rfl) (by kernel_rfl) mixed (by kernel_rfl) rfl
  repeat' (first|refine aE ?_|refine aZ a6 ?_|fail)
  refine eg a6 0 rfl rfl rfl (bM 1 rfl rfl bW) (by first | trivial | rfl) ?_
  repeat' (first|refine aE ?_|refine aZ a6 ?_|fail)
  refine pY (pb s hs F hF n hn h0) (bM 1 rfl rfl bW) ?_
  generalize e2 : m9 s n p1.2 = p2
  unfold Bn
  repeat' (first|refine aE ?_|refine ee a6 ?_|fail)
  refine br [0, 6, 7, 27, 30] rfl rfl ?_
  repeat' (first|fail)
  refine bF a6 _ rfl rfl rfl rfl (eG (A := [_, _, _])) (by simp [fo s hs]) (by simp [fo s hs]) rfl fun q' => ?_
  refine aO (aK (eG (A := [_, _, _])).symm) ?_
  repeat' (first|refine ah ?_|refine a7 ?_|refine a8 ?_|refine aa ?_|refine ae a6 rfl rfl ?_|(apply aH; first|refine aj a6 0 rfl rfl rfl rfl rfl rfl rfl ?_|refine aj a6 1 rfl rfl rfl rfl rfl rfl rfl ?_|refine aj a6 2 rfl rfl rfl rfl rfl rfl rfl ?_|refine aj a6 3 rfl rfl rfl rfl rfl rfl rfl ?_|fail))
  refine cD ?_
  have hx := cf s hs p2.2.a (n := 41) (by omega)
  have hx : 0 ≤ (dr s 41 p2.2).1 ∧ (dr s 41 p2.2).1 < 41 := hx
  generalize e3 : dr s 41 p2.2 = p3 at hx ⊢
  repeat' (first|refine ah ?_|refine a7 ?_|refine ar ?_|refine a8 ?_|refine aF ?_|refine aa ?_|refine ae a6 rfl rfl ?_|(apply bB; first|refine ak a6 0 rfl rfl rfl rfl rfl ?_|refine ak a6 1 rfl rfl rfl rfl rfl ?_|refine ak a6 2 rfl rfl rfl rfl rfl ?_|refine ak a6 3 rfl rfl rfl rfl rfl ?_|refine aD a6 0 rfl rfl rfl rfl rfl ?_|refine aD a6 1 rfl rfl rfl rfl rfl ?_|refine aD a6 2 rfl rfl rfl rfl rfl ?_|refine ak a6 1 rfl rfl rfl (by assumption) rfl ?_|refine ak a6 0 rfl rfl rfl (by assumption) rfl ?_|fail)|(apply aW; refine aV ?_)|(apply aH; first|refine aj a6 0 rfl rfl rfl rfl rfl rfl rfl ?_|refine aj a6 1 rfl rfl rfl rfl rfl rfl rfl ?_|refine aj a6 2 rfl rfl rfl rfl rfl rfl rfl ?_|refine aj a6 3 rfl rfl rfl rfl rfl rfl rfl ?_|fail))
  have hv : fW s n 6 calls m = (⟨[], [p1.1, p2.1], [], [], [], p3.1 * 10 - 200⟩, p3.2) := by simp [fW, BZ, c9, cA, e1, e2, e3]
  rw [hv]
  refine ba (bi 2 (cs' := bC ⟨[], [p1.1, p2.1], [], [], [], p3.1 * 10 - 200⟩) rfl fun σ vs h => mZ.vrs (a := [bI, .vec q' 1 (bq [p1.1, p2.1]), bI, bI, bI, aM (p3.1 * 10 - 200)]) (b := bC ⟨[], [p1.1, p2.1], [], [], [], p3.1 * 10 - 200⟩) ⟨dw.nil 1, dw.im, dw.nil 1, dw.nil 1, dw.nil 2, dw.refl _, trivial⟩ h) (ip a6 2 [dV b s F p3.2] rfl rfl rfl rfl rfl (List.Sublist.cons_cons _ (List.nil_sublist _)) ⟨rfl, rfl⟩)
 have h6 := Gy h6
 refine bK (bi 1 (cs' := [.imm 1 [], .vec (some (kb, 1)) 1 (bq [p1.1]), .imm 1 [], .vec none 1 [], .vec none 2 [], aM 0]) rfl fun σ vs h => mZ.vrs (a := [bI, .vec (some (kb, 1)) 1 (bq [p1.1]), bI, bI, bI, aM 0]) (b := [.imm 1 [], .vec (some (kb, 1)) 1 (bq [p1.1]), .imm 1 [], .vec none 1 [], .vec none 2 [], aM 0]) ⟨dw.nil 1, dw.refl _, dw.nil 1, dw.vecN 1, dw.vecN 2, dw.refl _, trivial⟩ h) ?_
 repeat' (first|refine ah ?_|refine a7 ?_|refine au ?_|refine a8 ?_|refine ae a6 rfl rfl ?_)
 refine cD ?_
 generalize e2 : dr s 2 p1.2 = z
 repeat' (first|refine a8 ?_|refine aa ?_|refine ae a6 rfl rfl ?_)
 refine qL [0, 1, 2, 6, 7, 8] ([dV b s F (iB s n p1.2).2, (rb, .box [.imm 1 (bq (iB s n p1.2).1.1), .vec (some (kb, 1)) 1 (bq [p1.1]), .imm 1 (bq (iB s n p1.2).1.2), .vec none 1 [], .vec none 2 [], aM 0] 81), (tb, .box [bI, bI, bI, bI, bI, aM 0] 81)] ++ (tok (some (kb, 1)) 22 1 1 ++ [])) rfl (fun Q' K => ?_) ?_
 ·refine aw rfl (fun hz => ?_) (fun hz => ?_)
  ·have hz := Gz hz
   repeat' (first|refine ah ?_|refine a7 ?_|refine ae a6 rfl rfl ?_)
   refine sG (m8 s hs F hF n hn h0 2 (by omega)) ?_
   generalize e3 : nH s n 2 z.2 = y1
   unfold zl
   repeat' (first|refine a7 ?_|refine a8 ?_|refine aa ?_|refine ae a6 rfl rfl ?_|(apply aH; first|refine aj a6 0 rfl rfl rfl rfl rfl rfl rfl ?_|refine aj a6 1 rfl rfl rfl rfl rfl rfl rfl ?_|refine aj a6 2 rfl rfl rfl rfl rfl rfl rfl ?_|refine aj a6 3 rfl rfl rfl rfl rfl rfl rfl ?_|fail))
   refine sG (m8 s hs F hF n hn h0 2 (by omega)) ?_
   generalize e4 : nH s n 2 y1.2 = y2
   unfold zl
   repeat' (first|refine aa ?_|refine ae a6 rfl rfl ?_|(apply aH; first|refine aj a6 0 rfl rfl rfl rfl rfl rfl rfl ?_|refine aj a6 1 rfl rfl rfl rfl rfl rfl rfl ?_|refine aj a6 2 rfl rfl rfl rfl rfl rfl rfl ?_|refine aj a6 3 rfl rfl rfl rfl rfl rfl rfl ?_|fail))
   have hv : iB s n p1.2 = ((y1.1, y2.1), y2.2) := by simp [iB, c9, cA, e2, e3, e4, hz]
   rw [hv] at K
   exact K _ rfl
  ·have hz := Gy hz
   repeat' (first|refine au ?_)
   have hv : iB s n p1.2 = (([], []), z.2) := by simp [iB, c9, cA, e2, hz]
   rw [hv] at K
   exact K _ rfl
 generalize e3 : iB s n p1.2 = w
 have ha0 : (bq [p1.1])[0]? = some [.imm 1 (aU p1.1)] := rfl
 have hial : (aU p1.1).length = p1.1.length := aQ _
 by_cases h15 : kind = 1 ∨ kind = 5
 ·have hv : fW s n kind calls m = (⟨w.1.1, [p1.1], w.1.2, (fD s n p1.1.length w.2).1, [], 0⟩, (fD s n p1.1.length w.2).2) := by simp [fW, c9, cA, e1, e3, h6, h15]
  rw [hv]
  rcases h15 with rfl | rfl
  all_goals
   repeat' (first|refine ah ?_|refine a7 ?_|refine aq ?_|refine au ?_|refine a8 ?_|refine aa ?_|refine ae a6 rfl rfl ?_|refine bQ rfl ?_|refine bv rfl ?_)
   refine aN [0, 6, 7, 8] (α := Nat × Option (Nat × Nat)) (fun x => [(9, aM x.1)]) (fun x => x.1 ≤ p1.1.length) (fun x => [dV b s F (fD s n x.1 w.2).2, (rb, .box [.imm 1 (bq w.1.1), .vec (some (kb, 1)) 1 (bq [p1.1]), .imm 1 (bq w.1.2), .vec x.2 1 (aU (fD s n x.1 w.2).1), .vec none 2 [], aM 0] 81), (tb, .box [bI, bI, bI, bI, bI, aM 0] 81)] ++ (tok x.2 3 1 (aU (fD s n x.1 w.2).1).length ++ (tok (some (kb, 1)) 22 1 1 ++ []))) (fun x => p1.1.length - x.1) (0, none) rfl ⟨rfl, trivial⟩ (Nat.zero_le _) (fun _ _ h => h) ?_
   rintro ⟨i, q⟩ hi
   dsimp only at hi ⊢
   have hol := sN s hs n w.2 i
   have hstep : fD s n (i + 1) w.2 = ((fD s n i w.2).1 ++ [(dr s n (fD s n i w.2).2).1], (dr s n (fD s n i w.2).2).2) := rfl
   try dsimp only [Gr, Gq, Gp, Gj]
   repeat' (first|refine ah ?_|refine a7 ?_|refine a8 ?_|refine aa ?_|refine ae a6 rfl rfl ?_|(apply bB; first|refine ak a6 0 rfl rfl rfl rfl rfl ?_|refine ak a6 1 rfl rfl rfl rfl rfl ?_|refine ak a6 2 rfl rfl rfl rfl rfl ?_|refine ak a6 3 rfl rfl rfl rfl rfl ?_|refine aD a6 0 rfl rfl rfl rfl rfl ?_|refine aD a6 1 rfl rfl rfl rfl rfl ?_|refine aD a6 2 rfl rfl rfl rfl rfl ?_|refine ak a6 1 rfl rfl rfl (by assumption) rfl ?_|refine ak a6 0 rfl rfl rfl (by assumption) rfl ?_|fail)|(apply aY; first|refine aX a6 ?_|refine aS a6 ?_)|fail)
   refine aw rfl (fun h => ?_) (fun h => ?_)
   ·have hil : i < p1.1.length := by have := Gz h; omega
    generalize fD s n i w.2 = st at hol hstep ⊢
    have hoil : (aU st.1).length = st.1.length := aQ _
    repeat' (first|refine ah ?_|refine aq ?_|refine au ?_|refine a8 ?_)
    refine dg [.cell (rb, 3, .vec q 1 (aU st.1))] 6 [(0, .v), (1, .k), (2, .v), (3, .v), (4, .f), (5, .v)] none ?_ trivial rfl (by kernel_rfl) (by kernel_rfl) (by kernel_rfl) mixed (by kernel_rfl) rfl
    repeat' (first|refine aE ?_|refine aZ a6 ?_|fail)
    refine eg a6 0 rfl rfl rfl (bM 1 rfl rfl bW) (by first | trivial | rfl) ?_
    repeat' (first|refine aE ?_|refine aZ a6 ?_|fail)
    refine eD (bM 1 rfl rfl bW) ?_
    generalize dr s n st.2 = o at hstep ⊢
    repeat' (first|refine aE ?_|refine ee a6 ?_|fail)
    refine br [0, 6, 7, 8, 9, 98, 102] rfl rfl ?_
    repeat' (first|fail)
    refine bF a6 _ rfl rfl rfl rfl (eG (A := [_, _, _])) (by simp [aQ]; omega) (by simp [aQ]; omega) rfl fun q' => ?_
    refine aO (aK (eG (A := [_, _, _])).symm) ?_
    repeat' (first|refine a7 ?_|refine a8 ?_|refine aI ?_|refine aa ?_|refine ae a6 rfl rfl ?_|(apply aW; refine aV ?_)|(apply aH; first|refine aj a6 0 rfl rfl rfl rfl rfl rfl rfl ?_|refine aj a6 1 rfl rfl rfl rfl rfl rfl rfl ?_|refine aj a6 2 rfl rfl rfl rfl rfl rfl rfl ?_|refine aj a6 3 rfl rfl rfl rfl rfl rfl rfl ?_|fail))
    exact aC (i + 1, q') rfl ⟨by rw [Gw]; rfl, trivial⟩ (by dsimp only; omega) (by dsimp only; omega) (fun _ _ h => by dsimp only; rw [hstep]; simpa [fS, gg, aU] using h)
   have hil : i = p1.1.length := by have := Gy h; omega
   subst hil
   generalize fD s n p1.1.length w.2 = st
   repeat' (first|refine ah ?_|refine a7 ?_|refine ar ?_|refine aR ?_|refine a8 ?_|refine av ?_|refine aI ?_|refine aB ?_|refine ay ?_|refine aa ?_|(apply bB; first|refine ak a6 0 rfl rfl rfl rfl rfl ?_|refine ak a6 1 rfl rfl rfl rfl rfl ?_|refine ak a6 2 rfl rfl rfl rfl rfl ?_|refine ak a6 3 rfl rfl rfl rfl rfl ?_|refine aD a6 0 rfl rfl rfl rfl rfl ?_|refine aD a6 1 rfl rfl rfl rfl rfl ?_|refine aD a6 2 rfl rfl rfl rfl rfl ?_|refine ak a6 1 rfl rfl rfl (by assumption) rfl ?_|refine ak a6 0 rfl rfl rfl (by assumption) rfl ?_|fail)|(apply aH; first|refine aj a6 0 rfl rfl rfl rfl rfl rfl rfl ?_|refine aj a6 1 rfl rfl rfl rfl rfl rfl rfl ?_|refine aj a6 2 rfl rfl rfl rfl rfl rfl rfl ?_|refine aj a6 3 rfl rfl rfl rfl rfl rfl rfl ?_|fail))
   exact ba (bi 2 (cs' := bC ⟨w.1.1, [p1.1], w.1.2, st.1, [], 0⟩) rfl fun σ vs h => mZ.vrs (a := [.imm 1 (bq w.1.1), .vec (some (kb, 1)) 1 (bq [p1.1]), .imm 1 (bq w.1.2), .vec q 1 (aU st.1), .vec none 2 [], aM 0]) (b := bC ⟨w.1.1, [p1.1], w.1.2, st.1, [], 0⟩) ⟨dw.refl _, dw.im, dw.refl _, dw.im, dw.im, dw.refl _, trivial⟩ h) (ip a6 2 [dV b s F st.2] rfl rfl rfl rfl rfl (List.Sublist.cons_cons _ (List.nil_sublist _)) ⟨rfl, rfl⟩)
 by_cases h2 : kind = 2
 ·subst h2
  repeat' (first|refine ah ?_|refine a7 ?_|refine aq ?_|refine a8 ?_|refine aa ?_|refine ae a6 rfl rfl ?_|refine bQ rfl ?_|refine bv rfl ?_)
  refine cD ?_
  have hc := cf s hs w.2.a (n := 4) (by omega)
  have hc : 0 ≤ (dr s 4 w.2).1 ∧ (dr s 4 w.2).1 < 4 := hc
  generalize e4 : dr s 4 w.2 = y at hc ⊢
  obtain ⟨k, hkk⟩ : ∃ k : Nat, y.1 = k := ⟨y.1.toNat, by omega⟩
  have hv : fW s n 2 calls m = (⟨w.1.1, [p1.1], w.1.2, (fD s n k y.2).1, [], 0⟩, (fD s n k y.2).2) := by simp [fW, c9, cA, e1, e3, e4, hkk]
  rw [hv, hkk]
  repeat' (first|refine ah ?_|refine a7 ?_|refine aq ?_|refine a8 ?_|refine aa ?_|refine ae a6 rfl rfl ?_)
  refine aN [0, 6, 7, 8, 10] (α := Nat × Option (Nat × Nat)) (fun x => [(11, aM x.1)]) (fun x => x.1 ≤ k) (fun x => [dV b s F (fD s n x.1 y.2).2, (rb, .box [.imm 1 (bq w.1.1), .vec (some (kb, 1)) 1 (bq [p1.1]), .imm 1 (bq w.1.2), .vec x.2 1 (aU (fD s n x.1 y.2).1), .vec none 2 [], aM 0] 81), (tb, .box [bI, bI, bI, bI, bI, aM 0] 81)] ++ (tok x.2 3 1 (aU (fD s n x.1 y.2).1).length ++ (tok (some (kb, 1)) 22 1 1 ++ []))) (fun x => k - x.1) (0, none) rfl ⟨rfl, trivial⟩ (Nat.zero_le _) (fun _ _ h => h) ?_
  rintro ⟨i, q⟩ hi
  dsimp only at hi ⊢
  have hol := sN s hs n y.2 i
  have hstep : fD s n (i + 1) y.2 = ((fD s n i y.2).1 ++ [(dr s n (fD s n i y.2).2).1], (dr s n (fD s n i y.2).2).2) := rfl
  try dsimp only [Gr, Gq, Gp, Gj]
  repeat' (first|refine ah ?_|refine a7 ?_|refine a8 ?_|refine aa ?_|refine ae a6 rfl rfl ?_)
  refine aw rfl (fun h => ?_) (fun h => ?_)
  ·have hil : i < k := by have := Gz h; omega
   generalize fD s n i y.2 = st at hol hstep ⊢
   have hoil : (aU st.1).length = st.1.length := aQ _
   repeat' (first|refine ah ?_|refine aq ?_|refine au ?_|refine a8 ?_)
   refine dg [.cell (rb, 3, .vec q 1 (aU st.1))] 6 [(0, .v), (1, .k), (2, .v), (3, .v), (4, .f), (5, .v)] none ?_ trivial rfl (by kernel_rfl) (by kernel_rfl) (by kernel_rfl) mixed (by kernel_rfl) rfl
   repeat' (first|refine aE ?_|refine aZ a6 ?_|fail)
   refine eg a6 0 rfl rfl rfl (bM 1 rfl rfl bW) (by first | trivial | rfl) ?_
   repeat' (first|refine aE ?_|refine aZ a6 ?_|fail)
   refine eD (bM 1 rfl rfl bW) ?_
   generalize dr s n st.2 = o at hstep ⊢
   repeat' (first|refine aE ?_|refine ee a6 ?_|fail)
   refine br [0, 6, 7, 8, 10, 11, 115, 119] rfl rfl ?_
   repeat' (first|fail)
   refine bF a6 _ rfl rfl rfl rfl (eG (A := [_, _, _])) (by simp [aQ]; omega) (by simp [aQ]; omega) rfl fun q' => ?_
   refine aO (aK (eG (A := [_, _, _])).symm) ?_
   repeat' (first|refine a7 ?_|refine a8 ?_|refine aI ?_|refine aa ?_|refine ae a6 rfl rfl ?_|(apply aW; refine aV ?_)|(apply aH; first|refine aj a6 0 rfl rfl rfl rfl rfl rfl rfl ?_|refine aj a6 1 rfl rfl rfl rfl rfl rfl rfl ?_|refine aj a6 2 rfl rfl rfl rfl rfl rfl rfl ?_|refine aj a6 3 rfl rfl rfl rfl rfl rfl rfl ?_|fail))
   exact aC (i + 1, q') rfl ⟨by rw [Gw]; rfl, trivial⟩ (by dsimp only; omega) (by dsimp only; omega) (fun _ _ h => by dsimp only; rw [hstep]; simpa [fS, gg, aU] using h)
  have hil : i = k := by have := Gy h; omega
  subst hil
  generalize fD s n i y.2 = st
  repeat' (first|refine ah ?_|refine a7 ?_|refine ar ?_|refine aR ?_|refine a8 ?_|refine av ?_|refine aI ?_|refine aB ?_|refine ay ?_|refine aa ?_|(apply bB; first|refine ak a6 0 rfl rfl rfl rfl rfl ?_|refine ak a6 1 rfl rfl rfl rfl rfl ?_|refine ak a6 2 rfl rfl rfl rfl rfl ?_|refine ak a6 3 rfl rfl rfl rfl rfl ?_|refine aD a6 0 rfl rfl rfl rfl rfl ?_|refine aD a6 1 rfl rfl rfl rfl rfl ?_|refine aD a6 2 rfl rfl rfl rfl rfl ?_|refine ak a6 1 rfl rfl rfl (by assumption) rfl ?_|refine ak a6 0 rfl rfl rfl (by assumption) rfl ?_|fail)|(apply aH; first|refine aj a6 0 rfl rfl rfl rfl rfl rfl rfl ?_|refine aj a6 1 rfl rfl rfl rfl rfl rfl rfl ?_|refine aj a6 2 rfl rfl rfl rfl rfl rfl rfl ?_|refine aj a6 3 rfl rfl rfl rfl rfl rfl rfl ?_|fail))
  exact ba (bi 2 (cs' := bC ⟨w.1.1, [p1.1], w.1.2, st.1, [], 0⟩) rfl fun σ vs h => mZ.vrs (a := [.imm 1 (bq w.1.1), .vec (some (kb, 1)) 1 (bq [p1.1]), .imm 1 (bq w.1.2), .vec q 1 (aU st.1), .vec none 2 [], aM 0]) (b := bC ⟨w.1.1, [p1.1], w.1.2, st.1, [], 0⟩) ⟨dw.refl _, dw.im, dw.refl _, dw.im, dw.im, dw.refl _, trivial⟩ h) (ip a6 2 [dV b s F st.2] rfl rfl rfl rfl rfl (List.Sublist.cons_cons _ (List.nil_sublist _)) ⟨rfl, rfl⟩)
 have hrow := m7 s (n := n) (by omega) w.2
 by_cases h3 : kind = 3
 ·subst h3
  repeat' (first|refine ah ?_|refine a7 ?_|refine aq ?_|refine a8 ?_|refine aa ?_|refine ae a6 rfl rfl ?_|refine bQ rfl ?_|refine bv rfl ?_)
  refine dg [.cell (rb, 1, .vec (some (kb, 1)) 1 (bq [p1.1]))] 4 [(0, .v), (1, .k), (2, .v), (3, .f)] none ?_ trivial rfl (by kernel_rfl) (by kernel_rfl) (by kernel_rfl) mixed (by kernel_rfl) rfl
  repeat' (first|refine aE ?_|refine aZ a6 ?_|fail)
  refine eg a6 0 rfl rfl rfl (bM 1 rfl rfl bW) (by first | trivial | rfl) ?_
  repeat' (first|refine aE ?_|refine aZ a6 ?_|fail)
  refine pY (m8 s hs F hF n hn h0 2 (by omega)) (bM 1 rfl rfl bW) ?_
  generalize e4 : nH s n 2 w.2 = y at hrow ⊢
  have hrl := hrow.1
  unfold zl
  repeat' (first|fail)
  refine br [0, 6, 7, 8, 125, 127] rfl rfl ?_
  repeat' (first|fail)
  refine bF a6 _ rfl rfl rfl rfl (eG (A := [_, _, _])) (by simp [fo s hs]; omega) (by simp [fo s hs]; omega) rfl fun q' => ?_
  refine aO (aK (eG (A := [_, _, _])).symm) ?_
  rw [qu s hs]
  repeat' (first|refine a7 ?_|refine a8 ?_|refine aa ?_|refine ae a6 rfl rfl ?_|(apply aH; first|refine aj a6 0 rfl rfl rfl rfl rfl rfl rfl ?_|refine aj a6 1 rfl rfl rfl rfl rfl rfl rfl ?_|refine aj a6 2 rfl rfl rfl rfl rfl rfl rfl ?_|refine aj a6 3 rfl rfl rfl rfl rfl rfl rfl ?_|fail))
  refine cD ?_
  generalize e5 : dr s n y.2 = o
  have hv : fW s n 3 calls m = (⟨w.1.1, p1.1 :: y.1, w.1.2, [o.1], [], 0⟩, o.2) := by simp [fW, c9, cA, e1, e3, e4, e5]
  rw [hv]
  repeat' (first|refine ah ?_|refine a7 ?_|refine ar ?_|refine a8 ?_|refine aI ?_|refine aa ?_|refine ae a6 rfl rfl ?_|(apply bB; first|refine ak a6 0 rfl rfl rfl rfl rfl ?_|refine ak a6 1 rfl rfl rfl rfl rfl ?_|refine ak a6 2 rfl rfl rfl rfl rfl ?_|refine ak a6 3 rfl rfl rfl rfl rfl ?_|refine aD a6 0 rfl rfl rfl rfl rfl ?_|refine aD a6 1 rfl rfl rfl rfl rfl ?_|refine aD a6 2 rfl rfl rfl rfl rfl ?_|refine ak a6 1 rfl rfl rfl (by assumption) rfl ?_|refine ak a6 0 rfl rfl rfl (by assumption) rfl ?_|fail)|(apply aH; first|refine aj a6 0 rfl rfl rfl rfl rfl rfl rfl ?_|refine aj a6 1 rfl rfl rfl rfl rfl rfl rfl ?_|refine aj a6 2 rfl rfl rfl rfl rfl rfl rfl ?_|refine aj a6 3 rfl rfl rfl rfl rfl rfl rfl ?_|fail)|refine bz a6 ?_|fail)
  exact ba (bi 2 (cs' := bC ⟨w.1.1, p1.1 :: y.1, w.1.2, [o.1], [], 0⟩) rfl fun σ vs h => mZ.vrs (a := [.imm 1 (bq w.1.1), .vec q' 1 (bq (p1.1 :: y.1)), .imm 1 (bq w.1.2), .imm 1 (aU [o.1]), .vec none 2 [], aM 0]) (b := bC ⟨w.1.1, p1.1 :: y.1, w.1.2, [o.1], [], 0⟩) ⟨dw.refl _, dw.im, dw.refl _, dw.refl _, dw.im, dw.refl _, trivial⟩ h) (ip a6 2 [dV b s F o.2] rfl rfl rfl rfl rfl (List.Sublist.cons_cons _ (List.nil_sublist _)) ⟨rfl, rfl⟩)
 have h4 : kind = 4 := by omega
 subst h4
 repeat' (first|refine ah ?_|refine a7 ?_|refine aq ?_|refine a8 ?_|refine aa ?_|refine ae a6 rfl rfl ?_|refine bv rfl ?_)
 refine dg [.cell (rb, 1, .vec (some (kb, 1)) 1 (bq [p1.1]))] 4 [(0, .v), (1, .k), (2, .v), (3, .f)] none ?_ trivial rfl (by kernel_rfl) (by kernel_rfl) (by kernel_rfl) mixed (by kernel_rfl) rfl
 repeat' (first|refine aE ?_|refine aZ a6 ?_|fail)
 refine eg a6 0 rfl rfl rfl (bM 1 rfl rfl bW) (by first | trivial | rfl) ?_
 repeat' (first|refine aE ?_|refine aZ a6 ?_|fail)
 refine pY (m8 s hs F hF n hn h0 2 (by omega)) (bM 1 rfl rfl bW) ?_
 generalize e4 : nH s n 2 w.2 = y at hrow ⊢
 have hrl := hrow.1
 unfold zl
 repeat' (first|fail)
 refine br [0, 2, 6, 7, 50, 52] rfl rfl ?_
 repeat' (first|fail)
 refine bF a6 _ rfl rfl rfl rfl (eG (A := [_, _, _])) (by simp [fo s hs]; omega) (by simp [fo s hs]; omega) rfl fun q1 => ?_
 refine aO (aK (eG (A := [_, _, _])).symm) ?_
 rw [qu s hs]
 repeat' (first|refine ah ?_|refine a7 ?_|refine a8 ?_|refine aa ?_|refine ae a6 rfl rfl ?_|(apply aH; first|refine aj a6 0 rfl rfl rfl rfl rfl rfl rfl ?_|refine aj a6 1 rfl rfl rfl rfl rfl rfl rfl ?_|refine aj a6 2 rfl rfl rfl rfl rfl rfl rfl ?_|refine aj a6 3 rfl rfl rfl rfl rfl rfl rfl ?_|fail))
 refine cD ?_
 have hc := cf s hs y.2.a (n := 3) (by omega)
 have hc : 0 ≤ (dr s 3 y.2).1 ∧ (dr s 3 y.2).1 < 3 := hc
 generalize e5 : dr s 3 y.2 = o at hc ⊢
 obtain ⟨k, hkk⟩ : ∃ k : Nat, o.1 = k := ⟨o.1.toNat, by omega⟩
 have hv : fW s n 4 calls m = (⟨w.1.1, p1.1 :: y.1, w.1.2, [], (eZ s (p1.1 :: y.1).length calls (if calls.length = 0 then 0 else k) o.2).1, 0⟩, (eZ s (p1.1 :: y.1).length calls (if calls.length = 0 then 0 else k) o.2).2) := by simp [fW, c9, cA, e1, e3, e4, e5, hkk]
 rw [hv, hkk]
 have hrw : (bq (p1.1 :: y.1)).length = (p1.1 :: y.1).length := fo s hs _
 have hrw2 : (p1.1 :: y.1).length = y.1.length + 1 := rfl
 have hcal : (aU calls).length = calls.length := aQ _
 repeat' (first|refine ah ?_|refine a7 ?_|refine aq ?_|refine a8 ?_|refine aa ?_|refine ae a6 rfl rfl ?_)
 have hcon : ∀ i, (eZ s (p1.1 :: y.1).length calls i o.2).1.length = i := fun i => tJ s hs _ calls o.2 i
 generalize hKK : (if calls.length = 0 then 0 else k) = KK
 have hK : ∀ i : Nat, i < KK ↔ i < k ∧ 0 < calls.length := fun i => by rw [← hKK]; split <;> omega
 refine aN [0, 2, 6, 7, 12] (α := Nat × Option (Nat × Nat)) (fun x => [(13, aM x.1)]) (fun x => x.1 ≤ KK) (fun x => [dV b s F (eZ s (p1.1 :: y.1).length calls x.1 o.2).2, (rb, .box [.imm 1 (bq w.1.1), .vec q1 1 (bq (p1.1 :: y.1)), .imm 1 (bq w.1.2), .vec none 1 [], .vec x.2 2 ((eZ s (p1.1 :: y.1).length calls x.1 o.2).1.map dP), aM 0] 81), (tb, .box [bI, bI, bI, bI, bI, aM 0] 81)] ++ (tok x.2 91 2 ((eZ s (p1.1 :: y.1).length calls x.1 o.2).1.map dP).length ++ (tok q1 22 1 (bq (p1.1 :: y.1)).length ++ []))) (fun x => KK - x.1) (0, none) rfl ⟨rfl, trivial⟩ (Nat.zero_le _) (fun _ _ h => h) ?_
 rintro ⟨i, q⟩ hi
 dsimp only at hi ⊢
 have hol := hcon i
 have hstep : eZ s (p1.1 :: y.1).length calls (i + 1) o.2 = (c9 (dr s (p1.1 :: y.1).length) fun a => c9 (dr s calls.length) fun z => cA ((eZ s (p1.1 :: y.1).length calls i o.2).1 ++ [(⟨a, calls.getD z.toNat 0⟩ : fF)])) (eZ s (p1.1 :: y.1).length calls i o.2).2 := rfl
 try dsimp only [Gr, Gq, Gp, Gj]
 repeat' (first|refine ah ?_|refine a7 ?_|refine ae a6 rfl rfl ?_)
 by_cases hik : i < KK
 ·have hik2 := (hK i).1 hik
  rw [decide_eq_true (show ((i : Nat) : Int) < (k : Int) by omega)]
  repeat' (first|refine a8 ?_|refine aa ?_|refine ae a6 rfl rfl ?_|refine aG rfl rfl ?_)
  rw [decide_eq_true (show (0 : Int) < (((aU calls).length : Nat) : Int) by omega)]
  generalize eZ s (p1.1 :: y.1).length calls i o.2 = st at hol hstep ⊢
  have hoil : (st.1.map dP).length = st.1.length := Gu ..
  repeat' (first|refine ah ?_|refine aq ?_|refine au ?_|refine a8 ?_|refine bQ rfl ?_)
  refine dg [.cell (rb, 4, .vec q 2 (st.1.map dP))] 16 [(0, .v), (1, .k), (2, .v), (3, .v), (4, .l), (5, .v), (7, .v), (8, .v), (9, .v), (10, .v), (6, .f), (11, .f), (12, .v), (13, .v), (14, .v), (15, .v)] none ?_ trivial rfl (by kernel_rfl) (by kernel_rfl) (by kernel_rfl) mixed (by kernel_rfl) rfl
  repeat' (first|refine aE ?_|refine aZ a6 ?_|fail)
  refine eg a6 0 rfl rfl rfl (bM 1 rfl rfl bW) (by first | trivial | rfl) ?_
  repeat' (first|refine aE ?_|refine aZ a6 ?_|refine cI a6 1 rfl rfl rfl rfl (by first|trivial|rfl) ?_)
  rw [hrw]
  refine eD (bM 1 rfl rfl bW) ?_
  unfold c9 at hstep
  generalize dr s (p1.1 :: y.1).length st.2 = g1 at hstep ⊢
  dsimp only at hstep
  repeat' (first|refine aE ?_|fail)
  rw [hcal]
  refine eD (bM 1 rfl rfl bW) ?_
  have hg := cf s hs g1.2.a (n := calls.length) (by omega)
  have hg : 0 ≤ (dr s calls.length g1.2).1 ∧ (dr s calls.length g1.2).1 < calls.length := hg
  generalize dr s calls.length g1.2 = g2 at hg hstep ⊢
  have hgl : (aU calls)[g2.1.toNat]? = some [aM (calls.getD g2.1.toNat 0)] := bN (by rw [List.getD_eq_getElem?_getD, Ds (show g2.1.toNat < calls.length by omega)]; rfl)
  dsimp only [cA] at hstep
  repeat' (first|refine aE ?_|refine aZ a6 ?_|(apply bP;refine c8 a6 ?_)|refine ee a6 ?_|fail)
  refine br [0, 2, 6, 7, 12, 13, 68, 82] rfl rfl ?_
  repeat' (first|fail)
  refine bF a6 _ rfl rfl rfl rfl (eG (A := [_, _, _])) (by simp; omega) (by simp; omega) rfl fun q' => ?_
  refine aO (aK (eG (A := [_, _, _])).symm) ?_
  repeat' (first|refine a7 ?_|refine a8 ?_|refine aI ?_|refine aa ?_|refine ae a6 rfl rfl ?_|(apply aW; refine aV ?_)|(apply aH; first|refine aj a6 0 rfl rfl rfl rfl rfl rfl rfl ?_|refine aj a6 1 rfl rfl rfl rfl rfl rfl rfl ?_|refine aj a6 2 rfl rfl rfl rfl rfl rfl rfl ?_|refine aj a6 3 rfl rfl rfl rfl rfl rfl rfl ?_|fail))
  exact aC (i + 1, q') rfl ⟨by rw [Gw]; rfl, trivial⟩ (by dsimp only; omega) (by dsimp only; omega) (fun _ _ h => by dsimp only; rw [hstep]; simpa [fS, gg, dP] using h)
 have hiK : i = KK := by omega
 subst hiK
 generalize eZ s (p1.1 :: y.1).length calls i o.2 = st
 have hno : ¬ (i < k ∧ 0 < calls.length) := fun h => absurd ((hK i).2 h) (by omega)
 by_cases hik2 : i < k
 ·rw [decide_eq_true (show ((i : Nat) : Int) < (k : Int) by omega)]
  repeat' (first|refine a8 ?_|refine aa ?_|refine ae a6 rfl rfl ?_|refine aG rfl rfl ?_)
  rw [decide_eq_false (show ¬ (0 : Int) < (((aU calls).length : Nat) : Int) by omega)]
  repeat' (first|refine ah ?_|refine a7 ?_|refine ar ?_|refine aR ?_|refine a8 ?_|refine av ?_|refine aI ?_|refine aB ?_|refine ay ?_|refine aa ?_|(apply bB; first|refine ak a6 0 rfl rfl rfl rfl rfl ?_|refine ak a6 1 rfl rfl rfl rfl rfl ?_|refine ak a6 2 rfl rfl rfl rfl rfl ?_|refine ak a6 3 rfl rfl rfl rfl rfl ?_|refine aD a6 0 rfl rfl rfl rfl rfl ?_|refine aD a6 1 rfl rfl rfl rfl rfl ?_|refine aD a6 2 rfl rfl rfl rfl rfl ?_|refine ak a6 1 rfl rfl rfl (by assumption) rfl ?_|refine ak a6 0 rfl rfl rfl (by assumption) rfl ?_|fail)|(apply aH; first|refine aj a6 0 rfl rfl rfl rfl rfl rfl rfl ?_|refine aj a6 1 rfl rfl rfl rfl rfl rfl rfl ?_|refine aj a6 2 rfl rfl rfl rfl rfl rfl rfl ?_|refine aj a6 3 rfl rfl rfl rfl rfl rfl rfl ?_|fail)|refine bv rfl ?_)
  exact ba (bi 2 (cs' := bC ⟨w.1.1, p1.1 :: y.1, w.1.2, [], st.1, 0⟩) rfl fun σ vs h => mZ.vrs (a := [.imm 1 (bq w.1.1), .vec q1 1 (bq (p1.1 :: y.1)), .imm 1 (bq w.1.2), .vec none 1 [], .vec q 2 (st.1.map dP), aM 0]) (b := bC ⟨w.1.1, p1.1 :: y.1, w.1.2, [], st.1, 0⟩) ⟨dw.refl _, dw.im, dw.refl _, dw.im, dw.im, dw.refl _, trivial⟩ h) (ip a6 2 [dV b s F st.2] rfl rfl rfl rfl rfl (List.Sublist.cons_cons _ (List.nil_sublist _)) ⟨rfl, rfl⟩)
 ·rw [decide_eq_false (show ¬ ((i : Nat) : Int) < (k : Int) by omega)]
  repeat' (first|refine ah ?_|refine a7 ?_|refine ar ?_|refine aR ?_|refine a8 ?_|refine av ?_|refine aI ?_|refine aB ?_|refine ay ?_|refine aa ?_|refine ae a6 rfl rfl ?_|refine aL rfl rfl rfl rfl ?_|(apply bB; first|refine ak a6 0 rfl rfl rfl rfl rfl ?_|refine ak a6 1 rfl rfl rfl rfl rfl ?_|refine ak a6 2 rfl rfl rfl rfl rfl ?_|refine ak a6 3 rfl rfl rfl rfl rfl ?_|refine aD a6 0 rfl rfl rfl rfl rfl ?_|refine aD a6 1 rfl rfl rfl rfl rfl ?_|refine aD a6 2 rfl rfl rfl rfl rfl ?_|refine ak a6 1 rfl rfl rfl (by assumption) rfl ?_|refine ak a6 0 rfl rfl rfl (by assumption) rfl ?_|fail)|(apply aH; first|refine aj a6 0 rfl rfl rfl rfl rfl rfl rfl ?_|refine aj a6 1 rfl rfl rfl rfl rfl rfl rfl ?_|refine aj a6 2 rfl rfl rfl rfl rfl rfl rfl ?_|refine aj a6 3 rfl rfl rfl rfl rfl rfl rfl ?_|fail)|refine bv rfl ?_)
  exact ba (bi 2 (cs' := bC ⟨w.1.1, p1.1 :: y.1, w.1.2, [], st.1, 0⟩) rfl fun σ vs h => mZ.vrs (a := [.imm 1 (bq w.1.1), .vec q1 1 (bq (p1.1 :: y.1)), .imm 1 (bq w.1.2), .vec none 1 [], .vec q 2 (st.1.map dP), aM 0]) (b := bC ⟨w.1.1, p1.1 :: y.1, w.1.2, [], st.1, 0⟩) ⟨dw.refl _, dw.im, dw.refl _, dw.im, dw.im, dw.refl _, trivial⟩ h) (ip a6 2 [dV b s F st.2] rfl rfl rfl rfl rfl (List.Sublist.cons_cons _ (List.nil_sublist _)) ⟨rfl, rfl⟩)
end Go.Proofs.YtjjpkibjffmceaaGreat
