/-
  The maker: outlines, programs.
-/
import Derived.Test.YtjjpkibjffmceaaGreatM20
import Derived.Test.YtjjpkibjffmceaaGreatM24
import Derived.Test.YtjjpkibjffmceaaGreatM22
namespace Go.Proofs.YtjjpkibjffmceaaGreat
open Go.RowKit
attribute [local irreducible] AT bV AX AO Av Kt bC eH DA dl
variable (s : List Int) (hs : s.length ≤ 1000000) (F : MF)
include hs
theorem cm (a : Nat) {n : Int} (hn : 0 < n) : 0 ≤ rx s a n ∧ rx s a n < n := by
 have _ := hs
 clear hs
 unfold rx
 split
 ·rename_i x _
  exact ⟨Int.emod_nonneg x (by omega), Int.emod_lt_of_pos x hn⟩
 ·omega
def EX (o : List eB × List Int) : AV := .agg [.imm 3 (o.1.map cX), .imm 1 (aT o.2)]
def iZ (l : List ew) : AV := .imm 2 (l.map dS)
set_option maxHeartbeats 8000000 in
theorem v8 (n fn : Int) (hn : 0 ≤ n ∧ n ≤ 10000) (hf : fn ≤ 10000) : qf 95 [aM n, aM fn] s F (cP s n fn) iZ := by
 intro b m
 refine aQ Tryz.func95 rfl Tryz.ntmps95 rfl fun B => ?_
 repeat' (first|refine ae ?_|refine a6 ?_|refine a7 ?_|refine a8 ?_|refine aa a2 rfl rfl ?_|(apply aV; refine aU ?_)|fail)
 refine cJ ?_
 repeat' (first|refine ae ?_|refine a6 ?_|refine a7 ?_|refine a8 ?_|refine aa a2 rfl rfl ?_|(apply aV; refine aU ?_)|fail)
 refine cJ ?_
 repeat' (first|refine ae ?_|refine a6 ?_|refine a7 ?_|refine a8 ?_|refine aa a2 rfl rfl ?_)
 refine cJ ?_
 repeat' (first|refine ae ?_|refine a6 ?_|refine a7 ?_|refine a8 ?_|refine aa a2 rfl rfl ?_)
 refine cJ ?_
 generalize e1 : dr s (n + 1) m = p1
 generalize e2 : dr s (n + 1) p1.2 = p2
 generalize e3 : dr s 2 p2.2 = p3
 have hk := cm s hs p3.2.a (n := 12) (by omega)
 have hk : 0 ≤ (dr s 12 p3.2).1 ∧ (dr s 12 p3.2).1 < 12 := hk
 generalize e4 : dr s 12 p3.2 = p4 at hk ⊢
 repeat' (first|refine ae ?_|refine a6 ?_|refine ak ?_|refine a7 ?_|refine a8 ?_|refine aa a2 rfl rfl ?_)
 refine aw rfl (fun h => ?_) (fun h => ?_)
 ·have h := Gz h
  repeat' (first|refine ae ?_|refine a6 ?_|refine aq ?_|refine a7 ?_|refine aE ?_|refine aS ?_|refine a8 ?_|refine aa a2 rfl rfl ?_|refine bG a2 ?_|fail)
  exact aA rfl rfl ⟨by simp [cP, cf, cI, e1, e2, e3, e4, iZ, dS, h], by simp [cP, cf, cI, e1, e2, e3, e4, h]⟩
 have h0 := Gy h
 clear h
 repeat' (first|refine ae ?_|refine a6 ?_|refine a7 ?_|refine a8 ?_|refine aa a2 rfl rfl ?_)
 refine aw rfl (fun h => ?_) (fun h => ?_)
 ·have h := Gz h
  repeat' (first|refine ae ?_|refine a6 ?_|refine aa a2 rfl rfl ?_)
  refine cJ ?_
  repeat' (first|refine aq ?_|refine a7 ?_|refine aE ?_|refine aS ?_|refine a8 ?_|refine aa a2 rfl rfl ?_|refine bG a2 ?_|fail)
  exact aA rfl rfl ⟨by simp [cP, cf, cI, e1, e2, e3, e4, iZ, dS, h], by simp [cP, cf, cI, e1, e2, e3, e4, h]⟩
 have h1 := Gy h
 clear h
 repeat' (first|refine ae ?_|refine a6 ?_|refine a7 ?_|refine a8 ?_|refine aa a2 rfl rfl ?_)
 refine aw rfl (fun h => ?_) (fun h => ?_)
 ·have h := Gz h
  rw [decide_eq_true h]
  repeat' (first|refine ae ?_|refine a6 ?_|refine ar ?_|refine aq ?_|refine a7 ?_|refine aE ?_|refine aS ?_|refine a8 ?_|refine aa a2 rfl rfl ?_|refine bG a2 ?_|refine bS rfl ?_)
  exact aA rfl rfl ⟨by simp [cP, cf, cI, e1, e2, e3, e4, iZ, dS, h], by simp [cP, cf, cI, e1, e2, e3, e4, h]⟩
 have h2 := Gy h
 clear h
 repeat' (first|refine a6 ?_|refine a7 ?_|refine a8 ?_|refine aa a2 rfl rfl ?_)
 refine aw rfl (fun h => ?_) (fun h => ?_)
 ·have h := Gz h
  repeat' (first|refine ae ?_|refine a6 ?_|refine aq ?_|refine a7 ?_|refine aE ?_|refine aS ?_|refine a8 ?_|refine aa a2 rfl rfl ?_|refine bG a2 ?_|fail)
  exact aA rfl rfl ⟨by simp [cP, cf, cI, e1, e2, e3, e4, iZ, dS, h], by simp [cP, cf, cI, e1, e2, e3, e4, h]⟩
 have h3 := Gy h
 clear h
 repeat' (first|refine ae ?_|refine a6 ?_|refine a7 ?_|refine a8 ?_|refine aa a2 rfl rfl ?_)
 refine aw rfl (fun h => ?_) (fun h => ?_)
 ·have h := Gz h
  repeat' (first|refine ae ?_|refine a6 ?_|refine aa a2 rfl rfl ?_)
  refine cJ ?_
  have hz := cm s hs p4.2.a (n := 200) (by omega)
  have hz : 0 ≤ (dr s 200 p4.2).1 ∧ (dr s 200 p4.2).1 < 200 := hz
  repeat' (first|refine aq ?_|refine a7 ?_|refine aE ?_|refine aS ?_|refine a8 ?_|refine aa a2 rfl rfl ?_|(apply aV; refine aU ?_)|refine bG a2 ?_|fail)
  exact aA rfl rfl ⟨by simp [cP, cf, cI, e1, e2, e3, e4, iZ, dS, h], by simp [cP, cf, cI, e1, e2, e3, e4, h]⟩
 have h4 := Gy h
 clear h
 repeat' (first|refine ae ?_|refine a6 ?_|refine a7 ?_|refine a8 ?_|refine aa a2 rfl rfl ?_)
 refine aw rfl (fun h => ?_) (fun h => ?_)
 ·have h := Gz h
  repeat' (first|refine ae ?_|refine a6 ?_|refine aq ?_|refine a7 ?_|refine aE ?_|refine aS ?_|refine a8 ?_|refine aa a2 rfl rfl ?_|refine bG a2 ?_|fail)
  exact aA rfl rfl ⟨by simp [cP, cf, cI, e1, e2, e3, e4, iZ, dS, h], by simp [cP, cf, cI, e1, e2, e3, e4, h]⟩
 have h5 := Gy h
 clear h
 repeat' (first|refine ae ?_|refine a6 ?_|refine a7 ?_|refine a8 ?_|refine aa a2 rfl rfl ?_)
 refine aw rfl (fun h => ?_) (fun h => ?_)
 ·have h := Gz h
  repeat' (first|refine ae ?_|refine a6 ?_|refine aq ?_|refine a7 ?_|refine aE ?_|refine aS ?_|refine a8 ?_|refine aa a2 rfl rfl ?_|refine bG a2 ?_|fail)
  exact aA rfl rfl ⟨by simp [cP, cf, cI, e1, e2, e3, e4, iZ, dS, h], by simp [cP, cf, cI, e1, e2, e3, e4, h]⟩
 have h6 := Gy h
 clear h
 repeat' (first|refine ae ?_|refine a6 ?_|refine a7 ?_|refine a8 ?_|refine aa a2 rfl rfl ?_)
 refine aw rfl (fun h => ?_) (fun h => ?_)
 ·have h := Gz h
  repeat' (first|refine ae ?_|refine a6 ?_|refine aq ?_|refine a7 ?_|refine aE ?_|refine aS ?_|refine a8 ?_|refine aa a2 rfl rfl ?_|refine bG a2 ?_|fail)
  exact aA rfl rfl ⟨by simp [cP, cf, cI, e1, e2, e3, e4, iZ, dS, h], by simp [cP, cf, cI, e1, e2, e3, e4, h]⟩
 have h7 := Gy h
 clear h
 repeat' (first|refine ae ?_|refine a6 ?_|refine a7 ?_|refine a8 ?_|refine aa a2 rfl rfl ?_)
 refine aw rfl (fun h => ?_) (fun h => ?_)
 ·have h := Gz h
  repeat' (first|refine ae ?_|refine a6 ?_|refine a7 ?_|refine a8 ?_|refine aa a2 rfl rfl ?_)
  refine aw rfl (fun hf0 => ?_) (fun hf0 => ?_)
  ·have hf0 := Gz hf0
   repeat' (first|refine ae ?_|refine a6 ?_|refine aa a2 rfl rfl ?_)
   refine cJ ?_
   repeat' (first|refine aq ?_|refine a7 ?_|refine aE ?_|refine aS ?_|refine a8 ?_|refine aa a2 rfl rfl ?_|refine bG a2 ?_|fail)
   exact aA rfl rfl ⟨by simp [cP, cf, cI, e1, e2, e3, e4, iZ, dS, h, hf0], by simp [cP, cf, cI, e1, e2, e3, e4, h, hf0]⟩
  ·have hf0 := Gy hf0
   repeat' (first|refine ae ?_|refine a6 ?_|refine ar ?_|refine aq ?_|refine a7 ?_|refine aH ?_|refine a8 ?_|refine aa a2 rfl rfl ?_|refine bG a2 ?_|fail)
   exact aA rfl rfl ⟨by simp [cP, cf, cI, e1, e2, e3, e4, iZ, dS, gy, h, hf0], by simp [cP, cf, cI, e1, e2, e3, e4, gy, h, hf0]⟩
 have h8 := Gy h
 clear h
 repeat' (first|refine ae ?_|refine a6 ?_|refine a7 ?_|refine a8 ?_|refine aa a2 rfl rfl ?_)
 refine aw rfl (fun h => ?_) (fun h => ?_)
 ·have h := Gz h
  by_cases hf0 : 0 < fn
  ·repeat' (first|refine ae ?_|refine a6 ?_|refine aa a2 rfl rfl ?_)
   rw [decide_eq_true hf0]
   repeat' (first|refine a7 ?_|refine a8 ?_|refine aa a2 rfl rfl ?_|refine aF rfl rfl ?_|(apply bK; first|refine aj a2 0 rfl rfl rfl rfl rfl ?_|refine aj a2 1 rfl rfl rfl rfl rfl ?_|refine aj a2 2 rfl rfl rfl rfl rfl ?_|refine aj a2 3 rfl rfl rfl rfl rfl ?_|refine aD a2 0 rfl rfl rfl rfl rfl ?_|refine aD a2 1 rfl rfl rfl rfl rfl ?_|refine aD a2 2 rfl rfl rfl rfl rfl ?_|refine aj a2 1 rfl rfl rfl (by assumption) rfl ?_|refine aj a2 0 rfl rfl rfl (by assumption) rfl ?_|fail)|fail)
   refine aw rfl (fun hl => ?_) (fun hl => ?_)
   ·have hl := Gz hl
    repeat' (first|refine ae ?_|refine a6 ?_|refine a7 ?_|refine a8 ?_|refine aa a2 rfl rfl ?_|(apply bK; first|refine aj a2 0 rfl rfl rfl rfl rfl ?_|refine aj a2 1 rfl rfl rfl rfl rfl ?_|refine aj a2 2 rfl rfl rfl rfl rfl ?_|refine aj a2 3 rfl rfl rfl rfl rfl ?_|refine aD a2 0 rfl rfl rfl rfl rfl ?_|refine aD a2 1 rfl rfl rfl rfl rfl ?_|refine aD a2 2 rfl rfl rfl rfl rfl ?_|refine aj a2 1 rfl rfl rfl (by assumption) rfl ?_|refine aj a2 0 rfl rfl rfl (by assumption) rfl ?_|fail)|(apply aV; refine aU ?_)|(apply aG; first|refine ai a2 0 rfl rfl rfl rfl rfl rfl rfl ?_|refine ai a2 1 rfl rfl rfl rfl rfl rfl rfl ?_|refine ai a2 2 rfl rfl rfl rfl rfl rfl rfl ?_|refine ai a2 3 rfl rfl rfl rfl rfl rfl rfl ?_|fail))
    have hlt := p4.2.lo.isLt
    have hlz : 0 < p4.2.lo.val := by omega
    have hcell : ((p4.2.lo.val : Nat) : Int) - 1 = ((p4.2.lo.val - 1 : Nat) : Int) := by omega
    rw [hcell]
    change bV _ _ _ _ _ _ _ _ _ [ej b s F (EN p4.2).2]
    repeat' (first|fail)
    refine cJ ?_
    repeat' (first|refine aa a2 rfl rfl ?_)
    refine cJ ?_
    repeat' (first|refine aq ?_|refine a7 ?_|refine aE ?_|refine aS ?_|refine a8 ?_|refine aa a2 rfl rfl ?_|refine bG a2 ?_|fail)
    exact aA rfl rfl ⟨by simp [cP, cf, cI, e1, e2, e3, e4, iZ, dS, h, hf0, pm, hlz], by simp [cP, cf, cI, e1, e2, e3, e4, h, hf0, pm, hlz]⟩
   ·have hl := Gy hl
    have hl0 : p4.2.lo.val = 0 := by omega
    repeat' (first|refine ae ?_|refine a6 ?_|refine ar ?_|refine aq ?_|refine a7 ?_|refine aH ?_|refine a8 ?_|refine aa a2 rfl rfl ?_|refine bG a2 ?_|fail)
    exact aA rfl rfl ⟨by simp [cP, cf, cI, e1, e2, e3, e4, iZ, dS, gy, h, hf0, pm, hl0], by simp [cP, cf, cI, e1, e2, e3, e4, gy, h, hf0, pm, hl0]⟩
  ·repeat' (first|refine ae ?_|refine a6 ?_|refine aa a2 rfl rfl ?_)
   rw [decide_eq_false hf0]
   repeat' (first|refine ae ?_|refine a6 ?_|refine ar ?_|refine aq ?_|refine a7 ?_|refine aH ?_|refine a8 ?_|refine aa a2 rfl rfl ?_|refine aL rfl rfl rfl rfl ?_|refine bG a2 ?_|refine bN rfl ?_)
   exact aA rfl rfl ⟨by simp [cP, cf, cI, e1, e2, e3, e4, iZ, dS, gy, h, hf0], by simp [cP, cf, cI, e1, e2, e3, e4, gy, h, hf0]⟩
 have h9 := Gy h
 clear h
 repeat' (first|refine ae ?_|refine a6 ?_|refine a7 ?_|refine a8 ?_|refine aa a2 rfl rfl ?_)
 refine aw rfl (fun h => ?_) (fun h => ?_)
 ·have h := Gz h
  repeat' (first|refine ae ?_|refine a6 ?_|refine aq ?_|refine a7 ?_|refine aE ?_|refine aS ?_|refine a8 ?_|refine aa a2 rfl rfl ?_|refine bG a2 ?_|fail)
  exact aA rfl rfl ⟨by simp [cP, cf, cI, e1, e2, e3, e4, iZ, dS, h], by simp [cP, cf, cI, e1, e2, e3, e4, h]⟩
 have h10 := Gy h
 clear h
 repeat' (first|refine ae ?_|refine a6 ?_|refine ar ?_|refine aq ?_|refine a7 ?_|refine aH ?_|refine a8 ?_|refine aa a2 rfl rfl ?_|refine bG a2 ?_|fail)
 exact aA rfl rfl ⟨by simp [cP, cf, cI, e1, e2, e3, e4, iZ, dS, gy, h0, h1, h2, h3, h4, h5, h6, h7, h8, h9, h10], by simp [cP, cf, cI, e1, e2, e3, e4, gy, h0, h1, h2, h3, h4, h5, h6, h7, h8, h9, h10]⟩
end Go.Proofs.YtjjpkibjffmceaaGreat
namespace Go.Proofs.YtjjpkibjffmceaaGreat
open Go.RowKit
attribute [local irreducible] AT bV AX AO Av Kt bC eH DA dl
variable (s : List Int) (hs : s.length ≤ 1000000) (F : MF)
include hs
set_option maxHeartbeats 2000000 in
theorem qS (n fn most : Int) (hn : 0 ≤ n ∧ n ≤ 1000) (hf : fn ≤ 1000) (hm : 0 < most ∧ most ≤ 6) : qf 64 [aM n, aM fn, aM most] s F (m7 s n fn most) iZ := by
 intro b m
 refine aQ Tryz.func64 rfl Tryz.ntmps64 rfl fun B => ?_
 repeat' (first|refine ae ?_|refine a6 ?_|refine a7 ?_|refine a8 ?_|refine aa a2 rfl rfl ?_)
 refine cJ ?_
 have hk := cm s hs m.a (n := most) (by omega)
 have hk : 0 ≤ (dr s most m).1 ∧ (dr s most m).1 < most := hk
 generalize e1 : dr s most m = p1 at hk ⊢
 obtain ⟨k, hkk⟩ : ∃ k : Nat, p1.1 = k := ⟨p1.1.toNat, by omega⟩
 have hlen : ∀ i, (fA s n fn i p1.2).1.length ≤ 9 * i := fun i => (bU.runs (fun i l => gq (9 * i) l) i ⟨Nat.le_refl _, fun i hi => by cases hi⟩ (fun i l _ h => (qW s hn hf).bnd fun p hp => bU.ret ⟨by rw [List.length_append]; have := h.1; have := hp.1; omega, fun x hx => by
  rcases Gl hx with hx | hx
  ·exact h.2 x hx
  ·exact hp.2 x hx⟩) p1.2).1
 rw [hkk]
 repeat' (first|refine ae ?_|refine a6 ?_|refine ak ?_|refine a7 ?_|refine a8 ?_|refine aa a2 rfl rfl ?_)
 refine bI (bi (t := 9) (c' := .vec none 2 []) rfl fun σ v h => cy 2 h) ?_
 refine aJ [0, 1, 2, 10] (α := Nat × Option (Nat × Nat)) (fun x => [(11, aM x.1), (9, .vec x.2 2 ((fA s n fn x.1 p1.2).1.map dS))]) (fun x => x.1 ≤ k) (fun x => ej b s F (fA s n fn x.1 p1.2).2 :: tok x.2 74 2 ((fA s n fn x.1 p1.2).1.map dS).length) (fun x => k - x.1) (0, none) rfl ⟨rfl, rfl, trivial⟩ (Nat.zero_le _) (fun _ _ h => h) ?_
 rintro ⟨i, q⟩ hi
 dsimp only at hi ⊢
 try dsimp only [Gr, Gq, Gp, Gj]
 repeat' (first|refine ae ?_|refine a6 ?_|refine a7 ?_|refine a8 ?_|refine aa a2 rfl rfl ?_)
 refine aw rfl (fun h => ?_) (fun h => ?_)
 ·have hil : i < k := by have := Gz h; omega
  have hstep : fA s n fn (i + 1) p1.2 = ((fA s n fn i p1.2).1 ++ (cP s n fn (fA s n fn i p1.2).2).1, (cP s n fn (fA s n fn i p1.2).2).2) := rfl
  have hl1 := hlen i
  have hl2 := hlen (i + 1)
  rw [hstep] at hl2
  rw [List.length_append] at hl2
  generalize fA s n fn i p1.2 = st at hl1 hl2 hstep ⊢
  repeat' (first|refine ae ?_|refine a6 ?_|refine ak ?_|refine ar ?_|refine a7 ?_|refine aa a2 rfl rfl ?_)
  refine tv (v8 s hs F n fn (by omega) (by omega)) ?_
  generalize cP s n fn st.2 = pc at hl2 hstep ⊢
  unfold iZ
  refine bE a2 [ej b s F pc.2] rfl rfl rfl rfl (List.perm_append_comm (l₁ := [ej b s F pc.2])) (by simp; omega) (by simp; omega) rfl fun q' => ?_
  refine aN (aK List.perm_append_comm) ?_
  rw [← List.map_append]
  repeat' (first|refine a6 ?_|refine a7 ?_|refine aH ?_|refine a8 ?_|refine aa a2 rfl rfl ?_|(apply aV; refine aU ?_)|fail)
  exact aB (i + 1, q') rfl ⟨by rw [Gw]; rfl, by rw [hstep]; rfl, trivial⟩ (by dsimp only; omega) (by dsimp only; omega) (fun _ _ h => by dsimp only; rw [hstep]; exact h)
 have hil : i = k := by have := Gy h; omega
 subst hil
 repeat' (first|refine ae ?_|refine a6 ?_|refine aq ?_|refine aO ?_|refine a7 ?_|refine au ?_|refine ay ?_|refine av ?_|refine a8 ?_|refine aa a2 rfl rfl ?_)
 refine be (bY (L' := [ej b s F (fA s n fn i p1.2).2]) (List.Sublist.cons_cons _ (List.nil_sublist _))) ?_
 refine be (bi (t := 8) (c' := .imm 2 ((fA s n fn i p1.2).1.map dS)) rfl fun σ v h => VR.im h) (aA rfl rfl ?_)
 have hv : m7 s n fn most m = fA s n fn i p1.2 := by
  unfold m7 cf
  rw [e1]
  dsimp only
  rw [hkk]
  rfl
 rw [hv]
 exact ⟨rfl, rfl⟩
end Go.Proofs.YtjjpkibjffmceaaGreat
namespace Go.Proofs.YtjjpkibjffmceaaGreat
open Go.RowKit
attribute [local irreducible] AT bV AX AO Av Kt bC eH DA dl
variable (s : List Int) (hs : s.length ≤ 1000000) (F : MF)
include hs
abbrev bL : AV := .sc (.slice none 0 0)
set_option maxHeartbeats 8000000 in
theorem rU : qf 96 [] s F (jb s) EX := by
 intro b m
 refine aQ Tryz.func96 rfl Tryz.ntmps96 rfl fun B => ?_
 repeat' (first|refine ae ?_|refine a6 ?_|refine a7 ?_|refine a8 ?_|refine aa a2 rfl rfl ?_|refine b7 a2 fun _=>?_|fail)
 rename_i rb ob
 refine aN (aK (L' := ej b s F m :: (ob, .box [bL, bL] 57) :: (rb, .box [bL, bL] 57) :: []) (List.perm_append_comm (l₁ := [_, _]))) ?_
 refine aN (br 1 (cs' := [.vec none 3 [], .vec none 1 []]) rfl fun σ vs h => nD.vrs (a := [bL, bL]) (b := [.vec none 3 [], .vec none 1 []]) ⟨eb.vecN 3, eb.vecN 1, trivial⟩ h) ?_
 refine cJ ?_
 have hk := cm s hs m.a (n := 3) (by omega)
 have hk : 0 ≤ (dr s 3 m).1 ∧ (dr s 3 m).1 < 3 := hk
 generalize e1 : dr s 3 m = p1 at hk ⊢
 obtain ⟨k, hkk⟩ : ∃ k : Nat, p1.1 = k := ⟨p1.1.toNat, by omega⟩
 rw [hkk]
 have hok : ∀ i, sn i (hQ s i p1.2).1 := fun i => tF s i p1.2
 repeat' (first|refine ae ?_|refine a6 ?_|refine ak ?_|refine a7 ?_|refine a8 ?_|refine aa a2 rfl rfl ?_)
 refine aJ [0, 2, 3, 4] (α := Nat × Option (Nat × Nat) × Option (Nat × Nat)) (fun x => [(5, aM x.1)]) (fun x => x.1 ≤ k) (fun x => ej b s F (hQ s x.1 p1.2).2 :: (ob, .box [.vec x.2.1 3 ((hQ s x.1 p1.2).1.1.map cX), .vec x.2.2 1 (aT (hQ s x.1 p1.2).1.2)] 57) :: (rb, .box [bL, bL] 57) :: (tok x.2.1 72 3 ((hQ s x.1 p1.2).1.1.map cX).length ++ (tok x.2.2 3 1 (aT (hQ s x.1 p1.2).1.2).length ++ []))) (fun x => k - x.1) (0, none, none) rfl ⟨rfl, trivial⟩ (Nat.zero_le _) (fun _ _ h => by simpa [hQ, gN, cI, tok, gg, aT] using h) ?_
 rintro ⟨i, q1, q2⟩ hi
 dsimp only at hi ⊢
 try dsimp only [Gr, Gq, Gp, Gj]
 repeat' (first|refine ae ?_|refine a6 ?_|refine a7 ?_|refine a8 ?_|refine aa a2 rfl rfl ?_)
 refine aw rfl (fun h => ?_) (fun h => ?_)
 ·have hil : i < k := by have := Gz h; omega
  have hoi := hok i
  have hoi1 := hok (i + 1)
  have hstep : hQ s (i + 1) p1.2 = cf (dr s 4) (fun k => cf (nh s (hQ s i p1.2).1.1 (2 + k).toNat) fun l => cI (l, (hQ s i p1.2).1.2 ++ [(l.length : Int) - 1])) (hQ s i p1.2).2 := rfl
  rw [hstep] at hoi1
  generalize hQ s i p1.2 = st at hoi hoi1 hstep ⊢
  have hln := hoi.len
  have hle := hoi.endl
  repeat' (first|refine ae ?_|refine a6 ?_|refine ak ?_|refine ar ?_|refine a7 ?_|refine aa a2 rfl rfl ?_)
  refine cJ ?_
  have hc := cm s hs st.2.a (n := 4) (by omega)
  have hc : 0 ≤ (dr s 4 st.2).1 ∧ (dr s 4 st.2).1 < 4 := hc
  unfold cf at hstep hoi1
  generalize dr s 4 st.2 = p2 at hc hstep hoi1 ⊢
  obtain ⟨c, hcc⟩ : ∃ k : Nat, 2 + p2.1 = k := ⟨(2 + p2.1).toNat, by omega⟩
  dsimp only at hstep hoi1
  rw [hcc] at hstep hoi1
  dsimp only [Int.toNat_natCast] at hstep hoi1
  repeat' (first|refine ae ?_|refine a6 ?_|refine ak ?_|refine a7 ?_|refine a8 ?_|refine aa a2 rfl rfl ?_|(apply aV; refine aU ?_)|fail)
  rw [hcc]
  have hpt : ∀ j, (nh s st.1.1 j p2.2).1.length = st.1.1.length + j := fun j => (w8 s st.1.1 hoi.pts j p2.2).1
  refine aJ [0, 2, 3, 4, 5, 6] (α := Nat × Option (Nat × Nat)) (fun x => [(7, aM x.1)]) (fun x => x.1 ≤ c) (fun x => ej b s F (nh s st.1.1 x.1 p2.2).2 :: (ob, .box [.vec x.2 3 ((nh s st.1.1 x.1 p2.2).1.map cX), .vec q2 1 (aT st.1.2)] 57) :: (rb, .box [bL, bL] 57) :: (tok x.2 72 3 ((nh s st.1.1 x.1 p2.2).1.map cX).length ++ (tok q2 3 1 (aT st.1.2).length ++ []))) (fun x => c - x.1) (0, q1) rfl ⟨rfl, trivial⟩ (Nat.zero_le _) (fun _ _ h => h) ?_
  rintro ⟨j, q⟩ hj
  dsimp only at hj ⊢
  try dsimp only [Gr, Gq, Gp, Gj]
  repeat' (first|refine ae ?_|refine a6 ?_|refine a7 ?_|refine a8 ?_|refine aa a2 rfl rfl ?_)
  refine aw rfl (fun h => ?_) (fun h => ?_)
  ·have hjl : j < c := by have := Gz h; omega
   have hl0 := hpt j
   have hstep2 : nh s st.1.1 (j + 1) p2.2 = ((nh s st.1.1 j p2.2).1 ++ [(CU s j (nh s st.1.1 j p2.2).2).1], (CU s j (nh s st.1.1 j p2.2).2).2) := rfl
   generalize nh s st.1.1 j p2.2 = u at hl0 hstep2 ⊢
   repeat' (first|refine ae ?_|refine ak ?_|refine ar ?_|refine a7 ?_)
   refine dw [.cell (ob, 0, .vec q 3 (u.1.map cX))] 19 [(0, .v), (1, .k), (2, .v), (6, .v), (10, .v), (11, .v), (3, .f), (4, .v), (5, .v), (7, .f), (8, .v), (9, .v), (12, .v), (13, .v), (14, .f), (15, .v), (16, .v), (17, .v), (18, .v)] none ?_ trivial rfl (by kernel_rfl) (by kernel_rfl) (by kernel_rfl) mixed (by kernel_rfl) rfl
   repeat' (first|refine aC ?_|refine aZ a2 ?_|fail)
   refine ez a2 0 rfl rfl rfl (bR 1 rfl rfl cb) (by first | trivial | rfl) ?_
   repeat' (first|refine aC ?_|refine aZ a2 ?_|fail)
   refine eR (bR 1 rfl rfl cb) ?_
   have hx := cm s hs u.2.a (n := 21) (by omega)
   have hx : 0 ≤ (dr s 21 u.2).1 ∧ (dr s 21 u.2).1 < 21 := hx
   generalize e2 : dr s 21 u.2 = x1 at hx ⊢
   repeat' (first|refine aC ?_|(apply ff;refine gG ?_)|fail)
   refine eR (bR 1 rfl rfl cb) ?_
   have hy := cm s hs x1.2.a (n := 21) (by omega)
   have hy : 0 ≤ (dr s 21 x1.2).1 ∧ (dr s 21 x1.2).1 < 21 := hy
   generalize e3 : dr s 21 x1.2 = y1 at hy ⊢
   repeat' (first|refine aC ?_|refine aZ a2 ?_|(apply ff;refine gG ?_)|fail)
   by_cases hp : j = 0
   ·rw [decide_eq_true (show ((j : Int) = 0) by omega)]
    repeat' (first|refine aC ?_|refine lR rfl rfl ?_)
    refine Do rfl rfl ?_
    have hpd : CU s j u.2 = (⟨x1.1 * 50 - 100, y1.1 * 50 - 200, true⟩, y1.2) := by simp [CU, cf, cI, e2, e3, hp]
    rw [hpd] at hstep2
    dsimp only at hstep2
    repeat' (first|refine aC ?_|refine aZ a2 ?_|refine eh a2 ?_|refine lR rfl rfl ?_)
    refine bq [0, 2, 3, 4, 5, 6, 7, 24, 41] rfl rfl ?_
    repeat' (first|fail)
    refine bE a2 _ rfl rfl rfl rfl (eU (A := [_, _, _])) (by simp; omega) (by simp; omega) rfl fun q' => ?_
    refine aN (aK (eU (A := [_, _, _])).symm) ?_
    repeat' (first|refine a6 ?_|refine a7 ?_|refine aH ?_|refine a8 ?_|refine aa a2 rfl rfl ?_|(apply aV; refine aU ?_)|(apply aG; first|refine ai a2 0 rfl rfl rfl rfl rfl rfl rfl ?_|refine ai a2 1 rfl rfl rfl rfl rfl rfl rfl ?_|refine ai a2 2 rfl rfl rfl rfl rfl rfl rfl ?_|refine ai a2 3 rfl rfl rfl rfl rfl rfl rfl ?_|fail))
    exact aB (j + 1, q') rfl ⟨by rw [Gw]; rfl, trivial⟩ (by dsimp only; omega) (by dsimp only; omega) (fun _ _ h => by dsimp only; rw [hstep2]; simpa [gg, gV, cX] using h)
   ·rw [decide_eq_false (show ¬ ((j : Int) = 0) by omega)]
    repeat' (first|refine aC ?_|refine aZ a2 ?_|fail)
    refine eR (bR 1 rfl rfl cb) ?_
    generalize e4 : dr s 4 y1.2 = z1
    have hpd : CU s j u.2 = (⟨x1.1 * 50 - 100, y1.1 * 50 - 200, decide (0 < z1.1)⟩, z1.2) := by simp [CU, cf, cI, e2, e3, e4, hp]
    rw [hpd] at hstep2
    dsimp only at hstep2
    repeat' (first|refine aC ?_|refine aZ a2 ?_|refine eh a2 ?_|fail)
    refine bq [0, 2, 3, 4, 5, 6, 7, 24, 41] rfl rfl ?_
    repeat' (first|fail)
    refine bE a2 _ rfl rfl rfl rfl (eU (A := [_, _, _])) (by simp; omega) (by simp; omega) rfl fun q' => ?_
    refine aN (aK (eU (A := [_, _, _])).symm) ?_
    repeat' (first|refine a6 ?_|refine a7 ?_|refine aH ?_|refine a8 ?_|refine aa a2 rfl rfl ?_|(apply aV; refine aU ?_)|(apply aG; first|refine ai a2 0 rfl rfl rfl rfl rfl rfl rfl ?_|refine ai a2 1 rfl rfl rfl rfl rfl rfl rfl ?_|refine ai a2 2 rfl rfl rfl rfl rfl rfl rfl ?_|refine ai a2 3 rfl rfl rfl rfl rfl rfl rfl ?_|fail))
    exact aB (j + 1, q') rfl ⟨by rw [Gw]; rfl, trivial⟩ (by dsimp only; omega) (by dsimp only; omega) (fun _ _ h => by dsimp only; rw [hstep2]; simpa [gg, gV, cX] using h)
  have hjl : j = c := by have := Gy h; omega
  subst hjl
  have hjn := hpt j
  generalize nh s st.1.1 j p2.2 = u at hjn hstep hoi1 ⊢
  have hul : (u.1.map cX).length = u.1.length := Gu ..
  have hel : (aT st.1.2).length = st.1.2.length := aR _
  repeat' (first|refine a6 ?_|refine aO ?_|refine a7 ?_|refine au ?_|refine ay ?_|refine av ?_|refine aa a2 rfl rfl ?_|(apply bK; first|refine aj a2 0 rfl rfl rfl rfl rfl ?_|refine aj a2 1 rfl rfl rfl rfl rfl ?_|refine aj a2 2 rfl rfl rfl rfl rfl ?_|refine aj a2 3 rfl rfl rfl rfl rfl ?_|refine aD a2 0 rfl rfl rfl rfl rfl ?_|refine aD a2 1 rfl rfl rfl rfl rfl ?_|refine aD a2 2 rfl rfl rfl rfl rfl ?_|refine aj a2 1 rfl rfl rfl (by assumption) rfl ?_|refine aj a2 0 rfl rfl rfl (by assumption) rfl ?_|fail)|(apply aV; refine aU ?_)|refine bG a2 ?_|fail)
  refine bE a2 _ rfl rfl rfl rfl (F0 (A := [_, _, _])) (by simp [aR]; omega) (by simp [aR]; omega) rfl fun q' => ?_
  refine aN (aK (F0 (A := [_, _, _])).symm) ?_
  repeat' (first|refine a6 ?_|refine a7 ?_|refine aH ?_|refine a8 ?_|refine aa a2 rfl rfl ?_|(apply aV; refine aU ?_)|(apply aG; first|refine ai a2 0 rfl rfl rfl rfl rfl rfl rfl ?_|refine ai a2 1 rfl rfl rfl rfl rfl rfl rfl ?_|refine ai a2 2 rfl rfl rfl rfl rfl rfl rfl ?_|refine ai a2 3 rfl rfl rfl rfl rfl rfl rfl ?_|fail))
  exact aB (i + 1, q, q') rfl ⟨by rw [Gw]; rfl, trivial⟩ (by dsimp only; omega) (by dsimp only; omega) (fun _ _ h => by dsimp only; rw [hstep]; simpa [gg, gV, cI, aT, hul] using h)
 have hil : i = k := by have := Gy h; omega
 subst hil
 have hv : jb s m = hQ s i p1.2 := by
  unfold jb cf
  rw [e1]
  dsimp only
  rw [hkk]
  rfl
 rw [hv]
 generalize hQ s i p1.2 = st
 repeat' (first|refine ae ?_|refine a6 ?_|refine aq ?_|refine aO ?_|refine a7 ?_|refine au ?_|refine ay ?_|refine av ?_|refine a8 ?_|(apply bK; first|refine aj a2 0 rfl rfl rfl rfl rfl ?_|refine aj a2 1 rfl rfl rfl rfl rfl ?_|refine aj a2 2 rfl rfl rfl rfl rfl ?_|refine aj a2 3 rfl rfl rfl rfl rfl ?_|refine aD a2 0 rfl rfl rfl rfl rfl ?_|refine aD a2 1 rfl rfl rfl rfl rfl ?_|refine aD a2 2 rfl rfl rfl rfl rfl ?_|refine aj a2 1 rfl rfl rfl (by assumption) rfl ?_|refine aj a2 0 rfl rfl rfl (by assumption) rfl ?_|fail)|(apply aG; first|refine ai a2 0 rfl rfl rfl rfl rfl rfl rfl ?_|refine ai a2 1 rfl rfl rfl rfl rfl rfl rfl ?_|refine ai a2 2 rfl rfl rfl rfl rfl rfl rfl ?_|refine ai a2 3 rfl rfl rfl rfl rfl rfl rfl ?_|fail))
 refine be (br 2 (cs' := [.imm 3 (st.1.1.map cX), .imm 1 (aT st.1.2)]) rfl fun σ vs h => nD.vrs (a := [.vec q1 3 (st.1.1.map cX), .vec q2 1 (aT st.1.2)]) (b := [.imm 3 (st.1.1.map cX), .imm 1 (aT st.1.2)]) ⟨eb.im, eb.im, trivial⟩ h) (iH a2 2 [ej b s F st.2] rfl rfl rfl rfl rfl (List.Sublist.cons_cons _ (List.nil_sublist _)) ⟨rfl, rfl⟩)
end Go.Proofs.YtjjpkibjffmceaaGreat
namespace Go.Proofs.YtjjpkibjffmceaaGreat
open Go.RowKit
attribute [local irreducible] AT bV AX AO Av Kt bC eH DA dl
variable (s : List Int) (hs : s.length ≤ 1000000) (F : MF)
include hs
theorem zG (a : Int) (m : MS) (k : Nat) : (fk s a k m).1.length ≤ 1 + k := by
 have _ := hs
 clear hs
 refine (bU.runs (fun i (l : List Int) => l.length ≤ 1 + i) k (by simp) fun i l _ h => bU.ite (fun _ => (bU.any _).bnd fun z _ => bU.ret ?_) fun _ => bU.ret (by omega)) m
 split
 ·simp; omega
 ·omega
theorem xo (a : Int) (m : MS) {j : Nat} (h : 4 ≤ (fk s a j m).1.length) : ∀ k, j ≤ k → fk s a k m = fk s a j m := by
 have _ := hs
 clear hs
 intro k hk
 induction k with
 | zero => rw [show j = 0 by omega]
 | succ k ih =>
  by_cases e : j = k + 1
  ·rw [e]
  ·have h1 := ih (by omega)
   have h2 : fk s a (k + 1) m = (if (fk s a k m).1.length < 4 then cf (dr s 3) fun z => cI (if z = 0 then (fk s a k m).1 ++ [a + 1 + k] else (fk s a k m).1) else cI (fk s a k m).1) (fk s a k m).2 := rfl
   rw [h2, h1, if_neg (by omega)]
   rfl
def Cd (l : List Int) : AV := .imm 1 (aT l)
def Ab (l : List (List Int)) : AV := .imm 1 (bv l)
set_option maxHeartbeats 4000000 in
theorem pL {kg : Option (Nat × Nat)} {gl : List (List AV)} (hF : F.gl = .vec kg 9 gl) (n : Nat) (hn : gl.length = n) (h0 : 0 < n ∧ n ≤ 1000) : qf 153 [] s F (mx s n) Cd := by
 intro b m
 refine aQ Tryz.func153 rfl Tryz.ntmps153 rfl fun B => ?_
 repeat' (first|refine ae ?_|refine a6 ?_|refine a7 ?_|refine a8 ?_|refine aa a2 rfl rfl ?_|(apply bK; first|refine aj a2 0 rfl rfl rfl rfl rfl ?_|refine aj a2 1 rfl rfl rfl rfl rfl ?_|refine aj a2 2 rfl rfl rfl rfl rfl ?_|refine aj a2 3 rfl rfl rfl rfl rfl ?_|refine aD a2 0 rfl rfl rfl rfl rfl ?_|refine aD a2 1 rfl rfl rfl rfl rfl ?_|refine aD a2 2 rfl rfl rfl rfl rfl ?_|refine aj a2 1 rfl rfl rfl (by assumption) rfl ?_|refine aj a2 0 rfl rfl rfl (by assumption) rfl ?_|fail)|fail)
 rw [hF]
 repeat' (first|refine ae ?_|refine a6 ?_|refine a7 ?_|refine a8 ?_|refine aa a2 rfl rfl ?_)
 rw [hn]
 refine cJ ?_
 have hk := cm s hs m.a (n := n) (by omega)
 have hk : 0 ≤ (dr s n m).1 ∧ (dr s n m).1 < n := hk
 generalize e1 : dr s n m = p1 at hk ⊢
 repeat' (first|refine ae ?_|refine a6 ?_|refine ak ?_|refine a7 ?_|refine a8 ?_|refine aa a2 rfl rfl ?_|(apply aV; refine aU ?_)|refine iz (d := 17) a2 fun _=>?_|fail)
 rename_i kb
 refine bI (aK (L' := [ej b s F p1.2] ++ (tok (some (kb, 1)) 3 1 1 ++ [])) (List.perm_append_comm (l₁ := [_]))) ?_
 have hmx : ∀ j, (fk s p1.1 j p1.2).1.length ≤ 1 + j := fun j => zG s hs _ _ j
 refine aJ [0, 3] (α := Nat × Option (Nat × Nat)) (fun x => [(6, aM (p1.1 + 1 + x.1)), (5, .vec x.2 1 (aT (fk s p1.1 x.1 p1.2).1))]) (fun x => x.1 ≤ (n - (p1.1 + 1)).toNat) (fun x => [ej b s F (fk s p1.1 x.1 p1.2).2] ++ (tok x.2 3 1 (aT (fk s p1.1 x.1 p1.2).1).length ++ [])) (fun x => (n - (p1.1 + 1)).toNat - x.1) (0, some (kb, 1)) rfl ⟨by simp [ci], rfl, trivial⟩ (Nat.zero_le _) (fun _ _ h => h) ?_
 rintro ⟨j, q⟩ hj
 dsimp only at hj ⊢
 have hl := hmx j
 have hstop := xo s hs p1.1 p1.2 (j := j)
 have hstep : fk s p1.1 (j + 1) p1.2 = (if (fk s p1.1 j p1.2).1.length < 4 then cf (dr s 3) fun z => cI (if z = 0 then (fk s p1.1 j p1.2).1 ++ [p1.1 + 1 + j] else (fk s p1.1 j p1.2).1) else cI (fk s p1.1 j p1.2).1) (fk s p1.1 j p1.2).2 := rfl
 have hv : mx s n m = fk s p1.1 (n - (p1.1 + 1)).toNat p1.2 := by
  unfold mx cf
  rw [e1]
 generalize e2 : fk s p1.1 j p1.2 = st at hl hstop hstep ⊢
 have hil : (aT st.1).length = st.1.length := aR _
 try dsimp only [Gr, Gq, Gp, Gj]
 repeat' (first|refine ae ?_|refine a6 ?_|refine aa a2 rfl rfl ?_)
 by_cases hlt : p1.1 + 1 + (j : Int) < (n : Int)
 ·rw [decide_eq_true hlt]
  repeat' (first|refine a7 ?_|refine a8 ?_|refine aa a2 rfl rfl ?_|refine aF rfl rfl ?_)
  refine aw rfl (fun h => ?_) (fun h => ?_)
  ·have h4 : st.1.length < 4 := by have := Gz h; omega
   repeat' (first|refine ae ?_|refine a6 ?_|refine ak ?_|refine ar ?_|refine a7 ?_|refine aa a2 rfl rfl ?_)
   rw [if_pos h4] at hstep
   unfold cf at hstep
   refine cJ ?_
   generalize dr s 3 st.2 = z at hstep ⊢
   dsimp only at hstep
   repeat' (first|refine a7 ?_|refine a8 ?_|refine aa a2 rfl rfl ?_)
   refine aw rfl (fun hz => ?_) (fun hz => ?_)
   ·rw [if_pos (Gz hz)] at hstep
    repeat' (first|refine a6 ?_|refine aa a2 rfl rfl ?_|refine bG a2 ?_|fail)
    refine bE a2 _ rfl rfl rfl rfl (eU (A := [_])) (by simp [aR]; omega) (by simp [aR]; omega) rfl fun q' => ?_
    refine aN (aK (eU (A := [_])).symm) ?_
    repeat' (first|refine a6 ?_|refine a7 ?_|refine aH ?_|refine a8 ?_|refine aa a2 rfl rfl ?_|(apply aV; refine aU ?_)|fail)
    exact aB (j + 1, q') rfl ⟨by dsimp only; rw [show p1.1 + 1 + ((j + 1 : Nat) : Int) = p1.1 + 1 + (j : Int) + 1 by omega]; rfl, by rw [hstep]; dsimp only [cI]; rw [show aT (st.1 ++ [p1.1 + 1 + (j : Int)]) = aT st.1 ++ [[aM (p1.1 + 1 + (j : Int))]] from List.map_append ..]; rfl, trivial⟩ (by dsimp only; omega) (by dsimp only; omega) (fun _ _ h => by dsimp only; rw [hstep]; simpa [cI, aT] using h)
   ·rw [if_neg (Gy hz)] at hstep
    repeat' (first|refine a6 ?_|refine ar ?_|refine a7 ?_|refine aH ?_|refine a8 ?_|refine aa a2 rfl rfl ?_|(apply aV; refine aU ?_)|fail)
    exact aB (j + 1, q) rfl ⟨by dsimp only; rw [show p1.1 + 1 + ((j + 1 : Nat) : Int) = p1.1 + 1 + (j : Int) + 1 by omega]; rfl, by rw [hstep]; rfl, trivial⟩ (by dsimp only; omega) (by dsimp only; omega) (fun _ _ h => by dsimp only; rw [hstep]; simpa [cI] using h)
  ·have h4 : ¬ st.1.length < 4 := by have := Gy h; omega
   repeat' (first|refine ae ?_|refine a6 ?_|refine aq ?_|refine aO ?_|refine a7 ?_|refine au ?_|refine ay ?_|refine av ?_|refine a8 ?_|refine aa a2 rfl rfl ?_)
   refine be (bY (L' := [ej b s F st.2]) (List.Sublist.cons_cons _ (List.nil_sublist _))) ?_
   refine be (bi (t := 2) (c' := .imm 1 (aT st.1)) rfl fun σ v h => VR.im h) (aA rfl rfl ?_)
   rw [hv, hstop (by omega) _ hj]
   exact ⟨rfl, rfl⟩
 ·rw [decide_eq_false hlt]
  repeat' (first|refine ae ?_|refine a6 ?_|refine aq ?_|refine aO ?_|refine a7 ?_|refine au ?_|refine ay ?_|refine av ?_|refine a8 ?_|refine aa a2 rfl rfl ?_|refine aL rfl rfl rfl rfl ?_|refine bN rfl ?_)
  refine be (bY (L' := [ej b s F st.2]) (List.Sublist.cons_cons _ (List.nil_sublist _))) ?_
  refine be (bi (t := 2) (c' := .imm 1 (aT st.1)) rfl fun σ v h => VR.im h) (aA rfl rfl ?_)
  rw [hv, show (n - (p1.1 + 1)).toNat = j by omega, e2]
  exact ⟨rfl, rfl⟩
theorem fH (l : List (List Int)) : (bv l).length = l.length := by
 have _ := hs
 clear hs
 simp [bv]
set_option maxHeartbeats 2000000 in
theorem mv {kg : Option (Nat × Nat)} {gl : List (List AV)} (hF : F.gl = .vec kg 9 gl) (n : Nat) (hn : gl.length = n) (h0 : 0 < n ∧ n ≤ 1000) (most : Int) (hm : 0 ≤ most ∧ most ≤ 6) : qf 154 [aM most] s F (og s n most) Ab := by
 intro b m
 refine aQ Tryz.func154 rfl Tryz.ntmps154 rfl fun B => ?_
 repeat' (first|refine ae ?_|refine a6 ?_|refine a7 ?_|refine a8 ?_|refine aa a2 rfl rfl ?_|(apply aV; refine aU ?_)|fail)
 refine cJ ?_
 have hk := cm s hs m.a (n := most + 1) (by omega)
 have hk : 0 ≤ (dr s (most + 1) m).1 ∧ (dr s (most + 1) m).1 < most + 1 := hk
 generalize e1 : dr s (most + 1) m = p1 at hk ⊢
 obtain ⟨k, hkk⟩ : ∃ k : Nat, p1.1 = k := ⟨p1.1.toNat, by omega⟩
 rw [hkk]
 have hln : ∀ j, (hY s n j p1.2).1.length = j := fun j => by
  induction j with
  | zero => rfl
  | succ j ih =>
   have : hY s n (j + 1) p1.2 = ((hY s n j p1.2).1 ++ [(mx s n (hY s n j p1.2).2).1], (mx s n (hY s n j p1.2).2).2) := rfl
   rw [this]
   simp [ih]
 repeat' (first|refine ae ?_|refine a6 ?_|refine ak ?_|refine a7 ?_|refine a8 ?_|refine aa a2 rfl rfl ?_)
 refine bI (bi (t := 5) (c' := .vec none 1 []) rfl fun σ v h => cy 1 h) ?_
 refine aJ [0, 6] (α := Nat × Option (Nat × Nat)) (fun x => [(7, aM x.1), (5, .vec x.2 1 (bv (hY s n x.1 p1.2).1))]) (fun x => x.1 ≤ k) (fun x => [ej b s F (hY s n x.1 p1.2).2] ++ (tok x.2 22 1 (bv (hY s n x.1 p1.2).1).length ++ [])) (fun x => k - x.1) (0, none) rfl ⟨rfl, rfl, trivial⟩ (Nat.zero_le _) (fun _ _ h => h) ?_
 rintro ⟨j, q⟩ hj
 dsimp only at hj ⊢
 have hl := hln j
 have hstep : hY s n (j + 1) p1.2 = ((hY s n j p1.2).1 ++ [(mx s n (hY s n j p1.2).2).1], (mx s n (hY s n j p1.2).2).2) := rfl
 try dsimp only [Gr, Gq, Gp, Gj]
 repeat' (first|refine ae ?_|refine a6 ?_|refine a7 ?_|refine a8 ?_|refine aa a2 rfl rfl ?_)
 refine aw rfl (fun h => ?_) (fun h => ?_)
 ·have hjl : j < k := by have := Gz h; omega
  generalize hY s n j p1.2 = st at hl hstep ⊢
  have hrl := fH s hs st.1
  repeat' (first|refine ae ?_|refine a6 ?_|refine ak ?_|refine ar ?_|refine a7 ?_|refine aa a2 rfl rfl ?_)
  refine tv (pL s hs F hF n hn h0) ?_
  generalize mx s n st.2 = y at hstep ⊢
  unfold Cd
  repeat' (first|refine bG a2 ?_|fail)
  refine bE a2 _ rfl rfl rfl rfl (eU (A := [_])) (by simp [fH s hs]; omega) (by simp [fH s hs]; omega) rfl fun q' => ?_
  refine aN (aK (eU (A := [_])).symm) ?_
  repeat' (first|refine a6 ?_|refine a7 ?_|refine aH ?_|refine a8 ?_|refine aa a2 rfl rfl ?_|(apply aV; refine aU ?_)|fail)
  exact aB (j + 1, q') rfl ⟨by rw [Gw]; rfl, by rw [hstep]; dsimp only; rw [show bv (st.1 ++ [y.1]) = bv st.1 ++ [[.imm 1 (aT y.1)]] from List.map_append ..]; rfl, trivial⟩ (by dsimp only; omega) (by dsimp only; omega) (fun _ _ h => by dsimp only; rw [hstep]; simpa [bv] using h)
 have hjl : j = k := by have := Gy h; omega
 subst hjl
 have hv : og s n most m = hY s n j p1.2 := by
  unfold og cf
  rw [e1]
  dsimp only
  rw [hkk]
  rfl
 rw [hv]
 generalize hY s n j p1.2 = st
 repeat' (first|refine ae ?_|refine a6 ?_|refine aq ?_|refine aO ?_|refine a7 ?_|refine au ?_|refine ay ?_|refine av ?_|refine a8 ?_|refine aa a2 rfl rfl ?_)
 refine be (bY (L' := [ej b s F st.2]) (List.Sublist.cons_cons _ (List.nil_sublist _))) ?_
 exact be (bi (t := 4) (c' := .imm 1 (bv st.1)) rfl fun σ v h => VR.im h) (aA rfl rfl ⟨rfl, rfl⟩)
end Go.Proofs.YtjjpkibjffmceaaGreat
