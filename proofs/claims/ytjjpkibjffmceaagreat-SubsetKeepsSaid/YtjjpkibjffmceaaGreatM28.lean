/-
  The maker: glyphs.
-/
import Derived.Test.YtjjpkibjffmceaaGreatM27
import Derived.Test.YtjjpkibjffmceaaGreatM24
namespace Go.Proofs.YtjjpkibjffmceaaGreat
open Go.RowKit
attribute [local irreducible] AT bT AX AO Av Kt bk ej DA cX
variable (s : List Int) (hs : s.length ≤ 1000000) (F : MF)
theorem vV (a c : UInt8) : (⟨#[a]⟩ : ByteArray) ++ (⟨#[c]⟩ : ByteArray) = bytes [a, c] := by
 apply ByteArray.ext
 simp [bytes]
theorem vW (a b c : UInt8) : (⟨#[a, b]⟩ : ByteArray) ++ (⟨#[c]⟩ : ByteArray) = bytes [a, b, c] := by
 apply ByteArray.ext
 simp [bytes]
theorem Ey {z : Int} (h : 0 ≤ z ∧ z < 256) : IntKind.wrap .u8 z = z := by
 unfold IntKind.wrap
 simp [IntKind.signed, IntKind.bits]
 try omega
theorem sy (n : Nat) (h : n < 100) : IntKind.wrap .u8 (97 + (n : Int)) = 97 + (n : Int) := Ey (by omega)
theorem ve (n : Nat) (h : n < 100) : UInt8.ofNat (97 + (n : Int)).toNat = (97 + n).toUInt8 := by
 rw [show ((97 + (n : Int))).toNat = 97 + n by omega]
theorem Ek {a c : Nat × AB} {T : AL} : (a :: (T ++ []) ++ [c]).Perm ([a, c] ++ (T ++ [])) := List.Perm.cons a (List.perm_append_comm (l₁ := T ++ []))
def jM (nm : ByteArray) (ad : Int) (mk : Bool) (o : List ei × List Int) (ps an de hi : AV) : List AV := [kf nm, aM ad, cF mk, .imm 3 (o.1.map cP), .imm 1 (aU o.2), ps, an, de, hi]
theorem vL (mark : Bool) (cl : Int) (m : MS) (k : Nat) : (eJ s mark cl k m).1.length ≤ k := by
 refine (bS.runs (fun i (l : List dt) => l.length ≤ i) k (Nat.le_refl _) fun i l _ h => (bS.any _).bnd fun z _ => bS.ite (fun _ => (bS.any _).bnd fun x _ => (bS.any _).bnd fun y _ => bS.ret (by simp; omega)) fun _ => bS.ret (by omega)) m
theorem tS (r : Nat) (l : List dB) (m : MS) (k : Nat) : (gE s r l k m).1.length ≤ l.length + k := by
 refine (bS.runs (fun i (q : List dB) => q.length ≤ l.length + i) k (Nat.le_refl _) fun i q _ h => (bS.any _).bnd fun z _ => bS.ite (fun _ => (bS.any _).bnd fun x _ => bS.ite (fun _ => bS.ret (by simp; omega)) fun _ => (bS.any _).bnd fun y _ => bS.ret (by simp; omega)) fun _ => bS.ret (by omega)) m
def kC (cl : Int) : List (List AV) := (eS cl).map fun p => [aM p.1, aM p.2]
abbrev zM (F : MF) (v : AV) : MF := { F with gl := v }
include hs
set_option maxHeartbeats 16000000 in
theorem yi {kg : Option (Nat × Nat)} {gl rg fu : List (List AV)} (hF : F.gl = .vec kg 9 gl) (hrg : F.rg = .imm 1 rg) (hfu : F.fu = .imm 1 fu) (R fn n : Nat) (hR : rg.length = R) (hfn : fu.length = fn) (hg : gl.length ≤ 1000) (hRl : R ≤ 1000) (hfl : fn ≤ 1000) (hn : n < 100) (b : Nat) (m : MS) : AC Tryz.prog 65 [fp b, aM n] ([dV b s F m] ++ (tok kg 63 9 gl.length ++ [])) fun _ L => ∃ kg', L = [dV b s (zM F (.vec kg' 9 (gl ++ [bb (jj s R fn n m).1]))) (jj s R fn n m).2] ++ (tok kg' 63 9 (gl ++ [bb (jj s R fn n m).1]).length ++ []) := by
 refine aP Tryz.func65 rfl Tryz.ntmps65 rfl fun B => ?_
 repeat' (first|refine ah ?_)
 refine bt 15 [(0, .v), (1, .v), (2, .v), (3, .v), (4, .v), (5, .v), (6, .v), (10, .v), (7, .e), (8, .v), (9, .v), (11, .e), (12, .v), (13, .v)] (some (14, .box _ 63)) ?_ ⟨_, rfl, rfl, fun _ _ _ => gX (eV a6 rfl) rfl⟩ rfl (by kernel_rfl) (by kernel_rfl) (by kernel_rfl) mixed (by kernel_rfl) rfl
 repeat' (first|refine aE ?_|refine aZ a6 ?_|(apply eP;refine fU ?_)|fail)
 refine xY a6 ?_
 rw [sy n hn]
 repeat' (first|refine aE ?_|refine ee a6 ?_|fail)
 refine v6 a6 ?_
 rw [ve n hn]
 repeat' (first|refine aE ?_|fail)
 refine fA (hs := Nat.le_of_ble_eq_true rfl) ?_
 rw [vV]
 repeat' (first|refine aE ?_|refine aZ a6 ?_|fail)
 refine qR ?_
 have had := cf s hs m.a (n := 19) (by omega)
 have had : 0 ≤ (dr s 19 m).1 ∧ (dr s 19 m).1 < 19 := had
 generalize e1 : dr s 19 m = ad at had ⊢
 repeat' (first|refine aE ?_|(apply eP;refine fU ?_)|fail)
 refine qR ?_
 generalize e2 : dr s 4 ad.2 = mk
 repeat' (first|refine aE ?_|refine aZ a6 ?_|fail)
 refine kj [0, 1, 4, 23] (fun _ => _) (fun _ => rfl) rfl fun _ => ?_
 rename_i gb
 refine aO (aK (L' := [dV b s F mk.2, (gb, .box [.sc (.string ⟨#[]⟩), aM 0, cF false, bI, bI, bI, bI, bI, bI] 63)] ++ (tok kg 63 9 gl.length ++ [])) Ek) ?_
 repeat' (first|refine ah ?_|refine a7 ?_|refine a8 ?_|refine aa ?_|refine ae a6 rfl rfl ?_|(apply aH; first|refine aj a6 0 rfl rfl rfl rfl rfl rfl rfl ?_|refine aj a6 1 rfl rfl rfl rfl rfl rfl rfl ?_|refine aj a6 2 rfl rfl rfl rfl rfl rfl rfl ?_|refine aj a6 3 rfl rfl rfl rfl rfl rfl rfl ?_|fail))
 refine qL [0, 1, 4] ([dV b s F mk.2, (gb, .box [kf (cE n), aM (100 + ad.1 * 50), cF (decide (mk.1 = 0) && decide (n ≠ 0)), bI, bI, .vec none 3 [], .vec none 4 [], .vec none 4 [], bI] 63)] ++ (tok kg 63 9 gl.length ++ [])) rfl (fun Q' K => ?_) ?_
 ·refine aw rfl (fun h => ?_) (fun h => ?_)
  ·have h : n = 0 := by have := Gz h; omega
   have hm : (decide (mk.1 = 0) && decide (n ≠ 0)) = false := by simp [h]
   have hgn : cE n = yW := if_pos h
   rw [hm, hgn] at K
   repeat' (first|refine ah ?_|refine a7 ?_|refine a8 ?_|refine aa ?_|refine ae a6 rfl rfl ?_|(apply aH; first|refine aj a6 0 rfl rfl rfl rfl rfl rfl rfl ?_|refine aj a6 1 rfl rfl rfl rfl rfl rfl rfl ?_|refine aj a6 2 rfl rfl rfl rfl rfl rfl rfl ?_|refine aj a6 3 rfl rfl rfl rfl rfl rfl rfl ?_|fail))
   refine ba (bi 1 rfl fun σ vs h => cg (k := 5) (c' := .vec none 3 []) (cg (k := 6) (c' := .vec none 4 []) (cg (k := 7) (c' := .vec none 4 []) h rfl fun v hv => co 4 hv) rfl fun v hv => co 4 hv) rfl fun v hv => co 3 hv) ?_
   exact K _ rfl
  ·have h : ¬ n = 0 := by have := Gy h; omega
   have hm : (decide (mk.1 = 0) && decide (n ≠ 0)) = decide (mk.1 = 0) := by simp [h]
   have hgn : cE n = i7 F7 n := if_neg h
   rw [hm, hgn] at K
   repeat' (first|refine au ?_)
   refine ba (bi 1 rfl fun σ vs h => cg (k := 5) (c' := .vec none 3 []) (cg (k := 6) (c' := .vec none 4 []) (cg (k := 7) (c' := .vec none 4 []) h rfl fun v hv => co 4 hv) rfl fun v hv => co 4 hv) rfl fun v hv => co 3 hv) ?_
   exact K _ rfl
 generalize hmk : (decide (mk.1 = 0) && decide (n ≠ 0)) = mb
 repeat' (first|refine ah ?_|refine a7 ?_|refine ae a6 rfl rfl ?_)
 refine sG (rl s hs F) ?_
 have ho := nq s mk.2
 generalize e3 : iQ s mk.2 = o at ho ⊢
 obtain ⟨ko, hko, hoo⟩ := ho
 have hol := hoo.len
 unfold Ei
 refine ae a6 rfl rfl ?_
 (apply aH; refine aj a6 1 rfl rfl rfl rfl rfl rfl rfl ?_)
 refine aa ?_
 refine a8 ?_
 refine ah ?_
 refine qL [0, 4] ([dV b s F (ie s n o.2).2, (gb, .box (jM (cE n) (100 + ad.1 * 50) mb o.1 (.imm 3 ((ie s n o.2).1.map cn)) (.vec none 4 []) (.vec none 4 []) bI) 63)] ++ (tok kg 63 9 gl.length ++ [])) rfl (fun Q' K => ?_) ?_
 ·repeat' (first|refine ah ?_|refine a7 ?_|refine ae a6 rfl rfl ?_)
  by_cases hn1 : 1 < n
  ·rw [decide_eq_true (show (1 : Int) < (n : Int) by omega)]
   repeat' (first|refine ae a6 rfl rfl ?_|refine aG rfl rfl ?_)
   refine cD ?_
   generalize e4 : dr s 4 o.2 = z
   repeat' (first|refine a8 ?_|refine aa ?_|refine ae a6 rfl rfl ?_|refine aG rfl rfl ?_)
   refine aw rfl (fun h => ?_) (fun h => ?_)
   ·have h := Gz h
    repeat' (first|fail)
    refine dg [.cell (gb, 5, .vec none 3 [])] 11 [(0, .v), (1, .k), (2, .v), (6, .v), (3, .f), (4, .v), (5, .v), (7, .f), (8, .v), (9, .v), (10, .v)] none ?_ trivial rfl (by kernel_rfl) (by kernel_rfl) (by kernel_rfl) mixed (by kernel_rfl) rfl
    repeat' (first|refine aE ?_|refine aZ a6 ?_|fail)
    refine eg a6 0 rfl rfl rfl (bM 1 rfl rfl bW) (by first | trivial | rfl) ?_
    repeat' (first|refine aE ?_|refine aZ a6 ?_|fail)
    refine eD (bM 1 rfl rfl bW) ?_
    have hx := cf s hs z.2.a (n := 9) (by omega)
    have hx : 0 ≤ (dr s 9 z.2).1 ∧ (dr s 9 z.2).1 < 9 := hx
    generalize e5 : dr s 9 z.2 = x at hx ⊢
    repeat' (first|refine aE ?_|(apply eP;refine fU ?_)|fail)
    refine eD (bM 1 rfl rfl bW) ?_
    have hy := cf s hs x.2.a (n := 5) (by omega)
    have hy : 0 ≤ (dr s 5 x.2).1 ∧ (dr s 5 x.2).1 < 5 := hy
    generalize e6 : dr s 5 x.2 = y at hy ⊢
    repeat' (first|refine aE ?_|refine aZ a6 ?_|(apply eP;refine fU ?_)|refine ee a6 ?_|fail)
    refine br [0, 4, 39, 48] rfl rfl ?_
    repeat' (first|fail)
    refine bF a6 _ rfl rfl rfl rfl (Gm _) (by simp) (by simp) rfl fun q' => ?_
    refine aO (bY (List.sublist_append_right _ _)) ?_
    repeat' (first|refine aa ?_|refine ae a6 rfl rfl ?_|(apply aH; first|refine aj a6 0 rfl rfl rfl rfl rfl rfl rfl ?_|refine aj a6 1 rfl rfl rfl rfl rfl rfl rfl ?_|refine aj a6 2 rfl rfl rfl rfl rfl rfl rfl ?_|refine aj a6 3 rfl rfl rfl rfl rfl rfl rfl ?_|fail))
    have hv : ie s n o.2 = ([⟨1, x.1 * 50 - 200, y.1 * 50⟩], y.2) := by simp [ie, c9, cA, hn1, e4, e5, e6, h]
    rw [hv] at K
    refine ba (bi 1 rfl fun σ vs h => cg (k := 5) (c' := .imm 3 ([(⟨1, x.1 * 50 - 200, y.1 * 50⟩ : cB)].map cn)) h rfl fun v hv => VR.im hv) ?_
    exact K _ rfl
   ·have h := Gy h
    repeat' (first|refine au ?_)
    have hv : ie s n o.2 = ([], z.2) := by simp [ie, c9, cA, hn1, e4, h]
    rw [hv] at K
    refine ba (bi 1 rfl fun σ vs h => cg (k := 5) (c' := .imm 3 []) h rfl fun v hv => VR.im hv) ?_
    exact K _ rfl
  ·rw [decide_eq_false (show ¬ (1 : Int) < (n : Int) by omega)]
   repeat' (first|refine au ?_|refine a8 ?_|refine aa ?_|refine ae a6 rfl rfl ?_|refine aL rfl rfl rfl rfl ?_|refine bv rfl ?_)
   have hv : ie s n o.2 = ([], o.2) := by simp [ie, cA, hn1]
   rw [hv] at K
   refine ba (bi 1 rfl fun σ vs h => cg (k := 5) (c' := .imm 3 []) h rfl fun v hv => VR.im hv) ?_
   exact K _ rfl
 generalize e4 : ie s n o.2 = ps
 repeat' (first|refine ah ?_|refine a7 ?_|refine ae a6 rfl rfl ?_)
 refine cD ?_
 have hcl := cf s hs ps.2.a (n := 2) (by omega)
 have hcl : 0 ≤ (dr s 2 ps.2).1 ∧ (dr s 2 ps.2).1 < 2 := hcl
 generalize e5 : dr s 2 ps.2 = cl at hcl ⊢
 repeat' (first|refine ah ?_|refine a7 ?_|refine aq ?_|refine a8 ?_|refine aa ?_|refine ae a6 rfl rfl ?_|refine bz a6 ?_|fail)
 refine aN [0, 4, 5] (α := Nat × Option (Nat × Nat)) (fun x => [(6, aM x.1), (5, .imm 2 (kC cl.1))]) (fun x => x.1 ≤ 5) (fun x => [dV b s F (eJ s mb cl.1 x.1 cl.2).2, (gb, .box (jM (cE n) (100 + ad.1 * 50) mb o.1 (.imm 3 (ps.1.map cn)) (.vec x.2 4 ((eJ s mb cl.1 x.1 cl.2).1.map ct)) (.vec none 4 []) bI) 63)] ++ (tok x.2 87 4 ((eJ s mb cl.1 x.1 cl.2).1.map ct).length ++ (tok kg 63 9 gl.length ++ []))) (fun x => 5 - x.1) (0, none) rfl ⟨rfl, rfl, trivial⟩ (Nat.zero_le _) (fun _ _ h => h) ?_
 rintro ⟨i, q⟩ hi
 dsimp only at hi ⊢
 have hal := vL s mb cl.1 cl.2 i
 have hstep : eJ s mb cl.1 (i + 1) cl.2 = (c9 (dr s 3) fun z => if z = 0 ∧ (((eS cl.1).getD i (0, 0)).1 ≠ 2 ∨ mb = true) then c9 (dr s 21) fun x => c9 (dr s 21) fun y => cA ((eJ s mb cl.1 i cl.2).1 ++ [(⟨((eS cl.1).getD i (0, 0)).1, ((eS cl.1).getD i (0, 0)).2, x * 50, y * 50 - 200⟩ : dt)]) else cA (eJ s mb cl.1 i cl.2).1) (eJ s mb cl.1 i cl.2).2 := rfl
 try dsimp only [Gr, Gq, Gp, Gj]
 repeat' (first|refine ah ?_|refine a7 ?_|refine a8 ?_|refine aa ?_|refine ae a6 rfl rfl ?_)
 refine aw rfl (fun h => ?_) (fun h => ?_)
 ·have hil : i < 5 := by have := Gz h; omega
  have hka : (kC cl.1)[i]? = some [aM ((eS cl.1).getD i (0, 0)).1, aM ((eS cl.1).getD i (0, 0)).2] := by
   unfold kC
   rw [List.getElem?_map, rL hil]
   rfl
  generalize eJ s mb cl.1 i cl.2 = st at hal hstep ⊢
  have halm : (st.1.map ct).length = st.1.length := Gu ..
  generalize (eS cl.1).getD i (0, 0) = pr at hka hstep
  repeat' (first|refine ah ?_|refine a7 ?_|refine aq ?_|refine au ?_|refine a8 ?_|refine ae a6 rfl rfl ?_)
  refine cD ?_
  unfold c9 at hstep
  generalize dr s 3 st.2 = z at hstep ⊢
  dsimp only at hstep
  repeat' (first|refine ae a6 rfl rfl ?_)
  refine cZ (t := 77) [0, 4, 5, 6] (z.1 = 0 ∧ (pr.1 ≠ 2 ∨ mb = true)) rfl (fun Q' K => ?_) ?_
  ·by_cases hz : z.1 = 0
   ·rw [decide_eq_true hz]
    repeat' (first|refine ae a6 rfl rfl ?_|refine aG rfl rfl ?_|(apply aY; first|refine aX a6 ?_|refine aS a6 ?_)|fail)
    refine Ef a6 0 ?_
    repeat' (first|refine ae a6 rfl rfl ?_|refine aG rfl rfl ?_)
    by_cases h2 : pr.1 ≠ 2
    ·rw [decide_eq_true h2]
     repeat' (first|refine aa ?_|refine ae a6 rfl rfl ?_|refine aG rfl rfl ?_|refine aL rfl rfl rfl rfl ?_)
     exact K _ _ rfl rfl (by simp [hz, h2])
    ·rw [decide_eq_false h2]
     repeat' (first|refine aa ?_|refine ae a6 rfl rfl ?_|refine aG rfl rfl ?_|(apply bB; first|refine ak a6 0 rfl rfl rfl rfl rfl ?_|refine ak a6 1 rfl rfl rfl rfl rfl ?_|refine ak a6 2 rfl rfl rfl rfl rfl ?_|refine ak a6 3 rfl rfl rfl rfl rfl ?_|refine aD a6 0 rfl rfl rfl rfl rfl ?_|refine aD a6 1 rfl rfl rfl rfl rfl ?_|refine aD a6 2 rfl rfl rfl rfl rfl ?_|refine ak a6 1 rfl rfl rfl (by assumption) rfl ?_|refine ak a6 0 rfl rfl rfl (by assumption) rfl ?_|fail)|fail)
     exact K _ _ rfl rfl (by simp only [ne_eq, Decidable.not_not] at h2; simp [hz, h2])
   ·rw [decide_eq_false hz]
    repeat' (first|refine aa ?_|refine ae a6 rfl rfl ?_|refine aL rfl rfl rfl rfl ?_|refine dm rfl rfl rfl ?_)
    exact K _ _ rfl rfl (by simp [hz])
  repeat' (first|refine a8 ?_)
  refine aw rfl (fun h => ?_) (fun h => ?_)
  ·have h := Gz h
   rw [if_pos h] at hstep
   repeat' (first|fail)
   refine dg [.cell (gb, 6, .vec q 4 (st.1.map ct))] 21 [(0, .v), (1, .k), (2, .v), (3, .v), (4, .v), (5, .v), (6, .v), (7, .v), (8, .v), (9, .v), (10, .v), (11, .v), (12, .v), (15, .v), (13, .f), (14, .v), (16, .f), (17, .v), (18, .v), (19, .v), (20, .v)] none ?_ trivial rfl (by kernel_rfl) (by kernel_rfl) (by kernel_rfl) mixed (by kernel_rfl) rfl
   repeat' (first|refine aE ?_|refine aZ a6 ?_|fail)
   refine eg a6 0 rfl rfl rfl (bM 1 rfl rfl bW) (by first | trivial | rfl) ?_
   repeat' (first|refine aE ?_|refine aZ a6 ?_|(apply bP;refine c8 a6 ?_)|fail)
   refine BQ a6 0 ?_
   repeat' (first|refine aE ?_|refine aZ a6 ?_|(apply bP;refine c8 a6 ?_)|fail)
   refine BQ a6 1 ?_
   repeat' (first|refine aE ?_|refine aZ a6 ?_|fail)
   refine eD (bM 1 rfl rfl bW) ?_
   have hx := cf s hs z.2.a (n := 21) (by omega)
   have hx : 0 ≤ (dr s 21 z.2).1 ∧ (dr s 21 z.2).1 < 21 := hx
   generalize dr s 21 z.2 = x at hx hstep ⊢
   try dsimp only at hstep
   repeat' (first|refine aE ?_|(apply eP;refine fU ?_)|fail)
   refine eD (bM 1 rfl rfl bW) ?_
   have hy := cf s hs x.2.a (n := 21) (by omega)
   have hy : 0 ≤ (dr s 21 x.2).1 ∧ (dr s 21 x.2).1 < 21 := hy
   generalize dr s 21 x.2 = y at hy hstep ⊢
   try dsimp only [cA] at hstep
   repeat' (first|refine aE ?_|refine aZ a6 ?_|(apply eP;refine fU ?_)|refine ee a6 ?_|fail)
   refine br [0, 4, 5, 6, 79, 98] rfl rfl ?_
   repeat' (first|fail)
   refine bF a6 _ rfl rfl rfl rfl (eG (A := [_, _])) (by simp; omega) (by simp; omega) rfl fun q' => ?_
   refine aO (aK (eG (A := [_, _])).symm) ?_
   repeat' (first|refine a7 ?_|refine a8 ?_|refine aI ?_|refine aa ?_|refine ae a6 rfl rfl ?_|(apply aW; refine aV ?_)|(apply aH; first|refine aj a6 0 rfl rfl rfl rfl rfl rfl rfl ?_|refine aj a6 1 rfl rfl rfl rfl rfl rfl rfl ?_|refine aj a6 2 rfl rfl rfl rfl rfl rfl rfl ?_|refine aj a6 3 rfl rfl rfl rfl rfl rfl rfl ?_|fail))
   exact aC (i + 1, q') rfl ⟨by rw [Gw]; rfl, rfl, trivial⟩ (by dsimp only; omega) (by dsimp only; omega) (fun _ _ h => by dsimp only; rw [hstep]; dsimp only; rw [List.map_append]; exact h)
  ·have h := Gy h
   rw [if_neg h] at hstep
   dsimp only [cA] at hstep
   repeat' (first|refine a7 ?_|refine au ?_|refine a8 ?_|refine aI ?_|refine aa ?_|refine ae a6 rfl rfl ?_|(apply aW; refine aV ?_)|fail)
   exact aC (i + 1, q) rfl ⟨by rw [Gw]; rfl, rfl, trivial⟩ (by dsimp only; omega) (by dsimp only; omega) (fun _ _ h => by dsimp only; rw [hstep]; exact h)
 have hil : i = 5 := by have := Gy h; omega
 subst hil
 clear hstep hal
 generalize e6 : eJ s mb cl.1 5 cl.2 = an
 refine bK (bi 1 rfl fun σ vs h => cg (k := 6) (c' := .imm 4 (an.1.map ct)) h rfl fun v hv => VR.im hv) ?_
 refine bK (bY (L' := [dV b s F an.2, (gb, .box (jM (cE n) (100 + ad.1 * 50) mb o.1 (.imm 3 (ps.1.map cn)) (.imm 4 (an.1.map ct)) (.vec none 4 []) bI) 63)] ++ (tok kg 63 9 gl.length ++ [])) (List.Sublist.cons_cons _ (List.Sublist.cons_cons _ (List.sublist_append_right _ _)))) ?_
 have hpl : (o.1.1.map cP).length = o.1.1.length := Gu ..
 repeat' (first|refine ah ?_|refine a7 ?_|refine aq ?_|refine aR ?_|refine a8 ?_|refine av ?_|refine aB ?_|refine ay ?_|refine aa ?_|refine ae a6 rfl rfl ?_)
 refine aN [0, 4] (α := Nat × Option (Nat × Nat)) (fun x => [(7, aM x.1)]) (fun x => x.1 ≤ R) (fun x => [dV b s F (fK s o.1.1.length x.1 an.2).2, (gb, .box (jM (cE n) (100 + ad.1 * 50) mb o.1 (.imm 3 (ps.1.map cn)) (.imm 4 (an.1.map ct)) (.vec x.2 4 ((fK s o.1.1.length x.1 an.2).1.map cW)) bI) 63)] ++ (tok x.2 89 4 ((fK s o.1.1.length x.1 an.2).1.map cW).length ++ (tok kg 63 9 gl.length ++ []))) (fun x => R - x.1) (0, none) rfl ⟨rfl, trivial⟩ (Nat.zero_le _) (fun _ _ h => h) ?_
 rintro ⟨r, q⟩ hr
 dsimp only at hr ⊢
 have hdl := (ov s o.1.1.length r an.2).len
 have hdl : (fK s o.1.1.length r an.2).1.length ≤ 11000 := Nat.le_trans hdl (Nat.le_trans (Nat.mul_le_mul (show r ≤ 1000 by omega) (show o.1.1.length + 1 ≤ 11 by omega)) (by omega))
 have hstep : fK s o.1.1.length (r + 1) an.2 = gE s r (fK s o.1.1.length r an.2).1 (o.1.1.length + 1) (fK s o.1.1.length r an.2).2 := rfl
 try dsimp only [Gr, Gq, Gp, Gj]
 repeat' (first|refine ah ?_|refine a7 ?_|refine ae a6 rfl rfl ?_|(apply bB; first|refine ak a6 0 rfl rfl rfl rfl rfl ?_|refine ak a6 1 rfl rfl rfl rfl rfl ?_|refine ak a6 2 rfl rfl rfl rfl rfl ?_|refine ak a6 3 rfl rfl rfl rfl rfl ?_|refine aD a6 0 rfl rfl rfl rfl rfl ?_|refine aD a6 1 rfl rfl rfl rfl rfl ?_|refine aD a6 2 rfl rfl rfl rfl rfl ?_|refine ak a6 1 rfl rfl rfl (by assumption) rfl ?_|refine ak a6 0 rfl rfl rfl (by assumption) rfl ?_|fail)|fail)
 rw [hrg]
 repeat' (first|refine a8 ?_|refine aa ?_|refine ae a6 rfl rfl ?_)
 rw [hR]
 refine aw rfl (fun h => ?_) (fun h => ?_)
 ·have hrl : r < R := by have := Gz h; omega
  generalize fK s o.1.1.length r an.2 = D at hdl hstep ⊢
  repeat' (first|refine ah ?_|refine a7 ?_|refine aq ?_|refine au ?_|refine a8 ?_|refine aa ?_|refine ae a6 rfl rfl ?_)
  refine aN [0, 4, 7] (α := Nat × Option (Nat × Nat)) (fun x => [(8, aM ((x.1 : Int) - 1))]) (fun x => x.1 ≤ o.1.1.length + 1) (fun x => [dV b s F (gE s r D.1 x.1 D.2).2, (gb, .box (jM (cE n) (100 + ad.1 * 50) mb o.1 (.imm 3 (ps.1.map cn)) (.imm 4 (an.1.map ct)) (.vec x.2 4 ((gE s r D.1 x.1 D.2).1.map cW)) bI) 63)] ++ (tok x.2 89 4 ((gE s r D.1 x.1 D.2).1.map cW).length ++ (tok kg 63 9 gl.length ++ []))) (fun x => o.1.1.length + 1 - x.1) (0, q) rfl ⟨rfl, trivial⟩ (Nat.zero_le _) (fun _ _ h => h) ?_
  rintro ⟨p, q⟩ hp
  dsimp only at hp ⊢
  have hel := tS s r D.1 D.2 p
  have hst2 : gE s r D.1 (p + 1) D.2 = (c9 (dr s 3) fun z => if z = 0 then c9 (dr s 41) fun x => if p = 0 then cA ((gE s r D.1 p D.2).1 ++ [(⟨r, -1, x - 20, 0⟩ : dB)]) else c9 (dr s 41) fun y => cA ((gE s r D.1 p D.2).1 ++ [(⟨r, (p : Int) - 1, x - 20, y - 20⟩ : dB)]) else cA (gE s r D.1 p D.2).1) (gE s r D.1 p D.2).2 := rfl
  try dsimp only [Gr, Gq, Gp, Gj]
  repeat' (first|refine ah ?_|refine a7 ?_|refine a8 ?_|refine aa ?_|refine ae a6 rfl rfl ?_|(apply bB; first|refine ak a6 0 rfl rfl rfl rfl rfl ?_|refine ak a6 1 rfl rfl rfl rfl rfl ?_|refine ak a6 2 rfl rfl rfl rfl rfl ?_|refine ak a6 3 rfl rfl rfl rfl rfl ?_|refine aD a6 0 rfl rfl rfl rfl rfl ?_|refine aD a6 1 rfl rfl rfl rfl rfl ?_|refine aD a6 2 rfl rfl rfl rfl rfl ?_|refine ak a6 1 rfl rfl rfl (by assumption) rfl ?_|refine ak a6 0 rfl rfl rfl (by assumption) rfl ?_|fail)|fail)
  refine aw rfl (fun h => ?_) (fun h => ?_)
  ·have hpp : p < o.1.1.length + 1 := by have := Gz h; rw [hpl] at this; omega
   generalize gE s r D.1 p D.2 = E at hel hst2 ⊢
   have hElm : (E.1.map cW).length = E.1.length := Gu ..
   repeat' (first|refine ah ?_|refine a7 ?_|refine aq ?_|refine au ?_|refine a8 ?_|refine ae a6 rfl rfl ?_)
   refine cD ?_
   unfold c9 at hst2
   generalize dr s 3 E.2 = z at hst2 ⊢
   dsimp only at hst2
   repeat' (first|refine a8 ?_|refine aa ?_|refine ae a6 rfl rfl ?_)
   refine aw rfl (fun hz => ?_) (fun hz => ?_)
   ·rw [if_pos (Gz hz)] at hst2
    repeat' (first|refine ah ?_|refine a7 ?_|refine ae a6 rfl rfl ?_)
    refine cD ?_
    have hx := cf s hs z.2.a (n := 41) (by omega)
    have hx : 0 ≤ (dr s 41 z.2).1 ∧ (dr s 41 z.2).1 < 41 := hx
    generalize dr s 41 z.2 = x at hx hst2 ⊢
    try dsimp only at hst2
    repeat' (first|refine ah ?_|refine a7 ?_|refine a8 ?_|refine aa ?_|refine ae a6 rfl rfl ?_|(apply aW; refine aV ?_)|(apply aH; first|refine aj a6 0 rfl rfl rfl rfl rfl rfl rfl ?_|refine aj a6 1 rfl rfl rfl rfl rfl rfl rfl ?_|refine aj a6 2 rfl rfl rfl rfl rfl rfl rfl ?_|refine aj a6 3 rfl rfl rfl rfl rfl rfl rfl ?_|fail)|refine b5 a6 fun _=>?_|fail)
    refine bK (aK (List.perm_middle (l₁ := [_, _])).symm) ?_
    refine aw rfl (fun h0 => ?_) (fun h0 => ?_)
    ·have h0 : ¬ p = 0 := by have := Gz h0; omega
     rw [if_neg h0] at hst2
     repeat' (first|refine a7 ?_|refine ae a6 rfl rfl ?_)
     refine cD ?_
     have hy := cf s hs x.2.a (n := 41) (by omega)
     have hy : 0 ≤ (dr s 41 x.2).1 ∧ (dr s 41 x.2).1 < 41 := hy
     generalize dr s 41 x.2 = y at hy hst2 ⊢
     try dsimp only [cA] at hst2
     repeat' (first|refine a7 ?_|refine a8 ?_|refine aa ?_|refine ae a6 rfl rfl ?_|(apply bB; first|refine ak a6 0 rfl rfl rfl rfl rfl ?_|refine ak a6 1 rfl rfl rfl rfl rfl ?_|refine ak a6 2 rfl rfl rfl rfl rfl ?_|refine ak a6 3 rfl rfl rfl rfl rfl ?_|refine aD a6 0 rfl rfl rfl rfl rfl ?_|refine aD a6 1 rfl rfl rfl rfl rfl ?_|refine aD a6 2 rfl rfl rfl rfl rfl ?_|refine ak a6 1 rfl rfl rfl (by assumption) rfl ?_|refine ak a6 0 rfl rfl rfl (by assumption) rfl ?_|fail)|(apply aW; refine aV ?_)|(apply aH; first|refine aj a6 0 rfl rfl rfl rfl rfl rfl rfl ?_|refine aj a6 1 rfl rfl rfl rfl rfl rfl rfl ?_|refine aj a6 2 rfl rfl rfl rfl rfl rfl rfl ?_|refine aj a6 3 rfl rfl rfl rfl rfl rfl rfl ?_|fail)|refine bz a6 ?_|fail)
     refine bF a6 _ rfl rfl rfl rfl (eG (A := [_, _, _])) (by simp; omega) (by simp; omega) rfl fun q' => ?_
     refine aO (aK (eG (A := [_, _, _])).symm) ?_
     repeat' (first|refine a7 ?_|refine a8 ?_|refine aI ?_|refine aa ?_|refine ae a6 rfl rfl ?_|(apply aW; refine aV ?_)|(apply aH; first|refine aj a6 0 rfl rfl rfl rfl rfl rfl rfl ?_|refine aj a6 1 rfl rfl rfl rfl rfl rfl rfl ?_|refine aj a6 2 rfl rfl rfl rfl rfl rfl rfl ?_|refine aj a6 3 rfl rfl rfl rfl rfl rfl rfl ?_|fail))
     exact aC (p + 1, q') rfl ⟨by dsimp only; rw [show ((p + 1 : Nat) : Int) - 1 = (p : Int) - 1 + 1 by omega]; rfl, trivial⟩ (by dsimp only; omega) (by dsimp only; omega) (fun _ _ h => by dsimp only; rw [hst2]; dsimp only; rw [List.map_append]; exact h.sublist (List.Sublist.cons_cons _ (List.Sublist.cons_cons _ (List.sublist_cons_self ..))))
    ·have h0 : p = 0 := by have := Gy h0; omega
     rw [if_pos h0] at hst2
     try dsimp only [cA] at hst2
     repeat' (first|refine a7 ?_|refine au ?_|refine a8 ?_|refine ae a6 rfl rfl ?_|(apply bB; first|refine ak a6 0 rfl rfl rfl rfl rfl ?_|refine ak a6 1 rfl rfl rfl rfl rfl ?_|refine ak a6 2 rfl rfl rfl rfl rfl ?_|refine ak a6 3 rfl rfl rfl rfl rfl ?_|refine aD a6 0 rfl rfl rfl rfl rfl ?_|refine aD a6 1 rfl rfl rfl rfl rfl ?_|refine aD a6 2 rfl rfl rfl rfl rfl ?_|refine ak a6 1 rfl rfl rfl (by assumption) rfl ?_|refine ak a6 0 rfl rfl rfl (by assumption) rfl ?_|fail)|refine bz a6 ?_|fail)
     refine bF a6 _ rfl rfl rfl rfl (eG (A := [_, _, _])) (by simp; omega) (by simp; omega) rfl fun q' => ?_
     refine aO (aK (eG (A := [_, _, _])).symm) ?_
     repeat' (first|refine a7 ?_|refine a8 ?_|refine aI ?_|refine aa ?_|refine ae a6 rfl rfl ?_|(apply aW; refine aV ?_)|(apply aH; first|refine aj a6 0 rfl rfl rfl rfl rfl rfl rfl ?_|refine aj a6 1 rfl rfl rfl rfl rfl rfl rfl ?_|refine aj a6 2 rfl rfl rfl rfl rfl rfl rfl ?_|refine aj a6 3 rfl rfl rfl rfl rfl rfl rfl ?_|fail))
     subst h0
     exact aC (0 + 1, q') rfl ⟨rfl, trivial⟩ (by dsimp only; omega) (by dsimp only; omega) (fun _ _ h => by dsimp only; rw [hst2]; dsimp only; rw [List.map_append]; exact h.sublist (List.Sublist.cons_cons _ (List.Sublist.cons_cons _ (List.sublist_cons_self ..))))
   ·rw [if_neg (Gy hz)] at hst2
    try dsimp only [cA] at hst2
    repeat' (first|refine a7 ?_|refine au ?_|refine a8 ?_|refine aI ?_|refine aa ?_|refine ae a6 rfl rfl ?_|(apply aW; refine aV ?_)|fail)
    exact aC (p + 1, q) rfl ⟨by dsimp only; rw [show ((p + 1 : Nat) : Int) - 1 = (p : Int) - 1 + 1 by omega]; rfl, trivial⟩ (by dsimp only; omega) (by dsimp only; omega) (fun _ _ h => by dsimp only; rw [hst2]; exact h)
  have hpp : p = o.1.1.length + 1 := by have := Gy h; rw [hpl] at this; omega
  subst hpp
  repeat' (first|refine a7 ?_|refine aR ?_|refine a8 ?_|refine av ?_|refine aI ?_|refine aB ?_|refine ay ?_|refine aa ?_|refine ae a6 rfl rfl ?_|(apply aW; refine aV ?_)|fail)
  exact aC (r + 1, q) rfl ⟨by rw [Gw]; rfl, trivial⟩ (by dsimp only; omega) (by dsimp only; omega) (fun _ _ h => by dsimp only; rw [hstep]; exact h)
 have hrl : r = R := by have := Gy h; omega
 subst hrl
 clear hstep hdl
 generalize e7 : fK s o.1.1.length r an.2 = de
 repeat' (first|refine ah ?_|refine a7 ?_|refine aR ?_|refine a8 ?_|refine av ?_|refine aB ?_|refine ay ?_|refine aa ?_|refine ae a6 rfl rfl ?_|(apply aH; first|refine aj a6 0 rfl rfl rfl rfl rfl rfl rfl ?_|refine aj a6 1 rfl rfl rfl rfl rfl rfl rfl ?_|refine aj a6 2 rfl rfl rfl rfl rfl rfl rfl ?_|refine aj a6 3 rfl rfl rfl rfl rfl rfl rfl ?_|fail))
 refine bK (aK (L' := [dV b s F (gu 2 de.2).2, (gb, .box (jM (cE n) (100 + ad.1 * 50) mb o.1 (.imm 3 (ps.1.map cn)) (.imm 4 (an.1.map ct)) (.vec q 4 (de.1.map cW)) bI) 63)] ++ (tok q 89 4 (de.1.map cW).length ++ (tok kg 63 9 gl.length ++ []))) (Gm _)) ?_
 refine bK (bi 1 rfl fun σ vs h => cg (k := 7) (c' := .imm 4 (de.1.map cW)) h rfl fun v hv => VR.im hv) ?_
 refine bK (bY (L' := [dV b s F (gu 2 de.2).2, (gb, .box (jM (cE n) (100 + ad.1 * 50) mb o.1 (.imm 3 (ps.1.map cn)) (.imm 4 (an.1.map ct)) (.imm 4 (de.1.map cW)) bI) 63)] ++ (tok kg 63 9 gl.length ++ [])) (List.Sublist.cons_cons _ (List.Sublist.cons_cons _ (List.sublist_append_right _ _)))) ?_
 generalize e8 : (gu 2 de.2).2 = w
 refine bt 11 [(0, .v), (1, .v), (2, .v), (3, .l), (4, .v), (5, .v), (6, .v), (7, .v), (8, .v), (9, .l), (10, .v)] none ?_ trivial rfl (by kernel_rfl) (by kernel_rfl) (by kernel_rfl) mixed (by kernel_rfl) rfl
 repeat' (first|refine aE ?_|refine aZ a6 ?_|refine cI a6 0 rfl rfl rfl rfl (by first|trivial|rfl) ?_|refine cI a6 1 rfl rfl rfl rfl (by first|trivial|rfl) ?_)
 rw [hfu]
 repeat' (first|refine aZ a6 ?_|fail)
 rw [hfn, hpl]
 refine br [0, 4, 143, 147, 153] rfl rfl ?_
 refine sG (qj s hs F (n := o.1.1.length) (fn := fn) (most := 6) (by omega) (by omega) (by omega)) ?_
 generalize e9 : lL s o.1.1.length fn 6 w = hi
 unfold iJ
 repeat' (first|refine a8 ?_|refine aa ?_|refine ae a6 rfl rfl ?_|(apply aH; first|refine aj a6 0 rfl rfl rfl rfl rfl rfl rfl ?_|refine aj a6 1 rfl rfl rfl rfl rfl rfl rfl ?_|refine aj a6 2 rfl rfl rfl rfl rfl rfl rfl ?_|refine aj a6 3 rfl rfl rfl rfl rfl rfl rfl ?_|fail))
 refine bK (aK (L' := [dV b s F hi.2, (gb, .box (jM (cE n) (100 + ad.1 * 50) mb o.1 (.imm 3 (ps.1.map cn)) (.imm 4 (an.1.map ct)) (.imm 4 (de.1.map cW)) (.imm 2 (hi.1.map dH))) 63)] ++ (tok kg 63 9 gl.length ++ [])) (Gm _)) ?_
 refine bt 9 [(0, .v), (1, .v), (2, .v), (3, .v), (4, .v), (5, .l), (6, .l), (7, .v), (8, .e)] none ?_ trivial rfl (by kernel_rfl) (by kernel_rfl) (by kernel_rfl) mixed (by kernel_rfl) rfl
 repeat' (first|refine aE ?_|refine aZ a6 ?_|refine ee a6 ?_|refine cI a6 0 rfl rfl rfl rfl (by first|trivial|rfl) ?_|refine nL a6 1 rfl rfl rfl rfl (by first|trivial|rfl) ?_)
 rw [hF]
 refine fJ a6 _ rfl rfl rfl rfl (eG (A := [_, _])) (by simp; omega) (by simp; omega) (by first | trivial | rfl) fun q' => ?_
 refine br [156, 164] rfl rfl ?_
 refine aO (aK (eG (A := [_, _])).symm) ?_
 repeat' (first|refine aa ?_|refine ae a6 rfl rfl ?_|(apply aH; first|refine aj a6 0 rfl rfl rfl rfl rfl rfl rfl ?_|refine aj a6 1 rfl rfl rfl rfl rfl rfl rfl ?_|refine aj a6 2 rfl rfl rfl rfl rfl rfl rfl ?_|refine aj a6 3 rfl rfl rfl rfl rfl rfl rfl ?_|fail))
 have hv : jj s r fn n m = (⟨cE n, 100 + ad.1 * 50, mb, o.1.1, o.1.2, ps.1, an.1, de.1, hi.1⟩, hi.2) := by
  unfold jj c9
  rw [e1]
  try dsimp only
  rw [e2]
  try dsimp only
  rw [e3]
  try dsimp only
  rw [e4]
  try dsimp only
  rw [e5, hmk]
  try dsimp only
  rw [e6]
  try dsimp only
  rw [e7]
  try dsimp only
  rw [e8, e9]
  rfl
 rw [hv]
 exact ba (bY (L' := [dV b s (zM F (.vec q' 9 (gl ++ [bb ⟨cE n, 100 + ad.1 * 50, mb, o.1.1, o.1.2, ps.1, an.1, de.1, hi.1⟩]))) hi.2] ++ (tok q' 63 9 (gl ++ [bb ⟨cE n, 100 + ad.1 * 50, mb, o.1.1, o.1.2, ps.1, an.1, de.1, hi.1⟩]).length ++ [])) (List.Sublist.cons_cons _ (List.sublist_cons_self ..))) (dz rfl ⟨q', rfl⟩)
end Go.Proofs.YtjjpkibjffmceaaGreat
