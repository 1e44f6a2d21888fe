/-
  The rows of a lookup's rules: the walk.
-/
import Derived.Test.YtamjlkdanllgjaaGreatDoorM22
import Derived.Test.YtamjlkdanllgjaaGreatDoorM11
import Derived.Test.YtamjlkdanllgjaaGreatDoorM18
namespace Go.Proofs.YtamjlkdanllgjaaGreatDoor
open Go.RowKit
attribute [local irreducible] AT br AX AO Av Kt aW cZ DA cw
set_option maxRecDepth 8000
abbrev sW (rs : List bn) (cls : List Int) : List AV := [.imm 6 (rs.map bL), .imm 1 (aT cls)]
def ia (w : bn → List (List Int) × Bool) (rs : List bn) (n : Nat) : Bool := match rs[n]? with
 | some r => (w r).2
 | none => false
def of (w : bn → List (List Int) × Bool) (rs : List bn) (cls : List Int) : RD := ⟨rs.map fun r => (w r).1, bY (ia w rs) rs.length, cls, (f7 cls).toNat⟩
theorem tQ (l : List (List (List Int))) (r : List (List Int)) : gO l ++ [[.imm 1 (ba r)]] = gO (l ++ [r]) := by simp [gO]
theorem tw {l : List Int} {k : Nat} {z : Int} (h : l[k]? = some z) : f7 (l.take (k + 1)) = max (f7 (l.take k)) (z + 1) := by
 unfold f7
 rw [List.take_add_one, h]
 simp
set_option maxHeartbeats 8000000 in
theorem nz (w : bn → List (List Int) × Bool) (u : AV) (rs : List bn) (hrs : rs.length ≤ 6) (hw : ∀ r ∈ rs, gk Tryz.prog u [.agg (bL r)] [] fun c _ => c = .tup [.imm 1 (ba (w r).1), ce (w r).2]) (cls : List Int) (hcl : ∀ z ∈ cls, 0 ≤ z ∧ z ≤ 1000000) (hcl2 : cls.length ≤ 1000000) : AC Tryz.prog 281 [.agg (sW rs cls), u] [] fun c L => ∃ rb, c = f0 rb ∧ L = dW (of w rs cls) rb 0 none := by
 refine aG Tryz.func281 rfl Tryz.ntmps281 rfl fun B => ?_
 have hrl : (rs.map bL).length = rs.length := Hv ..
 have hil := bg cls
 repeat' (first|refine ae ?_|refine a6 ?_|refine ar ?_|refine a8 ?_|refine aa ?_|refine ah a7 rfl rfl ?_|refine yz (d := 15) fun _=>?_|refine b9 ?_|fail)
 rename_i rb
 refine cA (dx 0 (cs' := [.vec none 1 [], jb 0, .imm 1 (aT cls), aD 0, .vec none 2 []]) rfl fun σ vs h => mL.vrs (a := [.sc (.slice none 0 0), jb 0, .imm 1 (aT cls), aD 0, .sc (.slice none 0 0)]) (b := [.vec none 1 [], jb 0, .imm 1 (aT cls), aD 0, .vec none 2 []]) ⟨fun σ v h => er 1 h, dJ.refl _, dJ.refl _, dJ.refl _, fun σ v h => er 2 h, trivial⟩ h) ?_
 refine aI [1, 2, 5, 17, 18] (α := Nat × Option (Nat × Nat)) (fun s => [(19, aD s.1)]) (fun s => s.1 ≤ rs.length) (fun s => (rb, .box [.vec s.2 1 (gO ((rs.take s.1).map fun r => (w r).1)), jb (bY (ia w rs) s.1), .imm 1 (aT cls), aD 0, .vec none 2 []] 384) :: tok s.2 39 1 s.1) (fun s => rs.length - s.1) (0, none) rfl ⟨rfl, trivial⟩ (Nat.zero_le _) (fun _ _ h => h) ?_
 ·rintro ⟨n, q⟩ hn
  dsimp only at hn ⊢
  try dsimp only [Ht, Hs, Hr, Hn]
  repeat' (first|refine ae ?_|refine a6 ?_|refine a8 ?_|refine aa ?_|refine ah a7 rfl rfl ?_)
  refine ay rfl (fun h1 => ?_) (fun h1 => ?_)
  ·have hn2 : n < rs.length := by have := Hz h1; omega
   obtain ⟨r, hr⟩ : ∃ z, rs[n]? = some z := ⟨_, Eg hn2⟩
   have hrg : (rs.map bL)[n]? = some (bL r) := by simp [hr]
   have hwr := hw r (Hx hr)
   have htk : ((rs.take (n + 1)).map fun r => (w r).1) = ((rs.take n).map fun r => (w r).1) ++ [(w r).1] := by rw [List.take_add_one, hr]; simp
   have hbit : bY (ia w rs) (n + 1) = bY (ia w rs) n ||| (if (w r).2 = true then 2 ^ n else 0) := by
    rw [bY]
    unfold ia
    rw [hr]
   have hml : (gO ((rs.take n).map fun r => (w r).1)).length = n := by rw [pE, Hv, List.length_take]; omega
   have hsn := tQ ((rs.take n).map fun r => (w r).1) (w r).1
   rw [← htk] at hsn
   have hb1 := lp (p := ia w rs) (n := n) (by omega)
   have hb2 := Cc (n := n) (by omega)
   have hub := vb n (by omega)
   generalize gO ((rs.take n).map fun r => (w r).1) = l3 at *
   clear h1
   repeat' (first|refine ae ?_|refine a6 ?_|refine ar ?_|refine aq ?_|refine a8 ?_|refine aa ?_|refine ah a7 rfl rfl ?_|(apply aO; first|refine aN a7 ?_|refine aH a7 ?_)|(apply aQ; first|refine ai 7 a7 0 rfl rfl rfl rfl rfl rfl rfl rfl ?_|refine ai 7 a7 1 rfl rfl rfl rfl rfl rfl rfl rfl ?_|refine ai 7 a7 2 rfl rfl rfl rfl rfl rfl rfl rfl ?_|refine aj a7 0 rfl rfl rfl rfl rfl rfl rfl ?_|refine aj a7 1 rfl rfl rfl rfl rfl rfl rfl ?_|refine aj a7 2 rfl rfl rfl rfl rfl rfl rfl ?_|refine aj a7 3 rfl rfl rfl rfl rfl rfl rfl ?_|fail)|refine aY a7 fun _=>?_|fail)
   refine ji [] ((rb, .box [.vec q 1 l3, jb (bY (ia w rs) n), .imm 1 (aT cls), aD 0, .vec none 2 []] 384) :: tok q 39 1 n) hwr rfl rfl (Hp _) rfl rfl fun c L1 hc => ?_
   subst hc
   refine bq (da (List.sublist_append_right ..)) ?_
   repeat' (first|refine ae ?_|refine a6 ?_|refine a8 ?_|refine aa ?_|refine ah a7 rfl rfl ?_|(apply c9; first|refine aC a7 0 rfl rfl rfl rfl rfl ?_|refine aC a7 1 rfl rfl rfl rfl rfl ?_|refine aC a7 2 rfl rfl rfl rfl rfl ?_|refine aC a7 3 rfl rfl rfl rfl rfl ?_|refine aJ a7 0 rfl rfl rfl rfl rfl ?_|refine aJ a7 1 rfl rfl rfl rfl rfl ?_|refine aJ a7 2 rfl rfl rfl rfl rfl ?_|refine aC a7 1 rfl rfl rfl (by assumption) rfl ?_|refine aC a7 0 rfl rfl rfl (by assumption) rfl ?_|fail)|refine cE a7 ?_|fail)
   refine cP a7 [(rb, .box [.vec q 1 l3, jb (bY (ia w rs) n), .imm 1 (aT cls), aD 0, .vec none 2 []] 384)] rfl rfl rfl rfl (by rw [hml]; exact List.perm_append_comm (l₁ := [_])) (by rw [hml]; simp; omega) (by rw [hml]; simp; omega) rfl fun q' => ?_
   refine bq (bj (L' := (rb, .box [.vec q 1 l3, jb (bY (ia w rs) n), .imm 1 (aT cls), aD 0, .vec none 2 []] 384) :: tok q' 39 1 (n + 1)) (by rw [List.length_append, hml]; exact List.perm_append_comm (l₂ := [_]))) ?_
   repeat' (first|refine ae ?_|refine a6 ?_|refine a8 ?_|refine aa ?_|refine ah a7 rfl rfl ?_|(apply aQ; first|refine ai 7 a7 0 rfl rfl rfl rfl rfl rfl rfl rfl ?_|refine ai 7 a7 1 rfl rfl rfl rfl rfl rfl rfl rfl ?_|refine ai 7 a7 2 rfl rfl rfl rfl rfl rfl rfl rfl ?_|refine aj a7 0 rfl rfl rfl rfl rfl rfl rfl ?_|refine aj a7 1 rfl rfl rfl rfl rfl rfl rfl ?_|refine aj a7 2 rfl rfl rfl rfl rfl rfl rfl ?_|refine aj a7 3 rfl rfl rfl rfl rfl rfl rfl ?_|fail))
   refine ay rfl (fun h1 => ?_) (fun h1 => ?_)
   ·rw [if_pos h1] at hbit
    repeat' (first|fail)
    refine bF 6 [(0, .v), (1, .v), (2, .v), (3, .l), (4, .v), (5, .v)] none ?_ trivial rfl (by kernel_rfl) (by kernel_rfl) (by kernel_rfl) mixed (by kernel_rfl) rfl
    repeat' (first|refine aM ?_|refine bD a7 ?_|refine du a7 0 rfl rfl rfl rfl (by first|trivial|rfl) ?_)
    refine t8 n rfl rfl rfl trivial ?_
    repeat' (first|fail)
    refine bM [1, 2, 5, 17, 18, 19, 41, 44, 46] rfl rfl ?_
    refine uO rfl rfl rfl ?_
    rw [hub, u64_or_nat _ _ hb1 hb2, ← hbit]
    repeat' (first|refine a6 ?_|refine a8 ?_|refine aR ?_|refine aa ?_|refine ah a7 rfl rfl ?_|(apply b6; refine aZ ?_)|(apply aQ; first|refine ai 7 a7 0 rfl rfl rfl rfl rfl rfl rfl rfl ?_|refine ai 7 a7 1 rfl rfl rfl rfl rfl rfl rfl rfl ?_|refine ai 7 a7 2 rfl rfl rfl rfl rfl rfl rfl rfl ?_|refine aj a7 0 rfl rfl rfl rfl rfl rfl rfl ?_|refine aj a7 1 rfl rfl rfl rfl rfl rfl rfl ?_|refine aj a7 2 rfl rfl rfl rfl rfl rfl rfl ?_|refine aj a7 3 rfl rfl rfl rfl rfl rfl rfl ?_|fail))
    exact aF (n + 1, q') rfl ⟨by rw [Hw]; rfl, trivial⟩ hn2 (by dsimp only; omega) (fun _ _ h => by dsimp only; rw [← hsn]; exact h)
   ·rw [if_neg (by rw [h1]; decide), Nat.or_zero] at hbit
    repeat' (first|refine a6 ?_|refine aq ?_|refine a8 ?_|refine aR ?_|refine aa ?_|refine ah a7 rfl rfl ?_|(apply b6; refine aZ ?_)|fail)
    exact aF (n + 1, q') rfl ⟨by rw [Hw]; rfl, trivial⟩ hn2 (by dsimp only; omega) (fun _ _ h => by dsimp only; rw [← hsn, hbit]; exact h)
  ·have hn2 : n = rs.length := by have := Hy h1; omega
   subst hn2
   rw [List.take_length]
   clear h1
   repeat' (first|refine ae ?_|refine a6 ?_|refine ar ?_|refine aL ?_|refine a8 ?_|refine av ?_|refine aA ?_|refine az ?_|refine aa ?_|refine ah a7 rfl rfl ?_)
   refine aI [5, 52, 53] (α := Nat) (fun k => [(54, aD k)]) (fun k => k ≤ cls.length) (fun k => (rb, .box [.vec q 1 (gO (rs.map fun r => (w r).1)), jb (bY (ia w rs) rs.length), .imm 1 (aT cls), aD (f7 (cls.take k)), .vec none 2 []] 384) :: tok q 39 1 rs.length) (fun k => cls.length - k) 0 rfl ⟨rfl, trivial⟩ (Nat.zero_le _) (fun _ _ h => h) fun k hk => ?_
   try dsimp only [Ht, Hs, Hr, Hn]
   repeat' (first|refine ae ?_|refine a6 ?_|refine a8 ?_|refine aa ?_|refine ah a7 rfl rfl ?_)
   refine ay rfl (fun h1 => ?_) (fun h1 => ?_)
   ·have hk2 : k < cls.length := by have := Hz h1; omega
    obtain ⟨z, hz⟩ : ∃ z, cls[k]? = some z := ⟨_, Eg hk2⟩
    have hzg := bU hz
    have hzb := hcl z (Hx hz)
    have hmc := tw hz
    clear h1
    repeat' (first|refine ae ?_|refine a6 ?_|refine ar ?_|refine aq ?_|refine a8 ?_|refine aR ?_|refine aa ?_|refine ah a7 rfl rfl ?_|(apply c9; first|refine aC a7 0 rfl rfl rfl rfl rfl ?_|refine aC a7 1 rfl rfl rfl rfl rfl ?_|refine aC a7 2 rfl rfl rfl rfl rfl ?_|refine aC a7 3 rfl rfl rfl rfl rfl ?_|refine aJ a7 0 rfl rfl rfl rfl rfl ?_|refine aJ a7 1 rfl rfl rfl rfl rfl ?_|refine aJ a7 2 rfl rfl rfl rfl rfl ?_|refine aC a7 1 rfl rfl rfl (by assumption) rfl ?_|refine aC a7 0 rfl rfl rfl (by assumption) rfl ?_|fail)|(apply b6; refine aZ ?_)|(apply aO; first|refine aN a7 ?_|refine aH a7 ?_)|(apply aQ; first|refine ai 7 a7 0 rfl rfl rfl rfl rfl rfl rfl rfl ?_|refine ai 7 a7 1 rfl rfl rfl rfl rfl rfl rfl rfl ?_|refine ai 7 a7 2 rfl rfl rfl rfl rfl rfl rfl rfl ?_|refine aj a7 0 rfl rfl rfl rfl rfl rfl rfl ?_|refine aj a7 1 rfl rfl rfl rfl rfl rfl rfl ?_|refine aj a7 2 rfl rfl rfl rfl rfl rfl rfl ?_|refine aj a7 3 rfl rfl rfl rfl rfl rfl rfl ?_|fail))
    exact aF (k + 1) rfl ⟨by rw [Hw]; rfl, trivial⟩ hk2 (by omega) (fun _ _ h => by rw [hmc]; exact h)
   ·have hk2 : k = cls.length := by have := Hy h1; omega
    subst hk2
    rw [List.take_length]
    clear h1
    repeat' (first|refine ae ?_|refine a6 ?_|refine am ?_|refine aL ?_|refine a8 ?_|refine av ?_|refine aA ?_|refine az ?_|refine aa ?_|refine ah a7 rfl rfl ?_)
    have hC : (f7 cls) = (((f7 cls).toNat : Nat) : Int) := by have := (nV (l := cls) (m := 0)).1; unfold f7; omega
    refine bf (dx 0 (cs' := Al (of w rs cls) (.vec none 2 (w8 (of w rs cls) 0))) rfl fun σ vs h => mL.vrs (a := [.vec q 1 (gO (rs.map fun r => (w r).1)), jb (bY (ia w rs) rs.length), .imm 1 (aT cls), aD (f7 cls), .vec none 2 []]) (b := Al (of w rs cls) (.vec none 2 (w8 (of w rs cls) 0))) ⟨fun σ v h => VR.im h, dJ.refl _, dJ.refl _, by unfold of; dsimp only; rw [← hC]; exact dJ.refl _, dJ.refl _, trivial⟩ h) ?_
    refine cB (L' := dW (of w rs cls) rb 0 none) (List.sublist_append_left [_] _) ?_
    exact au rfl rfl ⟨rb, rfl, rfl⟩
def mc (r : bn) : List (List Int) × Bool := (dV r, !r.In.isEmpty)
def nj (r : bn) : List (List Int) × Bool := (r.Back, true)
structure x2 (rs : List bn) (cls : List Int) : Prop where
 few : rs.length ≤ 6
 dom : ∀ z ∈ cls, 0 ≤ z ∧ z ≤ 1000000
 len : cls.length ≤ 1000000
 rows : ∀ r ∈ rs, r.In.length ≤ 1000000 ∧ r.Ahead.length ≤ 1000000
theorem y0 {rs : List bn} {cls : List Int} (h : x2 rs cls) : AC Tryz.prog 220 [.agg (sW rs cls)] [] fun c L => ∃ rb, c = f0 rb ∧ L = dW (of mc rs cls) rb 0 none := by
 refine aG Tryz.func220 rfl Tryz.ntmps220 rfl fun B => ?_
 have hc := nz mc (.sc (.func (.func 282) #[] #[])) rs h.few (fun r hr => gk.fn0 (f := 282) (by rw [List.append_nil]; exact vP r (h.rows r hr).1 (h.rows r hr).2)) cls h.dom h.len
 repeat' (first|refine ae ?_|refine a6 ?_|refine a8 ?_|refine aa ?_|refine ah a7 rfl rfl ?_|refine b9 ?_|fail)
 refine aV [] [] hc rfl rfl (Hp _) rfl fun c L1 ⟨rb, hc1, hL⟩ => ?_
 subst hc1; subst hL
 repeat' (first|refine am ?_|refine a8 ?_|refine aa ?_|refine ah a7 rfl rfl ?_)
 exact au rfl rfl ⟨rb, rfl, by rw [List.append_nil]⟩
theorem xB {rs : List bn} {cls : List Int} (h : x2 rs cls) : AC Tryz.prog 221 [.agg (sW rs cls)] [] fun c L => ∃ rb, c = f0 rb ∧ L = dW (of nj rs cls) rb 0 none := by
 refine aG Tryz.func221 rfl Tryz.ntmps221 rfl fun B => ?_
 have hc := nz nj (.sc (.func (.func 283) #[] #[])) rs h.few (fun r _ => gk.fn0 (f := 283) (by rw [List.append_nil]; exact vr r)) cls h.dom h.len
 repeat' (first|refine ae ?_|refine a6 ?_|refine a8 ?_|refine aa ?_|refine ah a7 rfl rfl ?_|refine b9 ?_|fail)
 refine aV [] [] hc rfl rfl (Hp _) rfl fun c L1 ⟨rb, hc1, hL⟩ => ?_
 subst hc1; subst hL
 repeat' (first|refine am ?_|refine a8 ?_|refine aa ?_|refine ah a7 rfl rfl ?_)
 exact au rfl rfl ⟨rb, rfl, by rw [List.append_nil]⟩
set_option maxRecDepth 8000
structure SS where
 M : List Pl
 q : Option (Nat × Nat)
 k : Nat
 qr : Option (Nat × Nat)
abbrev nK (R : RD) (nb kb mb rb : Nat) (s : SS) (X : AL) : AL := (nb, .box [.sc (.map (some kb))] 196) :: (kb, bP .string (qN s.M)) :: (mb, .box [.vec s.q 2 (s.M.map jQ)] 375) :: og R rb s.k s.qr :: (tok s.q 377 2 s.M.length ++ (tok s.qr 444 2 s.k ++ X))
theorem q8 {R : RD} {nb kb mb rb : Nat} {s : SS} {X : AL} : (nK R nb kb mb rb s X).Perm (ql nb kb mb s.M s.q ++ (og R rb s.k s.qr :: (tok s.qr 444 2 s.k ++ X))) := by
 unfold ql
 refine List.Perm.cons _ (List.Perm.cons _ (List.Perm.cons _ ?_))
 exact (List.perm_middle (l₁ := tok s.q 377 2 s.M.length)).symm
theorem kD {R : RD} {nb kb mb rb : Nat} {s : SS} {X : AL} : (nK R nb kb mb rb s X).Perm (dW R rb s.k s.qr ++ ((nb, .box [.sc (.map (some kb))] 196) :: (kb, bP .string (qN s.M)) :: (mb, .box [.vec s.q 2 (s.M.map jQ)] 375) :: (tok s.q 377 2 s.M.length ++ X))) := by
 have h1 : (nK R nb kb mb rb s X).Perm (og R rb s.k s.qr :: ([(nb, .box [.sc (.map (some kb))] 196), (kb, bP .string (qN s.M)), (mb, .box [.vec s.q 2 (s.M.map jQ)] 375)] ++ (tok s.q 377 2 s.M.length ++ (tok s.qr 444 2 s.k ++ X)))) := List.perm_middle (l₁ := [_, _, _])
 refine h1.trans (List.Perm.cons _ ?_)
 rw [← List.append_assoc]
 refine (List.perm_append_comm_assoc _ (tok s.qr 444 2 s.k) X).trans ?_
 rw [List.append_assoc]
 exact Hp _
theorem rH {R : RD} {nb kb mb rb : Nat} {s : SS} {X : AL} {a : Nat × AB} : (a :: nK R nb kb mb rb s X).Perm (ql nb kb mb s.M s.q ++ (a :: og R rb s.k s.qr :: (tok s.qr 444 2 s.k ++ X))) := (List.Perm.cons a q8).trans List.perm_middle.symm
theorem rI {R : RD} {nb kb mb rb : Nat} {s : SS} {X : AL} {a : Nat × AB} : (a :: nK R nb kb mb rb s X).Perm (dW R rb s.k s.qr ++ (a :: (nb, .box [.sc (.map (some kb))] 196) :: (kb, bP .string (qN s.M)) :: (mb, .box [.vec s.q 2 (s.M.map jQ)] 375) :: (tok s.q 377 2 s.M.length ++ X))) := (List.Perm.cons a kD).trans List.perm_middle.symm
theorem Gr {a b c : Nat × AB} {X : AL} : (a :: b :: c :: X).Perm (b :: c :: a :: X) := (List.Perm.swap b a _).trans (.cons b (List.Perm.swap c a _))
theorem Gs {A T1 T2 T R : AL} : (A ++ (T1 ++ (T2 ++ (T ++ R)))).Perm (T ++ (A ++ (T1 ++ (T2 ++ R)))) := by
 rw [← List.append_assoc T1, ← List.append_assoc A, ← List.append_assoc T1 T2 R, ← List.append_assoc A (T1 ++ T2) R]
 exact List.perm_append_comm_assoc ..
theorem Gt {A T1 T2 T3 T4 : AL} : (A ++ (T1 ++ (T2 ++ (T3 ++ T4)))).Perm (T4 ++ (A ++ (T1 ++ (T2 ++ T3)))) := by
 rw [← List.append_assoc T2, ← List.append_assoc T1, ← List.append_assoc A]
 exact List.perm_append_comm
abbrev EX (R : RD) (nb kb mb rb : Nat) (s : SS) : AL := [(nb, .box [.sc (.map (some kb))] 196), (kb, bP .string (qN s.M)), (mb, .box [.vec s.q 2 (s.M.map jQ)] 375), og R rb s.k s.qr]
theorem uG {R : RD} {nb kb mb rb : Nat} {s : SS} {T X : AL} : (nK R nb kb mb rb s (T ++ X)).Perm (T ++ nK R nb kb mb rb s X) := Gs (A := EX R nb kb mb rb s)
theorem uF {R : RD} {nb kb mb rb : Nat} {s : SS} {T X : AL} : (nK R nb kb mb rb s (T ++ X)).Perm (X ++ nK R nb kb mb rb s T) := Gt (A := EX R nb kb mb rb s)
structure GC where
 s : SS
 tab : List (List Int)
 qt : Option (Nat × Nat)
 ends : List Nat
 qe : Option (Nat × Nat)
abbrev Hc (t : GC) : AL := tok t.qt 22 1 t.tab.length ++ tok t.qe 194 1 t.ends.length
theorem mj {M : List Pl} {n : Nat} {p : Pl} (h : M[n]? = some p) : (M.map jQ)[n]? = some (jQ p) := by simp [h]
structure x3 (R : RD) (hv : Nat → Bool) (Lb : Nat) : Prop where
 ok : wY R
 has : R.have_ = bY hv R.rows.length
 long : ∀ r ∈ R.rows, r.length ≤ Lb
 few : Lb ≤ 200
theorem x3.small {R : RD} {hv : Nat → Bool} {Lb : Nat} (h : x3 R hv Lb) {M : List Pl} (hs : gx R.rows hv Lb M) : (∀ x ∈ M, iI x) ∧ M.length ≤ 20000 := by
 have hf := h.few
 have hr := h.ok.few
 have h64 : 2 ^ R.rows.length ≤ 64 := Nat.pow_le_pow_right (n := 2) (by omega) hr
 constructor
 ·intro x hx
  obtain ⟨h1, h2⟩ := hs.small x hx
  exact ⟨by omega, by omega⟩
 ·have := hs.few
  have h3 : (Lb + 1) * 2 ^ R.rows.length ≤ 201 * 64 := Nat.mul_le_mul (by omega) h64
  omega
set_option maxHeartbeats 16000000 in
theorem pI (R : RD) (hv : Nat → Bool) (Lb : Nat) (h : x3 R hv Lb) (u : AV) (hu : gk Tryz.prog u [] [] fun c L => ∃ rb, c = f0 rb ∧ L = dW R rb 0 none) : AC Tryz.prog 219 [u] [] fun c _ => ∃ tab ends, oW R.cls R.rows hv R.C tab ends ∧ c = .tup [.imm 1 (ba tab), .imm 1 (f4 ends), ce true] := by
 refine aG Tryz.func219 rfl Tryz.ntmps219 rfl fun B => ?_
 repeat' (first|refine ae ?_|refine a6 ?_|refine a8 ?_|refine aa ?_|refine ah a7 rfl rfl ?_)
 refine ji [] [] hu rfl rfl (Hp _) rfl rfl fun c L1 ⟨rb, hc, hL⟩ => ?_
 subst hc; subst hL
 repeat' (first|refine ae ?_|refine a6 ?_|refine a8 ?_|refine aa ?_|refine ah a7 rfl rfl ?_)
 refine dg .string fun kb => ?_
 repeat' (first|refine ae ?_|refine a6 ?_|refine a8 ?_|refine aa ?_|refine ah a7 rfl rfl ?_|(apply aQ; first|refine ai 12 a7 0 rfl rfl rfl rfl rfl rfl rfl rfl ?_|refine ai 12 a7 1 rfl rfl rfl rfl rfl rfl rfl rfl ?_|refine ai 12 a7 2 rfl rfl rfl rfl rfl rfl rfl rfl ?_|refine aj a7 0 rfl rfl rfl rfl rfl rfl rfl ?_|refine aj a7 1 rfl rfl rfl rfl rfl rfl rfl ?_|refine aj a7 2 rfl rfl rfl rfl rfl rfl rfl ?_|refine aj a7 3 rfl rfl rfl rfl rfl rfl rfl ?_|fail)|refine aY a7 fun _=>?_|fail)
 rename_i nb mb
 have hok := h.ok
 obtain ⟨hCm, hNm⟩ := hok.many
 refine bq (dx 0 (cs' := [.vec none 2 []]) rfl fun σ vs hh => mL.vrs (a := [.sc (.slice none 0 0)]) (b := [.vec none 2 []]) ⟨fun σ v h => er 2 h, trivial⟩ hh) ?_
 refine bq (bj (L' := nK R nb kb mb rb ⟨[], none, 0, none⟩ []) (by unfold nK; rw [BQ]; exact Gr)) ?_
 refine aV (dW R rb 0 none) _ (wp R rb 0 none (by omega)) rfl rfl kD rfl fun c L1 ⟨hc, k0, qr0, hk0, hL⟩ => ?_
 subst hc; subst hL
 refine bq (bj (L' := nK R nb kb mb rb ⟨[], none, k0, qr0⟩ []) (kD (s := ⟨[], none, k0, qr0⟩)).symm) ?_
 have hst0 : gx R.rows hv Lb [((0, R.have_) : Pl)] := by
  have := gx.start (rows := R.rows) (have_ := hv) (L := Lb)
  unfold jU at this
  rwa [← h.has] at this
 have hsm0 := (h.small hst0).1 (0, R.have_) (by simp)
 have hme0 := uL nb kb mb [] (fun x hx => by cases hx) (by simp) none (0, R.have_) hsm0
 repeat' (first|fail)
 refine ji (ql nb kb mb [] none) _ (gk.fn (f := 276) (caps := [f0 nb, f0 mb]) hme0) rfl rfl q8 rfl rfl fun c L1 ⟨hc, q0, hL⟩ => ?_
 subst hc; subst hL
 refine bq (bj (L' := nK R nb kb mb rb ⟨[(0, R.have_)], q0, k0, qr0⟩ []) (q8 (s := ⟨[(0, R.have_)], q0, k0, qr0⟩)).symm) ?_
 repeat' (first|refine ae ?_|refine a6 ?_|refine ar ?_|refine a8 ?_|refine aa ?_|refine ah a7 rfl rfl ?_)
 refine cA (bA (t := 2) (c' := .vec none 1 (ba [])) rfl fun σ v h => er 1 h) ?_
 refine cA (bA (t := 3) (c' := .vec none 1 (f4 [])) rfl fun σ v h => er 1 h) ?_
 refine aI [5, 7, 8] (α := GC) (fun t => [(9, aD t.tab.length), (2, .vec t.qt 1 (ba t.tab)), (3, .vec t.qe 1 (f4 t.ends))]) (fun t => gx R.rows hv Lb t.s.M ∧ f9 R.cls R.rows R.C t.s.M t.tab t.ends ∧ t.tab.length ≤ t.s.M.length ∧ t.s.k ≤ 1000001) (fun t => nK R nb kb mb rb t.s (Hc t)) (fun t => 20000 - t.tab.length) ⟨⟨[(0, R.have_)], q0, k0, qr0⟩, [], none, [], none⟩ rfl ⟨rfl, rfl, rfl, trivial⟩ ⟨hst0, f9.nil, Nat.zero_le _, hk0⟩ (fun _ _ hh => hh) ?_
 rintro ⟨⟨M, q, k, qr⟩, tab, qt, ends, qe⟩ ⟨hst, htb, htl, hk⟩
 dsimp only at hst htb htl hk ⊢
 try dsimp only [Ht, Hs, Hr, Hn]
 have hml : (M.map jQ).length = M.length := Hv ..
 obtain ⟨hsm, hM2⟩ := h.small hst
 repeat' (first|refine ae ?_|refine a6 ?_|refine a8 ?_|refine aa ?_|refine ah a7 rfl rfl ?_|(apply c9; first|refine aC a7 0 rfl rfl rfl rfl rfl ?_|refine aC a7 1 rfl rfl rfl rfl rfl ?_|refine aC a7 2 rfl rfl rfl rfl rfl ?_|refine aC a7 3 rfl rfl rfl rfl rfl ?_|refine aJ a7 0 rfl rfl rfl rfl rfl ?_|refine aJ a7 1 rfl rfl rfl rfl rfl ?_|refine aJ a7 2 rfl rfl rfl rfl rfl ?_|refine aC a7 1 rfl rfl rfl (by assumption) rfl ?_|refine aC a7 0 rfl rfl rfl (by assumption) rfl ?_|fail)|fail)
 refine ay rfl (fun h1 => ?_) (fun h1 => ?_)
 ·have hn2 : tab.length < M.length := by have h1' : (tab.length : Int) < ((M.map jQ).length : Int) := Hz h1; omega
  obtain ⟨p, hp⟩ : ∃ p, M[tab.length]? = some p := ⟨_, Eg hn2⟩
  clear h1
  repeat' (first|refine ae ?_|refine a6 ?_|refine ar ?_|refine aq ?_|refine a8 ?_|refine ah a7 rfl rfl ?_|(apply c9; first|refine aC a7 0 rfl rfl rfl rfl rfl ?_|refine aC a7 1 rfl rfl rfl rfl rfl ?_|refine aC a7 2 rfl rfl rfl rfl rfl ?_|refine aC a7 3 rfl rfl rfl rfl rfl ?_|refine aJ a7 0 rfl rfl rfl rfl rfl ?_|refine aJ a7 1 rfl rfl rfl rfl rfl ?_|refine aJ a7 2 rfl rfl rfl rfl rfl ?_|refine aC a7 1 rfl rfl rfl (by assumption) rfl ?_|refine aC a7 0 rfl rfl rfl (by assumption) rfl ?_|fail)|fail)
  refine dv a7 R.C rfl rfl rfl rfl rfl rfl rfl (by omega) (by omega) rfl fun rwb => ?_
  rw [show (List.replicate R.C (List.map AV.sc [Value.int .i64 0])).flatten = cY (List.replicate R.C 0) from m6 R.C]
  repeat' (first|refine ae ?_|refine a6 ?_|refine ar ?_|refine a8 ?_|refine aa ?_|refine ah a7 rfl rfl ?_)
  refine aI [2, 3, 5, 7, 8, 9, 10, 33] (α := Nat × SS × List Int) (fun t => [(34, aD t.1)]) (fun t => t.1 ≤ R.C ∧ gx R.rows hv Lb t.2.1.M ∧ f9 R.cls R.rows R.C t.2.1.M tab ends ∧ t.2.1.M[tab.length]? = some p ∧ t.2.2.length = R.C ∧ t.2.1.k ≤ 1000001 ∧ ∀ (c : Nat) z, c < t.1 → t.2.2[c]? = some z → gj R.cls R.rows t.2.1.M p c z) (fun t => (rwb, .box (cY t.2.2) 3) :: nK R nb kb mb rb t.2.1 (tok qt 22 1 tab.length ++ tok qe 194 1 ends.length)) (fun t => R.C - t.1) (0, ⟨M, q, k, qr⟩, List.replicate R.C 0) rfl ⟨rfl, trivial⟩ ⟨Nat.zero_le _, hst, htb, hp, by simp, hk, fun c z hc => by omega⟩ (fun _ _ hh => hh) ?_
  ·rintro ⟨c, ⟨M1, q1, k1, qr1⟩, eg⟩ ⟨hc, hst1, htb1, hp1, hrl, hk1, hce⟩
   dsimp only at hc hst1 htb1 hp1 hrl hk1 hce ⊢
   try dsimp only [Ht, Hs, Hr, Hn]
   have hcl := fQ eg
   obtain ⟨hsm1, hM1⟩ := h.small hst1
   repeat' (first|refine ae ?_|refine a6 ?_|refine a8 ?_|refine aa ?_|refine ah a7 rfl rfl ?_)
   refine ay rfl (fun h1 => ?_) (fun h1 => ?_)
   ·have hc2 : c < R.C := by have := Hz h1; omega
    have hpg := mj hp1
    have hps := hst1.small p (Hx hp1)
    have hps2 := hsm1 p (Hx hp1)
    have hbe := vu R hok rb k1 qr1 hk1 p (by have := hps2.1; omega) (by have := hps2.2; omega) c hc2
    have hst' := fR (l := eg) (i := c) (z := -1)
    clear h1
    repeat' (first|refine ae ?_|refine a6 ?_|refine ar ?_|refine aq ?_|refine a8 ?_|refine aa ?_|refine ah a7 rfl rfl ?_|(apply aO; first|refine aN a7 ?_|refine aH a7 ?_)|fail)
    refine aj a7 0 rfl rfl rfl rfl rfl rfl (Nat.ble_eq_true_of_le (by rw [hcl, hrl, Int.toNat_natCast]; show 0 + c * 1 + 1 ≤ _; omega)) ?_
    rw [hst']
    refine aa ?_
    refine a8 ?_
    refine cA (bj (L' := (rwb, .box (cY (eg.set c (-1))) 3) :: nK R nb kb mb rb ⟨M1, q1, k1, qr1⟩ (tok qt 22 1 tab.length ++ tok qe 194 1 ends.length)) (Hp _)) ?_
    repeat' (first|refine ae ?_|refine a6 ?_|refine ah a7 rfl rfl ?_|(apply c9; first|refine aC a7 0 rfl rfl rfl rfl rfl ?_|refine aC a7 1 rfl rfl rfl rfl rfl ?_|refine aC a7 2 rfl rfl rfl rfl rfl ?_|refine aC a7 3 rfl rfl rfl rfl rfl ?_|refine aJ a7 0 rfl rfl rfl rfl rfl ?_|refine aJ a7 1 rfl rfl rfl rfl rfl ?_|refine aJ a7 2 rfl rfl rfl rfl rfl ?_|refine aC a7 1 rfl rfl rfl (by assumption) rfl ?_|refine aC a7 0 rfl rfl rfl (by assumption) rfl ?_|fail)|(apply aO; first|refine aN a7 ?_|refine aH a7 ?_)|fail)
    refine aV (dW R rb k1 qr1) _ hbe rfl rfl rI rfl fun c1 L1 ⟨hc1, k2, qr2, hk2, hL⟩ => ?_
    subst hc1; subst hL
    refine bq (bj (L' := (rwb, .box (cY (eg.set c (-1))) 3) :: nK R nb kb mb rb ⟨M1, q1, k2, qr2⟩ (tok qt 22 1 tab.length ++ tok qe 194 1 ends.length)) (rI (s := ⟨M1, q1, k2, qr2⟩)).symm) ?_
    have hrs : (eg.set c (-1)).length = R.C := by rw [List.length_set]; exact hrl
    have hrs2 := fQ (eg.set c (-1))
    repeat' (first|refine ae ?_|refine a6 ?_|refine a8 ?_|refine aa ?_|refine ah a7 rfl rfl ?_|(apply aQ; first|refine ai 12 a7 0 rfl rfl rfl rfl rfl rfl rfl rfl ?_|refine ai 12 a7 1 rfl rfl rfl rfl rfl rfl rfl rfl ?_|refine ai 12 a7 2 rfl rfl rfl rfl rfl rfl rfl rfl ?_|refine aj a7 0 rfl rfl rfl rfl rfl rfl rfl ?_|refine aj a7 1 rfl rfl rfl rfl rfl rfl rfl ?_|refine aj a7 2 rfl rfl rfl rfl rfl rfl rfl ?_|refine aj a7 3 rfl rfl rfl rfl rfl rfl rfl ?_|fail)|refine aY a7 fun _=>?_|fail)
    refine ay rfl (fun h1 => ?_) (fun h1 => ?_)
    ·have hne : (bN R.cls R.rows p c).2 ≠ 0 := by
      intro e
      have h1' : ((bN R.cls R.rows p c).2 : Int) ≠ 0 := Hz h1
      rw [e] at h1'
      exact h1' rfl
     have hst2 := hst1.meet h.long hne
     have hsm2 := (h.small hst2).1
     have hme := uL nb kb mb M1 hsm1 (by omega) q1 (bN R.cls R.rows p c) (hsm2 _ (j6 _ _))
     have hput := fR (l := eg.set c (-1)) (i := c) (z := ((df M1 (bN R.cls R.rows p c)).idxOf (bN R.cls R.rows p c) : Nat))
     have hcn := gj.new (M := M1) hne
     have htm := htb1.more (by have := (Hq hp1).1; omega) (bN R.cls R.rows p c)
     have hpm := l4 (bN R.cls R.rows p c) hp1
     have hcm : ∀ (c' : Nat) z, c' < c → eg[c']? = some z → gj R.cls R.rows (df M1 (bN R.cls R.rows p c)) p c' z := fun c' z h1 h2 => (hce c' z h1 h2).more
     clear h1
     repeat' (first|refine a6 ?_|refine ah a7 rfl rfl ?_)
     refine ji (ql nb kb mb M1 q1) _ (gk.fn (f := 276) (caps := [f0 nb, f0 mb]) hme) rfl rfl rH rfl rfl fun c2 L2 ⟨hc2', q2, hL⟩ => ?_
     subst hc2'; subst hL
     refine bq (bj (L' := (rwb, .box (cY (eg.set c (-1))) 3) :: nK R nb kb mb rb ⟨df M1 (bN R.cls R.rows p c), q2, k2, qr2⟩ (tok qt 22 1 tab.length ++ tok qe 194 1 ends.length)) (rH (s := ⟨df M1 (bN R.cls R.rows p c), q2, k2, qr2⟩)).symm) ?_
     repeat' (first|(apply aO; first|refine aN a7 ?_|refine aH a7 ?_)|fail)
     refine aj a7 0 rfl rfl rfl rfl rfl rfl (Nat.ble_eq_true_of_le (by rw [hrs2, hrs, Int.toNat_natCast]; show 0 + c * 1 + 1 ≤ _; omega)) ?_
     rw [hput]
     repeat' (first|refine a6 ?_|refine a8 ?_|refine aR ?_|refine aa ?_|refine ah a7 rfl rfl ?_|(apply b6; refine aZ ?_)|fail)
     refine aF (c + 1, ⟨df M1 (bN R.cls R.rows p c), q2, k2, qr2⟩, (eg.set c (-1)).set c ((df M1 (bN R.cls R.rows p c)).idxOf (bN R.cls R.rows p c) : Nat)) rfl ⟨by rw [Hw]; rfl, trivial⟩ ⟨hc2, hst2, htm, hpm, by rw [List.length_set]; exact hrs, hk2, fun c' z h1 h2 => ?_⟩ (by dsimp only; omega) (fun _ _ hh => hh)
     by_cases he : c' = c
     ·subst he
      rw [List.getElem?_set_self (by omega)] at h2
      cases h2
      exact hcn
     ·rw [List.getElem?_set_ne (fun e => he e.symm), List.getElem?_set_ne (fun e => he e.symm)] at h2
      exact hcm c' z (by dsimp only at h1; omega) h2
    ·have he0 : (bN R.cls R.rows p c).2 = 0 := by
      have h1' : ¬ ((bN R.cls R.rows p c).2 : Int) ≠ 0 := Hy h1
      omega
     clear h1
     repeat' (first|refine a6 ?_|refine aq ?_|refine a8 ?_|refine aR ?_|refine aa ?_|refine ah a7 rfl rfl ?_|(apply b6; refine aZ ?_)|fail)
     refine aF (c + 1, ⟨M1, q1, k2, qr2⟩, eg.set c (-1)) rfl ⟨by rw [Hw]; rfl, trivial⟩ ⟨hc2, hst1, htb1, hp1, hrs, hk2, fun c' z h1 h2 => ?_⟩ (by dsimp only; omega) (fun _ _ hh => hh)
     by_cases he : c' = c
     ·subst he
      rw [List.getElem?_set_self (by omega)] at h2
      cases h2
      exact .inl ⟨he0, rfl⟩
     ·rw [List.getElem?_set_ne (fun e => he e.symm)] at h2
      exact hce c' z (by dsimp only at h1; omega) h2
   ·have hc2 : c = R.C := by have := Hy h1; omega
    subst hc2
    have hn3 : tab.length < M1.length := (Hq hp1).1
    have hpg := mj hp1
    have hps2 := hsm1 p (Hx hp1)
    have hml1 : (M1.map jQ).length = M1.length := Hv ..
    have hen := AU R hok rb k1 qr1 hk1 p (by have := hps2.1; omega) (by have := hps2.2; omega)
    have htl3 := c8 tab
    have hul3 := oC ends
    have hsn := htb1.snoc hp1 hrl fun c' z h2 => hce c' z (by have := (Hq h2).1; omega) h2
    have hel := htb1.len
    clear h1
    repeat' (first|refine ae ?_|refine a6 ?_|refine aL ?_|refine a8 ?_|refine av ?_|refine aA ?_|refine az ?_|refine aa ?_|refine ah a7 rfl rfl ?_|(apply c9; first|refine aC a7 0 rfl rfl rfl rfl rfl ?_|refine aC a7 1 rfl rfl rfl rfl rfl ?_|refine aC a7 2 rfl rfl rfl rfl rfl ?_|refine aC a7 3 rfl rfl rfl rfl rfl ?_|refine aJ a7 0 rfl rfl rfl rfl rfl ?_|refine aJ a7 1 rfl rfl rfl rfl rfl ?_|refine aJ a7 2 rfl rfl rfl rfl rfl ?_|refine aC a7 1 rfl rfl rfl (by assumption) rfl ?_|refine aC a7 0 rfl rfl rfl (by assumption) rfl ?_|fail)|fail)
    refine ay rfl (fun h1 => ?_) (fun h1 => ?_)
    ·have h1' : (20000 : Int) < ((M1.map jQ).length : Int) := Hz h1
     omega
    clear h1
    refine cA (cy (t := 10) (sz := 1) (n := R.C) (cap := R.C) (l := aT eg) 0 rfl rfl (by rw [← m5, Nat.mul_one, List.take_of_length_le (by omega)]) (by omega) (fun e he => by unfold aT at he; obtain ⟨y, _, rfl⟩ := List.mem_map.1 he; rfl) (by rw [bg]; exact hrl) (Nat.le_refl _) (by unfold maxLen; omega)) ?_
    repeat' (first|refine ae ?_|refine a6 ?_|refine aq ?_|refine a8 ?_|refine ah a7 rfl rfl ?_|refine cE a7 ?_|fail)
    refine cP a7 (nK R nb kb mb rb ⟨M1, q1, k1, qr1⟩ (tok qe 194 1 ends.length)) rfl rfl rfl rfl (by rw [htl3]; exact uG) (by rw [htl3]; simp; omega) (by rw [htl3]; simp; omega) rfl fun qt' => ?_
    have hrsn : ba tab ++ [[AV.imm 1 (aT eg)]] = ba (tab ++ [eg]) := by simp [ba]
    refine bq (bj (L' := nK R nb kb mb rb ⟨M1, q1, k1, qr1⟩ (tok qt' 22 1 (ba tab ++ [[AV.imm 1 (aT eg)]]).length ++ tok qe 194 1 ends.length)) uG.symm) ?_
    repeat' (first|refine a6 ?_|refine a8 ?_|refine aa ?_|refine ah a7 rfl rfl ?_|(apply c9; first|refine aC a7 0 rfl rfl rfl rfl rfl ?_|refine aC a7 1 rfl rfl rfl rfl rfl ?_|refine aC a7 2 rfl rfl rfl rfl rfl ?_|refine aC a7 3 rfl rfl rfl rfl rfl ?_|refine aJ a7 0 rfl rfl rfl rfl rfl ?_|refine aJ a7 1 rfl rfl rfl rfl rfl ?_|refine aJ a7 2 rfl rfl rfl rfl rfl ?_|refine aC a7 1 rfl rfl rfl (by assumption) rfl ?_|refine aC a7 0 rfl rfl rfl (by assumption) rfl ?_|fail)|(apply aO; first|refine aN a7 ?_|refine aH a7 ?_)|fail)
    refine aV (dW R rb k1 qr1) _ hen rfl rfl kD rfl fun c1 L1 ⟨hc1, k2, qr2, hk2, hL⟩ => ?_
    subst hc1; subst hL
    refine bq (bj (L' := nK R nb kb mb rb ⟨M1, q1, k2, qr2⟩ (tok qt' 22 1 (ba tab ++ [[AV.imm 1 (aT eg)]]).length ++ tok qe 194 1 ends.length)) (kD (s := ⟨M1, q1, k2, qr2⟩)).symm) ?_
    repeat' (first|refine cE a7 ?_|fail)
    refine cP a7 (nK R nb kb mb rb ⟨M1, q1, k2, qr2⟩ (tok qt' 22 1 (ba tab ++ [[AV.imm 1 (aT eg)]]).length)) rfl rfl rfl rfl (by rw [hul3]; exact uF) (by rw [hul3]; simp; omega) (by rw [hul3]; simp; omega) rfl fun qe' => ?_
    have husn : f4 ends ++ [[jb (gB R.rows p)]] = f4 (ends ++ [gB R.rows p]) := by simp [f4]
    refine bq (bj (L' := nK R nb kb mb rb ⟨M1, q1, k2, qr2⟩ (tok qt' 22 1 (ba tab ++ [[AV.imm 1 (aT eg)]]).length ++ tok qe' 194 1 (f4 ends ++ [[jb (gB R.rows p)]]).length)) uF.symm) ?_
    repeat' (first|refine a6 ?_|refine a8 ?_|refine aR ?_|refine aa ?_|refine ah a7 rfl rfl ?_|(apply b6; refine aZ ?_)|fail)
    have hll : (tab ++ [eg]).length = tab.length + 1 := by simp
    refine aF ⟨⟨M1, q1, k2, qr2⟩, tab ++ [eg], qt', ends ++ [gB R.rows p], qe'⟩ rfl ⟨?_, by dsimp only; rw [← hrsn]; rfl, by dsimp only; rw [← husn]; rfl, trivial⟩ ⟨hst1, hsn, by dsimp only; omega, hk2⟩ (by dsimp only; omega) (fun _ _ hh => ?_)
    ·dsimp only
     rw [hll, Hw]
     rfl
    ·dsimp only
     rw [hrsn, husn, c8, oC] at hh
     exact hh
 ·have hn2 : tab.length = M.length := by
   have h1' : ¬ (tab.length : Int) < ((M.map jQ).length : Int) := Hy h1
   omega
  clear h1
  repeat' (first|refine ae ?_|refine a6 ?_|refine am ?_|refine aL ?_|refine a8 ?_|refine av ?_|refine aA ?_|refine az ?_|refine aa ?_|refine ah a7 rfl rfl ?_)
  refine bf (bA (t := 2) (c' := .imm 1 (ba tab)) rfl fun σ v h => VR.im h) ?_
  refine bf (bA (t := 3) (c' := .imm 1 (f4 ends)) rfl fun σ v h => VR.im h) ?_
  exact ez (cs := [.imm 1 (ba tab), .imm 1 (f4 ends), ce true]) [] ⟨rfl, rfl, rfl, trivial⟩ (List.nil_sublist _) ⟨tab, ends, htb.done hst hn2, rfl⟩
set_option maxRecDepth 8000
structure qU (N : Nat) (r : bn) : Prop where
 back : ∀ s ∈ r.Back, jx s ∧ ∀ g ∈ s, 0 ≤ g ∧ g < (N : Int)
 in_ : ∀ s ∈ r.In, jx s ∧ ∀ g ∈ s, 0 ≤ g ∧ g < (N : Int)
 ahead : ∀ s ∈ r.Ahead, jx s ∧ ∀ g ∈ s, 0 ≤ g ∧ g < (N : Int)
 long : r.Back.length ≤ 200 ∧ r.In.length + r.Ahead.length ≤ 200
structure u3 (N : Nat) (l : bk) : Prop where
 few : l.Rules.length ≤ 6
 rule : ∀ r ∈ l.Rules, qU N r
def di (rs : List bn) : List (List Int) := rs.flatMap fun r => r.Back ++ r.In ++ r.Ahead
theorem vl {rs : List bn} {k : Nat} {r : bn} (h : rs[k]? = some r) : di (rs.take (k + 1)) = di (rs.take k) ++ r.Back ++ r.In ++ r.Ahead := by
 unfold di
 rw [List.take_add_one, h]
 simp
theorem n7 {N : Nat} : ∀ {rs : List bn}, (∀ r ∈ rs, qU N r) → (di rs).length ≤ 400 * rs.length
 | [], _ => by simp [di]
 | r :: rs, h => by
  have ih := n7 (rs := rs) fun x hx => h x (by simp [hx])
  have hr := (h r (by simp)).long
  unfold di at ih ⊢
  rw [List.flatMap_cons, List.length_append, List.length_append, List.length_append, List.length_cons]
  omega
theorem pS {N : Nat} {rs : List bn} (h : ∀ r ∈ rs, qU N r) : ∀ s ∈ di rs, jx s ∧ ∀ g ∈ s, 0 ≤ g ∧ g < (N : Int) := by
 intro s hs
 unfold di at hs
 obtain ⟨r, hr, hs⟩ := List.mem_flatMap.1 hs
 rw [List.mem_append, List.mem_append] at hs
 rcases hs with (hs | hs) | hs
 ·exact (h r hr).back s hs
 ·exact (h r hr).in_ s hs
 ·exact (h r hr).ahead s hs
structure iG where
 cls : List Int
 fore : List (List Int)
 back : List (List Int)
 foreE : List Nat
 backE : List Nat
def Ga (a : iG) : List AV := [.imm 1 (aT a.cls), .imm 1 (ba a.fore), .imm 1 (ba a.back), .imm 1 (f4 a.foreE), .imm 1 (f4 a.backE)]
structure u4 (N : Nat) (rs : List bn) (a : iG) : Prop where
 cls : qV N (f7 a.cls).toNat a.cls (di rs)
 fore : oW a.cls (rs.map fun r => (mc r).1) (ia mc rs) (f7 a.cls).toNat a.fore a.foreE
 back : oW a.cls (rs.map fun r => (nj r).1) (ia nj rs) (f7 a.cls).toNat a.back a.backE
theorem iR (r : bn) : (dV r).length ≤ r.In.length + r.Ahead.length := by
 unfold dV
 split
 ·simp
 ·rw [List.length_append]; omega
theorem iS {r : bn} {s : List Int} (h : s ∈ dV r) : s ∈ r.In ∨ s ∈ r.Ahead := by
 unfold dV at h
 split at h
 ·cases h
 ·exact Ho h
section
variable {N : Nat} {l : bk} (h : u3 N l) (hN0 : 0 < N) (hN : N ≤ 65536)
include h
theorem kT : ∀ s ∈ di l.Rules, (∀ g ∈ s, 0 ≤ g ∧ g < (N : Int)) ∧ s.Nodup := fun s hs => ⟨(pS h.rule s hs).2, fA (pS h.rule s hs).1⟩
include hN
theorem o9 : (∀ z ∈ d9 N (di l.Rules), 0 ≤ z ∧ z ≤ 1000000) ∧ (d9 N (di l.Rules)).length = N ∧ (f7 (d9 N (di l.Rules))).toNat ≤ 1000000 ∧ ∀ z ∈ d9 N (di l.Rules), 0 ≤ z ∧ z < ((f7 (d9 N (di l.Rules))).toNat : Int) := by
 have h1 := pC N _ (kT h)
 refine ⟨fun z hz => by have := h1 z hz; omega, pD N _ (kT h), ?_, (rZ N _ (kT h)).dom⟩
 have : f7 (d9 N (di l.Rules)) ≤ (N : Int) := px (by omega) fun z hz => (h1 z hz).2
 omega
theorem E9 : x2 l.Rules (d9 N (di l.Rules)) := by
 obtain ⟨h1, h2, _, _⟩ := o9 h hN
 exact ⟨h.few, h1, by omega, fun r hr => by have := (h.rule r hr).long; omega⟩
theorem B4 : x3 (of mc l.Rules (d9 N (di l.Rules))) (ia mc l.Rules) 200 := by
 obtain ⟨h1, h2, h3, h4⟩ := o9 h hN
 refine ⟨⟨by show (l.Rules.map _).length ≤ 6; rw [Hv]; exact h.few, h4, fun eg hrow s hs => ?_, fun eg hrow => ?_, h3, by show (d9 N (di l.Rules)).length ≤ _; omega⟩, by show bY _ _ = bY _ (l.Rules.map _).length; rw [Hv], fun eg hrow => ?_, Nat.le_refl _⟩
 ·obtain ⟨r, hr, rfl⟩ := List.mem_map.1 hrow
  have hb := h.rule r hr
  have hsr : jx s ∧ ∀ g ∈ s, 0 ≤ g ∧ g < (N : Int) := by
   rcases iS hs with hs | hs
   ·exact hb.in_ s hs
   ·exact hb.ahead s hs
  refine ⟨fun g hg => ?_, ?_⟩
  ·show 0 ≤ g ∧ g < ((d9 N (di l.Rules)).length : Int)
   rw [h2]
   exact hsr.2 g hg
  ·have := ev (fA hsr.1) hsr.2
   omega
 ·obtain ⟨r, hr, rfl⟩ := List.mem_map.1 hrow
  have := iR r
  have := (h.rule r hr).long
  show (dV r).length ≤ _
  omega
 ·obtain ⟨r, hr, rfl⟩ := List.mem_map.1 hrow
  have := iR r
  have := (h.rule r hr).long
  show (dV r).length ≤ _
  omega
theorem Aj : x3 (of nj l.Rules (d9 N (di l.Rules))) (ia nj l.Rules) 200 := by
 obtain ⟨h1, h2, h3, h4⟩ := o9 h hN
 refine ⟨⟨by show (l.Rules.map _).length ≤ 6; rw [Hv]; exact h.few, h4, fun eg hrow s hs => ?_, fun eg hrow => ?_, h3, by show (d9 N (di l.Rules)).length ≤ _; omega⟩, by show bY _ _ = bY _ (l.Rules.map _).length; rw [Hv], fun eg hrow => ?_, Nat.le_refl _⟩
 ·obtain ⟨r, hr, rfl⟩ := List.mem_map.1 hrow
  have hsr := (h.rule r hr).back s hs
  refine ⟨fun g hg => ?_, ?_⟩
  ·show 0 ≤ g ∧ g < ((d9 N (di l.Rules)).length : Int)
   rw [h2]
   exact hsr.2 g hg
  ·have := ev (fA hsr.1) hsr.2
   omega
 ·obtain ⟨r, hr, rfl⟩ := List.mem_map.1 hrow
  have := (h.rule r hr).long
  show r.Back.length ≤ _
  omega
 ·obtain ⟨r, hr, rfl⟩ := List.mem_map.1 hrow
  have := (h.rule r hr).long
  show r.Back.length ≤ _
  omega
end
set_option maxHeartbeats 8000000 in
theorem xF (f : aP) (n : Nat) (l : bk) (hl : f.Lookups[n]? = some l) (h : u3 f.Glyphs.length l) (hN0 : 0 < f.Glyphs.length) (hN : f.Glyphs.length ≤ 65536) : AC Tryz.prog 139 [cf f, aD n] [] fun c _ => ∃ a, u4 f.Glyphs.length l.Rules a ∧ c = .tup [.agg (Ga a), aD 0] := by
 refine aG Tryz.func139 rfl Tryz.ntmps139 rfl fun B => ?_
 have hgl : (f.Glyphs.map bE).length = f.Glyphs.length := Hv ..
 have hll : (f.Lookups.map bo).length = f.Lookups.length := Hv ..
 have hrl : (l.Rules.map bL).length = l.Rules.length := Hv ..
 have hnl := (Hq hl).1
 have hlg : (f.Lookups.map bo)[n]? = some (bo l) := by simp [hl]
 have hfew := h.few
 repeat' (first|refine ae ?_|refine a6 ?_|refine a8 ?_|refine aa ?_|refine ah a7 rfl rfl ?_|refine aB rfl rfl ?_|refine b9 ?_|refine aY a7 fun _=>?_|fail)
 refine co [1, 2, 4] False rfl (fun Q' K => ?_) (fun hC => hC.elim) (fun _ => ?_)
 ·repeat' (first|refine aa ?_|refine ah a7 rfl rfl ?_|refine aB rfl rfl ?_|refine aE rfl rfl rfl rfl ?_|refine aU rfl rfl rfl (fun _ => ?_) (fun _ => ?_))
  all_goals exact K _ _ rfl rfl (by simp_all <;> omega)
 repeat' (first|refine ae ?_|refine a6 ?_|refine aq ?_|refine a8 ?_|refine aa ?_|refine ah a7 rfl rfl ?_|(apply aO; first|refine aN a7 ?_|refine aH a7 ?_)|fail)
 rename_i r4 _
 have hpd := oR f.Glyphs.length hN0 hN (di l.Rules) (pS h.rule) (by have := n7 h.rule; omega)
 have hcls := rZ f.Glyphs.length (di l.Rules) (kT h)
 have hso := E9 h hN
 have hsf := pI _ _ _ (B4 h hN) (.fnB 220 [.agg (sW l.Rules (d9 f.Glyphs.length (di l.Rules)))] []) (gk.fnB (f := 220) (fs := [.agg (sW l.Rules (d9 f.Glyphs.length (di l.Rules)))]) (caps := []) (y0 hso))
 have hsb := pI _ _ _ (Aj h hN) (.fnB 221 [.agg (sW l.Rules (d9 f.Glyphs.length (di l.Rules)))] []) (gk.fnB (f := 221) (fs := [.agg (sW l.Rules (d9 f.Glyphs.length (di l.Rules)))]) (caps := []) (xB hso))
 refine ay rfl (fun h1 => ?_) (fun h1 => ?_)
 ·have := Hz h1
  omega
 clear h1
 repeat' (first|refine ae ?_|refine a6 ?_|refine ar ?_|refine aq ?_|refine a8 ?_|refine aa ?_|refine ah a7 rfl rfl ?_)
 refine cA (bA (t := 7) (c' := .vec none 1 (ba [])) rfl fun σ v h => er 1 h) ?_
 refine aI [2, 4, 6, 49, 50] (α := Nat × Option (Nat × Nat)) (fun s => [(51, aD s.1), (7, .vec s.2 1 (ba (di (l.Rules.take s.1))))]) (fun s => s.1 ≤ l.Rules.length) (fun s => (r4, .box [.sc (.slice none 0 0), .sc (.slice none 0 0), .sc (.slice none 0 0), .sc (.slice none 0 0), .sc (.slice none 0 0)] 241) :: tok s.2 22 1 (di (l.Rules.take s.1)).length) (fun s => l.Rules.length - s.1) (0, none) rfl ⟨rfl, rfl, trivial⟩ (Nat.zero_le _) (fun _ _ hh => hh) ?_
 ·rintro ⟨k, q⟩ hk
  dsimp only at hk ⊢
  try dsimp only [Ht, Hs, Hr, Hn]
  repeat' (first|refine ae ?_|refine a6 ?_|refine a8 ?_|refine aa ?_|refine ah a7 rfl rfl ?_)
  refine ay rfl (fun h1 => ?_) (fun h1 => ?_)
  ·have hk2 : k < l.Rules.length := by have := Hz h1; omega
   obtain ⟨r, hr⟩ : ∃ z, l.Rules[k]? = some z := ⟨_, Eg hk2⟩
   have hrg : (l.Rules.map bL)[k]? = some (bL r) := by simp [hr]
   have hlong := (h.rule r (Hx hr)).long
   have hal := vl hr
   have hlen : (di (l.Rules.take k)).length ≤ 2400 := by
    have := n7 (N := f.Glyphs.length) (rs := l.Rules.take k) fun x hx => h.rule x (List.mem_of_mem_take hx)
    rw [List.length_take] at this
    omega
   have hri : ba (di (l.Rules.take (k + 1))) = ba (di (l.Rules.take k)) ++ ba r.Back ++ ba r.In ++ ba r.Ahead := by rw [hal]; simp [ba]
   have hrl0 := c8 (di (l.Rules.take k))
   have hrl1 := c8 r.Back
   have hrl2 := c8 r.In
   have hrl3 := c8 r.Ahead
   have hln : (di (l.Rules.take (k + 1))).length = (di (l.Rules.take k)).length + r.Back.length + r.In.length + r.Ahead.length := by rw [hal, List.length_append, List.length_append, List.length_append]
   generalize ba (di (l.Rules.take k)) = A0 at *
   generalize (di (l.Rules.take k)).length = n0 at *
   clear h1
   repeat' (first|refine ae ?_|refine a6 ?_|refine ar ?_|refine aq ?_|refine a8 ?_|refine aa ?_|refine ah a7 rfl rfl ?_|(apply aO; first|refine aN a7 ?_|refine aH a7 ?_)|(apply aQ; first|refine ai 9 a7 0 rfl rfl rfl rfl rfl rfl rfl rfl ?_|refine ai 9 a7 1 rfl rfl rfl rfl rfl rfl rfl rfl ?_|refine ai 9 a7 2 rfl rfl rfl rfl rfl rfl rfl rfl ?_|refine ai 10 a7 0 rfl rfl rfl rfl rfl rfl rfl rfl ?_|refine ai 10 a7 1 rfl rfl rfl rfl rfl rfl rfl rfl ?_|refine ai 10 a7 2 rfl rfl rfl rfl rfl rfl rfl rfl ?_|refine aj a7 0 rfl rfl rfl rfl rfl rfl rfl ?_|refine aj a7 1 rfl rfl rfl rfl rfl rfl rfl ?_|refine aj a7 2 rfl rfl rfl rfl rfl rfl rfl ?_|refine aj a7 3 rfl rfl rfl rfl rfl rfl rfl ?_|fail)|refine aY a7 fun _=>?_|fail)
   refine cP a7 [(r4, .box [.sc (.slice none 0 0), .sc (.slice none 0 0), .sc (.slice none 0 0), .sc (.slice none 0 0), .sc (.slice none 0 0)] 241)] rfl rfl rfl rfl (by rw [hrl0]; exact List.perm_append_comm (l₁ := [_])) (by omega) (by omega) rfl fun q1 => ?_
   repeat' (first|refine ae ?_|refine a6 ?_|refine a8 ?_|refine aa ?_|refine ah a7 rfl rfl ?_)
   refine cP a7 [(r4, .box [.sc (.slice none 0 0), .sc (.slice none 0 0), .sc (.slice none 0 0), .sc (.slice none 0 0), .sc (.slice none 0 0)] 241)] rfl rfl rfl rfl (Hp _) (by rw [List.length_append]; omega) (by rw [List.length_append]; omega) rfl fun q2 => ?_
   repeat' (first|refine a6 ?_|refine a8 ?_|refine aa ?_|refine ah a7 rfl rfl ?_)
   refine cP a7 [(r4, .box [.sc (.slice none 0 0), .sc (.slice none 0 0), .sc (.slice none 0 0), .sc (.slice none 0 0), .sc (.slice none 0 0)] 241)] rfl rfl rfl rfl (Hp _) (by rw [List.length_append, List.length_append]; omega) (by rw [List.length_append, List.length_append]; omega) rfl fun q3 => ?_
   repeat' (first|refine a6 ?_|refine a8 ?_|refine aR ?_|refine aa ?_|refine ah a7 rfl rfl ?_|(apply b6; refine aZ ?_)|fail)
   refine aF (k + 1, q3) rfl ⟨by rw [Hw]; rfl, by dsimp only; rw [hri]; rfl, trivial⟩ hk2 (by dsimp only; omega) (fun σ w hh => ?_)
   have h2 := hh.perm (List.perm_append_comm (l₂ := [_]))
   have h3 : (A0 ++ ba r.Back ++ ba r.In ++ ba r.Ahead).length = (di (l.Rules.take (k + 1))).length := by rw [hln, List.length_append, List.length_append, List.length_append]; omega
   rw [h3] at h2
   exact h2
  ·have hk2 : k = l.Rules.length := by have := Hy h1; omega
   subst hk2
   rw [List.take_length]
   haveI : AD Tryz.prog 218 [aD ((f.Glyphs.map bE).length : Nat), .imm 1 (ba (di l.Rules))] (.imm 1 (aT (d9 f.Glyphs.length (di l.Rules)))) := ⟨by rw [hgl]; exact hpd⟩
   clear h1
   repeat' (first|refine ae ?_|refine a6 ?_|refine aL ?_|refine a8 ?_|refine av ?_|refine aA ?_|refine az ?_|refine aa ?_|refine ah a7 rfl rfl ?_|(apply aQ; first|refine ai 9 a7 0 rfl rfl rfl rfl rfl rfl rfl rfl ?_|refine ai 9 a7 1 rfl rfl rfl rfl rfl rfl rfl rfl ?_|refine ai 9 a7 2 rfl rfl rfl rfl rfl rfl rfl rfl ?_|refine ai 10 a7 0 rfl rfl rfl rfl rfl rfl rfl rfl ?_|refine ai 10 a7 1 rfl rfl rfl rfl rfl rfl rfl rfl ?_|refine ai 10 a7 2 rfl rfl rfl rfl rfl rfl rfl rfl ?_|refine aj a7 0 rfl rfl rfl rfl rfl rfl rfl ?_|refine aj a7 1 rfl rfl rfl rfl rfl rfl rfl ?_|refine aj a7 2 rfl rfl rfl rfl rfl rfl rfl ?_|refine aj a7 3 rfl rfl rfl rfl rfl rfl rfl ?_|fail)|refine aY a7 fun _=>?_|(apply bc;refine aX ?_)|fail)
   refine aV [] _ hsf rfl rfl (Hp _) rfl fun c1 L1 ⟨ft, fe, hf1, hc1⟩ => ?_
   subst hc1
   refine bq (da (List.sublist_append_right ..)) ?_
   repeat' (first|refine ae ?_|refine a6 ?_|refine aq ?_|refine a8 ?_|refine aa ?_|refine ah a7 rfl rfl ?_|refine bi rfl ?_)
   refine aV [] _ hsb rfl rfl (Hp _) rfl fun c1 L1 ⟨bt, be, hb1, hc1⟩ => ?_
   subst hc1
   refine bq (da (List.sublist_append_right ..)) ?_
   repeat' (first|refine ae ?_|refine a6 ?_|refine aq ?_|refine am ?_|refine a8 ?_|refine aa ?_|refine ah a7 rfl rfl ?_|(apply aQ; first|refine ai 9 a7 0 rfl rfl rfl rfl rfl rfl rfl rfl ?_|refine ai 9 a7 1 rfl rfl rfl rfl rfl rfl rfl rfl ?_|refine ai 9 a7 2 rfl rfl rfl rfl rfl rfl rfl rfl ?_|refine ai 10 a7 0 rfl rfl rfl rfl rfl rfl rfl rfl ?_|refine ai 10 a7 1 rfl rfl rfl rfl rfl rfl rfl rfl ?_|refine ai 10 a7 2 rfl rfl rfl rfl rfl rfl rfl rfl ?_|refine aj a7 0 rfl rfl rfl rfl rfl rfl rfl ?_|refine aj a7 1 rfl rfl rfl rfl rfl rfl rfl ?_|refine aj a7 2 rfl rfl rfl rfl rfl rfl rfl ?_|refine aj a7 3 rfl rfl rfl rfl rfl rfl rfl ?_|fail)|refine bi rfl ?_)
   exact ez (cs := [.agg (Ga ⟨d9 f.Glyphs.length (di l.Rules), ft, bt, fe, be⟩), aD 0]) [] ⟨⟨_, 0, _, _, rfl, rfl, .inr ⟨dh a7 rfl, rfl⟩⟩, rfl, trivial⟩ (List.nil_sublist _) ⟨⟨d9 f.Glyphs.length (di l.Rules), ft, bt, fe, be⟩, ⟨hcls, hf1, hb1⟩, rfl⟩
end Go.Proofs.YtamjlkdanllgjaaGreatDoor
namespace Go.Proofs.YtamjlkdanllgjaaGreatDoor
open Go.RowKit
attribute [local irreducible] AT br AX AO Av Kt aW cZ DA cw
set_option maxRecDepth 8000
theorem fU {α : Type} {g : α → Nat} {k : Nat} : ∀ {l : List α} {m : Nat}, m ≤ k → (∀ x ∈ l, g x ≤ k) → l.foldl (fun m x => max m (g x)) m ≤ k
 | [], _, h, _ => h
 | a :: l, m, h, hl => by
  rw [List.foldl_cons]
  exact fU (by have := hl a (by simp); omega) fun x hx => hl x (by simp [hx])
theorem vW (rs : List bn) : ia mc rs = xY rs := by
 funext n
 unfold ia xY mc
 rfl
theorem sT (rs : List bn) (gl : List Int) : bY (fa (rs.map bn.Back) (ia nj rs) gl) (rs.map bn.Back).length = bY (fa (rs.map bn.Back) (fun _ => true) gl) (rs.map bn.Back).length := by
 refine fP fun i => ?_
 rw [bZ, bZ]
 by_cases hi : i < (rs.map bn.Back).length
 ·rw [Hv] at hi
  congr 1
  unfold fa ia
  rw [List.getElem?_map, Eg hi]
  rfl
 ·rw [decide_eq_false hi, Bool.false_and, Bool.false_and]
def Ax (l : bk) (a : iG) : wT := ⟨l, a.cls, a.fore, a.back, a.foreE, a.backE⟩
theorem sp {cls : List Int} {rows : List (List (List Int))} {hv : Nat → Bool} {C : Nat} {tab : List (List Int)} {ends : List Nat} (h : oW cls rows hv C tab ends) (hr : rows.length ≤ 6) : ∀ z ∈ ends, z < 2 ^ 64 := by
 intro z hz
 obtain ⟨met, h0, h1, h2, h3, h4⟩ := h.met
 obtain ⟨i, hi⟩ := List.mem_iff_getElem?.1 hz
 have hil := (Hq hi).1
 obtain ⟨p, hp⟩ : ∃ p, met[i]? = some p := ⟨_, Eg (by omega)⟩
 have := h3 i p hp
 rw [hi] at this
 cases this
 unfold gB
 split
 ·exact Nat.pow_pos (by omega)
 ·refine Nat.lt_of_le_of_lt Nat.and_le_right ?_
  exact lp (by omega)
theorem Ah {N : Nat} {l : bk} (h : u3 N l) {a : iG} (hb : u4 N l.Rules a) : mV (Ax l a) := by
 have hcs : ∀ z ∈ a.cls, z.toNat < (f7 a.cls).toNat := fun z hz => by
  have h1 := hb.cls.dom z hz
  omega
 have hf : ∀ r ∈ l.Rules, (dV r).length ≤ 200 ∧ r.Back.length ≤ 200 := fun r hr => by
  have := (h.rule r hr).long
  have := iR r
  omega
 refine ⟨h.few, ⟨sp hb.fore (by rw [Hv]; exact h.few), sp hb.back (by rw [Hv]; exact h.few)⟩, fun gl => ?_, fun gl => ?_, ?_, ?_⟩
 ·have := mt hb.cls (rows := l.Rules.map dV) (fun eg hrow s hs => ?_) hb.fore hcs gl
  ·rw [vW] at this
   exact this
  ·obtain ⟨r, hr, rfl⟩ := List.mem_map.1 hrow
   have hbr := h.rule r hr
   refine ⟨List.mem_flatMap.2 ⟨r, hr, ?_⟩, ?_⟩
   ·rw [List.mem_append, List.mem_append]
    rcases iS hs with hs | hs
    ·exact .inl (.inr hs)
    ·exact .inr hs
   ·rcases iS hs with hs | hs
    ·exact (hbr.in_ s hs).2
    ·exact (hbr.ahead s hs).2
 ·have := mt hb.cls (rows := l.Rules.map bn.Back) (fun eg hrow s hs => ?_) hb.back hcs gl
  ·rw [sT] at this
   exact this
  ·obtain ⟨r, hr, rfl⟩ := List.mem_map.1 hrow
   exact ⟨List.mem_flatMap.2 ⟨r, hr, by rw [List.mem_append, List.mem_append]; exact .inl (.inl hs)⟩, ((h.rule r hr).back s hs).2⟩
 ·exact fU (by omega) fun r hr => by have := (h.rule r hr).long; show r.In.length + r.Ahead.length ≤ _; omega
 ·exact fU (by omega) fun r hr => by have := (h.rule r hr).long; show r.Back.length ≤ _; omega
end Go.Proofs.YtamjlkdanllgjaaGreatDoor
