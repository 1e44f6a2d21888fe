/-
  The maker: lookups, as cells.
-/
import Derived.Test.YtjjpkibjffmceaaGreatM26
import Derived.Test.YtjjpkibjffmceaaGreatM11
namespace Go.Proofs.YtjjpkibjffmceaaGreat
open Go.RowKit
attribute [local irreducible] AT bT AX AO Av Kt bk ej DA cX
def fg (i j : Nat) (l : b9) : List AV := [aM l.Kind, cF l.Ignore, if j < i then .imm 6 (l.Rules.map bC) else bI]
def eF (i : Nat) : Nat → List b9 → List AV
 | _, [] => []
 | k, l :: r => fg i k l ++ eF i (k + 1) r
theorem yA (i : Nat) : ∀ (l : List b9) (k : Nat), (eF i k l).length = l.length * 3
 | [], k => rfl
 | x :: l, k => by
  rw [eF, List.length_append, yA i l (k + 1), List.length_cons, Nat.add_mul]
  simp [fg]
  omega
theorem r7 (i : Nat) : ∀ (l : List b9) (k j c : Nat), c < 3 → (eF i k l)[j * 3 + c]? = (l[j]?).bind fun x => (fg i (k + j) x)[c]?
 | [], k, j, c, _ => by simp [eF]
 | x :: l, k, 0, c, hc => by
  rw [eF, List.getElem?_append_left (by simp [fg]; omega)]
  simp
 | x :: l, k, j + 1, c, hc => by
  rw [eF, List.getElem?_append_right (by simp [fg]; omega)]
  have h1 : (j + 1) * 3 + c - (fg i k x).length = j * 3 + c := by simp [fg]; omega
  rw [h1, r7 i l (k + 1) j c hc, List.getElem?_cons_succ]
  rw [show k + 1 + j = k + (j + 1) by omega]
theorem vg (i : Nat) : ∀ (l : List b9) (k : Nat) (x : b9), eF i k (l ++ [x]) = eF i k l ++ fg i (k + l.length) x
 | [], k, x => by simp [eF]
 | y :: l, k, x => by
  rw [Gr, eF, vg i l (k + 1) x, eF, List.append_assoc, List.length_cons, show k + 1 + l.length = k + (l.length + 1) by omega]
theorem yB {i : Nat} {l : List b9} {q : b9} {rs : List bV} (hq : l[i]? = some q) : (eF i 0 l).set (i * 3 + 2) (.imm 6 (rs.map bC)) = eF (i + 1) 0 (l.set i { q with Rules := rs }) := by
 have hil := (Gn hq).1
 apply List.ext_getElem?
 intro p
 obtain ⟨j, c, hc, rfl⟩ : ∃ j c, c < 3 ∧ p = j * 3 + c := ⟨p / 3, p % 3, Nat.mod_lt _ (by omega), by omega⟩
 rw [r7 _ _ _ _ _ hc]
 by_cases e : i * 3 + 2 = j * 3 + c
 ·have hj : j = i := by omega
  have hc2 : c = 2 := by omega
  subst hj; subst hc2
  rw [List.getElem?_set_self (by rw [yA]; omega), List.getElem?_set_self hil]
  simp [fg]
 ·rw [List.getElem?_set_ne e, r7 _ _ _ _ _ hc]
  by_cases hj : i = j
  ·subst hj
   rw [hq, List.getElem?_set_self hil]
   have hc2 : c = 0 ∨ c = 1 := by omega
   rcases hc2 with rfl | rfl <;> rfl
  ·rw [List.getElem?_set_ne hj]
   cases l[j]? with
   | none => rfl
   | some x =>
    simp only [Option.bind_some, Nat.zero_add]
    have hc3 : c = 0 ∨ c = 1 ∨ c = 2 := by omega
    rcases hc3 with rfl | rfl | rfl
    ·rfl
    ·rfl
    ·simp only [fg]
     by_cases hlt : j < i
     ·rw [if_pos hlt, if_pos (by omega)]
     ·rw [if_neg hlt, if_neg (by omega)]
theorem B7 {i : Nat} {l : List b9} {q : b9} (hq : l[i]? = some q) (h0 : q.Rules = []) : (eF i 0 l).set (i * 3 + 2) (.imm 6 []) = eF (i + 1) 0 l := by
 have := yB (rs := []) hq
 rw [show l.set i { q with Rules := [] } = l from ?_] at this
 ·exact this
 ·have : ({ q with Rules := [] } : b9) = q := by cases q; simp at h0; simp [h0]
  rw [this]
  apply List.ext_getElem?
  intro j
  by_cases e : i = j
  ·subst e; rw [List.getElem?_set_self (Gn hq).1, hq]
  ·rw [List.getElem?_set_ne e]
theorem yz : ∀ (l : List b9) (i k : Nat), k + l.length ≤ i → eF i k l = (l.map bn).flatten
 | [], i, k, _ => rfl
 | x :: l, i, k, h => by
  simp only [List.length_cons] at h
  rw [eF, yz l i (k + 1) (by omega), Gp, List.flatten_cons]
  congr 1
  simp only [fg]
  rw [if_pos (by omega)]
  rfl
def wD (i : Nat) : Option (Nat × List AV × Nat) → AV
 | none => bI
 | some (b, _, cap) => .sc (.slice (some ⟨b, 0, none⟩) i cap)
def yu : Option (Nat × List AV × Nat) → AL
 | none => []
 | some (b, cs, _) => [(b, .box cs 77)]
def vf (n i : Nat) (l : List b9) : Option (Nat × List AV × Nat) → Prop
 | none => n = 0
 | some (_, cs, cap) => cs.length = cap * 3 ∧ n ≤ cap ∧ cap ≤ maxLen ∧ cs.take (n * 3) = eF i 0 l
variable (s : List Int) (hs : s.length ≤ 1000000) (F : MF)
include hs
theorem uc (k : Nat) (m : MS) : (ep s k m).1.1.length = k ∧ (ep s k m).1.2.length ≤ k := by
 have _ := hs
 clear hs
 induction k with
 | zero => exact ⟨rfl, Nat.le_refl _⟩
 | succ k ih =>
  have : ep s (k + 1) m = (c9 (dr s 10) fun z => c9 (dr s 3) fun y => cA ((ep s k m).1.1 ++ [(⟨fj.getD z.toNat 0, decide (y = 0), []⟩ : b9)], if fj.getD z.toNat 0 ≤ 4 then (ep s k m).1.2 ++ [(k : Int)] else (ep s k m).1.2)) (ep s k m).2 := rfl
  rw [this]
  simp only [c9, cA]
  refine ⟨by simp [ih.1], ?_⟩
  split
  ·simp; omega
  ·omega
theorem y8 (n : Int) (calls : List Int) (l : List b9) (k : Nat) (m : MS) : (f5 s n calls l k m).1.length = l.length ∧ ∀ j, k ≤ j → (f5 s n calls l k m).1[j]? = l[j]? := by
 have _ := hs
 clear hs
 induction k with
 | zero => exact ⟨rfl, fun j _ => rfl⟩
 | succ k ih =>
  have : f5 s n calls l (k + 1) m = (match (f5 s n calls l k m).1[k]? with
   | none => cA (f5 s n calls l k m).1
   | some q => if q.Kind ≥ 7 then cA (f5 s n calls l k m).1 else c9 (dr s 3) fun c => c9 (eQ s n q.Kind calls (1 + c).toNat) fun rs => cA ((f5 s n calls l k m).1.set k { q with Rules := rs })) (f5 s n calls l k m).2 := rfl
  rw [this]
  cases hq : (f5 s n calls l k m).1[k]? with
  | none => exact ⟨ih.1, fun j hj => ih.2 j (by omega)⟩
  | some q =>
   dsimp only
   by_cases h7 : q.Kind ≥ 7
   ·rw [if_pos h7]
    exact ⟨ih.1, fun j hj => ih.2 j (by omega)⟩
   ·rw [if_neg h7]
    simp only [c9, cA]
    refine ⟨by rw [List.length_set]; exact ih.1, fun j hj => ?_⟩
    rw [List.getElem?_set_ne (by omega)]
    exact ih.2 j (by omega)
theorem uE (n kind : Int) (calls : List Int) (k : Nat) (m : MS) : (eQ s n kind calls k m).1.length = k := by
 have _ := hs
 clear hs
 induction k with
 | zero => rfl
 | succ k ih =>
  have : eQ s n kind calls (k + 1) m = ((eQ s n kind calls k m).1 ++ [(fW s n kind calls (eQ s n kind calls k m).2).1], (fW s n kind calls (eQ s n kind calls k m).2).2) := rfl
  rw [this]
  simp [ih]
abbrev gj (F : MF) (v : AV) : MF := { F with lk := v }
set_option maxHeartbeats 16000000 in
theorem uk {kg : Option (Nat × Nat)} {gl : List (List AV)} (hF : F.gl = .vec kg 9 gl) (hl : F.lk = bI) (n : Nat) (hn : gl.length = n) (h0 : 0 < n ∧ n ≤ 1000) (b : Nat) (m : MS) : AC Tryz.prog 66 [fp b] [dV b s F m] fun _ L => L = [dV b s (gj F (.imm 3 ((i8 s n m).1.map bn))) (i8 s n m).2] := by
 refine aP Tryz.func66 rfl Tryz.ntmps66 rfl fun B => ?_
 repeat' (first|refine ah ?_|refine a7 ?_|refine ae a6 rfl rfl ?_)
 refine cD ?_
 have hk := cf s hs m.a (n := 7) (by omega)
 have hk : 0 ≤ (dr s 7 m).1 ∧ (dr s 7 m).1 < 7 := hk
 generalize e1 : dr s 7 m = p1 at hk ⊢
 obtain ⟨k, hkk⟩ : ∃ k : Nat, p1.1 = k := ⟨p1.1.toNat, by omega⟩
 rw [hkk]
 have hFF : F = gj F bI := by
  cases F
  simp only at hl
  rw [hl]
 rw [hFF]
 repeat' (first|refine ah ?_|refine a7 ?_|refine aq ?_|refine a8 ?_|refine aa ?_|refine ae a6 rfl rfl ?_)
 refine bK (bg (t := 3) (c' := .vec none 1 []) rfl fun σ v h => co 1 h) ?_
 refine aN [0, 2] (α := Nat × Option (Nat × Nat) × Option (Nat × List AV × Nat)) (fun x => [(4, aM x.1), (3, .vec x.2.1 1 (aU (ep s x.1 p1.2).1.2))]) (fun x => x.1 ≤ k ∧ vf x.1 0 (ep s x.1 p1.2).1.1 x.2.2) (fun x => dV b s (gj F (wD x.1 x.2.2)) (ep s x.1 p1.2).2 :: (yu x.2.2 ++ (tok x.2.1 3 1 (aU (ep s x.1 p1.2).1.2).length ++ []))) (fun x => k - x.1) (0, none, none) rfl ⟨rfl, rfl, trivial⟩ ⟨Nat.zero_le _, rfl⟩ (fun _ _ h => by simpa [ep, gz, cA, tok, aU, yu, wD] using h) ?_
 rintro ⟨i, q, o⟩ ⟨hi, ho⟩
 dsimp only at hi ho ⊢
 have hln := uc s hs i p1.2
 try dsimp only [Gr, Gq, Gp, Gj]
 repeat' (first|refine ah ?_|refine a7 ?_|refine a8 ?_|refine aa ?_|refine ae a6 rfl rfl ?_)
 refine aw rfl (fun h => ?_) (fun h => ?_)
 ·have hil : i < k := by have := Gz h; omega
  have hstep : ep s (i + 1) p1.2 = (c9 (dr s 10) fun z => c9 (dr s 3) fun y => cA ((ep s i p1.2).1.1 ++ [(⟨fj.getD z.toNat 0, decide (y = 0), []⟩ : b9)], if fj.getD z.toNat 0 ≤ 4 then (ep s i p1.2).1.2 ++ [(i : Int)] else (ep s i p1.2).1.2)) (ep s i p1.2).2 := rfl
  generalize ep s i p1.2 = st at hln ho hstep ⊢
  have hil2 : (aU st.1.2).length = st.1.2.length := aQ _
  repeat' (first|refine ah ?_|refine a7 ?_|refine aq ?_|refine au ?_|refine a8 ?_|refine ae a6 rfl rfl ?_|refine bz a6 ?_|fail)
  refine cD ?_
  have hz := cf s hs st.2.a (n := 10) (by omega)
  have hz : 0 ≤ (dr s 10 st.2).1 ∧ (dr s 10 st.2).1 < 10 := hz
  unfold c9 at hstep
  generalize dr s 10 st.2 = z at hz hstep ⊢
  dsimp only at hstep
  have hzk : (aU fj)[z.1.toNat]? = some [aM (fj.getD z.1.toNat 0)] := bN (by rw [List.getD_eq_getElem?_getD, Ds (show z.1.toNat < fj.length by simp [fj]; omega)]; rfl)
  generalize hkd : fj.getD z.1.toNat 0 = kd at hzk hstep
  repeat' (first|refine ah ?_|refine a8 ?_|refine aa ?_|refine ae a6 rfl rfl ?_|(apply aY; first|refine aX a6 ?_|refine aS a6 ?_)|fail)
  refine dg [.cell (b, 5, wD i o)] 13 [(0, .v), (1, .v), (2, .v), (3, .v), (4, .v), (5, .k), (6, .v), (7, .v), (8, .f), (9, .v), (10, .v), (11, .v), (12, .e)] none ?_ trivial rfl (by kernel_rfl) (by kernel_rfl) (by kernel_rfl) mixed (by kernel_rfl) rfl
  repeat' (first|refine aE ?_|refine aZ a6 ?_|fail)
  refine eg a6 0 rfl rfl rfl (bM 0 rfl rfl bW) (by first | trivial | rfl) ?_
  repeat' (first|refine aE ?_|refine aZ a6 ?_|fail)
  refine eD (bM 0 rfl rfl bW) ?_
  generalize dr s 3 z.2 = y at hstep ⊢
  repeat' (first|refine aE ?_|refine aZ a6 ?_|refine ee a6 ?_|fail)
  have hst1 : st.1.1.length = i := hln.1
  rcases o with _ | ⟨ob, ocs, ocap⟩
  ·have hi0 : i = 0 := ho
   subst hi0
   refine tR a6 rfl rfl rfl rfl rfl rfl rfl (by first | trivial | rfl) fun b' cs' cap' h1 h2 h3 h4 => ?_
   have hrow : vf (0 + 1) 0 (st.1.1 ++ [⟨kd, decide (y.1 = 0), []⟩]) (some (b', cs', cap')) := by
    refine ⟨h1, by omega, h4, ?_⟩
    rw [List.eq_nil_of_length_eq_zero (by omega : st.1.1.length = 0)]
    exact h2
   refine br [0, 2, 3, 4, 5, 21, 33] rfl rfl ?_
   refine aO (aK (L' := dV b s (gj F (wD 0 none)) y.2 :: (yu (some (b', cs', cap')) ++ (tok q 3 1 (aU st.1.2).length ++ []))) (List.Perm.swap _ _ _)) ?_
   repeat' (first|refine ah ?_|refine a7 ?_|refine a8 ?_|refine aa ?_|refine ae a6 rfl rfl ?_|(apply aH; first|refine aj a6 0 rfl rfl rfl rfl rfl rfl rfl ?_|refine aj a6 1 rfl rfl rfl rfl rfl rfl rfl ?_|refine aj a6 2 rfl rfl rfl rfl rfl rfl rfl ?_|refine aj a6 3 rfl rfl rfl rfl rfl rfl rfl ?_|fail))
   refine aw rfl (fun hk4 => ?_) (fun hk4 => ?_)
   ·rw [if_pos (Gz hk4)] at hstep
    dsimp only [cA] at hstep
    repeat' (first|refine a7 ?_|refine ae a6 rfl rfl ?_|refine bz a6 ?_|fail)
    refine bF a6 _ rfl rfl rfl rfl (eG (A := [_, _])) (by simp [aQ]; omega) (by simp [aQ]; omega) rfl fun q' => ?_
    refine aO (aK (eG (A := [_, _])).symm) ?_
    repeat' (first|refine a7 ?_|refine a8 ?_|refine aI ?_|refine aa ?_|refine ae a6 rfl rfl ?_|(apply aW; refine aV ?_)|fail)
    exact aC (0 + 1, q', some (b', cs', cap')) rfl ⟨rfl, by rw [hstep]; dsimp only; rw [show aU (st.1.2 ++ [((0 : Nat) : Int)]) = aU st.1.2 ++ [[aM ((0 : Nat) : Int)]] from List.map_append ..]; rfl, trivial⟩ ⟨by dsimp only; omega, by rw [hstep]; exact hrow⟩ (by dsimp only; omega) (fun _ _ h => by dsimp only; rw [hstep]; dsimp only; rw [show aU (st.1.2 ++ [((0 : Nat) : Int)]) = aU st.1.2 ++ [[aM ((0 : Nat) : Int)]] from List.map_append ..]; exact h)
   ·rw [if_neg (Gy hk4)] at hstep
    dsimp only [cA] at hstep
    repeat' (first|refine a7 ?_|refine au ?_|refine a8 ?_|refine aI ?_|refine aa ?_|refine ae a6 rfl rfl ?_|(apply aW; refine aV ?_)|fail)
    exact aC (0 + 1, q, some (b', cs', cap')) rfl ⟨rfl, by rw [hstep]; rfl, trivial⟩ ⟨by dsimp only; omega, by rw [hstep]; exact hrow⟩ (by dsimp only; omega) (fun _ _ h => by dsimp only; rw [hstep]; exact h)
  ·obtain ⟨ho1, ho2, ho3, ho4⟩ := ho
   refine wc a6 1 rfl rfl rfl rfl rfl rfl rfl ho1 ho2 ho3 (by unfold maxLen; omega) (by omega) (by first | trivial | rfl) fun b' cs' cap' h1 h2 h3 h4 => ?_
   have hrow : vf (i + 1) 0 (st.1.1 ++ [⟨kd, decide (y.1 = 0), []⟩]) (some (b', cs', cap')) := by
    refine ⟨h1, h3, h4, ?_⟩
    rw [h2, ho4, vg]
    rfl
   refine br [0, 2, 3, 4, 5, 21, 33] rfl rfl ?_
   refine aO (aK (L' := dV b s (gj F (wD i (some (ob, ocs, ocap)))) y.2 :: (yu (some (b', cs', cap')) ++ (tok q 3 1 (aU st.1.2).length ++ []))) (List.Perm.swap _ _ _)) ?_
   repeat' (first|refine ah ?_|refine a7 ?_|refine a8 ?_|refine aa ?_|refine ae a6 rfl rfl ?_|(apply aH; first|refine aj a6 0 rfl rfl rfl rfl rfl rfl rfl ?_|refine aj a6 1 rfl rfl rfl rfl rfl rfl rfl ?_|refine aj a6 2 rfl rfl rfl rfl rfl rfl rfl ?_|refine aj a6 3 rfl rfl rfl rfl rfl rfl rfl ?_|fail))
   refine aw rfl (fun hk4 => ?_) (fun hk4 => ?_)
   ·rw [if_pos (Gz hk4)] at hstep
    dsimp only [cA] at hstep
    repeat' (first|refine a7 ?_|refine ae a6 rfl rfl ?_|refine bz a6 ?_|fail)
    refine bF a6 _ rfl rfl rfl rfl (eG (A := [_, _])) (by simp [aQ]; omega) (by simp [aQ]; omega) rfl fun q' => ?_
    refine aO (aK (eG (A := [_, _])).symm) ?_
    repeat' (first|refine a7 ?_|refine a8 ?_|refine aI ?_|refine aa ?_|refine ae a6 rfl rfl ?_|(apply aW; refine aV ?_)|fail)
    exact aC (i + 1, q', some (b', cs', cap')) rfl ⟨by rw [Gw]; rfl, by rw [hstep]; dsimp only; rw [show aU (st.1.2 ++ [(i : Int)]) = aU st.1.2 ++ [[aM (i : Int)]] from List.map_append ..]; rfl, trivial⟩ ⟨by dsimp only; omega, by rw [hstep]; exact hrow⟩ (by dsimp only; omega) (fun _ _ h => by dsimp only; rw [hstep]; dsimp only; rw [show aU (st.1.2 ++ [(i : Int)]) = aU st.1.2 ++ [[aM (i : Int)]] from List.map_append ..]; exact h)
   ·rw [if_neg (Gy hk4)] at hstep
    dsimp only [cA] at hstep
    repeat' (first|refine a7 ?_|refine au ?_|refine a8 ?_|refine aI ?_|refine aa ?_|refine ae a6 rfl rfl ?_|(apply aW; refine aV ?_)|fail)
    exact aC (i + 1, q, some (b', cs', cap')) rfl ⟨by rw [Gw]; rfl, by rw [hstep]; rfl, trivial⟩ ⟨by dsimp only; omega, by rw [hstep]; exact hrow⟩ (by dsimp only; omega) (fun _ _ h => by dsimp only; rw [hstep]; exact h)
 have hil : i = k := by have := Gy h; omega
 subst hil
 have hhd := qi s i p1.2
 generalize e2 : ep s i p1.2 = st at hln ho hhd ⊢
 have hv : i8 s n m = f5 s n st.1.2 st.1.1 i st.2 := by
  unfold i8 c9
  rw [e1]
  dsimp only
  rw [hkk, Int.toNat_natCast, e2]
 rw [hv]
 have hfi := fun j => y8 s hs n st.1.2 st.1.1 j st.2
 repeat' (first|refine ah ?_|refine a7 ?_|refine aq ?_|refine aR ?_|refine a8 ?_|refine av ?_|refine aB ?_|refine ay ?_|refine aa ?_|refine ae a6 rfl rfl ?_)
 refine bK (bY (L' := dV b s (gj F (wD i o)) st.2 :: (yu o ++ [])) (List.Sublist.cons_cons _ ((List.nil_sublist _).append_left _))) ?_
 rcases o with _ | ⟨ob, ocs, ocap⟩
 ·have hi0 : i = 0 := ho
  subst hi0
  refine aN [0, 2, 3] (α := Unit) (fun _ => [(6, aM 0)]) (fun _ => True) (fun _ => [dV b s (gj F bI) st.2]) (fun _ => 0) () rfl ⟨rfl, trivial⟩ trivial (fun _ _ h => h) ?_
  intro _ _
  try dsimp only [Gr, Gq, Gp, Gj]
  repeat' (first|refine ah ?_|refine a7 ?_|refine aR ?_|refine a8 ?_|refine av ?_|refine aB ?_|refine ay ?_|refine aa ?_|refine ae a6 rfl rfl ?_|refine bv rfl ?_)
  have hnil : (f5 s n st.1.2 st.1.1 0 st.2).1 = [] := List.eq_nil_of_length_eq_zero (by rw [(hfi 0).1]; exact hln.1)
  refine ba (bi 0 (cs' := Ee s (gj F (.imm 3 [])) st.2) rfl fun σ vs h => cg (k := 5) (c := bI) h rfl fun v hv => fw 3 hv) (dz rfl ?_)
  rw [hnil]
  rfl
 refine aN [0, 2, 3] (α := Nat × List AV) (fun x => [(6, aM x.1)]) (fun x => x.1 ≤ i ∧ vf i x.1 (f5 s n st.1.2 st.1.1 x.1 st.2).1 (some (ob, x.2, ocap))) (fun x => [dV b s (gj F (wD i (some (ob, ocs, ocap)))) (f5 s n st.1.2 st.1.1 x.1 st.2).2, (ob, .box x.2 77)]) (fun x => i - x.1) (0, ocs) rfl ⟨rfl, trivial⟩ ⟨Nat.zero_le _, ho⟩ (fun _ _ h => h) ?_
 rintro ⟨j, cs⟩ ⟨hj, h1, h2, h3, h4⟩
 dsimp only at hj h1 h2 h3 h4 ⊢
 try dsimp only [Gr, Gq, Gp, Gj]
 repeat' (first|refine ah ?_|refine a7 ?_|refine a8 ?_|refine aa ?_|refine ae a6 rfl rfl ?_)
 refine aw rfl (fun h => ?_) (fun h => ?_)
 ·have hji : j < i := by have := Gz h; omega
  have hfj := hfi j
  have hstep : f5 s n st.1.2 st.1.1 (j + 1) st.2 = (match (f5 s n st.1.2 st.1.1 j st.2).1[j]? with
   | none => cA (f5 s n st.1.2 st.1.1 j st.2).1
   | some q => if q.Kind ≥ 7 then cA (f5 s n st.1.2 st.1.1 j st.2).1 else c9 (dr s 3) fun c => c9 (eQ s n q.Kind st.1.2 (1 + c).toNat) fun rs => cA ((f5 s n st.1.2 st.1.1 j st.2).1.set j { q with Rules := rs })) (f5 s n st.1.2 st.1.1 j st.2).2 := rfl
  generalize f5 s n st.1.2 st.1.1 j st.2 = T at hfj h4 hstep ⊢
  have hTl : T.1.length = i := by rw [hfj.1]; exact hln.1
  obtain ⟨q, hq⟩ : ∃ q, T.1[j]? = some q := ⟨_, Ds (by omega)⟩
  have hq2 : st.1.1[j]? = some q := by rw [← hfj.2 j (Nat.le_refl _)]; exact hq
  have hqm := Gx hq2
  have hqk := hhd.kinds q hqm
  have hqn := hhd.none q hqm
  rw [hq] at hstep
  dsimp only at hstep
  have hcell : ∀ c, c < 3 → cs[j * 3 + c]? = (fg j j q)[c]? := fun c hc => by
   have e := r7 j T.1 0 j c hc
   rw [hq, Option.bind_some, Nat.zero_add, ← h4, List.getElem?_take, if_pos (by omega)] at e
   exact e
  have hP : ∀ c, 0 + ((j : Int)).toNat * 3 + c = j * 3 + c := fun c => by rw [Int.toNat_natCast]; omega
  have hc0 : cs[0 + ((j : Int)).toNat * 3 + 0]? = some (aM q.Kind) := by rw [hP]; exact hcell 0 (by omega)
  have hc2 : cs[0 + ((j : Int)).toNat * 3 + 2]? = some bI := by
   rw [hP, hcell 2 (by omega)]
   simp [fg]
  have hPl : 0 + ((j : Int)).toNat * 3 + 2 < cs.length := (Gn hc2).1
  repeat' (first|refine ah ?_|refine a7 ?_|refine aq ?_|refine au ?_|refine a8 ?_|refine aa ?_|refine ae a6 rfl rfl ?_|(apply bB; first|refine ak a6 0 rfl rfl rfl rfl rfl ?_|refine ak a6 1 rfl rfl rfl rfl rfl ?_|refine ak a6 2 rfl rfl rfl rfl rfl ?_|refine ak a6 3 rfl rfl rfl rfl rfl ?_|refine aD a6 0 rfl rfl rfl rfl rfl ?_|refine aD a6 1 rfl rfl rfl rfl rfl ?_|refine aD a6 2 rfl rfl rfl rfl rfl ?_|refine ak a6 1 rfl rfl rfl (by assumption) rfl ?_|refine ak a6 0 rfl rfl rfl (by assumption) rfl ?_|fail)|(apply aY; first|refine aX a6 ?_|refine aS a6 ?_)|fail)
  refine aw rfl (fun h7 => ?_) (fun h7 => ?_)
  ·have h7 := Gz h7
   rw [if_pos (show q.Kind ≥ 7 from h7)] at hstep
   repeat' (first|refine a7 ?_|refine aR ?_|refine a8 ?_|refine av ?_|refine aB ?_|refine aa ?_|refine ae a6 rfl rfl ?_|(apply aW; refine aV ?_)|fail)
   refine ba (bi 1 (cs' := cs.set (0 + ((j : Int)).toNat * 3 + 2) (.imm 6 [])) rfl fun σ vs h => cg h hc2 fun v hv => fw 6 hv) ?_
   exact aC (j + 1, cs.set (0 + ((j : Int)).toNat * 3 + 2) (.imm 6 [])) rfl ⟨by rw [Gw]; rfl, trivial⟩ ⟨by dsimp only; omega, by dsimp only; rw [List.length_set]; exact h1, h2, h3, by rw [hstep, hP]; dsimp only [cA]; rw [List.take_set, h4]; exact B7 hq hqn⟩ (by dsimp only; omega) (fun _ _ h => by dsimp only; rw [hstep]; exact h)
  have h7 := Gy h7
  rw [if_neg (show ¬ q.Kind ≥ 7 from h7)] at hstep
  unfold c9 at hstep
  repeat' (first|refine ah ?_|refine a7 ?_|refine au ?_|refine a8 ?_|refine ae a6 rfl rfl ?_)
  refine cD ?_
  have hc := cf s hs T.2.a (n := 3) (by omega)
  have hc : 0 ≤ (dr s 3 T.2).1 ∧ (dr s 3 T.2).1 < 3 := hc
  generalize dr s 3 T.2 = p2 at hc hstep ⊢
  dsimp only at hstep
  obtain ⟨c, hcc⟩ : ∃ k : Nat, 1 + p2.1 = k := ⟨(1 + p2.1).toNat, by omega⟩
  rw [hcc, Int.toNat_natCast] at hstep
  repeat' (first|refine ah ?_|refine a7 ?_|refine aq ?_|refine a8 ?_|refine aa ?_|refine ae a6 rfl rfl ?_|(apply aW; refine aV ?_)|fail)
  rw [hcc]
  refine bK (bi 1 (cs' := cs.set (0 + ((j : Int)).toNat * 3 + 2) (.vec none 6 [])) rfl fun σ vs h => cg h hc2 fun v hv => co 6 hv) ?_
  refine aN [0, 2, 3, 6, 7] (α := Nat × Option (Nat × Nat)) (fun x => [(8, aM x.1)]) (fun x => x.1 ≤ c) (fun x => [dV b s (gj F (wD i (some (ob, ocs, ocap)))) (eQ s n q.Kind st.1.2 x.1 p2.2).2, (ob, .box (cs.set (0 + ((j : Int)).toNat * 3 + 2) (.vec x.2 6 ((eQ s n q.Kind st.1.2 x.1 p2.2).1.map bC))) 77)] ++ (tok x.2 81 6 ((eQ s n q.Kind st.1.2 x.1 p2.2).1.map bC).length ++ [])) (fun x => c - x.1) (0, none) rfl ⟨rfl, trivial⟩ (Nat.zero_le _) (fun _ _ h => h) ?_
  rintro ⟨r, qv⟩ hr
  dsimp only at hr ⊢
  have hrl := uE s hs n q.Kind st.1.2 r p2.2
  have hrs : eQ s n q.Kind st.1.2 (r + 1) p2.2 = ((eQ s n q.Kind st.1.2 r p2.2).1 ++ [(fW s n q.Kind st.1.2 (eQ s n q.Kind st.1.2 r p2.2).2).1], (fW s n q.Kind st.1.2 (eQ s n q.Kind st.1.2 r p2.2).2).2) := rfl
  try dsimp only [Gr, Gq, Gp, Gj]
  repeat' (first|refine ah ?_|refine a7 ?_|refine a8 ?_|refine aa ?_|refine ae a6 rfl rfl ?_)
  refine aw rfl (fun h => ?_) (fun h => ?_)
  ·have hrc : r < c := by have := Gz h; omega
   generalize eQ s n q.Kind st.1.2 r p2.2 = R at hrl hrs ⊢
   have hset : (cs.set (0 + ((j : Int)).toNat * 3 + 2) (.vec qv 6 (R.1.map bC)))[0 + ((j : Int)).toNat * 3 + 2]? = some (.vec qv 6 (R.1.map bC)) := List.getElem?_set_self hPl
   have hset0 : (cs.set (0 + ((j : Int)).toNat * 3 + 2) (.vec qv 6 (R.1.map bC)))[0 + ((j : Int)).toNat * 3 + 0]? = some (aM q.Kind) := by rw [List.getElem?_set_ne (by omega)]; exact hc0
   have hRl : (R.1.map bC).length = R.1.length := Gu ..
   repeat' (first|refine ah ?_|refine aq ?_|refine au ?_|refine a8 ?_)
   refine dg [.cell (b, 5, wD i (some (ob, ocs, ocap))), .cell (ob, 0 + ((j : Int)).toNat * 3 + 2, .vec qv 6 (R.1.map bC))] 29 [(0, .v), (1, .v), (2, .v), (3, .v), (4, .k), (5, .v), (6, .v), (7, .v), (8, .v), (9, .v), (10, .k), (11, .v), (12, .v), (13, .v), (14, .k), (15, .v), (16, .v), (17, .v), (18, .v), (19, .v), (20, .l), (21, .v), (22, .v), (23, .v), (24, .l), (25, .v), (26, .f), (27, .v), (28, .f)] none ?_ trivial rfl (by kernel_rfl) (by kernel_rfl) (by kernel_rfl) mixed (by kernel_rfl) rfl
   have hkeep : ∀ m' Z, eh [.cell (b, 5, wD i (some (ob, ocs, ocap))), .cell (ob, 0 + ((j : Int)).toNat * 3 + 2, .vec qv 6 (R.1.map bC))] (dV b s (gj F (wD i (some (ob, ocs, ocap)))) m' :: (ob, .box (cs.set (0 + ((j : Int)).toNat * 3 + 2) (.vec qv 6 (R.1.map bC))) 77) :: Z) := fun m' Z => bM 0 rfl rfl (bM 1 rfl hset bW)
   repeat' (first|refine aE ?_|refine aZ a6 ?_|fail)
   refine eg a6 0 rfl rfl rfl (hkeep _ _) (by first | trivial | rfl) ?_
   repeat' (first|refine aE ?_|refine aZ a6 ?_|fail)
   refine eg a6 0 rfl rfl rfl (hkeep _ _) (by first | trivial | rfl) ?_
   repeat' (first|refine aE ?_|refine aZ a6 ?_|fail)
   refine f0 a6 rfl rfl rfl (by omega) (by first | trivial | rfl) ?_
   repeat' (first|refine aE ?_|refine aZ a6 ?_|fail)
   refine eg a6 1 rfl rfl rfl (hkeep _ _) (by first | trivial | rfl) ?_
   repeat' (first|refine aE ?_|refine aZ a6 ?_|refine cI a6 0 rfl rfl rfl rfl (by first|trivial|rfl) ?_)
   refine f0 a6 rfl rfl rfl (by omega) (by first | trivial | rfl) ?_
   repeat' (first|refine aE ?_|refine aZ a6 ?_|fail)
   refine cI a6 1 rfl rfl rfl hset0 (by first | trivial | rfl) ?_
   repeat' (first|refine aE ?_|refine aZ a6 ?_|fail)
   refine pY (x5 s hs (gj F (wD i (some (ob, ocs, ocap)))) hF n hn h0 q.Kind (by omega) st.1.2 (by omega)) (hkeep _ _) ?_
   generalize fW s n q.Kind st.1.2 R.2 = y at hrs ⊢
   unfold C3
   repeat' (first|refine aE ?_|refine ee a6 ?_|fail)
   refine wa a6 _ rfl rfl rfl rfl (eG (A := [_, _])) (by simp; omega) (by simp; omega) (hkeep _ _) (by first | trivial | rfl) fun q' => ?_
   refine br [0, 2, 3, 6, 7, 8, 70, 71, 94] rfl rfl ?_
   refine aO (aK (eG (A := [_, _])).symm) ?_
   repeat' (first|refine ae a6 rfl rfl ?_|(apply aY; first|refine aX a6 ?_|refine aS a6 ?_)|fail)
   refine aj a6 1 rfl rfl rfl rfl rfl rfl (by rw [Nat.ble_eq, List.length_set]; exact hPl) ?_
   repeat' (first|refine a7 ?_|refine a8 ?_|refine aI ?_|refine aa ?_|refine ae a6 rfl rfl ?_|(apply aW; refine aV ?_)|fail)
   exact aC (r + 1, q') rfl ⟨by rw [Gw]; rfl, trivial⟩ (by dsimp only; omega) (by dsimp only; omega) (fun _ _ h => by dsimp only; rw [hrs]; dsimp only; rw [List.map_append]; simp only [gg, List.set_set] at h; exact h)
  have hrc : r = c := by have := Gy h; omega
  subst hrc
  generalize eQ s n q.Kind st.1.2 r p2.2 = R at hrl hstep ⊢
  have hset : (cs.set (0 + ((j : Int)).toNat * 3 + 2) (.vec qv 6 (R.1.map bC)))[0 + ((j : Int)).toNat * 3 + 2]? = some (.vec qv 6 (R.1.map bC)) := List.getElem?_set_self hPl
  repeat' (first|refine a7 ?_|refine aR ?_|refine a8 ?_|refine av ?_|refine aI ?_|refine aB ?_|refine ay ?_|refine aa ?_|refine ae a6 rfl rfl ?_|(apply aW; refine aV ?_)|fail)
  refine ba (bY (L' := [dV b s (gj F (wD i (some (ob, ocs, ocap)))) R.2, (ob, .box (cs.set (0 + ((j : Int)).toNat * 3 + 2) (.vec qv 6 (R.1.map bC))) 77)]) (List.Sublist.cons_cons _ (List.Sublist.cons_cons _ (List.nil_sublist _)))) ?_
  refine ba (bi 1 (cs' := (cs.set (0 + ((j : Int)).toNat * 3 + 2) (.vec qv 6 (R.1.map bC))).set (0 + ((j : Int)).toNat * 3 + 2) (.imm 6 (R.1.map bC))) rfl fun σ vs h => cg h hset fun v hv => VR.im hv) ?_
  rw [List.set_set]
  exact aC (j + 1, cs.set (0 + ((j : Int)).toNat * 3 + 2) (.imm 6 (R.1.map bC))) rfl ⟨by rw [Gw]; rfl, trivial⟩ ⟨by dsimp only; omega, by dsimp only; rw [List.length_set]; exact h1, h2, h3, by rw [hstep, hP]; dsimp only [cA]; rw [List.take_set, h4]; exact yB hq⟩ (by dsimp only; omega) (fun _ _ h => by dsimp only; rw [hstep]; exact h)
 have hji : j = i := by have := Gy h; omega
 subst hji
 generalize hT : f5 s n st.1.2 st.1.1 j st.2 = T at h4 ⊢
 have hTl : T.1.length = j := by rw [← hT, (hfi j).1]; exact hln.1
 repeat' (first|refine aR ?_|refine av ?_|refine aB ?_|refine ay ?_)
 refine ba (aK (List.Perm.swap _ _ _)) ?_
 refine ba (xj (k := 5) (n := j) (cap := ocap) (l := T.1.map bn) rfl (by rw [h4, yz _ _ _ (by omega)]) h1 (fun q hq => by
  obtain ⟨x, _, rfl⟩ := List.mem_map.1 hq
  rfl) (by rw [Gu]; exact hTl) h2 h3) ?_
 exact dz rfl rfl
end Go.Proofs.YtjjpkibjffmceaaGreat
