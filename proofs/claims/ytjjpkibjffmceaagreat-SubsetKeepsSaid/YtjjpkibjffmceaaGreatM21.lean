/-
  The program: growths.
-/
import Derived.Test.YtjjpkibjffmceaaGreatM20
namespace Go.Proofs.YtjjpkibjffmceaaGreat
open Go.RowKit
attribute [local irreducible] AT bT AX AO Av Kt bk ej DA cX
section
variable {P : Program} {l : List Oper} {fr : ca} {fin : jz} {sk : lm} {acc : ca} {L : AL} {k : Nat} {dd : Option Tmp} {ty t t' : TypeId} {pos : String} {af : Array Edge} {g : Option (Nat × Bool)} {x y : Operand} {u : AV}
theorem E0 {cs : List AV} (hx : bH (cM l.toArray acc fr af.toList) x = some u) (hc : u.cells = some cs) (hg : iC ⟨dd, .box t x, ty, pos, af, g⟩ acc) (h : ∀ b, DA P l fr fin sk ((k, fp b) :: acc) ((b, .box cs t) :: L)) : cX P l fr fin k .a ⟨dd, .box t x, ty, pos, af, g⟩ sk acc L :=
 Cx (fun c L' ⟨b, _, h2⟩ => ⟨[(b, .box cs t)], h2⟩) hg (fun _ => xC hx hc) fun c L' ⟨b, h1, h2⟩ => by subst h1; subst h2; exact h b
end
def wt (l : b9) (r : bV) : ix := ⟨r, l.Kind, l.Ignore, r.In ++ (r.Back ++ r.Ahead)⟩
def gd (l : b9) (rs : List bV) : List ix := (rs.filter fun r => decide (r.In ≠ [])).map (wt l)
def l4 (f : aJ) (n : Int) : List ix := match f.Lookups[n.toNat]? with
 | some l => gd l l.Rules
 | none => []
def er (f : aJ) (ks : List Int) : List ix := ks.flatMap (l4 f)
theorem su {f : aJ} {S : List Int} {i : Nat} {z : Int} (h : S[i]? = some z) : er f (S.take (i + 1)) = er f (S.take i) ++ l4 f z := by
 unfold er
 rw [List.take_add_one, h, Option.toList_some, List.flatMap_append]
 simp
abbrev HQ := List (Nat × ix)
def fE (f : aJ) (gp : Nat) (k : Option (Nat × Nat)) (hq : HQ) (Z : AL) : AL := (gp, .box (gt f k (hq.map (·.1))) 182) :: (tok k 184 1 (hq.map (·.1)).length ++ (hq.map ey ++ Z))
theorem ue {l : b9} {j : Nat} {r : bV} (h : l.Rules[j]? = some r) (hr : r.In ≠ []) : gd l (l.Rules.take (j + 1)) = gd l (l.Rules.take j) ++ [wt l r] := by
 unfold gd
 rw [List.take_add_one, h, Option.toList_some, List.filter_append, List.map_append]
 simp [hr]
theorem wu {l : b9} {j : Nat} {r : bV} (h : l.Rules[j]? = some r) (hr : r.In = []) : gd l (l.Rules.take (j + 1)) = gd l (l.Rules.take j) := by
 unfold gd
 rw [List.take_add_one, h, Option.toList_some, List.filter_append, List.map_append]
 simp [hr]
theorem sQ {R : AL} {a : Nat × AB} {t h M : AL} : (R ++ (a :: (t ++ (h ++ M)))).Perm (a :: (t ++ (h ++ (R ++ M)))) := by
 have := List.perm_append_comm_assoc R (a :: (t ++ h)) M
 simpa using this
theorem za {a b : Nat × AB} {t X Z : AL} : (t ++ (a :: b :: (X ++ Z))).Perm (b :: (t ++ ((X ++ [a]) ++ Z))) := by
 refine (List.Perm.append_left t (List.Perm.swap ..)).trans ?_
 refine List.perm_middle.trans (List.Perm.cons _ (List.Perm.append_left t ?_))
 rw [List.append_assoc]
 exact List.perm_middle.symm
theorem zf {l : b9} {rs : List bV} : (gd l rs).length ≤ rs.length := by
 unfold gd
 rw [Gu]
 exact List.length_filter_le _ _
theorem mQ (l : List (List Int)) : l.length ≤ pe l := by
 unfold pe
 induction l with
 | nil => simp
 | cons x l ih => simp only [Gp, List.sum_cons, List.length_cons]; omega
theorem dZ.ruleSets {f : aJ} (hs : dZ f) {l : b9} {r : bV} (h : l ∈ f.Lookups) (hr : r ∈ l.Rules) : fz [r.In, r.Back, r.Ahead] ≤ 1000000 := by
 have h1 := hs.rule h hr
 unfold nu at h1
 have h2 := mQ r.In
 have h3 := mQ r.Back
 have h4 := mQ r.Ahead
 simp only [fz, Gp, Gj, List.sum_cons, List.sum_nil]
 omega
theorem oF (f : aJ) (hs : dZ f) (S : List Int) : (er f S).length ≤ 2000 * S.length := by
 unfold er
 induction S with
 | nil => simp
 | cons n S ih =>
  rw [List.flatMap_cons, List.length_append, List.length_cons]
  have : (l4 f n).length ≤ 2000 := by
   unfold l4
   split
   ·rename_i l hl
    exact Nat.le_trans zf (hs.rulesL (Gx hl))
   ·simp
  omega
set_option maxHeartbeats 8000000 in
theorem ri (f : aJ) (hs : dZ f) (ks : List Int) : AC Tryz.prog 44 [cr f, .imm 1 (aU ks)] [] fun c L => ∃ gp k hq, c = fp gp ∧ L = fE f gp k hq [] ∧ hq.map (·.2) = er f (cS f.Lookups.length [] ks) := by
 refine nZ Tryz.func44 rfl Tryz.ntmps44 rfl fun B => ?_
 have hLk := hs.lookups
 have hml : (f.Lookups.map bn).length = f.Lookups.length := Gu ..
 repeat' (first|refine ah ?_|refine a7 ?_|refine a8 ?_|refine aa ?_|refine ae a6 rfl rfl ?_|(apply aH; first|refine ai 5 a6 0 rfl rfl rfl rfl rfl rfl rfl rfl ?_|refine ai 5 a6 1 rfl rfl rfl rfl rfl rfl rfl rfl ?_|refine ai 5 a6 2 rfl rfl rfl rfl rfl rfl rfl rfl ?_|refine ai 8 a6 0 rfl rfl rfl rfl rfl rfl rfl rfl ?_|refine ai 8 a6 1 rfl rfl rfl rfl rfl rfl rfl rfl ?_|refine ai 8 a6 2 rfl rfl rfl rfl rfl rfl rfl rfl ?_|refine ai 10 a6 0 rfl rfl rfl rfl rfl rfl rfl rfl ?_|refine ai 10 a6 1 rfl rfl rfl rfl rfl rfl rfl rfl ?_|refine ai 10 a6 2 rfl rfl rfl rfl rfl rfl rfl rfl ?_|refine aj a6 0 rfl rfl rfl rfl rfl rfl rfl ?_|refine aj a6 1 rfl rfl rfl rfl rfl rfl rfl ?_|refine aj a6 2 rfl rfl rfl rfl rfl rfl rfl ?_|refine aj a6 3 rfl rfl rfl rfl rfl rfl rfl ?_|fail)|refine sD (d := 14) fun _=>?_|refine be ?_|refine b5 a6 fun _=>?_|fail)
 rw [hml]
 rename_i gp _
 refine aO (bi 0 (cs' := gt f none []) rfl fun σ vs h => vA (cs := bZ f ++ [.sc (.slice none 0 0)]) rfl (fun i c c' h1 h2 v hv => ?_) h) ?_
 ·by_cases hi : i = 9
  ·subst hi
   simp [gt, bZ] at h1 h2
   subst h1; subst h2
   exact co 1 hv
  ·have h3 : i < 9 := by
    have := (Gn h2).1
    simp [gt, bZ] at this
    omega
   have e : some c = some c' := by
    rw [← h1, ← h2]
    show (bZ f ++ [_])[i]? = (bZ f ++ [_])[i]?
    rw [List.getElem?_append_left (by simpa [bZ] using h3), List.getElem?_append_left (by simpa [bZ] using h3)]
   injection e with e
   rw [← e]
   exact hv
 refine b7 [] [(gp, .box (gt f none []) 182)] (BX f.Lookups.length (by omega)) rfl rfl (Gm _) rfl fun c L1 ⟨p, b, hc, hL⟩ => ?_
 subst hc; subst hL
 repeat' (first|refine ah ?_|refine a7 ?_|refine a8 ?_|refine aa ?_|refine ae a6 rfl rfl ?_)
 refine b7 (du p b f.Lookups.length none []) _ (xA p b f.Lookups.length none [] ks (by omega) ce.nil) rfl rfl (Gm _) rfl fun c L1 ⟨kS, hL⟩ => ?_
 subst hL
 have hok := (ce.nil (n := f.Lookups.length)).add ks
 generalize cS f.Lookups.length [] ks = S at *
 have sr := hok.len
 repeat' (first|refine ah ?_|refine a7 ?_|refine aq ?_|refine a8 ?_|refine aa ?_|refine ae a6 rfl rfl ?_|(apply bA;refine bh ?_)|fail)
 refine j5 (fr' := [(23, .fn 91 [.iptr [fp p]]), (2, .iptr (bZ f)), (5, .iptr [fp gp])]) (L' := du p b f.Lookups.length kS S ++ [(gp, .box (gt f none []) 182)]) ⟨rfl, rfl, rfl, trivial⟩ (fun _ _ h => h) ?_
 refine jC (ps := [24]) rfl fun σ0 l db rec hrec => ?_
 have hy : ∀ (i : Nat) (x : HQ × Option (Nat × Nat)) (z : Int), (i ≤ S.length ∧ x.1.map (·.2) = er f (S.take i)) → S[i]? = some z → AY Tryz.prog σ0 l [aM z] (du p b f.Lookups.length kS S ++ fE f gp x.2 x.1 ([(db, gO)] ++ [(l, gk rec)])) fun c L => c = cF true ∧ ∃ x' : HQ × Option (Nat × Nat), (i + 1 ≤ S.length ∧ x'.1.map (·.2) = er f (S.take (i + 1))) ∧ L = du p b f.Lookups.length kS S ++ fE f gp x'.2 x'.1 ([(db, gO)] ++ [(l, gk rec)]) := by
  rintro i ⟨hq, k⟩ z ⟨hi1, hh⟩ hz
  dsimp only at hi1 hh ⊢
  have hil := (Gn hz).1
  have hzr := hok.dom z (Gx hz)
  obtain ⟨x, hx⟩ : ∃ x, f.Lookups[z.toNat]? = some x := ⟨_, Ds (by omega)⟩
  have hxm := Gx hx
  have hxg := bj (c := bn) hx
  have hRl := hs.rulesL hxm
  have hRm : (x.Rules.map bC).length = x.Rules.length := Gu ..
  have hxl : l4 f z = gd x x.Rules := by unfold l4; rw [hx]
  have hqs := oF f hs (S.take i)
  rw [← hh, Gu, List.length_take] at hqs
  have hE : ∀ q : HQ, ∀ kk, du p b f.Lookups.length kS S ++ fE f gp kk q ([(db, gO)] ++ [(l, gk rec)]) = (du p b f.Lookups.length kS S ++ (gp, .box (gt f kk (q.map (·.1))) 182) :: (tok kk 184 1 (q.map (·.1)).length ++ (q.map ey ++ [(db, gO)]))) ++ [(l, gk rec)] := fun q kk => by unfold fE; simp
  rw [hE]
  refine rW hrec rfl rfl fun B1 hB1 => ?_
  repeat' (first|refine a7 ?_|refine aa ?_|refine ae a6 rfl rfl ?_)
  refine jD hrec.state ?_
  repeat' (first|refine ah ?_|refine a7 ?_|refine aq ?_|refine a8 ?_|refine aa ?_|refine ae a6 rfl rfl ?_|(apply aY; first|refine aX a6 ?_|refine aS a6 ?_)|(apply aH; first|refine ai 5 a6 0 rfl rfl rfl rfl rfl rfl rfl rfl ?_|refine ai 5 a6 1 rfl rfl rfl rfl rfl rfl rfl rfl ?_|refine ai 5 a6 2 rfl rfl rfl rfl rfl rfl rfl rfl ?_|refine ai 8 a6 0 rfl rfl rfl rfl rfl rfl rfl rfl ?_|refine ai 8 a6 1 rfl rfl rfl rfl rfl rfl rfl rfl ?_|refine ai 8 a6 2 rfl rfl rfl rfl rfl rfl rfl rfl ?_|refine ai 10 a6 0 rfl rfl rfl rfl rfl rfl rfl rfl ?_|refine ai 10 a6 1 rfl rfl rfl rfl rfl rfl rfl rfl ?_|refine ai 10 a6 2 rfl rfl rfl rfl rfl rfl rfl rfl ?_|refine aj a6 0 rfl rfl rfl rfl rfl rfl rfl ?_|refine aj a6 1 rfl rfl rfl rfl rfl rfl rfl ?_|refine aj a6 2 rfl rfl rfl rfl rfl rfl rfl ?_|refine aj a6 3 rfl rfl rfl rfl rfl rfl rfl ?_|fail)|refine b5 a6 fun _=>?_|fail)
  refine aN [2, 5, 8, 24, 31, 32] (α := Nat × HQ × Option (Nat × Nat)) (fun y => [(33, aM y.1)]) (fun y => y.1 ≤ x.Rules.length ∧ y.2.1.map (·.2) = er f (S.take i) ++ gd x (x.Rules.take y.1)) (fun y => fE f gp y.2.2 y.2.1 (du p b f.Lookups.length kS S ++ ([(db, gO)] ++ [(l, gk { rec with state := .busy })]))) (fun y => x.Rules.length - y.1) (0, hq, k) rfl ⟨rfl, trivial⟩ ⟨Nat.zero_le _, by rw [hh]; simp [gd]⟩ (fun σ w h => ?_) ?_
  ·refine dl.perm h ?_
   have := sQ (R := du p b f.Lookups.length kS S) (a := (gp, AB.box (gt f k (hq.map (·.1))) 182)) (t := tok k 184 1 (hq.map (·.1)).length) (h := hq.map ey) (M := [(db, gO)] ++ [(l, gk { rec with state := .busy })])
   simpa [fE] using this
  clear hh
  rintro ⟨j, hq, k⟩ ⟨hj, hh⟩
  dsimp only at hj hh ⊢
  have hlen := congrArg List.length hh
  rw [Gu, List.length_append] at hlen
  have hb1 := oF f hs (S.take i)
  rw [List.length_take] at hb1
  have hb2 := zf (l := x) (rs := x.Rules.take j)
  rw [List.length_take] at hb2
  have hql : ((hq.map (·.1)).map fun q => [fp q]).length = hq.length := by simp
  generalize hZ : du p b f.Lookups.length kS S ++ ([(db, gO)] ++ [(l, gk { rec with state := .busy })]) = Z
  try dsimp only [Gr, Gq, Gp, Gj]
  repeat' (first|refine ah ?_|refine a7 ?_|refine a8 ?_|refine aa ?_|refine ae a6 rfl rfl ?_)
  refine aw rfl (fun h => ?_) (fun h => ?_)
  ·have hjl : j < x.Rules.length := by have := Gz h; simp at this; omega
   obtain ⟨r, hr⟩ : ∃ r, x.Rules[j]? = some r := ⟨_, Ds hjl⟩
   have hrm := Gx hr
   have hrg := bj (c := bC) hr
   have hIl := fC r.In
   clear h
   repeat' (first|refine ah ?_|refine a7 ?_|refine aq ?_|refine au ?_|refine a8 ?_|refine aa ?_|refine ae a6 rfl rfl ?_|(apply aY; first|refine aX a6 ?_|refine aS a6 ?_)|(apply aH; first|refine ai 5 a6 0 rfl rfl rfl rfl rfl rfl rfl rfl ?_|refine ai 5 a6 1 rfl rfl rfl rfl rfl rfl rfl rfl ?_|refine ai 5 a6 2 rfl rfl rfl rfl rfl rfl rfl rfl ?_|refine ai 8 a6 0 rfl rfl rfl rfl rfl rfl rfl rfl ?_|refine ai 8 a6 1 rfl rfl rfl rfl rfl rfl rfl rfl ?_|refine ai 8 a6 2 rfl rfl rfl rfl rfl rfl rfl rfl ?_|refine ai 10 a6 0 rfl rfl rfl rfl rfl rfl rfl rfl ?_|refine ai 10 a6 1 rfl rfl rfl rfl rfl rfl rfl rfl ?_|refine ai 10 a6 2 rfl rfl rfl rfl rfl rfl rfl rfl ?_|refine aj a6 0 rfl rfl rfl rfl rfl rfl rfl ?_|refine aj a6 1 rfl rfl rfl rfl rfl rfl rfl ?_|refine aj a6 2 rfl rfl rfl rfl rfl rfl rfl ?_|refine aj a6 3 rfl rfl rfl rfl rfl rfl rfl ?_|fail)|refine b5 a6 fun _=>?_|fail)
   refine aw rfl (fun h => ?_) (fun h => ?_)
   ·have hIn : r.In ≠ [] := fun e => by have := Gz h; rw [hIl, e] at this; simp at this
    clear h
    repeat' (first|refine ah ?_|refine a7 ?_|refine ae a6 rfl rfl ?_|refine bz a6 ?_|fail)
    refine bh (hc := ⟨om [r.In, r.Back, r.Ahead] (hs.ruleSets hxm hrm)⟩) ?_
    rw [show ([r.In, r.Back, r.Ahead] : List (List (List Int))).flatten = r.In ++ (r.Back ++ r.Ahead) by simp]
    unfold fE gt
    repeat' (first|refine a8 ?_|refine aa ?_|refine ae a6 rfl rfl ?_)
    refine bt 15 [(0, .v), (1, .v), (2, .v), (3, .v), (4, .l), (5, .v), (6, .v), (7, .v), (8, .v), (9, .v), (10, .v), (11, .v), (12, .a), (13, .v), (14, .e)] none ?_ trivial rfl (by kernel_rfl) (by kernel_rfl) (by kernel_rfl) mixed (by kernel_rfl) rfl
    repeat' (first|refine aE ?_|refine aZ a6 ?_|refine cI a6 0 rfl rfl rfl rfl (by first|trivial|rfl) ?_)
    refine E0 rfl rfl trivial fun q => ?_
    repeat' (first|refine aE ?_|refine ee a6 ?_|fail)
    refine fJ a6 _ rfl rfl rfl rfl (k5 (H := []) (T := tok k 184 1 (hq.map (·.1)).length) (T' := []) (by simp)) (by rw [hql]; show _ + 1 ≤ _; omega) (by rw [hql]; show (_ + 1) * 8 ≤ _; omega) trivial fun k' => ?_
    repeat' (first|fail)
    refine br [2, 5, 8, 24, 31, 32, 33, 49, 63] rfl rfl ?_
    refine aO (aK (za (X := hq.map ey))) ?_
    repeat' (first|refine a7 ?_|refine a8 ?_|refine aI ?_|refine aa ?_|refine ae a6 rfl rfl ?_|(apply aW; refine aV ?_)|(apply aH; first|refine ai 5 a6 0 rfl rfl rfl rfl rfl rfl rfl rfl ?_|refine ai 5 a6 1 rfl rfl rfl rfl rfl rfl rfl rfl ?_|refine ai 5 a6 2 rfl rfl rfl rfl rfl rfl rfl rfl ?_|refine ai 8 a6 0 rfl rfl rfl rfl rfl rfl rfl rfl ?_|refine ai 8 a6 1 rfl rfl rfl rfl rfl rfl rfl rfl ?_|refine ai 8 a6 2 rfl rfl rfl rfl rfl rfl rfl rfl ?_|refine ai 10 a6 0 rfl rfl rfl rfl rfl rfl rfl rfl ?_|refine ai 10 a6 1 rfl rfl rfl rfl rfl rfl rfl rfl ?_|refine ai 10 a6 2 rfl rfl rfl rfl rfl rfl rfl rfl ?_|refine aj a6 0 rfl rfl rfl rfl rfl rfl rfl ?_|refine aj a6 1 rfl rfl rfl rfl rfl rfl rfl ?_|refine aj a6 2 rfl rfl rfl rfl rfl rfl rfl ?_|refine aj a6 3 rfl rfl rfl rfl rfl rfl rfl ?_|fail))
    have e : fE f gp k' (hq ++ [(q, wt x r)]) Z = (gp, AB.box (bZ f ++ [AV.vec k' 1 (List.map (fun q => [fp q]) (hq.map (·.1)) ++ [[fp q]])]) 182) :: (tok k' 184 1 (List.map (fun q => [fp q]) (hq.map (·.1)) ++ [[fp q]]).length ++ ((hq.map ey ++ [ey (q, wt x r)]) ++ Z)) := by unfold fE gt; simp
    exact aC (j + 1, hq ++ [(q, wt x r)], k') rfl ⟨by rw [Gw]; rfl, trivial⟩ ⟨by dsimp only; omega, by rw [ue hr hIn, List.map_append, hh, List.append_assoc]; rfl⟩ (by dsimp only; omega) (fun σ w h => by have h2 : dl B1 σ (fE f gp k' (hq ++ [(q, wt x r)]) Z) w := (by rw [e]; exact h); exact h2)
   ·have hIn : r.In = [] := List.eq_nil_of_length_eq_zero (by have := Gy h; rw [hIl] at this; omega)
    repeat' (first|refine a7 ?_|refine au ?_|refine a8 ?_|refine aI ?_|refine aa ?_|refine ae a6 rfl rfl ?_|(apply aW; refine aV ?_)|fail)
    exact aC (j + 1, hq, k) rfl ⟨by rw [Gw]; rfl, trivial⟩ ⟨by dsimp only; omega, by rw [wu hr hIn]; exact hh⟩ (by dsimp only; omega) (fun _ _ h => h)
  ·have hjl : j = x.Rules.length := by have := Gy h; simp at this; omega
   subst hjl
   rw [List.take_length] at hh
   repeat' (first|refine aR ?_|refine av ?_|refine aI ?_|refine aB ?_|refine ay ?_)
   refine ba (L' := (du p b f.Lookups.length kS S ++ (gp, .box (gt f k (hq.map (·.1))) 182) :: (tok k 184 1 (hq.map (·.1)).length ++ (hq.map ey ++ [(db, gO)]))) ++ [(l, gk { rec with state := .busy })]) (aK ?_) (oa ?_)
   ·subst hZ
    have := (sQ (R := du p b f.Lookups.length kS S) (a := (gp, AB.box (gt f k (hq.map (·.1))) 182)) (t := tok k 184 1 (hq.map (·.1)).length) (h := hq.map ey) (M := [(db, gO)] ++ [(l, gk { rec with state := .busy })])).symm
    simpa [fE] using this
   ·rw [oY hrec.state hrec.pending]
    refine ⟨rfl, (hq, k), ⟨hil, ?_⟩, by simp [fE]⟩
    rw [su hz, hxl]
    exact hh
 have hit := z8 (σ0 := σ0) (l := l) (p := p) (b := b) (n := f.Lookups.length) (fun _ => S) (fun _ => kS) (fun x : HQ × Option (Nat × Nat) => fE f gp x.2 x.1 ([(db, gO)] ++ [(l, gk rec)])) (fun i x => i ≤ S.length ∧ x.1.map (·.2) = er f (S.take i)) (by omega) (fun i x h => ⟨h.1, sr⟩) hy ([], none) ⟨Nat.zero_le _, rfl⟩
 refine ⟨_, hit.perm (List.Perm.of_eq (by simp [fE, tok])), ?_⟩
 rintro c L' ⟨⟨hq, k⟩, ⟨_, hh⟩, rfl⟩
 dsimp only at hh ⊢
 rw [List.take_length] at hh
 refine ⟨rec, du p b f.Lookups.length kS S ++ fE f gp k hq [(db, gO)], List.Perm.of_eq (by simp [fE]), (by rw [hrec.state]; intro h; cases h), ?_⟩
 rw [hrec.pending]
 show AX _ _ _ _ _ _ _ _
 repeat' (first|refine ah ?_|refine a7 ?_|refine ar ?_|refine a8 ?_|refine aI ?_|refine aa ?_|refine ae a6 rfl rfl ?_)
 refine cO (List.sublist_append_right ..) ?_
 exact j6 (cs := [fp gp]) [db] (fE f gp k hq []) rfl (List.Perm.of_eq (by simp [fE])) ⟨rfl, trivial⟩ ⟨gp, k, hq, rfl, rfl, hh⟩
end Go.Proofs.YtjjpkibjffmceaaGreat
namespace Go.Proofs.YtjjpkibjffmceaaGreat
open Go.RowKit
attribute [local irreducible] AT bT AX AO Av Kt bk ej DA cX
def lX (f : aJ) (n : Int) : List Int := match f.Glyphs[n.toNat]? with | some g => g.Parts.map cB.Glyph | none => []
def adv (f : aJ) (S : List Int) (h : ix) : ix := h.rest (iv f S h.ign)
def dE (f : aJ) (S : List Int) (h : ix) : List Int := if (h.unmet.all fun s => s.any (iv f S h.ign)) = true then k8 h (iv f S h.ign) else []
def eL (f : aJ) (S : List Int) : List Int := S.flatMap fun n => n :: lX f n
def ew (f : aJ) (S : List Int) (hs : List ix) : List Int := cS f.Glyphs.length [] (eL f S ++ hs.flatMap (dE f S))
def mj (hs : List ix) : Prop := ∀ h ∈ hs, h.rule.In ≠ [] ∧ h.rule.Out.length ≤ 1000000
theorem sq {f : aJ} {gp : Nat} {k : Option (Nat × Nat)} {hq : HQ} {A X M : AL} : (fE f gp k hq (A ++ (X ++ M))).Perm (X ++ fE f gp k hq (A ++ M)) := by
 unfold fE
 have h := List.perm_append_comm_assoc ((gp, AB.box (gt f k (hq.map (·.1))) 182) :: (tok k 184 1 (hq.map (·.1)).length ++ (hq.map ey ++ A))) X M
 simpa using h
theorem CJ {f : aJ} {gp : Nat} {k : Option (Nat × Nat)} {h1 h2 : HQ} {x : Nat × ix} {A Z : AL} : (fE f gp k (h1 ++ x :: h2) (A ++ Z)).Perm ((ey x :: (gp, .box (gt f k ((h1 ++ x :: h2).map (·.1))) 182) :: A) ++ (tok k 184 1 ((h1 ++ x :: h2).map (·.1)).length ++ (h1.map ey ++ (h2.map ey ++ Z)))) := by
 unfold fE
 generalize (gp, AB.box (gt f k ((h1 ++ x :: h2).map (·.1))) 182) = a
 generalize tok k 184 1 ((h1 ++ x :: h2).map (·.1)).length = t
 simp only [List.map_append, Gp]
 generalize h1.map ey = u
 generalize h2.map ey = v
 generalize ey x = b
 have e1 : (a :: (t ++ ((u ++ b :: v) ++ (A ++ Z)))).Perm (a :: b :: ((t ++ (u ++ v)) ++ (A ++ Z))) := by
  refine List.Perm.cons _ ?_
  have : t ++ ((u ++ b :: v) ++ (A ++ Z)) = (t ++ u) ++ b :: (v ++ (A ++ Z)) := by simp
  rw [this]
  refine List.perm_middle.trans (List.Perm.cons _ (List.Perm.of_eq (by simp)))
 refine e1.trans ((List.Perm.swap ..).trans ?_)
 have e2 := List.perm_append_comm_assoc (t ++ (u ++ v)) A Z
 refine (List.Perm.cons _ (List.Perm.cons _ e2)).trans (List.Perm.of_eq (by simp))
theorem CK {f : aJ} {gp : Nat} {k : Option (Nat × Nat)} {hq : HQ} {A N M : AL} : (A ++ (N ++ (fE f gp k hq [] ++ M))).Perm (fE f gp k hq (A ++ (N ++ M))) := by
 have h := List.perm_append_comm_assoc (A ++ N) (fE f gp k hq []) M
 have e : fE f gp k hq (A ++ (N ++ M)) = fE f gp k hq [] ++ (A ++ N ++ M) := by unfold fE; simp
 rw [e]
 simpa using h
theorem pL {f : aJ} {S : List Int} {i : Nat} {z : Int} (h : S[i]? = some z) : eL f (S.take (i + 1)) = eL f (S.take i) ++ (z :: lX f z) := by
 unfold eL
 rw [List.take_add_one, h, Option.toList_some, List.flatMap_append]
 simp
theorem E4 {f : aJ} {gp : Nat} {k : Option (Nat × Nat)} {h1 h2 : HQ} {x : Nat × ix} {A N M : AL} : (fE f gp k (h1 ++ x :: h2) (A ++ (N ++ M))).Perm ((ey x :: (gp, .box (gt f k ((h1 ++ x :: h2).map (·.1))) 182) :: A ++ N) ++ (tok k 184 1 ((h1 ++ x :: h2).map (·.1)).length ++ (h1.map ey ++ (h2.map ey ++ M)))) := by
 refine CJ.trans ?_
 generalize tok k 184 1 ((h1 ++ x :: h2).map (·.1)).length = t
 generalize ey x :: (gp, AB.box (gt f k ((h1 ++ x :: h2).map (·.1))) 182) :: A = X
 have h := List.perm_append_comm_assoc (t ++ (h1.map ey ++ h2.map ey)) N M
 have h3 := List.Perm.append_left X h
 simpa using h3
theorem dZ.parts {f : aJ} (hs : dZ f) {g : bf} (h : g ∈ f.Glyphs) : g.Parts.length ≤ 2000 := by
 have h1 := rB (g := mG) h
 have h2 : mG g ≤ kF f := by unfold kF; omega
 have h3 : kF f ≤ 2000 := hs
 unfold mG at h2
 omega
set_option maxHeartbeats 8000000 in
theorem BF (f : aJ) (hs : dZ f) (gp ap ab : Nat) (kg ka : Option (Nat × Nat)) (hq : HQ) (S : List Int) (hS : ce f.Glyphs.length S) (hH : mj (hq.map (·.2))) (hql : hq.length ≤ 100000000) : AC Tryz.prog 45 [fp gp, fp ap] (fE f gp kg hq (bJ ap ab f.Glyphs.length ka S)) fun c L => ∃ np nb kn hq', c = fp np ∧ L = fE f gp kg hq' (bJ ap ab f.Glyphs.length ka S ++ bJ np nb f.Glyphs.length kn (ew f S (hq.map (·.2)))) ∧ hq'.map (·.1) = hq.map (·.1) ∧ hq'.map (·.2) = (hq.map (·.2)).map (adv f S) := by
 refine nZ Tryz.func45 rfl Tryz.ntmps45 rfl fun B => ?_
 have hGl := hs.glyphs
 have hml : (f.Glyphs.map bb).length = f.Glyphs.length := Gu ..
 have sr := hS.len
 unfold fE gt
 repeat' (first|refine ah ?_|refine a7 ?_|refine a8 ?_|refine aa ?_|refine ae a6 rfl rfl ?_|(apply bB; first|refine ak a6 0 rfl rfl rfl rfl rfl ?_|refine ak a6 1 rfl rfl rfl rfl rfl ?_|refine ak a6 2 rfl rfl rfl rfl rfl ?_|refine ak a6 3 rfl rfl rfl rfl rfl ?_|refine aD a6 0 rfl rfl rfl rfl rfl ?_|refine aD a6 1 rfl rfl rfl rfl rfl ?_|refine aD a6 2 rfl rfl rfl rfl rfl ?_|refine ak a6 1 rfl rfl rfl (by assumption) rfl ?_|refine ak a6 0 rfl rfl rfl (by assumption) rfl ?_|fail)|refine be ?_|fail)
 rw [hml]
 refine b7 [] _ (BW f.Glyphs.length (by omega)) rfl rfl (Gm _) rfl fun c L1 ⟨np, nb, hc, hL⟩ => ?_
 subst hc; subst hL
 repeat' (first|refine ah ?_|refine a7 ?_|refine aq ?_|refine a8 ?_|refine aa ?_|refine ae a6 rfl rfl ?_|(apply aH; first|refine ai 5 a6 0 rfl rfl rfl rfl rfl rfl rfl rfl ?_|refine ai 5 a6 1 rfl rfl rfl rfl rfl rfl rfl rfl ?_|refine ai 5 a6 2 rfl rfl rfl rfl rfl rfl rfl rfl ?_|refine ai 8 a6 0 rfl rfl rfl rfl rfl rfl rfl rfl ?_|refine ai 8 a6 1 rfl rfl rfl rfl rfl rfl rfl rfl ?_|refine ai 8 a6 2 rfl rfl rfl rfl rfl rfl rfl rfl ?_|refine ai 10 a6 0 rfl rfl rfl rfl rfl rfl rfl rfl ?_|refine ai 10 a6 1 rfl rfl rfl rfl rfl rfl rfl rfl ?_|refine ai 10 a6 2 rfl rfl rfl rfl rfl rfl rfl rfl ?_|refine aj a6 0 rfl rfl rfl rfl rfl rfl rfl ?_|refine aj a6 1 rfl rfl rfl rfl rfl rfl rfl ?_|refine aj a6 2 rfl rfl rfl rfl rfl rfl rfl ?_|refine aj a6 3 rfl rfl rfl rfl rfl rfl rfl ?_|fail)|refine b5 a6 fun _=>?_|(apply bA;refine bh ?_)|fail)
 refine j5 (fr' := [(20, .fn 147 [.iptr [fp ap]]), (2, .iptr [fp gp]), (3, .iptr [fp ap]), (5, .iptr [fp np])]) (L' := bJ ap ab f.Glyphs.length ka S ++ (bJ np nb f.Glyphs.length none [] ++ fE f gp kg hq [])) ⟨rfl, rfl, rfl, rfl, trivial⟩ (fun σ w h => ?_) ?_
 ·have h1 : (bJ np nb f.Glyphs.length none [] ++ fE f gp kg hq (bJ ap ab f.Glyphs.length ka S)).Perm (bJ ap ab f.Glyphs.length ka S ++ (bJ np nb f.Glyphs.length none [] ++ fE f gp kg hq [])) := by
   have h2 := sq (f := f) (gp := gp) (k := kg) (hq := hq) (A := []) (X := bJ ap ab f.Glyphs.length ka S) (M := [])
   simp only [Gq, List.append_nil] at h2
   exact (List.Perm.append_left _ h2).trans (List.perm_append_comm_assoc _ _ _)
  exact h.perm h1
 refine jC (ps := [21]) rfl fun σ0 l db rec hrec => ?_
 have hy : ∀ (i : Nat) (x : List Int × Option (Nat × Nat)) (z : Int), (i ≤ S.length ∧ x.1 = cS f.Glyphs.length [] (eL f (S.take i))) → S[i]? = some z → AY Tryz.prog σ0 l [aM z] (bJ ap ab f.Glyphs.length ka S ++ (bJ np nb f.Glyphs.length x.2 x.1 ++ (fE f gp kg hq [] ++ ([(db, gO)] ++ [(l, gk rec)])))) fun c L => c = cF true ∧ ∃ x' : List Int × Option (Nat × Nat), (i + 1 ≤ S.length ∧ x'.1 = cS f.Glyphs.length [] (eL f (S.take (i + 1)))) ∧ L = bJ ap ab f.Glyphs.length ka S ++ (bJ np nb f.Glyphs.length x'.2 x'.1 ++ (fE f gp kg hq [] ++ ([(db, gO)] ++ [(l, gk rec)]))) := by
  rintro i ⟨T, kn⟩ z ⟨hi1, hT⟩ hz
  dsimp only at hi1 hT ⊢
  have hil := (Gn hz).1
  have hzr := hS.dom z (Gx hz)
  obtain ⟨gl, hgl⟩ : ∃ x, f.Glyphs[z.toNat]? = some x := ⟨_, Ds (by omega)⟩
  have hgm := Gx hgl
  have hgg := bj (c := bb) hgl
  have hpl := hs.parts hgm
  have hpm : (gl.Parts.map cn).length = gl.Parts.length := Gu ..
  have hp0 : lX f z = gl.Parts.map cB.Glyph := by unfold lX; rw [hgl]
  have hTok : ce f.Glyphs.length T := by rw [hT]; exact ce.nil.add _
  have hE : ∀ (T : List Int) kn, bJ ap ab f.Glyphs.length ka S ++ (bJ np nb f.Glyphs.length kn T ++ (fE f gp kg hq [] ++ ([(db, gO)] ++ [(l, gk rec)]))) = (bJ ap ab f.Glyphs.length ka S ++ (bJ np nb f.Glyphs.length kn T ++ (fE f gp kg hq [] ++ [(db, gO)]))) ++ [(l, gk rec)] := fun T kn => by simp
  rw [hE]
  refine rW hrec rfl rfl fun B1 hB1 => ?_
  repeat' (first|refine a7 ?_|refine aa ?_|refine ae a6 rfl rfl ?_)
  refine jD hrec.state ?_
  refine bK (aK (L' := fE f gp kg hq (bJ ap ab f.Glyphs.length ka S ++ (bJ np nb f.Glyphs.length kn T ++ ([(db, gO)] ++ [(l, gk { rec with state := .busy })])))) ?_) ?_
  ·have := CK (f := f) (gp := gp) (k := kg) (hq := hq) (A := bJ ap ab f.Glyphs.length ka S) (N := bJ np nb f.Glyphs.length kn T) (M := [(db, gO)] ++ [(l, gk { rec with state := .busy })])
   simpa using this
  generalize hM : [(db, gO)] ++ [(l, gk { rec with state := .busy })] = M
  repeat' (first|refine ah ?_|refine a7 ?_|refine aq ?_|refine ae a6 rfl rfl ?_|refine bz a6 ?_|fail)
  refine b7 (bJ np nb f.Glyphs.length kn T) _ (lr np nb f.Glyphs.length kn T [z] (by omega) hTok) rfl rfl sq rfl fun c L1 ⟨k1, hL⟩ => ?_
  subst hL
  refine aO (aK sq.symm) ?_
  repeat' (first|refine ah ?_|refine a7 ?_|refine aq ?_|refine a8 ?_|refine aa ?_|refine ae a6 rfl rfl ?_|(apply bB; first|refine ak a6 0 rfl rfl rfl rfl rfl ?_|refine ak a6 1 rfl rfl rfl rfl rfl ?_|refine ak a6 2 rfl rfl rfl rfl rfl ?_|refine ak a6 3 rfl rfl rfl rfl rfl ?_|refine aD a6 0 rfl rfl rfl rfl rfl ?_|refine aD a6 1 rfl rfl rfl rfl rfl ?_|refine aD a6 2 rfl rfl rfl rfl rfl ?_|refine ak a6 1 rfl rfl rfl (by assumption) rfl ?_|refine ak a6 0 rfl rfl rfl (by assumption) rfl ?_|fail)|(apply aY; first|refine aX a6 ?_|refine aS a6 ?_)|fail)
  have hT1 := hTok.add [z]
  refine aN [2, 3, 5, 21, 34, 35] (α := Nat × Option (Nat × Nat)) (fun y => [(36, aM y.1)]) (fun y => y.1 ≤ gl.Parts.length) (fun y => fE f gp kg hq (bJ ap ab f.Glyphs.length ka S ++ (bJ np nb f.Glyphs.length y.2 (cS f.Glyphs.length (cS f.Glyphs.length T [z]) ((gl.Parts.take y.1).map cB.Glyph)) ++ M))) (fun y => gl.Parts.length - y.1) (0, k1) rfl ⟨rfl, trivial⟩ (Nat.zero_le _) (fun _ _ h => h) ?_
  rintro ⟨j, k2⟩ hj
  dsimp only at hj ⊢
  have hT2 := hT1.add ((gl.Parts.take j).map cB.Glyph)
  try dsimp only [Gr, Gq, Gp, Gj]
  repeat' (first|refine ah ?_|refine a7 ?_|refine a8 ?_|refine aa ?_|refine ae a6 rfl rfl ?_)
  refine aw rfl (fun h => ?_) (fun h => ?_)
  ·have hjl : j < gl.Parts.length := by have := Gz h; omega
   obtain ⟨q, hq2⟩ : ∃ q, gl.Parts[j]? = some q := ⟨_, Ds hjl⟩
   have hqg := bj (c := cn) hq2
   clear h
   repeat' (first|refine ah ?_|refine a7 ?_|refine aq ?_|refine au ?_|refine a8 ?_|refine aa ?_|refine ae a6 rfl rfl ?_|(apply aY; first|refine aX a6 ?_|refine aS a6 ?_)|(apply aH; first|refine ai 5 a6 0 rfl rfl rfl rfl rfl rfl rfl rfl ?_|refine ai 5 a6 1 rfl rfl rfl rfl rfl rfl rfl rfl ?_|refine ai 5 a6 2 rfl rfl rfl rfl rfl rfl rfl rfl ?_|refine ai 8 a6 0 rfl rfl rfl rfl rfl rfl rfl rfl ?_|refine ai 8 a6 1 rfl rfl rfl rfl rfl rfl rfl rfl ?_|refine ai 8 a6 2 rfl rfl rfl rfl rfl rfl rfl rfl ?_|refine ai 10 a6 0 rfl rfl rfl rfl rfl rfl rfl rfl ?_|refine ai 10 a6 1 rfl rfl rfl rfl rfl rfl rfl rfl ?_|refine ai 10 a6 2 rfl rfl rfl rfl rfl rfl rfl rfl ?_|refine aj a6 0 rfl rfl rfl rfl rfl rfl rfl ?_|refine aj a6 1 rfl rfl rfl rfl rfl rfl rfl ?_|refine aj a6 2 rfl rfl rfl rfl rfl rfl rfl ?_|refine aj a6 3 rfl rfl rfl rfl rfl rfl rfl ?_|fail)|refine b5 a6 fun _=>?_|refine bz a6 ?_|fail)
   refine b7 (bJ np nb f.Glyphs.length k2 (cS f.Glyphs.length (cS f.Glyphs.length T [z]) ((gl.Parts.take j).map cB.Glyph))) _ (lr np nb f.Glyphs.length k2 _ [q.Glyph] (by omega) hT2) rfl rfl sq rfl fun c L1 ⟨k3, hL⟩ => ?_
   subst hL
   refine aO (aK sq.symm) ?_
   repeat' (first|refine a7 ?_|refine a8 ?_|refine aI ?_|refine aa ?_|refine ae a6 rfl rfl ?_|(apply aW; refine aV ?_)|fail)
   refine aC (j + 1, k3) rfl ⟨by rw [Gw]; rfl, trivial⟩ (by dsimp only; omega) (by dsimp only; omega) (fun σ w h => ?_)
   dsimp only
   rw [List.take_add_one, hq2, Option.toList_some, List.map_append, ← eI]
   exact h
  ·have hjl : j = gl.Parts.length := by have := Gy h; omega
   subst hjl
   rw [List.take_length]
   repeat' (first|refine aR ?_|refine av ?_|refine aI ?_|refine aB ?_|refine ay ?_)
   subst hM
   refine ba (L' := (bJ ap ab f.Glyphs.length ka S ++ (bJ np nb f.Glyphs.length k2 (cS f.Glyphs.length (cS f.Glyphs.length T [z]) (gl.Parts.map cB.Glyph)) ++ (fE f gp kg hq [] ++ [(db, gO)]))) ++ [(l, gk { rec with state := .busy })]) (aK ?_) (oa ?_)
   ·have := (CK (f := f) (gp := gp) (k := kg) (hq := hq) (A := bJ ap ab f.Glyphs.length ka S) (N := bJ np nb f.Glyphs.length k2 (cS f.Glyphs.length (cS f.Glyphs.length T [z]) (gl.Parts.map cB.Glyph))) (M := [(db, gO)] ++ [(l, gk { rec with state := .busy })])).symm
    simpa using this
   ·rw [oY hrec.state hrec.pending]
    refine ⟨rfl, (_, k2), ⟨hil, ?_⟩, by simp; rfl⟩
    rw [pL hz, hp0, ← eI, ← hT, show z :: gl.Parts.map cB.Glyph = [z] ++ gl.Parts.map cB.Glyph from rfl, ← eI]
 have hit := D3 (σ0 := σ0) (l := l) (p := ap) (b := ab) (n := f.Glyphs.length) (fun _ => S) (fun _ => ka) (fun x : List Int × Option (Nat × Nat) => bJ np nb f.Glyphs.length x.2 x.1 ++ (fE f gp kg hq [] ++ ([(db, gO)] ++ [(l, gk rec)]))) (fun i x => i ≤ S.length ∧ x.1 = cS f.Glyphs.length [] (eL f (S.take i))) (by omega) (fun i x h => ⟨h.1, sr⟩) hy ([], none) ⟨Nat.zero_le _, rfl⟩
 refine ⟨_, hit.perm (List.Perm.of_eq (by simp)), ?_⟩
 rintro c L' ⟨⟨T, kn⟩, ⟨_, hT⟩, rfl⟩
 dsimp only at hT ⊢
 rw [List.take_length] at hT
 refine ⟨rec, bJ ap ab f.Glyphs.length ka S ++ (bJ np nb f.Glyphs.length kn T ++ (fE f gp kg hq [] ++ [(db, gO)])), List.Perm.of_eq (by simp), (by rw [hrec.state]; intro h; cases h), ?_⟩
 rw [hrec.pending]
 show AX _ _ _ _ _ _ _ _
 refine ba (aK CK) ?_
 have hTok : ce f.Glyphs.length T := by rw [hT]; exact ce.nil.add _
 clear hy hit hrec
 unfold fE gt
 repeat' (first|refine ah ?_|refine a7 ?_|refine aq ?_|refine a8 ?_|refine aI ?_|refine aa ?_|refine ae a6 rfl rfl ?_|(apply bB; first|refine ak a6 0 rfl rfl rfl rfl rfl ?_|refine ak a6 1 rfl rfl rfl rfl rfl ?_|refine ak a6 2 rfl rfl rfl rfl rfl ?_|refine ak a6 3 rfl rfl rfl rfl rfl ?_|refine aD a6 0 rfl rfl rfl rfl rfl ?_|refine aD a6 1 rfl rfl rfl rfl rfl ?_|refine aD a6 2 rfl rfl rfl rfl rfl ?_|refine ak a6 1 rfl rfl rfl (by assumption) rfl ?_|refine ak a6 0 rfl rfl rfl (by assumption) rfl ?_|fail)|fail)
 refine aN [2, 3, 5, 49, 50] (α := Nat × HQ × List Int × Option (Nat × Nat)) (fun y => [(51, aM y.1)]) (fun y => y.1 ≤ hq.length ∧ y.2.1.map (·.1) = hq.map (·.1) ∧ y.2.1.map (·.2) = ((hq.map (·.2)).take y.1).map (adv f S) ++ (hq.map (·.2)).drop y.1 ∧ y.2.2.1 = cS f.Glyphs.length T (((hq.map (·.2)).take y.1).flatMap (dE f S))) (fun y => fE f gp kg y.2.1 (bJ ap ab f.Glyphs.length ka S ++ (bJ np nb f.Glyphs.length y.2.2.2 y.2.2.1 ++ [(db, gO)]))) (fun y => hq.length - y.1) (0, hq, T, kn) rfl ⟨rfl, trivial⟩ ⟨Nat.zero_le _, rfl, by simp, rfl⟩ (fun _ _ h => h) ?_
 rintro ⟨j, hqj, T1, k1⟩ ⟨hj, hf1, hf2, hT1⟩
 dsimp only at hj hf1 hf2 hT1 ⊢
 have hTok1 : ce f.Glyphs.length T1 := by rw [hT1]; exact hTok.add _
 have hpl : ((hq.map (·.1)).map fun q => [fp q]).length = hq.length := by simp
 try dsimp only [Gr, Gq, Gp, Gj]
 repeat' (first|refine ah ?_|refine a7 ?_|refine a8 ?_|refine aa ?_|refine ae a6 rfl rfl ?_)
 refine aw rfl (fun h => ?_) (fun h => ?_)
 ·have hjl : j < hq.length := by have := Gz h; omega
  obtain ⟨⟨q, hp⟩, hqj0⟩ : ∃ x, hq[j]? = some x := ⟨_, Ds hjl⟩
  have hqs : (hq.map (·.2))[j]? = some hp := by rw [List.getElem?_map, hqj0]; rfl
  have hqg : ((hq.map (·.1)).map fun q => [fp q])[j]? = some [fp q] := by simp [hqj0]
  have hlen := congrArg List.length hf1
  rw [Gu, Gu] at hlen
  have hx : hqj[j]? = some (q, hp) := by
   obtain ⟨⟨q', h'⟩, hx⟩ : ∃ x, hqj[j]? = some x := ⟨_, Ds (by omega)⟩
   have e1 := congrArg (fun l => l[j]?) hf1
   simp only [List.getElem?_map, hx, hqj0, Option.map_some, Option.some.injEq] at e1
   have e3 : ((((hq.map (·.2)).take j).map (adv f S)) ++ (hq.map (·.2)).drop j)[j]? = some hp := by
    rw [List.getElem?_append_right (by simp; omega), List.getElem?_drop, show j + (j - (((hq.map (·.2)).take j).map (adv f S)).length) = j by simp; omega]
    exact hqs
   have e2 : (hqj.map (·.2))[j]? = some hp := by rw [hf2]; exact e3
   rw [List.getElem?_map, hx, Option.map_some, Option.some.injEq] at e2
   dsimp only at e1 e2
   subst e1
   subst e2
   exact hx
  have hsp : hqj = hqj.take j ++ (q, hp) :: hqj.drop (j + 1) := by
   conv => lhs; rw [← List.take_append_drop j hqj]
   rw [List.drop_eq_getElem_cons (by omega), (Gn hx).2]
  have hok := hH hp (Gx hqs)
  clear h
  repeat' (first|refine ah ?_|refine a7 ?_|refine aq ?_|refine au ?_|refine a8 ?_|refine aa ?_|refine ae a6 rfl rfl ?_|(apply aY; first|refine aX a6 ?_|refine aS a6 ?_)|(apply aH; first|refine ai 5 a6 0 rfl rfl rfl rfl rfl rfl rfl rfl ?_|refine ai 5 a6 1 rfl rfl rfl rfl rfl rfl rfl rfl ?_|refine ai 5 a6 2 rfl rfl rfl rfl rfl rfl rfl rfl ?_|refine ai 8 a6 0 rfl rfl rfl rfl rfl rfl rfl rfl ?_|refine ai 8 a6 1 rfl rfl rfl rfl rfl rfl rfl rfl ?_|refine ai 8 a6 2 rfl rfl rfl rfl rfl rfl rfl rfl ?_|refine ai 10 a6 0 rfl rfl rfl rfl rfl rfl rfl rfl ?_|refine ai 10 a6 1 rfl rfl rfl rfl rfl rfl rfl rfl ?_|refine ai 10 a6 2 rfl rfl rfl rfl rfl rfl rfl rfl ?_|refine aj a6 0 rfl rfl rfl rfl rfl rfl rfl ?_|refine aj a6 1 rfl rfl rfl rfl rfl rfl rfl ?_|refine aj a6 2 rfl rfl rfl rfl rfl rfl rfl ?_|refine aj a6 3 rfl rfl rfl rfl rfl rfl rfl ?_|fail)|refine b5 a6 fun _=>?_|fail)
  have hlen1 : (hqj.take j).length = j := by rw [List.length_take]; omega
  generalize hqj.take j = u1 at hsp hlen1
  generalize hqj.drop (j + 1) = u2 at hsp
  subst hsp
  refine b7 (ey (q, hp) :: (gp, .box (gt f kg (List.map (fun x : Nat × ix => x.1) (u1 ++ (q, hp) :: u2))) 182) :: bJ ap ab f.Glyphs.length ka S) _ (ul (g := 86) (caps := [.iptr [fp ap], .iptr [fp q], .iptr [fp gp]]) q hp (iv f S hp.ign) _ (fun un z => vt f ap ab gp q ka kg S _ { hp with unmet := un } z)) rfl rfl CJ rfl fun c L1 ⟨hc, hL⟩ => ?_
  subst hc; subst hL
  have hfst : List.map (fun x : Nat × ix => x.1) (u1 ++ (q, hp) :: u2) = List.map (fun x : Nat × ix => x.1) (u1 ++ (q, adv f S hp) :: u2) := by simp
  have hf2' : List.map (fun x : Nat × ix => x.2) (u1 ++ (q, adv f S hp) :: u2) = ((hq.map (·.2)).take (j + 1)).map (adv f S) ++ (hq.map (·.2)).drop (j + 1) := by
   have hd : (hq.map (·.2)).drop j = hp :: (hq.map (·.2)).drop (j + 1) := by
    obtain ⟨h1, h2⟩ := Gn hqs
    rw [List.drop_eq_getElem_cons h1, h2]
   rw [hd, List.map_append, Gp] at hf2
   obtain ⟨e1, e2⟩ := List.append_inj hf2 (by simp; omega)
   injection e2 with _ e2
   rw [List.map_append, Gp, e1, e2, List.take_add_one, hqs]
   simp
  have htell : ∀ X : List Int, (((hq.map (·.2)).take (j + 1)).flatMap (dE f S)) = (((hq.map (·.2)).take j).flatMap (dE f S)) ++ dE f S hp := fun _ => by
   rw [List.take_add_one, hqs, Option.toList_some, List.flatMap_append]
   simp
  clear hf2
  rw [hfst] at hf1 ⊢
  refine aO (aK CJ.symm) ?_
  repeat' (first|refine a8 ?_|refine aa ?_)
  refine aw rfl (fun h => ?_) (fun h => ?_)
  ·repeat' (first|refine a7 ?_|refine ae a6 rfl rfl ?_)
   refine b7 (ey (q, adv f S hp) :: (gp, .box (gt f kg (List.map (fun x : Nat × ix => x.1) (u1 ++ (q, adv f S hp) :: u2))) 182) :: bJ ap ab f.Glyphs.length ka S ++ bJ np nb f.Glyphs.length k1 T1) _ (BH (g := 86) (caps := [.iptr [fp ap], .iptr [fp q], .iptr [fp gp]]) q (adv f S hp) (iv f S hp.ign) _ (fun z => vt f ap ab gp q ka kg S _ (adv f S hp) z) hok.1 hok.2 np nb f.Glyphs.length k1 T1 (by omega) hTok1) rfl rfl E4 rfl fun c L1 ⟨k2, hL⟩ => ?_
   subst hL
   refine aO (aK E4.symm) ?_
   repeat' (first|refine a7 ?_|refine a8 ?_|refine aI ?_|refine aa ?_|refine ae a6 rfl rfl ?_|(apply aW; refine aV ?_)|fail)
   refine aC (j + 1, u1 ++ (q, adv f S hp) :: u2, _, k2) rfl ⟨by rw [Gw]; rfl, trivial⟩ ⟨by dsimp only; omega, hf1, hf2', ?_⟩ (by dsimp only; omega) (fun _ _ h => h)
   dsimp only
   rw [htell [], ← eI, ← hT1]
   unfold dE
   rw [if_pos h]
   rfl
  ·repeat' (first|refine a7 ?_|refine au ?_|refine a8 ?_|refine aI ?_|refine aa ?_|refine ae a6 rfl rfl ?_|(apply aW; refine aV ?_)|fail)
   refine aC (j + 1, u1 ++ (q, adv f S hp) :: u2, T1, k1) rfl ⟨by rw [Gw]; rfl, trivial⟩ ⟨by dsimp only; omega, hf1, hf2', ?_⟩ (by dsimp only; omega) (fun _ _ h => h)
   dsimp only
   rw [htell [], ← eI, ← hT1]
   unfold dE
   rw [if_neg (by rw [h]; exact fun e => by cases e)]
   rfl
 ·have hjl : j = hq.length := by have := Gy h; omega
  subst hjl
  rw [List.take_of_length_le (by simp)] at hf2 hT1
  rw [List.drop_eq_nil_of_le (by simp), List.append_nil] at hf2
  repeat' (first|refine ah ?_|refine a7 ?_|refine ar ?_|refine aR ?_|refine a8 ?_|refine av ?_|refine aB ?_|refine ay ?_|refine aa ?_|refine ae a6 rfl rfl ?_)
  refine j6 (cs := [fp np]) [db] (fE f gp kg hqj (bJ ap ab f.Glyphs.length ka S ++ bJ np nb f.Glyphs.length k1 T1)) rfl (List.Perm.of_eq (by simp [fE])) ⟨rfl, trivial⟩ ⟨np, nb, k1, hqj, rfl, ?_, hf1, hf2⟩
  unfold ew
  rw [hT1, hT, eI]
  rfl
theorem zy (f : aJ) (hs : dZ f) (gs : List Int) : AC Tryz.prog 42 [cr f, .imm 1 (aU gs)] [] fun c L => ∃ p b k, c = fp p ∧ L = bJ p b f.Glyphs.length k (cS f.Glyphs.length [] gs) := by
 refine aP Tryz.func42 rfl Tryz.ntmps42 rfl fun B => ?_
 have hGl := hs.glyphs
 have hml : (f.Glyphs.map bb).length = f.Glyphs.length := Gu ..
 repeat' (first|refine ah ?_|refine a7 ?_|refine a8 ?_|refine aa ?_|refine ae a6 rfl rfl ?_|refine be ?_|fail)
 rw [hml]
 refine b7 [] [] (BW f.Glyphs.length (by omega)) rfl rfl (Gm _) rfl fun c L1 ⟨p, b, hc, hL⟩ => ?_
 subst hc; subst hL
 rw [List.append_nil]
 repeat' (first|refine ah ?_|refine a7 ?_|refine a8 ?_|refine aa ?_|refine ae a6 rfl rfl ?_)
 refine b7 (bJ p b f.Glyphs.length none []) [] (lr p b f.Glyphs.length none [] gs (by omega) ce.nil) rfl rfl (by rw [List.append_nil]) rfl fun c L1 ⟨k, hL⟩ => ?_
 subst hL
 rw [List.append_nil]
 repeat' (first|refine ah ?_|refine a7 ?_|refine ar ?_|refine a8 ?_|refine aa ?_|refine ae a6 rfl rfl ?_)
 exact aA rfl rfl ⟨p, b, k, rfl, rfl⟩
theorem B4 {f : aJ} (hs : dZ f) (S : List Int) : mj (er f S) := by
 intro h hh
 unfold er at hh
 obtain ⟨n, _, hh⟩ := List.mem_flatMap.1 hh
 unfold l4 at hh
 split at hh
 ·rename_i l hl
  unfold gd at hh
  obtain ⟨r, hr, rfl⟩ := List.mem_map.1 hh
  rw [List.mem_filter] at hr
  refine ⟨Gz hr.2, ?_⟩
  have := hs.out (Gx hl) hr.1
  show r.Out.length ≤ 1000000
  omega
 ·cases hh
def eK (f : aJ) (ks gs : List Int) : List Int := ew f (cS f.Glyphs.length [] gs) (er f (cS f.Lookups.length [] ks))
theorem CM {f : aJ} (hs : dZ f) {ks : List Int} {hq : HQ} (h : hq.map (·.2) = er f (cS f.Lookups.length [] ks)) : hq.length ≤ 100000000 := by
 have h1 := congrArg List.length h
 rw [Gu] at h1
 have h2 := oF f hs (cS f.Lookups.length [] ks)
 have h3 := ((ce.nil (n := f.Lookups.length)).add ks).len
 have h4 := hs.lookups
 omega
theorem pk (f : aJ) (S : List Int) (hs : List ix) : ce f.Glyphs.length (ew f S hs) := ce.nil.add _
def D5 (f : aJ) (ks gs : List Int) : Bool := (eK f ks gs).all fun z => BS f.Glyphs.length (cS f.Glyphs.length [] gs) z
end Go.Proofs.YtjjpkibjffmceaaGreat
