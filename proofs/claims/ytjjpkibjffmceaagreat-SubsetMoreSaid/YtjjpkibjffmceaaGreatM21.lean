/-
  The program: growths.
-/
import Derived.Test.YtjjpkibjffmceaaGreatM20
namespace Go.Proofs.YtjjpkibjffmceaaGreat
open Go.RowKit
attribute [local irreducible] AT bV AX AO Av Kt bC eH DA dl
section
variable {P : Program} {l : List Oper} {fr : cg} {fin : jm} {sk : lB} {acc : cg} {L : AL} {k : Nat} {dd : Option Tmp} {ty t t' : TypeId} {pos : String} {af : Array Edge} {g : Option (Nat × Bool)} {x y : Operand} {u : AV}
theorem EI {cs : List AV} (hx : bH (cV l.toArray acc fr af.toList) x = some u) (hc : u.cells = some cs) (hg : iM ⟨dd, .box t x, ty, pos, af, g⟩ acc) (h : ∀ b, DA P l fr fin sk ((k, fJ b) :: acc) ((b, .box cs t) :: L)) : dl P l fr fin k .a ⟨dd, .box t x, ty, pos, af, g⟩ sk acc L :=
 yO (fun c L' ⟨b, _, h2⟩ => ⟨[(b, .box cs t)], h2⟩) hg (fun _ => yn hx hc) fun c L' ⟨b, h1, h2⟩ => by subst h1; subst h2; exact h b
end
def x8 (l : ba) (r : bX) : iN := ⟨r, l.Kind, l.Ignore, r.In ++ (r.Back ++ r.Ahead)⟩
def gu (l : ba) (rs : List bX) : List iN := (rs.filter fun r => decide (r.In ≠ [])).map (x8 l)
def li (f : aI) (n : Int) : List iN := match f.Lookups[n.toNat]? with
 | some l => gu l l.Rules
 | none => []
def eF (f : aI) (ks : List Int) : List iN := ks.flatMap (li f)
theorem tf {f : aI} {S : List Int} {i : Nat} {z : Int} (h : S[i]? = some z) : eF f (S.take (i + 1)) = eF f (S.take i) ++ li f z := by
 unfold eF
 rw [List.take_add_one, h, Option.toList_some, List.flatMap_append]
 simp
abbrev HQ := List (Nat × iN)
def fS (f : aI) (gp : Nat) (k : Option (Nat × Nat)) (hq : HQ) (Z : AL) : AL := (gp, .box (gI f k (hq.map (·.1))) 182) :: (tok k 184 1 (hq.map (·.1)).length ++ (hq.map eK ++ Z))
theorem uN {l : ba} {j : Nat} {r : bX} (h : l.Rules[j]? = some r) (hr : r.In ≠ []) : gu l (l.Rules.take (j + 1)) = gu l (l.Rules.take j) ++ [x8 l r] := by
 unfold gu
 rw [List.take_add_one, h, Option.toList_some, List.filter_append, List.map_append]
 simp [hr]
theorem x9 {l : ba} {j : Nat} {r : bX} (h : l.Rules[j]? = some r) (hr : r.In = []) : gu l (l.Rules.take (j + 1)) = gu l (l.Rules.take j) := by
 unfold gu
 rw [List.take_add_one, h, Option.toList_some, List.filter_append, List.map_append]
 simp [hr]
theorem tH {R : AL} {a : Nat × AB} {t h M : AL} : (R ++ (a :: (t ++ (h ++ M)))).Perm (a :: (t ++ (h ++ (R ++ M)))) := by
 have := List.perm_append_comm_assoc R (a :: (t ++ h)) M
 simpa using this
theorem zZ {a b : Nat × AB} {t X Z : AL} : (t ++ (a :: b :: (X ++ Z))).Perm (b :: (t ++ ((X ++ [a]) ++ Z))) := by
 refine (List.Perm.append_left t (List.Perm.swap ..)).trans ?_
 refine List.perm_middle.trans (List.Perm.cons _ (List.Perm.append_left t ?_))
 rw [List.append_assoc]
 exact List.perm_middle.symm
theorem A4 {l : ba} {rs : List bX} : (gu l rs).length ≤ rs.length := by
 unfold gu
 rw [Gu]
 exact List.length_filter_le _ _
theorem nl (l : List (List Int)) : l.length ≤ pN l := by
 unfold pN
 induction l with
 | nil => simp
 | cons x l ih => simp only [Gp, List.sum_cons, List.length_cons]; omega
theorem er.ruleSets {f : aI} (hs : er f) {l : ba} {r : bX} (h : l ∈ f.Lookups) (hr : r ∈ l.Rules) : fO [r.In, r.Back, r.Ahead] ≤ 1000000 := by
 have h1 := hs.rule h hr
 unfold nX at h1
 have h2 := nl r.In
 have h3 := nl r.Back
 have h4 := nl r.Ahead
 simp only [fO, Gp, Gj, List.sum_cons, List.sum_nil]
 omega
theorem pi (f : aI) (hs : er f) (S : List Int) : (eF f S).length ≤ 2000 * S.length := by
 unfold eF
 induction S with
 | nil => simp
 | cons n S ih =>
  rw [List.flatMap_cons, List.length_append, List.length_cons]
  have : (li f n).length ≤ 2000 := by
   unfold li
   split
   ·rename_i l hl
    exact Nat.le_trans A4 (hs.rulesL (Gx hl))
   ·simp
  omega
set_option maxHeartbeats 8000000 in
theorem rR (f : aI) (hs : er f) (ks : List Int) : AC Tryz.prog 44 [ct f, .imm 1 (aT ks)] [] fun c L => ∃ gp k hq, c = fJ gp ∧ L = fS f gp k hq [] ∧ hq.map (·.2) = eF f (da f.Lookups.length [] ks) := by
 refine oH Tryz.func44 rfl Tryz.ntmps44 rfl fun B => ?_
 have hLk := hs.lookups
 have hml : (f.Lookups.map bj).length = f.Lookups.length := Gu ..
 repeat' (first|refine ae ?_|refine a6 ?_|refine a7 ?_|refine a8 ?_|refine aa a2 rfl rfl ?_|(apply aG; first|refine ah 5 a2 0 rfl rfl rfl rfl rfl rfl rfl rfl ?_|refine ah 5 a2 1 rfl rfl rfl rfl rfl rfl rfl rfl ?_|refine ah 5 a2 2 rfl rfl rfl rfl rfl rfl rfl rfl ?_|refine ah 8 a2 0 rfl rfl rfl rfl rfl rfl rfl rfl ?_|refine ah 8 a2 1 rfl rfl rfl rfl rfl rfl rfl rfl ?_|refine ah 8 a2 2 rfl rfl rfl rfl rfl rfl rfl rfl ?_|refine ah 10 a2 0 rfl rfl rfl rfl rfl rfl rfl rfl ?_|refine ah 10 a2 1 rfl rfl rfl rfl rfl rfl rfl rfl ?_|refine ah 10 a2 2 rfl rfl rfl rfl rfl rfl rfl rfl ?_|refine ai a2 0 rfl rfl rfl rfl rfl rfl rfl ?_|refine ai a2 1 rfl rfl rfl rfl rfl rfl rfl ?_|refine ai a2 2 rfl rfl rfl rfl rfl rfl rfl ?_|refine ai a2 3 rfl rfl rfl rfl rfl rfl rfl ?_|fail)|refine tq (d := 14) fun _=>?_|refine bg ?_|refine b7 a2 fun _=>?_|fail)
 rw [hml]
 rename_i gp _
 refine aN (br 0 (cs' := gI f none []) rfl fun σ vs h => wj (cs := ce f ++ [.sc (.slice none 0 0)]) rfl (fun i c c' h1 h2 v hv => ?_) h) ?_
 ·by_cases hi : i = 9
  ·subst hi
   simp [gI, ce] at h1 h2
   subst h1; subst h2
   exact cy 1 hv
  ·have h3 : i < 9 := by
    have := (Gn h2).1
    simp [gI, ce] at this
    omega
   have e : some c = some c' := by
    rw [← h1, ← h2]
    show (ce f ++ [_])[i]? = (ce f ++ [_])[i]?
    rw [List.getElem?_append_left (by simpa [ce] using h3), List.getElem?_append_left (by simpa [ce] using h3)]
   injection e with e
   rw [← e]
   exact hv
 refine bb [] [(gp, .box (gI f none []) 182)] (CP f.Lookups.length (by omega)) rfl rfl (Gm _) rfl fun c L1 ⟨p, b, hc, hL⟩ => ?_
 subst hc; subst hL
 repeat' (first|refine ae ?_|refine a6 ?_|refine a7 ?_|refine a8 ?_|refine aa a2 rfl rfl ?_)
 refine bb (dK p b f.Lookups.length none []) _ (yl p b f.Lookups.length none [] ks (by omega) co.nil) rfl rfl (Gm _) rfl fun c L1 ⟨kS, hL⟩ => ?_
 subst hL
 have hok := (co.nil (n := f.Lookups.length)).add ks
 generalize da f.Lookups.length [] ks = S at *
 have td := hok.len
 repeat' (first|refine ae ?_|refine a6 ?_|refine ak ?_|refine a7 ?_|refine a8 ?_|refine aa a2 rfl rfl ?_|(apply bh;refine bc ?_)|fail)
 refine jt (fr' := [(23, .fn 91 [.iptr [fJ p]]), (2, .iptr (ce f)), (5, .iptr [fJ gp])]) (L' := dK p b f.Lookups.length kS S ++ [(gp, .box (gI f none []) 182)]) ⟨rfl, rfl, rfl, trivial⟩ (fun _ _ h => h) ?_
 refine jX (ps := [24]) rfl fun σ0 l db rec hrec => ?_
 have hy : ∀ (i : Nat) (x : HQ × Option (Nat × Nat)) (z : Int), (i ≤ S.length ∧ x.1.map (·.2) = eF f (S.take i)) → S[i]? = some z → AY Tryz.prog σ0 l [aM z] (dK p b f.Lookups.length kS S ++ fS f gp x.2 x.1 ([(db, i4)] ++ [(l, gB rec)])) fun c L => c = cO true ∧ ∃ x' : HQ × Option (Nat × Nat), (i + 1 ≤ S.length ∧ x'.1.map (·.2) = eF f (S.take (i + 1))) ∧ L = dK p b f.Lookups.length kS S ++ fS f gp x'.2 x'.1 ([(db, i4)] ++ [(l, gB rec)]) := by
  rintro i ⟨hq, k⟩ z ⟨hi1, hh⟩ hz
  dsimp only at hi1 hh ⊢
  have hil := (Gn hz).1
  have hzr := hok.dom z (Gx hz)
  obtain ⟨x, hx⟩ : ∃ x, f.Lookups[z.toNat]? = some x := ⟨_, Ee (by omega)⟩
  have hxm := Gx hx
  have hxg := bn (c := bj) hx
  have hRl := hs.rulesL hxm
  have hRm : (x.Rules.map bD).length = x.Rules.length := Gu ..
  have hxl : li f z = gu x x.Rules := by unfold li; rw [hx]
  have hqs := pi f hs (S.take i)
  rw [← hh, Gu, List.length_take] at hqs
  have hE : ∀ q : HQ, ∀ kk, dK p b f.Lookups.length kS S ++ fS f gp kk q ([(db, i4)] ++ [(l, gB rec)]) = (dK p b f.Lookups.length kS S ++ (gp, .box (gI f kk (q.map (·.1))) 182) :: (tok kk 184 1 (q.map (·.1)).length ++ (q.map eK ++ [(db, i4)]))) ++ [(l, gB rec)] := fun q kk => by unfold fS; simp
  rw [hE]
  refine sH hrec rfl rfl fun B1 hB1 => ?_
  repeat' (first|refine a6 ?_|refine a8 ?_|refine aa a2 rfl rfl ?_)
  refine jY hrec.state ?_
  repeat' (first|refine ae ?_|refine a6 ?_|refine ak ?_|refine a7 ?_|refine a8 ?_|refine aa a2 rfl rfl ?_|(apply aX; first|refine aW a2 ?_|refine aP a2 ?_)|(apply aG; first|refine ah 5 a2 0 rfl rfl rfl rfl rfl rfl rfl rfl ?_|refine ah 5 a2 1 rfl rfl rfl rfl rfl rfl rfl rfl ?_|refine ah 5 a2 2 rfl rfl rfl rfl rfl rfl rfl rfl ?_|refine ah 8 a2 0 rfl rfl rfl rfl rfl rfl rfl rfl ?_|refine ah 8 a2 1 rfl rfl rfl rfl rfl rfl rfl rfl ?_|refine ah 8 a2 2 rfl rfl rfl rfl rfl rfl rfl rfl ?_|refine ah 10 a2 0 rfl rfl rfl rfl rfl rfl rfl rfl ?_|refine ah 10 a2 1 rfl rfl rfl rfl rfl rfl rfl rfl ?_|refine ah 10 a2 2 rfl rfl rfl rfl rfl rfl rfl rfl ?_|refine ai a2 0 rfl rfl rfl rfl rfl rfl rfl ?_|refine ai a2 1 rfl rfl rfl rfl rfl rfl rfl ?_|refine ai a2 2 rfl rfl rfl rfl rfl rfl rfl ?_|refine ai a2 3 rfl rfl rfl rfl rfl rfl rfl ?_|fail)|refine b7 a2 fun _=>?_|fail)
  refine aJ [2, 5, 8, 24, 31, 32] (α := Nat × HQ × Option (Nat × Nat)) (fun y => [(33, aM y.1)]) (fun y => y.1 ≤ x.Rules.length ∧ y.2.1.map (·.2) = eF f (S.take i) ++ gu x (x.Rules.take y.1)) (fun y => fS f gp y.2.2 y.2.1 (dK p b f.Lookups.length kS S ++ ([(db, i4)] ++ [(l, gB { rec with state := .busy })]))) (fun y => x.Rules.length - y.1) (0, hq, k) rfl ⟨rfl, trivial⟩ ⟨Nat.zero_le _, by rw [hh]; simp [gu]⟩ (fun σ w h => ?_) ?_
  ·refine dB.perm h ?_
   have := tH (R := dK p b f.Lookups.length kS S) (a := (gp, AB.box (gI f k (hq.map (·.1))) 182)) (t := tok k 184 1 (hq.map (·.1)).length) (h := hq.map eK) (M := [(db, i4)] ++ [(l, gB { rec with state := .busy })])
   simpa [fS] using this
  clear hh
  rintro ⟨j, hq, k⟩ ⟨hj, hh⟩
  dsimp only at hj hh ⊢
  have hlen := congrArg List.length hh
  rw [Gu, List.length_append] at hlen
  have hb1 := pi f hs (S.take i)
  rw [List.length_take] at hb1
  have hb2 := A4 (l := x) (rs := x.Rules.take j)
  rw [List.length_take] at hb2
  have hql : ((hq.map (·.1)).map fun q => [fJ q]).length = hq.length := by simp
  generalize hZ : dK p b f.Lookups.length kS S ++ ([(db, i4)] ++ [(l, gB { rec with state := .busy })]) = Z
  try dsimp only [Gr, Gq, Gp, Gj]
  repeat' (first|refine ae ?_|refine a6 ?_|refine a7 ?_|refine a8 ?_|refine aa a2 rfl rfl ?_)
  refine aw rfl (fun h => ?_) (fun h => ?_)
  ·have hjl : j < x.Rules.length := by have := Gz h; simp at this; omega
   obtain ⟨r, hr⟩ : ∃ r, x.Rules[j]? = some r := ⟨_, Ee hjl⟩
   have hrm := Gx hr
   have hrg := bn (c := bD) hr
   have hIl := fQ r.In
   clear h
   repeat' (first|refine ae ?_|refine a6 ?_|refine ak ?_|refine ar ?_|refine a7 ?_|refine a8 ?_|refine aa a2 rfl rfl ?_|(apply aX; first|refine aW a2 ?_|refine aP a2 ?_)|(apply aG; first|refine ah 5 a2 0 rfl rfl rfl rfl rfl rfl rfl rfl ?_|refine ah 5 a2 1 rfl rfl rfl rfl rfl rfl rfl rfl ?_|refine ah 5 a2 2 rfl rfl rfl rfl rfl rfl rfl rfl ?_|refine ah 8 a2 0 rfl rfl rfl rfl rfl rfl rfl rfl ?_|refine ah 8 a2 1 rfl rfl rfl rfl rfl rfl rfl rfl ?_|refine ah 8 a2 2 rfl rfl rfl rfl rfl rfl rfl rfl ?_|refine ah 10 a2 0 rfl rfl rfl rfl rfl rfl rfl rfl ?_|refine ah 10 a2 1 rfl rfl rfl rfl rfl rfl rfl rfl ?_|refine ah 10 a2 2 rfl rfl rfl rfl rfl rfl rfl rfl ?_|refine ai a2 0 rfl rfl rfl rfl rfl rfl rfl ?_|refine ai a2 1 rfl rfl rfl rfl rfl rfl rfl ?_|refine ai a2 2 rfl rfl rfl rfl rfl rfl rfl ?_|refine ai a2 3 rfl rfl rfl rfl rfl rfl rfl ?_|fail)|refine b7 a2 fun _=>?_|fail)
   refine aw rfl (fun h => ?_) (fun h => ?_)
   ·have hIn : r.In ≠ [] := fun e => by have := Gz h; rw [hIl, e] at this; simp at this
    clear h
    repeat' (first|refine ae ?_|refine a6 ?_|refine aa a2 rfl rfl ?_|refine bG a2 ?_|fail)
    refine bc (hc := ⟨oX [r.In, r.Back, r.Ahead] (hs.ruleSets hxm hrm)⟩) ?_
    rw [show ([r.In, r.Back, r.Ahead] : List (List (List Int))).flatten = r.In ++ (r.Back ++ r.Ahead) by simp]
    unfold fS gI
    repeat' (first|refine a7 ?_|refine a8 ?_|refine aa a2 rfl rfl ?_)
    refine bt 15 [(0, .v), (1, .v), (2, .v), (3, .v), (4, .l), (5, .v), (6, .v), (7, .v), (8, .v), (9, .v), (10, .v), (11, .v), (12, .a), (13, .v), (14, .e)] none ?_ trivial rfl (by kernel_rfl) (by kernel_rfl) (by kernel_rfl) mixed (by kernel_rfl) rfl
    repeat' (first|refine aC ?_|refine aZ a2 ?_|refine df a2 0 rfl rfl rfl rfl (by first|trivial|rfl) ?_)
    refine EI rfl rfl trivial fun q => ?_
    repeat' (first|refine aC ?_|refine eh a2 ?_|fail)
    refine fY a2 _ rfl rfl rfl rfl (kx (H := []) (T := tok k 184 1 (hq.map (·.1)).length) (T' := []) (by simp)) (by rw [hql]; show _ + 1 ≤ _; omega) (by rw [hql]; show (_ + 1) * 8 ≤ _; omega) trivial fun k' => ?_
    repeat' (first|fail)
    refine bq [2, 5, 8, 24, 31, 32, 33, 49, 63] rfl rfl ?_
    refine aN (aK (zZ (X := hq.map eK))) ?_
    repeat' (first|refine a6 ?_|refine a7 ?_|refine aH ?_|refine a8 ?_|refine aa a2 rfl rfl ?_|(apply aV; refine aU ?_)|(apply aG; first|refine ah 5 a2 0 rfl rfl rfl rfl rfl rfl rfl rfl ?_|refine ah 5 a2 1 rfl rfl rfl rfl rfl rfl rfl rfl ?_|refine ah 5 a2 2 rfl rfl rfl rfl rfl rfl rfl rfl ?_|refine ah 8 a2 0 rfl rfl rfl rfl rfl rfl rfl rfl ?_|refine ah 8 a2 1 rfl rfl rfl rfl rfl rfl rfl rfl ?_|refine ah 8 a2 2 rfl rfl rfl rfl rfl rfl rfl rfl ?_|refine ah 10 a2 0 rfl rfl rfl rfl rfl rfl rfl rfl ?_|refine ah 10 a2 1 rfl rfl rfl rfl rfl rfl rfl rfl ?_|refine ah 10 a2 2 rfl rfl rfl rfl rfl rfl rfl rfl ?_|refine ai a2 0 rfl rfl rfl rfl rfl rfl rfl ?_|refine ai a2 1 rfl rfl rfl rfl rfl rfl rfl ?_|refine ai a2 2 rfl rfl rfl rfl rfl rfl rfl ?_|refine ai a2 3 rfl rfl rfl rfl rfl rfl rfl ?_|fail))
    have e : fS f gp k' (hq ++ [(q, x8 x r)]) Z = (gp, AB.box (ce f ++ [AV.vec k' 1 (List.map (fun q => [fJ q]) (hq.map (·.1)) ++ [[fJ q]])]) 182) :: (tok k' 184 1 (List.map (fun q => [fJ q]) (hq.map (·.1)) ++ [[fJ q]]).length ++ ((hq.map eK ++ [eK (q, x8 x r)]) ++ Z)) := by unfold fS gI; simp
    exact aB (j + 1, hq ++ [(q, x8 x r)], k') rfl ⟨by rw [Gw]; rfl, trivial⟩ ⟨by dsimp only; omega, by rw [uN hr hIn, List.map_append, hh, List.append_assoc]; rfl⟩ (by dsimp only; omega) (fun σ w h => by have h2 : dB B1 σ (fS f gp k' (hq ++ [(q, x8 x r)]) Z) w := (by rw [e]; exact h); exact h2)
   ·have hIn : r.In = [] := List.eq_nil_of_length_eq_zero (by have := Gy h; rw [hIl] at this; omega)
    repeat' (first|refine a6 ?_|refine ar ?_|refine a7 ?_|refine aH ?_|refine a8 ?_|refine aa a2 rfl rfl ?_|(apply aV; refine aU ?_)|fail)
    exact aB (j + 1, hq, k) rfl ⟨by rw [Gw]; rfl, trivial⟩ ⟨by dsimp only; omega, by rw [x9 hr hIn]; exact hh⟩ (by dsimp only; omega) (fun _ _ h => h)
  ·have hjl : j = x.Rules.length := by have := Gy h; simp at this; omega
   subst hjl
   rw [List.take_length] at hh
   repeat' (first|refine aO ?_|refine au ?_|refine aH ?_|refine ay ?_|refine av ?_)
   refine be (L' := (dK p b f.Lookups.length kS S ++ (gp, .box (gI f k (hq.map (·.1))) 182) :: (tok k 184 1 (hq.map (·.1)).length ++ (hq.map eK ++ [(db, i4)]))) ++ [(l, gB { rec with state := .busy })]) (aK ?_) (oP ?_)
   ·subst hZ
    have := (tH (R := dK p b f.Lookups.length kS S) (a := (gp, AB.box (gI f k (hq.map (·.1))) 182)) (t := tok k 184 1 (hq.map (·.1)).length) (h := hq.map eK) (M := [(db, i4)] ++ [(l, gB { rec with state := .busy })])).symm
    simpa [fS] using this
   ·rw [pC hrec.state hrec.pending]
    refine ⟨rfl, (hq, k), ⟨hil, ?_⟩, by simp [fS]⟩
    rw [tf hz, hxl]
    exact hh
 have hit := zY (σ0 := σ0) (l := l) (p := p) (b := b) (n := f.Lookups.length) (fun _ => S) (fun _ => kS) (fun x : HQ × Option (Nat × Nat) => fS f gp x.2 x.1 ([(db, i4)] ++ [(l, gB rec)])) (fun i x => i ≤ S.length ∧ x.1.map (·.2) = eF f (S.take i)) (by omega) (fun i x h => ⟨h.1, td⟩) hy ([], none) ⟨Nat.zero_le _, rfl⟩
 refine ⟨_, hit.perm (List.Perm.of_eq (by simp [fS, tok])), ?_⟩
 rintro c L' ⟨⟨hq, k⟩, ⟨_, hh⟩, rfl⟩
 dsimp only at hh ⊢
 rw [List.take_length] at hh
 refine ⟨rec, dK p b f.Lookups.length kS S ++ fS f gp k hq [(db, i4)], List.Perm.of_eq (by simp [fS]), (by rw [hrec.state]; intro h; cases h), ?_⟩
 rw [hrec.pending]
 show AX _ _ _ _ _ _ _ _
 repeat' (first|refine ae ?_|refine a6 ?_|refine aq ?_|refine a7 ?_|refine aH ?_|refine a8 ?_|refine aa a2 rfl rfl ?_)
 refine cY (List.sublist_append_right ..) ?_
 exact ju (cs := [fJ gp]) [db] (fS f gp k hq []) rfl (List.Perm.of_eq (by simp [fS])) ⟨rfl, trivial⟩ ⟨gp, k, hq, rfl, rfl, hh⟩
end Go.Proofs.YtjjpkibjffmceaaGreat
namespace Go.Proofs.YtjjpkibjffmceaaGreat
open Go.RowKit
attribute [local irreducible] AT bV AX AO Av Kt bC eH DA dl
def ox (f : aI) (n : Int) : List Int := match f.Glyphs[n.toNat]? with | some g => g.Parts.map cR.Glyph | none => []
def adv (f : aI) (S : List Int) (h : iN) : iN := h.rest (iK f S h.ign)
def dR (f : aI) (S : List Int) (h : iN) : List Int := if (h.unmet.all fun s => s.any (iK f S h.ign)) = true then kA h (iK f S h.ign) else []
def fp (f : aI) (S : List Int) : List Int := S.flatMap fun n => n :: ox f n
def eJ (f : aI) (S : List Int) (hs : List iN) : List Int := da f.Glyphs.length [] (fp f S ++ hs.flatMap (dR f S))
def mI (hs : List iN) : Prop := ∀ h ∈ hs, h.rule.In ≠ [] ∧ h.rule.Out.length ≤ 1000000
theorem tc {f : aI} {gp : Nat} {k : Option (Nat × Nat)} {hq : HQ} {A X M : AL} : (fS f gp k hq (A ++ (X ++ M))).Perm (X ++ fS f gp k hq (A ++ M)) := by
 unfold fS
 have h := List.perm_append_comm_assoc ((gp, AB.box (gI f k (hq.map (·.1))) 182) :: (tok k 184 1 (hq.map (·.1)).length ++ (hq.map eK ++ A))) X M
 simpa using h
theorem DB {f : aI} {gp : Nat} {k : Option (Nat × Nat)} {h1 h2 : HQ} {x : Nat × iN} {A Z : AL} : (fS f gp k (h1 ++ x :: h2) (A ++ Z)).Perm ((eK x :: (gp, .box (gI f k ((h1 ++ x :: h2).map (·.1))) 182) :: A) ++ (tok k 184 1 ((h1 ++ x :: h2).map (·.1)).length ++ (h1.map eK ++ (h2.map eK ++ Z)))) := by
 unfold fS
 generalize (gp, AB.box (gI f k ((h1 ++ x :: h2).map (·.1))) 182) = a
 generalize tok k 184 1 ((h1 ++ x :: h2).map (·.1)).length = t
 simp only [List.map_append, Gp]
 generalize h1.map eK = u
 generalize h2.map eK = v
 generalize eK x = b
 have e1 : (a :: (t ++ ((u ++ b :: v) ++ (A ++ Z)))).Perm (a :: b :: ((t ++ (u ++ v)) ++ (A ++ Z))) := by
  refine List.Perm.cons _ ?_
  have : t ++ ((u ++ b :: v) ++ (A ++ Z)) = (t ++ u) ++ b :: (v ++ (A ++ Z)) := by simp
  rw [this]
  refine List.perm_middle.trans (List.Perm.cons _ (List.Perm.of_eq (by simp)))
 refine e1.trans ((List.Perm.swap ..).trans ?_)
 have e2 := List.perm_append_comm_assoc (t ++ (u ++ v)) A Z
 refine (List.Perm.cons _ (List.Perm.cons _ e2)).trans (List.Perm.of_eq (by simp))
theorem DC {f : aI} {gp : Nat} {k : Option (Nat × Nat)} {hq : HQ} {A N M : AL} : (A ++ (N ++ (fS f gp k hq [] ++ M))).Perm (fS f gp k hq (A ++ (N ++ M))) := by
 have h := List.perm_append_comm_assoc (A ++ N) (fS f gp k hq []) M
 have e : fS f gp k hq (A ++ (N ++ M)) = fS f gp k hq [] ++ (A ++ N ++ M) := by unfold fS; simp
 rw [e]
 simpa using h
theorem qp {f : aI} {S : List Int} {i : Nat} {z : Int} (h : S[i]? = some z) : fp f (S.take (i + 1)) = fp f (S.take i) ++ (z :: ox f z) := by
 unfold fp
 rw [List.take_add_one, h, Option.toList_some, List.flatMap_append]
 simp
theorem EL {f : aI} {gp : Nat} {k : Option (Nat × Nat)} {h1 h2 : HQ} {x : Nat × iN} {A N M : AL} : (fS f gp k (h1 ++ x :: h2) (A ++ (N ++ M))).Perm ((eK x :: (gp, .box (gI f k ((h1 ++ x :: h2).map (·.1))) 182) :: A ++ N) ++ (tok k 184 1 ((h1 ++ x :: h2).map (·.1)).length ++ (h1.map eK ++ (h2.map eK ++ M)))) := by
 refine DB.trans ?_
 generalize tok k 184 1 ((h1 ++ x :: h2).map (·.1)).length = t
 generalize eK x :: (gp, AB.box (gI f k ((h1 ++ x :: h2).map (·.1))) 182) :: A = X
 have h := List.perm_append_comm_assoc (t ++ (h1.map eK ++ h2.map eK)) N M
 have h3 := List.Perm.append_left X h
 simpa using h3
theorem er.parts {f : aI} (hs : er f) {g : bo} (h : g ∈ f.Glyphs) : g.Parts.length ≤ 2000 := by
 have h1 := sf (g := n6) h
 have h2 : n6 g ≤ kT f := by unfold kT; omega
 have h3 : kT f ≤ 2000 := hs
 unfold n6 at h2
 omega
set_option maxHeartbeats 8000000 in
theorem Cu (f : aI) (hs : er f) (gp ap ab : Nat) (kg ka : Option (Nat × Nat)) (hq : HQ) (S : List Int) (hS : co f.Glyphs.length S) (hH : mI (hq.map (·.2))) (hql : hq.length ≤ 100000000) : AC Tryz.prog 45 [fJ gp, fJ ap] (fS f gp kg hq (bM ap ab f.Glyphs.length ka S)) fun c L => ∃ np nb kn hq', c = fJ np ∧ L = fS f gp kg hq' (bM ap ab f.Glyphs.length ka S ++ bM np nb f.Glyphs.length kn (eJ f S (hq.map (·.2)))) ∧ hq'.map (·.1) = hq.map (·.1) ∧ hq'.map (·.2) = (hq.map (·.2)).map (adv f S) := by
 refine oH Tryz.func45 rfl Tryz.ntmps45 rfl fun B => ?_
 have hGl := hs.glyphs
 have hml : (f.Glyphs.map bA).length = f.Glyphs.length := Gu ..
 have td := hS.len
 unfold fS gI
 repeat' (first|refine ae ?_|refine a6 ?_|refine a7 ?_|refine a8 ?_|refine aa a2 rfl rfl ?_|(apply bK; first|refine aj a2 0 rfl rfl rfl rfl rfl ?_|refine aj a2 1 rfl rfl rfl rfl rfl ?_|refine aj a2 2 rfl rfl rfl rfl rfl ?_|refine aj a2 3 rfl rfl rfl rfl rfl ?_|refine aD a2 0 rfl rfl rfl rfl rfl ?_|refine aD a2 1 rfl rfl rfl rfl rfl ?_|refine aD a2 2 rfl rfl rfl rfl rfl ?_|refine aj a2 1 rfl rfl rfl (by assumption) rfl ?_|refine aj a2 0 rfl rfl rfl (by assumption) rfl ?_|fail)|refine bg ?_|fail)
 rw [hml]
 refine bb [] _ (CO f.Glyphs.length (by omega)) rfl rfl (Gm _) rfl fun c L1 ⟨np, nb, hc, hL⟩ => ?_
 subst hc; subst hL
 repeat' (first|refine ae ?_|refine a6 ?_|refine ak ?_|refine a7 ?_|refine a8 ?_|refine aa a2 rfl rfl ?_|(apply aG; first|refine ah 5 a2 0 rfl rfl rfl rfl rfl rfl rfl rfl ?_|refine ah 5 a2 1 rfl rfl rfl rfl rfl rfl rfl rfl ?_|refine ah 5 a2 2 rfl rfl rfl rfl rfl rfl rfl rfl ?_|refine ah 8 a2 0 rfl rfl rfl rfl rfl rfl rfl rfl ?_|refine ah 8 a2 1 rfl rfl rfl rfl rfl rfl rfl rfl ?_|refine ah 8 a2 2 rfl rfl rfl rfl rfl rfl rfl rfl ?_|refine ah 10 a2 0 rfl rfl rfl rfl rfl rfl rfl rfl ?_|refine ah 10 a2 1 rfl rfl rfl rfl rfl rfl rfl rfl ?_|refine ah 10 a2 2 rfl rfl rfl rfl rfl rfl rfl rfl ?_|refine ai a2 0 rfl rfl rfl rfl rfl rfl rfl ?_|refine ai a2 1 rfl rfl rfl rfl rfl rfl rfl ?_|refine ai a2 2 rfl rfl rfl rfl rfl rfl rfl ?_|refine ai a2 3 rfl rfl rfl rfl rfl rfl rfl ?_|fail)|refine b7 a2 fun _=>?_|(apply bh;refine bc ?_)|fail)
 refine jt (fr' := [(20, .fn 147 [.iptr [fJ ap]]), (2, .iptr [fJ gp]), (3, .iptr [fJ ap]), (5, .iptr [fJ np])]) (L' := bM ap ab f.Glyphs.length ka S ++ (bM np nb f.Glyphs.length none [] ++ fS f gp kg hq [])) ⟨rfl, rfl, rfl, rfl, trivial⟩ (fun σ w h => ?_) ?_
 ·have h1 : (bM np nb f.Glyphs.length none [] ++ fS f gp kg hq (bM ap ab f.Glyphs.length ka S)).Perm (bM ap ab f.Glyphs.length ka S ++ (bM np nb f.Glyphs.length none [] ++ fS f gp kg hq [])) := by
   have h2 := tc (f := f) (gp := gp) (k := kg) (hq := hq) (A := []) (X := bM ap ab f.Glyphs.length ka S) (M := [])
   simp only [Gq, List.append_nil] at h2
   exact (List.Perm.append_left _ h2).trans (List.perm_append_comm_assoc _ _ _)
  exact h.perm h1
 refine jX (ps := [21]) rfl fun σ0 l db rec hrec => ?_
 have hy : ∀ (i : Nat) (x : List Int × Option (Nat × Nat)) (z : Int), (i ≤ S.length ∧ x.1 = da f.Glyphs.length [] (fp f (S.take i))) → S[i]? = some z → AY Tryz.prog σ0 l [aM z] (bM ap ab f.Glyphs.length ka S ++ (bM np nb f.Glyphs.length x.2 x.1 ++ (fS f gp kg hq [] ++ ([(db, i4)] ++ [(l, gB rec)])))) fun c L => c = cO true ∧ ∃ x' : List Int × Option (Nat × Nat), (i + 1 ≤ S.length ∧ x'.1 = da f.Glyphs.length [] (fp f (S.take (i + 1)))) ∧ L = bM ap ab f.Glyphs.length ka S ++ (bM np nb f.Glyphs.length x'.2 x'.1 ++ (fS f gp kg hq [] ++ ([(db, i4)] ++ [(l, gB rec)]))) := by
  rintro i ⟨T, kn⟩ z ⟨hi1, hT⟩ hz
  dsimp only at hi1 hT ⊢
  have hil := (Gn hz).1
  have hzr := hS.dom z (Gx hz)
  obtain ⟨gl, hgl⟩ : ∃ x, f.Glyphs[z.toNat]? = some x := ⟨_, Ee (by omega)⟩
  have hgm := Gx hgl
  have hgg := bn (c := bA) hgl
  have hpl := hs.parts hgm
  have hpm : (gl.Parts.map cN).length = gl.Parts.length := Gu ..
  have hp0 : ox f z = gl.Parts.map cR.Glyph := by unfold ox; rw [hgl]
  have hTok : co f.Glyphs.length T := by rw [hT]; exact co.nil.add _
  have hE : ∀ (T : List Int) kn, bM ap ab f.Glyphs.length ka S ++ (bM np nb f.Glyphs.length kn T ++ (fS f gp kg hq [] ++ ([(db, i4)] ++ [(l, gB rec)]))) = (bM ap ab f.Glyphs.length ka S ++ (bM np nb f.Glyphs.length kn T ++ (fS f gp kg hq [] ++ [(db, i4)]))) ++ [(l, gB rec)] := fun T kn => by simp
  rw [hE]
  refine sH hrec rfl rfl fun B1 hB1 => ?_
  repeat' (first|refine a6 ?_|refine a8 ?_|refine aa a2 rfl rfl ?_)
  refine jY hrec.state ?_
  refine bI (aK (L' := fS f gp kg hq (bM ap ab f.Glyphs.length ka S ++ (bM np nb f.Glyphs.length kn T ++ ([(db, i4)] ++ [(l, gB { rec with state := .busy })])))) ?_) ?_
  ·have := DC (f := f) (gp := gp) (k := kg) (hq := hq) (A := bM ap ab f.Glyphs.length ka S) (N := bM np nb f.Glyphs.length kn T) (M := [(db, i4)] ++ [(l, gB { rec with state := .busy })])
   simpa using this
  generalize hM : [(db, i4)] ++ [(l, gB { rec with state := .busy })] = M
  repeat' (first|refine ae ?_|refine a6 ?_|refine ak ?_|refine aa a2 rfl rfl ?_|refine bG a2 ?_|fail)
  refine bb (bM np nb f.Glyphs.length kn T) _ (lF np nb f.Glyphs.length kn T [z] (by omega) hTok) rfl rfl tc rfl fun c L1 ⟨k1, hL⟩ => ?_
  subst hL
  refine aN (aK tc.symm) ?_
  repeat' (first|refine ae ?_|refine a6 ?_|refine ak ?_|refine a7 ?_|refine a8 ?_|refine aa a2 rfl rfl ?_|(apply bK; first|refine aj a2 0 rfl rfl rfl rfl rfl ?_|refine aj a2 1 rfl rfl rfl rfl rfl ?_|refine aj a2 2 rfl rfl rfl rfl rfl ?_|refine aj a2 3 rfl rfl rfl rfl rfl ?_|refine aD a2 0 rfl rfl rfl rfl rfl ?_|refine aD a2 1 rfl rfl rfl rfl rfl ?_|refine aD a2 2 rfl rfl rfl rfl rfl ?_|refine aj a2 1 rfl rfl rfl (by assumption) rfl ?_|refine aj a2 0 rfl rfl rfl (by assumption) rfl ?_|fail)|(apply aX; first|refine aW a2 ?_|refine aP a2 ?_)|fail)
  have hT1 := hTok.add [z]
  refine aJ [2, 3, 5, 21, 34, 35] (α := Nat × Option (Nat × Nat)) (fun y => [(36, aM y.1)]) (fun y => y.1 ≤ gl.Parts.length) (fun y => fS f gp kg hq (bM ap ab f.Glyphs.length ka S ++ (bM np nb f.Glyphs.length y.2 (da f.Glyphs.length (da f.Glyphs.length T [z]) ((gl.Parts.take y.1).map cR.Glyph)) ++ M))) (fun y => gl.Parts.length - y.1) (0, k1) rfl ⟨rfl, trivial⟩ (Nat.zero_le _) (fun _ _ h => h) ?_
  rintro ⟨j, k2⟩ hj
  dsimp only at hj ⊢
  have hT2 := hT1.add ((gl.Parts.take j).map cR.Glyph)
  try dsimp only [Gr, Gq, Gp, Gj]
  repeat' (first|refine ae ?_|refine a6 ?_|refine a7 ?_|refine a8 ?_|refine aa a2 rfl rfl ?_)
  refine aw rfl (fun h => ?_) (fun h => ?_)
  ·have hjl : j < gl.Parts.length := by have := Gz h; omega
   obtain ⟨q, hq2⟩ : ∃ q, gl.Parts[j]? = some q := ⟨_, Ee hjl⟩
   have hqg := bn (c := cN) hq2
   clear h
   repeat' (first|refine ae ?_|refine a6 ?_|refine ak ?_|refine ar ?_|refine a7 ?_|refine a8 ?_|refine aa a2 rfl rfl ?_|(apply aX; first|refine aW a2 ?_|refine aP a2 ?_)|(apply aG; first|refine ah 5 a2 0 rfl rfl rfl rfl rfl rfl rfl rfl ?_|refine ah 5 a2 1 rfl rfl rfl rfl rfl rfl rfl rfl ?_|refine ah 5 a2 2 rfl rfl rfl rfl rfl rfl rfl rfl ?_|refine ah 8 a2 0 rfl rfl rfl rfl rfl rfl rfl rfl ?_|refine ah 8 a2 1 rfl rfl rfl rfl rfl rfl rfl rfl ?_|refine ah 8 a2 2 rfl rfl rfl rfl rfl rfl rfl rfl ?_|refine ah 10 a2 0 rfl rfl rfl rfl rfl rfl rfl rfl ?_|refine ah 10 a2 1 rfl rfl rfl rfl rfl rfl rfl rfl ?_|refine ah 10 a2 2 rfl rfl rfl rfl rfl rfl rfl rfl ?_|refine ai a2 0 rfl rfl rfl rfl rfl rfl rfl ?_|refine ai a2 1 rfl rfl rfl rfl rfl rfl rfl ?_|refine ai a2 2 rfl rfl rfl rfl rfl rfl rfl ?_|refine ai a2 3 rfl rfl rfl rfl rfl rfl rfl ?_|fail)|refine b7 a2 fun _=>?_|refine bG a2 ?_|fail)
   refine bb (bM np nb f.Glyphs.length k2 (da f.Glyphs.length (da f.Glyphs.length T [z]) ((gl.Parts.take j).map cR.Glyph))) _ (lF np nb f.Glyphs.length k2 _ [q.Glyph] (by omega) hT2) rfl rfl tc rfl fun c L1 ⟨k3, hL⟩ => ?_
   subst hL
   refine aN (aK tc.symm) ?_
   repeat' (first|refine a6 ?_|refine a7 ?_|refine aH ?_|refine a8 ?_|refine aa a2 rfl rfl ?_|(apply aV; refine aU ?_)|fail)
   refine aB (j + 1, k3) rfl ⟨by rw [Gw]; rfl, trivial⟩ (by dsimp only; omega) (by dsimp only; omega) (fun σ w h => ?_)
   dsimp only
   rw [List.take_add_one, hq2, Option.toList_some, List.map_append, ← eW]
   exact h
  ·have hjl : j = gl.Parts.length := by have := Gy h; omega
   subst hjl
   rw [List.take_length]
   repeat' (first|refine aO ?_|refine au ?_|refine aH ?_|refine ay ?_|refine av ?_)
   subst hM
   refine be (L' := (bM ap ab f.Glyphs.length ka S ++ (bM np nb f.Glyphs.length k2 (da f.Glyphs.length (da f.Glyphs.length T [z]) (gl.Parts.map cR.Glyph)) ++ (fS f gp kg hq [] ++ [(db, i4)]))) ++ [(l, gB { rec with state := .busy })]) (aK ?_) (oP ?_)
   ·have := (DC (f := f) (gp := gp) (k := kg) (hq := hq) (A := bM ap ab f.Glyphs.length ka S) (N := bM np nb f.Glyphs.length k2 (da f.Glyphs.length (da f.Glyphs.length T [z]) (gl.Parts.map cR.Glyph))) (M := [(db, i4)] ++ [(l, gB { rec with state := .busy })])).symm
    simpa using this
   ·rw [pC hrec.state hrec.pending]
    refine ⟨rfl, (_, k2), ⟨hil, ?_⟩, by simp; rfl⟩
    rw [qp hz, hp0, ← eW, ← hT, show z :: gl.Parts.map cR.Glyph = [z] ++ gl.Parts.map cR.Glyph from rfl, ← eW]
 have hit := DY (σ0 := σ0) (l := l) (p := ap) (b := ab) (n := f.Glyphs.length) (fun _ => S) (fun _ => ka) (fun x : List Int × Option (Nat × Nat) => bM np nb f.Glyphs.length x.2 x.1 ++ (fS f gp kg hq [] ++ ([(db, i4)] ++ [(l, gB rec)]))) (fun i x => i ≤ S.length ∧ x.1 = da f.Glyphs.length [] (fp f (S.take i))) (by omega) (fun i x h => ⟨h.1, td⟩) hy ([], none) ⟨Nat.zero_le _, rfl⟩
 refine ⟨_, hit.perm (List.Perm.of_eq (by simp)), ?_⟩
 rintro c L' ⟨⟨T, kn⟩, ⟨_, hT⟩, rfl⟩
 dsimp only at hT ⊢
 rw [List.take_length] at hT
 refine ⟨rec, bM ap ab f.Glyphs.length ka S ++ (bM np nb f.Glyphs.length kn T ++ (fS f gp kg hq [] ++ [(db, i4)])), List.Perm.of_eq (by simp), (by rw [hrec.state]; intro h; cases h), ?_⟩
 rw [hrec.pending]
 show AX _ _ _ _ _ _ _ _
 refine be (aK DC) ?_
 have hTok : co f.Glyphs.length T := by rw [hT]; exact co.nil.add _
 clear hy hit hrec
 unfold fS gI
 repeat' (first|refine ae ?_|refine a6 ?_|refine ak ?_|refine a7 ?_|refine aH ?_|refine a8 ?_|refine aa a2 rfl rfl ?_|(apply bK; first|refine aj a2 0 rfl rfl rfl rfl rfl ?_|refine aj a2 1 rfl rfl rfl rfl rfl ?_|refine aj a2 2 rfl rfl rfl rfl rfl ?_|refine aj a2 3 rfl rfl rfl rfl rfl ?_|refine aD a2 0 rfl rfl rfl rfl rfl ?_|refine aD a2 1 rfl rfl rfl rfl rfl ?_|refine aD a2 2 rfl rfl rfl rfl rfl ?_|refine aj a2 1 rfl rfl rfl (by assumption) rfl ?_|refine aj a2 0 rfl rfl rfl (by assumption) rfl ?_|fail)|fail)
 refine aJ [2, 3, 5, 49, 50] (α := Nat × HQ × List Int × Option (Nat × Nat)) (fun y => [(51, aM y.1)]) (fun y => y.1 ≤ hq.length ∧ y.2.1.map (·.1) = hq.map (·.1) ∧ y.2.1.map (·.2) = ((hq.map (·.2)).take y.1).map (adv f S) ++ (hq.map (·.2)).drop y.1 ∧ y.2.2.1 = da f.Glyphs.length T (((hq.map (·.2)).take y.1).flatMap (dR f S))) (fun y => fS f gp kg y.2.1 (bM ap ab f.Glyphs.length ka S ++ (bM np nb f.Glyphs.length y.2.2.2 y.2.2.1 ++ [(db, i4)]))) (fun y => hq.length - y.1) (0, hq, T, kn) rfl ⟨rfl, trivial⟩ ⟨Nat.zero_le _, rfl, by simp, rfl⟩ (fun _ _ h => h) ?_
 rintro ⟨j, hqj, T1, k1⟩ ⟨hj, hf1, hf2, hT1⟩
 dsimp only at hj hf1 hf2 hT1 ⊢
 have hTok1 : co f.Glyphs.length T1 := by rw [hT1]; exact hTok.add _
 have hpl : ((hq.map (·.1)).map fun q => [fJ q]).length = hq.length := by simp
 try dsimp only [Gr, Gq, Gp, Gj]
 repeat' (first|refine ae ?_|refine a6 ?_|refine a7 ?_|refine a8 ?_|refine aa a2 rfl rfl ?_)
 refine aw rfl (fun h => ?_) (fun h => ?_)
 ·have hjl : j < hq.length := by have := Gz h; omega
  obtain ⟨⟨q, hp⟩, hqj0⟩ : ∃ x, hq[j]? = some x := ⟨_, Ee hjl⟩
  have hqs : (hq.map (·.2))[j]? = some hp := by rw [List.getElem?_map, hqj0]; rfl
  have hqg : ((hq.map (·.1)).map fun q => [fJ q])[j]? = some [fJ q] := by simp [hqj0]
  have hlen := congrArg List.length hf1
  rw [Gu, Gu] at hlen
  have hx : hqj[j]? = some (q, hp) := by
   obtain ⟨⟨q', h'⟩, hx⟩ : ∃ x, hqj[j]? = some x := ⟨_, Ee (by omega)⟩
   have e1 := congrArg (fun l => l[j]?) hf1
   simp only [List.getElem?_map, hx, hqj0, Option.map_some, Option.some.injEq] at e1
   have e3 : ((((hq.map (·.2)).take j).map (adv f S)) ++ (hq.map (·.2)).drop j)[j]? = some hp := by
    rw [List.getElem?_append_right (by simp; omega), List.getElem?_drop, show j + (j - (((hq.map (·.2)).take j).map (adv f S)).length) = j by simp; omega]
    exact hqs
   have e2 : (hqj.map (·.2))[j]? = some hp := by rw [hf2]; exact e3
   rw [List.getElem?_map, hx, Option.map_some, Option.some.injEq] at e2
   dsimp only at e1 e2
   subst e1
   subst e2
   exact hx
  have hsp : hqj = hqj.take j ++ (q, hp) :: hqj.drop (j + 1) := by
   conv => lhs; rw [← List.take_append_drop j hqj]
   rw [List.drop_eq_getElem_cons (by omega), (Gn hx).2]
  have hok := hH hp (Gx hqs)
  clear h
  repeat' (first|refine ae ?_|refine a6 ?_|refine ak ?_|refine ar ?_|refine a7 ?_|refine a8 ?_|refine aa a2 rfl rfl ?_|(apply aX; first|refine aW a2 ?_|refine aP a2 ?_)|(apply aG; first|refine ah 5 a2 0 rfl rfl rfl rfl rfl rfl rfl rfl ?_|refine ah 5 a2 1 rfl rfl rfl rfl rfl rfl rfl rfl ?_|refine ah 5 a2 2 rfl rfl rfl rfl rfl rfl rfl rfl ?_|refine ah 8 a2 0 rfl rfl rfl rfl rfl rfl rfl rfl ?_|refine ah 8 a2 1 rfl rfl rfl rfl rfl rfl rfl rfl ?_|refine ah 8 a2 2 rfl rfl rfl rfl rfl rfl rfl rfl ?_|refine ah 10 a2 0 rfl rfl rfl rfl rfl rfl rfl rfl ?_|refine ah 10 a2 1 rfl rfl rfl rfl rfl rfl rfl rfl ?_|refine ah 10 a2 2 rfl rfl rfl rfl rfl rfl rfl rfl ?_|refine ai a2 0 rfl rfl rfl rfl rfl rfl rfl ?_|refine ai a2 1 rfl rfl rfl rfl rfl rfl rfl ?_|refine ai a2 2 rfl rfl rfl rfl rfl rfl rfl ?_|refine ai a2 3 rfl rfl rfl rfl rfl rfl rfl ?_|fail)|refine b7 a2 fun _=>?_|fail)
  have hlen1 : (hqj.take j).length = j := by rw [List.length_take]; omega
  generalize hqj.take j = u1 at hsp hlen1
  generalize hqj.drop (j + 1) = u2 at hsp
  subst hsp
  refine bb (eK (q, hp) :: (gp, .box (gI f kg (List.map (fun x : Nat × iN => x.1) (u1 ++ (q, hp) :: u2))) 182) :: bM ap ab f.Glyphs.length ka S) _ (uU (g := 86) (caps := [.iptr [fJ ap], .iptr [fJ q], .iptr [fJ gp]]) q hp (iK f S hp.ign) _ (fun un z => wb f ap ab gp q ka kg S _ { hp with unmet := un } z)) rfl rfl DB rfl fun c L1 ⟨hc, hL⟩ => ?_
  subst hc; subst hL
  have hfst : List.map (fun x : Nat × iN => x.1) (u1 ++ (q, hp) :: u2) = List.map (fun x : Nat × iN => x.1) (u1 ++ (q, adv f S hp) :: u2) := by simp
  have hf2' : List.map (fun x : Nat × iN => x.2) (u1 ++ (q, adv f S hp) :: u2) = ((hq.map (·.2)).take (j + 1)).map (adv f S) ++ (hq.map (·.2)).drop (j + 1) := by
   have hd : (hq.map (·.2)).drop j = hp :: (hq.map (·.2)).drop (j + 1) := by
    obtain ⟨h1, h2⟩ := Gn hqs
    rw [List.drop_eq_getElem_cons h1, h2]
   rw [hd, List.map_append, Gp] at hf2
   obtain ⟨e1, e2⟩ := List.append_inj hf2 (by simp; omega)
   injection e2 with _ e2
   rw [List.map_append, Gp, e1, e2, List.take_add_one, hqs]
   simp
  have htell : ∀ X : List Int, (((hq.map (·.2)).take (j + 1)).flatMap (dR f S)) = (((hq.map (·.2)).take j).flatMap (dR f S)) ++ dR f S hp := fun _ => by
   rw [List.take_add_one, hqs, Option.toList_some, List.flatMap_append]
   simp
  clear hf2
  rw [hfst] at hf1 ⊢
  refine aN (aK DB.symm) ?_
  repeat' (first|refine a7 ?_|refine a8 ?_)
  refine aw rfl (fun h => ?_) (fun h => ?_)
  ·repeat' (first|refine a6 ?_|refine aa a2 rfl rfl ?_)
   refine bb (eK (q, adv f S hp) :: (gp, .box (gI f kg (List.map (fun x : Nat × iN => x.1) (u1 ++ (q, adv f S hp) :: u2))) 182) :: bM ap ab f.Glyphs.length ka S ++ bM np nb f.Glyphs.length k1 T1) _ (Cx (g := 86) (caps := [.iptr [fJ ap], .iptr [fJ q], .iptr [fJ gp]]) q (adv f S hp) (iK f S hp.ign) _ (fun z => wb f ap ab gp q ka kg S _ (adv f S hp) z) hok.1 hok.2 np nb f.Glyphs.length k1 T1 (by omega) hTok1) rfl rfl EL rfl fun c L1 ⟨k2, hL⟩ => ?_
   subst hL
   refine aN (aK EL.symm) ?_
   repeat' (first|refine a6 ?_|refine a7 ?_|refine aH ?_|refine a8 ?_|refine aa a2 rfl rfl ?_|(apply aV; refine aU ?_)|fail)
   refine aB (j + 1, u1 ++ (q, adv f S hp) :: u2, _, k2) rfl ⟨by rw [Gw]; rfl, trivial⟩ ⟨by dsimp only; omega, hf1, hf2', ?_⟩ (by dsimp only; omega) (fun _ _ h => h)
   dsimp only
   rw [htell [], ← eW, ← hT1]
   unfold dR
   rw [if_pos h]
   rfl
  ·repeat' (first|refine a6 ?_|refine ar ?_|refine a7 ?_|refine aH ?_|refine a8 ?_|refine aa a2 rfl rfl ?_|(apply aV; refine aU ?_)|fail)
   refine aB (j + 1, u1 ++ (q, adv f S hp) :: u2, T1, k1) rfl ⟨by rw [Gw]; rfl, trivial⟩ ⟨by dsimp only; omega, hf1, hf2', ?_⟩ (by dsimp only; omega) (fun _ _ h => h)
   dsimp only
   rw [htell [], ← eW, ← hT1]
   unfold dR
   rw [if_neg (by rw [h]; exact fun e => by cases e)]
   rfl
 ·have hjl : j = hq.length := by have := Gy h; omega
  subst hjl
  rw [List.take_of_length_le (by simp)] at hf2 hT1
  rw [List.drop_eq_nil_of_le (by simp), List.append_nil] at hf2
  repeat' (first|refine ae ?_|refine a6 ?_|refine aq ?_|refine aO ?_|refine a7 ?_|refine au ?_|refine ay ?_|refine av ?_|refine a8 ?_|refine aa a2 rfl rfl ?_)
  refine ju (cs := [fJ np]) [db] (fS f gp kg hqj (bM ap ab f.Glyphs.length ka S ++ bM np nb f.Glyphs.length k1 T1)) rfl (List.Perm.of_eq (by simp [fS])) ⟨rfl, trivial⟩ ⟨np, nb, k1, hqj, rfl, ?_, hf1, hf2⟩
  unfold eJ
  rw [hT1, hT, eW]
  rfl
theorem Ao (f : aI) (hs : er f) (gs : List Int) : AC Tryz.prog 42 [ct f, .imm 1 (aT gs)] [] fun c L => ∃ p b k, c = fJ p ∧ L = bM p b f.Glyphs.length k (da f.Glyphs.length [] gs) := by
 refine aQ Tryz.func42 rfl Tryz.ntmps42 rfl fun B => ?_
 have hGl := hs.glyphs
 have hml : (f.Glyphs.map bA).length = f.Glyphs.length := Gu ..
 repeat' (first|refine ae ?_|refine a6 ?_|refine a7 ?_|refine a8 ?_|refine aa a2 rfl rfl ?_|refine bg ?_|fail)
 rw [hml]
 refine bb [] [] (CO f.Glyphs.length (by omega)) rfl rfl (Gm _) rfl fun c L1 ⟨p, b, hc, hL⟩ => ?_
 subst hc; subst hL
 rw [List.append_nil]
 repeat' (first|refine ae ?_|refine a6 ?_|refine a7 ?_|refine a8 ?_|refine aa a2 rfl rfl ?_)
 refine bb (bM p b f.Glyphs.length none []) [] (lF p b f.Glyphs.length none [] gs (by omega) co.nil) rfl rfl (by rw [List.append_nil]) rfl fun c L1 ⟨k, hL⟩ => ?_
 subst hL
 rw [List.append_nil]
 repeat' (first|refine ae ?_|refine a6 ?_|refine aq ?_|refine a7 ?_|refine a8 ?_|refine aa a2 rfl rfl ?_)
 exact aA rfl rfl ⟨p, b, k, rfl, rfl⟩
theorem BU {f : aI} (hs : er f) (S : List Int) : mI (eF f S) := by
 intro h hh
 unfold eF at hh
 obtain ⟨n, _, hh⟩ := List.mem_flatMap.1 hh
 unfold li at hh
 split at hh
 ·rename_i l hl
  unfold gu at hh
  obtain ⟨r, hr, rfl⟩ := List.mem_map.1 hh
  rw [List.mem_filter] at hr
  refine ⟨Gz hr.2, ?_⟩
  have := hs.out (Gx hl) hr.1
  show r.Out.length ≤ 1000000
  omega
 ·cases hh
def fm (f : aI) (ks gs : List Int) : List Int := eJ f (da f.Glyphs.length [] gs) (eF f (da f.Lookups.length [] ks))
theorem DF {f : aI} (hs : er f) {ks : List Int} {hq : HQ} (h : hq.map (·.2) = eF f (da f.Lookups.length [] ks)) : hq.length ≤ 100000000 := by
 have h1 := congrArg List.length h
 rw [Gu] at h1
 have h2 := pi f hs (da f.Lookups.length [] ks)
 have h3 := ((co.nil (n := f.Lookups.length)).add ks).len
 have h4 := hs.lookups
 omega
theorem pU (f : aI) (S : List Int) (hs : List iN) : co f.Glyphs.length (eJ f S hs) := co.nil.add _
def E0 (f : aI) (ks gs : List Int) : Bool := (fm f ks gs).all fun z => CK f.Glyphs.length (da f.Glyphs.length [] gs) z
end Go.Proofs.YtjjpkibjffmceaaGreat
