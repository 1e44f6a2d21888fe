/-
  The program: growths.
-/
import Derived.Test.YtpbinloeemebkaaGreatM17
namespace Go.Proofs.YtpbinloeemebkaaGreat
open Go.RowKit
attribute [local irreducible] AT bN AX AO Av Kt bi dE DA d6
section
variable {P : Program} {l : List Oper} {fr : c9} {fin : lj} {sk : mx} {acc : c9} {L : AL} {k : Nat} {dd : Option Tmp} {ty t t' : TypeId} {pos : String} {af : Array Edge} {g : Option (Nat × Bool)} {x y : Operand} {u : AV}
theorem B8 {cs : List AV} (hx : bB (dp l.toArray acc fr af.toList) x = some u) (hc : u.cells = some cs) (hg : mp ⟨dd, .box t x, ty, pos, af, g⟩ acc) (h : ∀ b, DA P l fr fin sk ((k, eV b) :: acc) ((b, .box cs t) :: L)) : d6 P l fr fin k .a ⟨dd, .box t x, ty, pos, af, g⟩ sk acc L :=
 zL (fun c L' ⟨b, _, h2⟩ => ⟨[(b, .box cs t)], h2⟩) hg (fun _ => vC hx hc) fun c L' ⟨b, h1, h2⟩ => by subst h1; subst h2; exact h b
end
def pB (l : bC) (r : bJ) : gB := ⟨r, l.Kind, l.Ignore, r.In ++ (r.Back ++ r.Ahead)⟩
def f7 (l : bC) (rs : List bJ) : List gB := (rs.filter fun r => decide (r.In ≠ [])).map (pB l)
def iv (f : aH) (n : Int) : List gB := match f.Lookups[n.toNat]? with
 | some l => f7 l l.Rules
 | none => []
def dq (f : aH) (ks : List Int) : List gB := ks.flatMap (iv f)
theorem qP {f : aH} {S : List Int} {i : Nat} {z : Int} (h : S[i]? = some z) : dq f (S.take (i + 1)) = dq f (S.take i) ++ iv f z := by
 unfold dq
 rw [List.take_add_one, h, Option.toList_some, List.flatMap_append]
 simp
abbrev HQ := List (Nat × gB)
def eF (f : aH) (gp : Nat) (k : Option (Nat × Nat)) (hq : HQ) (Z : AL) : AL := (gp, .box (fI f k (hq.map (·.1))) 131) :: (tok k 133 1 (hq.map (·.1)).length ++ (hq.map dD ++ Z))
theorem s6 {l : bC} {j : Nat} {r : bJ} (h : l.Rules[j]? = some r) (hr : r.In ≠ []) : f7 l (l.Rules.take (j + 1)) = f7 l (l.Rules.take j) ++ [pB l r] := by
 unfold f7
 rw [List.take_add_one, h, Option.toList_some, List.filter_append, List.map_append]
 simp [hr]
theorem uq {l : bC} {j : Nat} {r : bJ} (h : l.Rules[j]? = some r) (hr : r.In = []) : f7 l (l.Rules.take (j + 1)) = f7 l (l.Rules.take j) := by
 unfold f7
 rw [List.take_add_one, h, Option.toList_some, List.filter_append, List.map_append]
 simp [hr]
theorem r3 {R : AL} {a : Nat × AB} {t h M : AL} : (R ++ (a :: (t ++ (h ++ M)))).Perm (a :: (t ++ (h ++ (R ++ M)))) := by
 have := List.perm_append_comm_assoc R (a :: (t ++ h)) M
 simpa using this
theorem wQ {a b : Nat × AB} {t X Z : AL} : (t ++ (a :: b :: (X ++ Z))).Perm (b :: (t ++ ((X ++ [a]) ++ Z))) := by
 refine (List.Perm.append_left t (List.Perm.swap ..)).trans ?_
 refine List.perm_middle.trans (List.Perm.cons _ (List.Perm.append_left t ?_))
 rw [List.append_assoc]
 exact List.perm_middle.symm
theorem wT {l : bC} {rs : List bJ} : (f7 l rs).length ≤ rs.length := by
 unfold f7
 rw [List.length_map]
 exact List.length_filter_le _ _
theorem lP (l : List (List Int)) : l.length ≤ p7 l := by
 unfold p7
 induction l with
 | nil => simp
 | cons x l ih => simp only [List.map_cons, List.sum_cons, List.length_cons]; omega
theorem ck.ruleSets {f : aH} (hs : ck f) {l : bC} {r : bJ} (h : l ∈ f.Lookups) (hr : r ∈ l.Rules) : eB [r.In, r.Back, r.Ahead] ≤ 1000000 := by
 have h1 := hs.rule h hr
 unfold l7 at h1
 have h2 := lP r.In
 have h3 := lP r.Back
 have h4 := lP r.Ahead
 simp only [eB, List.map_cons, List.map_nil, List.sum_cons, List.sum_nil]
 omega
theorem nn (f : aH) (hs : ck f) (S : List Int) : (dq f S).length ≤ 2000 * S.length := by
 unfold dq
 induction S with
 | nil => simp
 | cons n S ih =>
  rw [List.flatMap_cons, List.length_append, List.length_cons]
  have : (iv f n).length ≤ 2000 := by
   unfold iv
   split
   ·rename_i l hl
    exact Nat.le_trans wT (hs.rulesL (List.mem_of_getElem? hl))
   ·simp
  omega
set_option maxHeartbeats 8000000 in
theorem kV (f : aH) (hs : ck f) (ks : List Int) : AC Tryz.prog 37 [bw f, .imm 1 (aV ks)] [] fun c L => ∃ gp k hq, c = eV gp ∧ L = eF f gp k hq [] ∧ hq.map (·.2) = dq f (bR f.Lookups.length [] ks) := by
 refine iS Tryz.func37 rfl Tryz.ntmps37 rfl fun B => ?_
 have hLk := hs.lookups
 have hml : (f.Lookups.map bq).length = f.Lookups.length := List.length_map ..
 (repeat' (first|refine ah ?_|refine a6 ?_|refine a8 ?_|refine aa ?_|refine ae a7 rfl rfl ?_|(apply aT; first|refine ai 5 a7 0 rfl rfl rfl rfl rfl rfl rfl rfl ?_|refine ai 5 a7 1 rfl rfl rfl rfl rfl rfl rfl rfl ?_|refine ai 5 a7 2 rfl rfl rfl rfl rfl rfl rfl rfl ?_|refine ai 8 a7 0 rfl rfl rfl rfl rfl rfl rfl rfl ?_|refine ai 8 a7 1 rfl rfl rfl rfl rfl rfl rfl rfl ?_|refine ai 8 a7 2 rfl rfl rfl rfl rfl rfl rfl rfl ?_|refine ai 10 a7 0 rfl rfl rfl rfl rfl rfl rfl rfl ?_|refine ai 10 a7 1 rfl rfl rfl rfl rfl rfl rfl rfl ?_|refine ai 10 a7 2 rfl rfl rfl rfl rfl rfl rfl rfl ?_|refine aj a7 0 rfl rfl rfl rfl rfl rfl rfl ?_|refine aj a7 1 rfl rfl rfl rfl rfl rfl rfl ?_|refine aj a7 2 rfl rfl rfl rfl rfl rfl rfl ?_|refine aj a7 3 rfl rfl rfl rfl rfl rfl rfl ?_|fail)|refine wF (d := 14) fun _=>?_|refine b6 ?_|refine bb a7 fun _=>?_|fail))
 rw [hml]
 rename_i gp _
 refine bh (iF 0 (cs' := fI f none []) rfl fun σ vs h => tH (cs := bO f ++ [.sc (.slice none 0 0)]) rfl (fun i c c' h1 h2 v hv => ?_) h) ?_
 ·by_cases hi : i = 9
  ·subst hi
   simp [fI, bO] at h1 h2
   subst h1; subst h2
   exact jm 1 hv
  ·have h3 : i < 9 := by
    have := (List.getElem?_eq_some_iff.1 h2).1
    simp [fI, bO] at this
    omega
   have e : some c = some c' := by
    rw [← h1, ← h2]
    show (bO f ++ [_])[i]? = (bO f ++ [_])[i]?
    rw [List.getElem?_append_left (by simpa [bO] using h3), List.getElem?_append_left (by simpa [bO] using h3)]
   injection e with e
   rw [← e]
   exact hv
 refine aZ [] [(gp, .box (fI f none []) 131)] (z6 f.Lookups.length (by omega)) rfl rfl (List.Perm.refl _) rfl fun c L1 ⟨p, b, hc, hL⟩ => ?_
 subst hc; subst hL
 (repeat' (first|refine ah ?_|refine a6 ?_|refine a8 ?_|refine aa ?_|refine ae a7 rfl rfl ?_|fail))
 refine aZ (cW p b f.Lookups.length none []) _ (vw p b f.Lookups.length none [] ks (by omega) cm.nil) rfl rfl (List.Perm.refl _) rfl fun c L1 ⟨kS, hL⟩ => ?_
 subst hL
 have hok := (cm.nil (n := f.Lookups.length)).add ks
 generalize bR f.Lookups.length [] ks = S at *
 have qN := hok.len
 (repeat' (first|refine ah ?_|refine a6 ?_|refine am ?_|refine a8 ?_|refine aa ?_|refine ae a7 rfl rfl ?_|(apply ba;refine aY ?_)|fail))
 refine fA (fr' := [(23, .fn 51 [.iptr [eV p]]), (2, .iptr (bO f)), (5, .iptr [eV gp])]) (L' := cW p b f.Lookups.length kS S ++ [(gp, .box (fI f none []) 131)]) ⟨rfl, rfl, rfl, trivial⟩ (fun _ _ h => h) ?_
 refine eY (ps := [24]) rfl fun σ0 l db rec hrec => ?_
 have hy : ∀ (i : Nat) (x : HQ × Option (Nat × Nat)) (z : Int), (i ≤ S.length ∧ x.1.map (·.2) = dq f (S.take i)) → S[i]? = some z → AY Tryz.prog σ0 l [aQ z] (cW p b f.Lookups.length kS S ++ eF f gp x.2 x.1 ([(db, dO)] ++ [(l, dV rec)])) fun c L => c = c8 true ∧ ∃ x' : HQ × Option (Nat × Nat), (i + 1 ≤ S.length ∧ x'.1.map (·.2) = dq f (S.take (i + 1))) ∧ L = cW p b f.Lookups.length kS S ++ eF f gp x'.2 x'.1 ([(db, dO)] ++ [(l, dV rec)]) := by
  rintro i ⟨hq, k⟩ z ⟨hi1, hh⟩ hz
  dsimp only at hi1 hh ⊢
  have hil := (List.getElem?_eq_some_iff.1 hz).1
  have hzr := hok.dom z (List.mem_of_getElem? hz)
  obtain ⟨x, hx⟩ : ∃ x, f.Lookups[z.toNat]? = some x := ⟨_, List.getElem?_eq_getElem (by omega)⟩
  have hxm := List.mem_of_getElem? hx
  have hxg := b5 (c := bq) hx
  have hRl := hs.rulesL hxm
  have hRm : (x.Rules.map ca).length = x.Rules.length := List.length_map ..
  have hxl : iv f z = f7 x x.Rules := by unfold iv; rw [hx]
  have hqs := nn f hs (S.take i)
  rw [← hh, List.length_map, List.length_take] at hqs
  have hE : ∀ q : HQ, ∀ kk, cW p b f.Lookups.length kS S ++ eF f gp kk q ([(db, dO)] ++ [(l, dV rec)]) = (cW p b f.Lookups.length kS S ++ (gp, .box (fI f kk (q.map (·.1))) 131) :: (tok kk 133 1 (q.map (·.1)).length ++ (q.map dD ++ [(db, dO)]))) ++ [(l, dV rec)] := fun q kk => by unfold eF; simp
  rw [hE]
  refine kE hrec rfl rfl fun B1 hB1 => ?_
  (repeat' (first|refine a6 ?_|refine aa ?_|refine ae a7 rfl rfl ?_|fail))
  refine eZ hrec.state ?_
  (repeat' (first|refine ah ?_|refine a6 ?_|refine am ?_|refine a8 ?_|refine aa ?_|refine ae a7 rfl rfl ?_|(apply aP; first|refine aO a7 ?_|refine aI a7 ?_)|(apply aT; first|refine ai 5 a7 0 rfl rfl rfl rfl rfl rfl rfl rfl ?_|refine ai 5 a7 1 rfl rfl rfl rfl rfl rfl rfl rfl ?_|refine ai 5 a7 2 rfl rfl rfl rfl rfl rfl rfl rfl ?_|refine ai 8 a7 0 rfl rfl rfl rfl rfl rfl rfl rfl ?_|refine ai 8 a7 1 rfl rfl rfl rfl rfl rfl rfl rfl ?_|refine ai 8 a7 2 rfl rfl rfl rfl rfl rfl rfl rfl ?_|refine ai 10 a7 0 rfl rfl rfl rfl rfl rfl rfl rfl ?_|refine ai 10 a7 1 rfl rfl rfl rfl rfl rfl rfl rfl ?_|refine ai 10 a7 2 rfl rfl rfl rfl rfl rfl rfl rfl ?_|refine aj a7 0 rfl rfl rfl rfl rfl rfl rfl ?_|refine aj a7 1 rfl rfl rfl rfl rfl rfl rfl ?_|refine aj a7 2 rfl rfl rfl rfl rfl rfl rfl ?_|refine aj a7 3 rfl rfl rfl rfl rfl rfl rfl ?_|fail)|refine bb a7 fun _=>?_|fail))
  refine aL [2, 5, 8, 24, 31, 32] (α := Nat × HQ × Option (Nat × Nat)) (fun y => [(33, aQ y.1)]) (fun y => y.1 ≤ x.Rules.length ∧ y.2.1.map (·.2) = dq f (S.take i) ++ f7 x (x.Rules.take y.1)) (fun y => eF f gp y.2.2 y.2.1 (cW p b f.Lookups.length kS S ++ ([(db, dO)] ++ [(l, dV { rec with state := .busy })]))) (fun y => x.Rules.length - y.1) (0, hq, k) rfl ⟨rfl, trivial⟩ ⟨Nat.zero_le _, by rw [hh]; simp [f7]⟩ (fun σ w h => ?_) ?_
  ·refine cK.perm h ?_
   have := r3 (R := cW p b f.Lookups.length kS S) (a := (gp, AB.box (fI f k (hq.map (·.1))) 131)) (t := tok k 133 1 (hq.map (·.1)).length) (h := hq.map dD) (M := [(db, dO)] ++ [(l, dV { rec with state := .busy })])
   simpa [eF] using this
  clear hh
  rintro ⟨j, hq, k⟩ ⟨hj, hh⟩
  dsimp only at hj hh ⊢
  have hlen := congrArg List.length hh
  rw [List.length_map, List.length_append] at hlen
  have hb1 := nn f hs (S.take i)
  rw [List.length_take] at hb1
  have hb2 := wT (l := x) (rs := x.Rules.take j)
  rw [List.length_take] at hb2
  have hql : ((hq.map (·.1)).map fun q => [eV q]).length = hq.length := by simp
  generalize hZ : cW p b f.Lookups.length kS S ++ ([(db, dO)] ++ [(l, dV { rec with state := .busy })]) = Z
  try dsimp only [List.cons_append, List.nil_append, List.map_cons, List.map_nil]
  (repeat' (first|refine ah ?_|refine a6 ?_|refine a8 ?_|refine aa ?_|refine ae a7 rfl rfl ?_|fail))
  refine av rfl (fun h => ?_) (fun h => ?_)
  ·have hjl : j < x.Rules.length := by have := of_decide_eq_true h; simp at this; omega
   obtain ⟨r, hr⟩ : ∃ r, x.Rules[j]? = some r := ⟨_, List.getElem?_eq_getElem hjl⟩
   have hrm := List.mem_of_getElem? hr
   have hrg := b5 (c := ca) hr
   have hIl := cq r.In
   clear h
   (repeat' (first|refine ah ?_|refine a6 ?_|refine am ?_|refine ak ?_|refine a8 ?_|refine aa ?_|refine ae a7 rfl rfl ?_|(apply aP; first|refine aO a7 ?_|refine aI a7 ?_)|(apply aT; first|refine ai 5 a7 0 rfl rfl rfl rfl rfl rfl rfl rfl ?_|refine ai 5 a7 1 rfl rfl rfl rfl rfl rfl rfl rfl ?_|refine ai 5 a7 2 rfl rfl rfl rfl rfl rfl rfl rfl ?_|refine ai 8 a7 0 rfl rfl rfl rfl rfl rfl rfl rfl ?_|refine ai 8 a7 1 rfl rfl rfl rfl rfl rfl rfl rfl ?_|refine ai 8 a7 2 rfl rfl rfl rfl rfl rfl rfl rfl ?_|refine ai 10 a7 0 rfl rfl rfl rfl rfl rfl rfl rfl ?_|refine ai 10 a7 1 rfl rfl rfl rfl rfl rfl rfl rfl ?_|refine ai 10 a7 2 rfl rfl rfl rfl rfl rfl rfl rfl ?_|refine aj a7 0 rfl rfl rfl rfl rfl rfl rfl ?_|refine aj a7 1 rfl rfl rfl rfl rfl rfl rfl ?_|refine aj a7 2 rfl rfl rfl rfl rfl rfl rfl ?_|refine aj a7 3 rfl rfl rfl rfl rfl rfl rfl ?_|fail)|refine bb a7 fun _=>?_|fail))
   refine av rfl (fun h => ?_) (fun h => ?_)
   ·have hIn : r.In ≠ [] := fun e => by have := of_decide_eq_true h; rw [hIl, e] at this; simp at this
    clear h
    (repeat' (first|refine ah ?_|refine a6 ?_|refine ae a7 rfl rfl ?_|refine bM a7 ?_|fail))
    refine aY (hc := ⟨nc [r.In, r.Back, r.Ahead] (hs.ruleSets hxm hrm)⟩) ?_
    rw [show ([r.In, r.Back, r.Ahead] : List (List (List Int))).flatten = r.In ++ (r.Back ++ r.Ahead) by simp]
    unfold eF fI
    (repeat' (first|refine a8 ?_|refine aa ?_|refine ae a7 rfl rfl ?_|fail))
    refine bj 15 [(0, .v), (1, .v), (2, .v), (3, .v), (4, .l), (5, .v), (6, .v), (7, .v), (8, .v), (9, .v), (10, .v), (11, .v), (12, .a), (13, .v), (14, .e)] none ?_ trivial rfl (by kernel_rfl) (by kernel_rfl) (by kernel_rfl) mixed (by kernel_rfl) rfl
    (repeat' (first|refine aN ?_|refine bf a7 ?_|refine dI a7 0 rfl rfl rfl rfl (by first|trivial|rfl) ?_|fail))
    refine B8 rfl rfl trivial fun q => ?_
    (repeat' (first|refine aN ?_|refine m7 a7 ?_|fail))
    refine iW a7 _ rfl rfl rfl rfl (gt (H := []) (T := tok k 133 1 (hq.map (·.1)).length) (T' := []) (by simp)) (by rw [hql]; show _ + 1 ≤ _; omega) (by rw [hql]; show (_ + 1) * 8 ≤ _; omega) trivial fun k' => ?_
    (repeat' (first|fail))
    refine bl [2, 5, 8, 24, 31, 32, 33, 49, 63] rfl rfl ?_
    refine bh (bc (wQ (X := hq.map dD))) ?_
    (repeat' (first|refine a6 ?_|refine a8 ?_|refine aJ ?_|refine aa ?_|refine ae a7 rfl rfl ?_|(apply aX; refine aW ?_)|(apply aT; first|refine ai 5 a7 0 rfl rfl rfl rfl rfl rfl rfl rfl ?_|refine ai 5 a7 1 rfl rfl rfl rfl rfl rfl rfl rfl ?_|refine ai 5 a7 2 rfl rfl rfl rfl rfl rfl rfl rfl ?_|refine ai 8 a7 0 rfl rfl rfl rfl rfl rfl rfl rfl ?_|refine ai 8 a7 1 rfl rfl rfl rfl rfl rfl rfl rfl ?_|refine ai 8 a7 2 rfl rfl rfl rfl rfl rfl rfl rfl ?_|refine ai 10 a7 0 rfl rfl rfl rfl rfl rfl rfl rfl ?_|refine ai 10 a7 1 rfl rfl rfl rfl rfl rfl rfl rfl ?_|refine ai 10 a7 2 rfl rfl rfl rfl rfl rfl rfl rfl ?_|refine aj a7 0 rfl rfl rfl rfl rfl rfl rfl ?_|refine aj a7 1 rfl rfl rfl rfl rfl rfl rfl ?_|refine aj a7 2 rfl rfl rfl rfl rfl rfl rfl ?_|refine aj a7 3 rfl rfl rfl rfl rfl rfl rfl ?_|fail)|fail))
    have e : eF f gp k' (hq ++ [(q, pB x r)]) Z = (gp, AB.box (bO f ++ [AV.vec k' 1 (List.map (fun q => [eV q]) (hq.map (·.1)) ++ [[eV q]])]) 131) :: (tok k' 133 1 (List.map (fun q => [eV q]) (hq.map (·.1)) ++ [[eV q]]).length ++ ((hq.map dD ++ [dD (q, pB x r)]) ++ Z)) := by unfold eF fI; simp
    exact aE (j + 1, hq ++ [(q, pB x r)], k') rfl ⟨by rw [Int.natCast_add]; rfl, trivial⟩ ⟨by dsimp only; omega, by rw [s6 hr hIn, List.map_append, hh, List.append_assoc]; rfl⟩ (by dsimp only; omega) (fun σ w h => by have h2 : cK B1 σ (eF f gp k' (hq ++ [(q, pB x r)]) Z) w := (by rw [e]; exact h); exact h2)
   ·have hIn : r.In = [] := List.eq_nil_of_length_eq_zero (by have := of_decide_eq_false h; rw [hIl] at this; omega)
    (repeat' (first|refine a6 ?_|refine ak ?_|refine a8 ?_|refine aJ ?_|refine aa ?_|refine ae a7 rfl rfl ?_|(apply aX; refine aW ?_)|fail))
    exact aE (j + 1, hq, k) rfl ⟨by rw [Int.natCast_add]; rfl, trivial⟩ ⟨by dsimp only; omega, by rw [uq hr hIn]; exact hh⟩ (by dsimp only; omega) (fun _ _ h => h)
  ·have hjl : j = x.Rules.length := by have := of_decide_eq_false h; simp at this; omega
   subst hjl
   rw [List.take_length] at hh
   (repeat' (first|refine aR ?_|refine az ?_|refine aJ ?_|refine aC ?_|refine aA ?_|fail))
   refine bU (L' := (cW p b f.Lookups.length kS S ++ (gp, .box (fI f k (hq.map (·.1))) 131) :: (tok k 133 1 (hq.map (·.1)).length ++ (hq.map dD ++ [(db, dO)]))) ++ [(l, dV { rec with state := .busy })]) (bc ?_) (g7 ?_)
   ·subst hZ
    have := (r3 (R := cW p b f.Lookups.length kS S) (a := (gp, AB.box (fI f k (hq.map (·.1))) 131)) (t := tok k 133 1 (hq.map (·.1)).length) (h := hq.map dD) (M := [(db, dO)] ++ [(l, dV { rec with state := .busy })])).symm
    simpa [eF] using this
   ·rw [f9 hrec.state hrec.pending]
    refine ⟨rfl, (hq, k), ⟨hil, ?_⟩, by simp [eF]⟩
    rw [qP hz, hxl]
    exact hh
 have hit := wO (σ0 := σ0) (l := l) (p := p) (b := b) (n := f.Lookups.length) (fun _ => S) (fun _ => kS) (fun x : HQ × Option (Nat × Nat) => eF f gp x.2 x.1 ([(db, dO)] ++ [(l, dV rec)])) (fun i x => i ≤ S.length ∧ x.1.map (·.2) = dq f (S.take i)) (by omega) (fun i x h => ⟨h.1, qN⟩) hy ([], none) ⟨Nat.zero_le _, rfl⟩
 refine ⟨_, hit.perm (List.Perm.of_eq (by simp [eF, tok])), ?_⟩
 rintro c L' ⟨⟨hq, k⟩, ⟨_, hh⟩, rfl⟩
 dsimp only at hh ⊢
 rw [List.take_length] at hh
 refine ⟨rec, cW p b f.Lookups.length kS S ++ eF f gp k hq [(db, dO)], List.Perm.of_eq (by simp [eF]), (by rw [hrec.state]; intro h; cases h), ?_⟩
 rw [hrec.pending]
 show AX _ _ _ _ _ _ _ _
 (repeat' (first|refine ah ?_|refine a6 ?_|refine au ?_|refine a8 ?_|refine aJ ?_|refine aa ?_|refine ae a7 rfl rfl ?_|fail))
 refine eH (List.sublist_append_right ..) ?_
 exact eI (cs := [eV gp]) [db] (eF f gp k hq []) rfl (List.Perm.of_eq (by simp [eF])) ⟨rfl, trivial⟩ ⟨gp, k, hq, rfl, rfl, hh⟩
end Go.Proofs.YtpbinloeemebkaaGreat

namespace Go.Proofs.YtpbinloeemebkaaGreat
open Go.RowKit
attribute [local irreducible] AT bN AX AO Av Kt bi dE DA d6
def dy (f : aH) (n : Int) : List Int := match f.Glyphs[n.toNat]? with | some g => g.Parts.map bE.Glyph | none => []
def adv (f : aH) (S : List Int) (h : gB) : gB := h.rest (fe f S h.ign)
def cH (f : aH) (S : List Int) (h : gB) : List Int := if (h.unmet.all fun s => s.any (fe f S h.ign)) = true then eu h (fe f S h.ign) else []
def dK (f : aH) (S : List Int) : List Int := S.flatMap fun n => n :: dy f n
def dC (f : aH) (S : List Int) (hs : List gB) : List Int := bR f.Glyphs.length [] (dK f S ++ hs.flatMap (cH f S))
def lm (hs : List gB) : Prop := ∀ h ∈ hs, h.rule.In ≠ [] ∧ h.rule.Out.length ≤ 1000000
theorem qL {f : aH} {gp : Nat} {k : Option (Nat × Nat)} {hq : HQ} {A X M : AL} : (eF f gp k hq (A ++ (X ++ M))).Perm (X ++ eF f gp k hq (A ++ M)) := by
 unfold eF
 have h := List.perm_append_comm_assoc ((gp, AB.box (fI f k (hq.map (·.1))) 131) :: (tok k 133 1 (hq.map (·.1)).length ++ (hq.map dD ++ A))) X M
 simpa using h
theorem zS {f : aH} {gp : Nat} {k : Option (Nat × Nat)} {h1 h2 : HQ} {x : Nat × gB} {A Z : AL} : (eF f gp k (h1 ++ x :: h2) (A ++ Z)).Perm ((dD x :: (gp, .box (fI f k ((h1 ++ x :: h2).map (·.1))) 131) :: A) ++ (tok k 133 1 ((h1 ++ x :: h2).map (·.1)).length ++ (h1.map dD ++ (h2.map dD ++ Z)))) := by
 unfold eF
 generalize (gp, AB.box (fI f k ((h1 ++ x :: h2).map (·.1))) 131) = a
 generalize tok k 133 1 ((h1 ++ x :: h2).map (·.1)).length = t
 simp only [List.map_append, List.map_cons]
 generalize h1.map dD = u
 generalize h2.map dD = v
 generalize dD x = b
 have e1 : (a :: (t ++ ((u ++ b :: v) ++ (A ++ Z)))).Perm (a :: b :: ((t ++ (u ++ v)) ++ (A ++ Z))) := by
  refine List.Perm.cons _ ?_
  have : t ++ ((u ++ b :: v) ++ (A ++ Z)) = (t ++ u) ++ b :: (v ++ (A ++ Z)) := by simp
  rw [this]
  refine List.perm_middle.trans (List.Perm.cons _ (List.Perm.of_eq (by simp)))
 refine e1.trans ((List.Perm.swap ..).trans ?_)
 have e2 := List.perm_append_comm_assoc (t ++ (u ++ v)) A Z
 refine (List.Perm.cons _ (List.Perm.cons _ e2)).trans (List.Perm.of_eq (by simp))
theorem zT {f : aH} {gp : Nat} {k : Option (Nat × Nat)} {hq : HQ} {A N M : AL} : (A ++ (N ++ (eF f gp k hq [] ++ M))).Perm (eF f gp k hq (A ++ (N ++ M))) := by
 have h := List.perm_append_comm_assoc (A ++ N) (eF f gp k hq []) M
 have e : eF f gp k hq (A ++ (N ++ M)) = eF f gp k hq [] ++ (A ++ N ++ M) := by unfold eF; simp
 rw [e]
 simpa using h
theorem oz {f : aH} {S : List Int} {i : Nat} {z : Int} (h : S[i]? = some z) : dK f (S.take (i + 1)) = dK f (S.take i) ++ (z :: dy f z) := by
 unfold dK
 rw [List.take_add_one, h, Option.toList_some, List.flatMap_append]
 simp
theorem Bb {f : aH} {gp : Nat} {k : Option (Nat × Nat)} {h1 h2 : HQ} {x : Nat × gB} {A N M : AL} : (eF f gp k (h1 ++ x :: h2) (A ++ (N ++ M))).Perm ((dD x :: (gp, .box (fI f k ((h1 ++ x :: h2).map (·.1))) 131) :: A ++ N) ++ (tok k 133 1 ((h1 ++ x :: h2).map (·.1)).length ++ (h1.map dD ++ (h2.map dD ++ M)))) := by
 refine zS.trans ?_
 generalize tok k 133 1 ((h1 ++ x :: h2).map (·.1)).length = t
 generalize dD x :: (gp, AB.box (fI f k ((h1 ++ x :: h2).map (·.1))) 131) :: A = X
 have h := List.perm_append_comm_assoc (t ++ (h1.map dD ++ h2.map dD)) N M
 have h3 := List.Perm.append_left X h
 simpa using h3
theorem ck.parts {f : aH} (hs : ck f) {g : be} (h : g ∈ f.Glyphs) : g.Parts.length ≤ 2000 := by
 have h1 := l9 (g := fm) h
 have h2 : fm g ≤ gE f := by unfold gE; omega
 have h3 : gE f ≤ 2000 := hs
 unfold fm at h2
 omega
set_option maxHeartbeats 8000000 in
theorem tF (f : aH) (hs : ck f) (gp ap ab : Nat) (kg ka : Option (Nat × Nat)) (hq : HQ) (S : List Int) (hS : cm f.Glyphs.length S) (hH : lm (hq.map (·.2))) (hql : hq.length ≤ 100000000) : AC Tryz.prog 38 [eV gp, eV ap] (eF f gp kg hq (b9 ap ab f.Glyphs.length ka S)) fun c L => ∃ np nb kn hq', c = eV np ∧ L = eF f gp kg hq' (b9 ap ab f.Glyphs.length ka S ++ b9 np nb f.Glyphs.length kn (dC f S (hq.map (·.2)))) ∧ hq'.map (·.1) = hq.map (·.1) ∧ hq'.map (·.2) = (hq.map (·.2)).map (adv f S) := by
 refine iS Tryz.func38 rfl Tryz.ntmps38 rfl fun B => ?_
 have hGl := hs.glyphs
 have hml : (f.Glyphs.map bz).length = f.Glyphs.length := List.length_map ..
 have qN := hS.len
 unfold eF fI
 (repeat' (first|refine ah ?_|refine a6 ?_|refine a8 ?_|refine aa ?_|refine ae a7 rfl rfl ?_|(apply bn; first|refine aq a7 0 rfl rfl rfl rfl rfl ?_|refine aq a7 1 rfl rfl rfl rfl rfl ?_|refine aq a7 2 rfl rfl rfl rfl rfl ?_|refine aq a7 3 rfl rfl rfl rfl rfl ?_|refine aF a7 0 rfl rfl rfl rfl rfl ?_|refine aF a7 1 rfl rfl rfl rfl rfl ?_|refine aF a7 2 rfl rfl rfl rfl rfl ?_|refine aq a7 1 rfl rfl rfl (by assumption) rfl ?_|refine aq a7 0 rfl rfl rfl (by assumption) rfl ?_|fail)|refine b6 ?_|fail))
 rw [hml]
 refine aZ [] _ (z2 f.Glyphs.length (by omega)) rfl rfl (List.Perm.refl _) rfl fun c L1 ⟨np, nb, hc, hL⟩ => ?_
 subst hc; subst hL
 (repeat' (first|refine ah ?_|refine a6 ?_|refine am ?_|refine a8 ?_|refine aa ?_|refine ae a7 rfl rfl ?_|(apply aT; first|refine ai 5 a7 0 rfl rfl rfl rfl rfl rfl rfl rfl ?_|refine ai 5 a7 1 rfl rfl rfl rfl rfl rfl rfl rfl ?_|refine ai 5 a7 2 rfl rfl rfl rfl rfl rfl rfl rfl ?_|refine ai 8 a7 0 rfl rfl rfl rfl rfl rfl rfl rfl ?_|refine ai 8 a7 1 rfl rfl rfl rfl rfl rfl rfl rfl ?_|refine ai 8 a7 2 rfl rfl rfl rfl rfl rfl rfl rfl ?_|refine ai 10 a7 0 rfl rfl rfl rfl rfl rfl rfl rfl ?_|refine ai 10 a7 1 rfl rfl rfl rfl rfl rfl rfl rfl ?_|refine ai 10 a7 2 rfl rfl rfl rfl rfl rfl rfl rfl ?_|refine aj a7 0 rfl rfl rfl rfl rfl rfl rfl ?_|refine aj a7 1 rfl rfl rfl rfl rfl rfl rfl ?_|refine aj a7 2 rfl rfl rfl rfl rfl rfl rfl ?_|refine aj a7 3 rfl rfl rfl rfl rfl rfl rfl ?_|fail)|refine bb a7 fun _=>?_|(apply ba;refine aY ?_)|fail))
 refine fA (fr' := [(20, .fn 68 [.iptr [eV ap]]), (2, .iptr [eV gp]), (3, .iptr [eV ap]), (5, .iptr [eV np])]) (L' := b9 ap ab f.Glyphs.length ka S ++ (b9 np nb f.Glyphs.length none [] ++ eF f gp kg hq [])) ⟨rfl, rfl, rfl, rfl, trivial⟩ (fun σ w h => ?_) ?_
 ·have h1 : (b9 np nb f.Glyphs.length none [] ++ eF f gp kg hq (b9 ap ab f.Glyphs.length ka S)).Perm (b9 ap ab f.Glyphs.length ka S ++ (b9 np nb f.Glyphs.length none [] ++ eF f gp kg hq [])) := by
   have h2 := qL (f := f) (gp := gp) (k := kg) (hq := hq) (A := []) (X := b9 ap ab f.Glyphs.length ka S) (M := [])
   simp only [List.nil_append, List.append_nil] at h2
   exact (List.Perm.append_left _ h2).trans (List.perm_append_comm_assoc _ _ _)
  exact h.perm h1
 refine eY (ps := [21]) rfl fun σ0 l db rec hrec => ?_
 have hy : ∀ (i : Nat) (x : List Int × Option (Nat × Nat)) (z : Int), (i ≤ S.length ∧ x.1 = bR f.Glyphs.length [] (dK f (S.take i))) → S[i]? = some z → AY Tryz.prog σ0 l [aQ z] (b9 ap ab f.Glyphs.length ka S ++ (b9 np nb f.Glyphs.length x.2 x.1 ++ (eF f gp kg hq [] ++ ([(db, dO)] ++ [(l, dV rec)])))) fun c L => c = c8 true ∧ ∃ x' : List Int × Option (Nat × Nat), (i + 1 ≤ S.length ∧ x'.1 = bR f.Glyphs.length [] (dK f (S.take (i + 1)))) ∧ L = b9 ap ab f.Glyphs.length ka S ++ (b9 np nb f.Glyphs.length x'.2 x'.1 ++ (eF f gp kg hq [] ++ ([(db, dO)] ++ [(l, dV rec)]))) := by
  rintro i ⟨T, kn⟩ z ⟨hi1, hT⟩ hz
  dsimp only at hi1 hT ⊢
  have hil := (List.getElem?_eq_some_iff.1 hz).1
  have hzr := hS.dom z (List.mem_of_getElem? hz)
  obtain ⟨gl, hgl⟩ : ∃ x, f.Glyphs[z.toNat]? = some x := ⟨_, List.getElem?_eq_getElem (by omega)⟩
  have hgm := List.mem_of_getElem? hgl
  have hgg := b5 (c := bz) hgl
  have hpl := hs.parts hgm
  have hpm : (gl.Parts.map d7).length = gl.Parts.length := List.length_map ..
  have hp0 : dy f z = gl.Parts.map bE.Glyph := by unfold dy; rw [hgl]
  have hTok : cm f.Glyphs.length T := by rw [hT]; exact cm.nil.add _
  have hE : ∀ (T : List Int) kn, b9 ap ab f.Glyphs.length ka S ++ (b9 np nb f.Glyphs.length kn T ++ (eF f gp kg hq [] ++ ([(db, dO)] ++ [(l, dV rec)]))) = (b9 ap ab f.Glyphs.length ka S ++ (b9 np nb f.Glyphs.length kn T ++ (eF f gp kg hq [] ++ [(db, dO)]))) ++ [(l, dV rec)] := fun T kn => by simp
  rw [hE]
  refine kE hrec rfl rfl fun B1 hB1 => ?_
  (repeat' (first|refine a6 ?_|refine aa ?_|refine ae a7 rfl rfl ?_|fail))
  refine eZ hrec.state ?_
  refine fy (bc (L' := eF f gp kg hq (b9 ap ab f.Glyphs.length ka S ++ (b9 np nb f.Glyphs.length kn T ++ ([(db, dO)] ++ [(l, dV { rec with state := .busy })])))) ?_) ?_
  ·have := zT (f := f) (gp := gp) (k := kg) (hq := hq) (A := b9 ap ab f.Glyphs.length ka S) (N := b9 np nb f.Glyphs.length kn T) (M := [(db, dO)] ++ [(l, dV { rec with state := .busy })])
   simpa using this
  generalize hM : [(db, dO)] ++ [(l, dV { rec with state := .busy })] = M
  (repeat' (first|refine ah ?_|refine a6 ?_|refine am ?_|refine ae a7 rfl rfl ?_|refine bM a7 ?_|fail))
  refine aZ (b9 np nb f.Glyphs.length kn T) _ (kz np nb f.Glyphs.length kn T [z] (by omega) hTok) rfl rfl qL rfl fun c L1 ⟨k1, hL⟩ => ?_
  subst hL
  refine bh (bc qL.symm) ?_
  (repeat' (first|refine ah ?_|refine a6 ?_|refine am ?_|refine a8 ?_|refine aa ?_|refine ae a7 rfl rfl ?_|(apply bn; first|refine aq a7 0 rfl rfl rfl rfl rfl ?_|refine aq a7 1 rfl rfl rfl rfl rfl ?_|refine aq a7 2 rfl rfl rfl rfl rfl ?_|refine aq a7 3 rfl rfl rfl rfl rfl ?_|refine aF a7 0 rfl rfl rfl rfl rfl ?_|refine aF a7 1 rfl rfl rfl rfl rfl ?_|refine aF a7 2 rfl rfl rfl rfl rfl ?_|refine aq a7 1 rfl rfl rfl (by assumption) rfl ?_|refine aq a7 0 rfl rfl rfl (by assumption) rfl ?_|fail)|(apply aP; first|refine aO a7 ?_|refine aI a7 ?_)|fail))
  have hT1 := hTok.add [z]
  refine aL [2, 3, 5, 21, 34, 35] (α := Nat × Option (Nat × Nat)) (fun y => [(36, aQ y.1)]) (fun y => y.1 ≤ gl.Parts.length) (fun y => eF f gp kg hq (b9 ap ab f.Glyphs.length ka S ++ (b9 np nb f.Glyphs.length y.2 (bR f.Glyphs.length (bR f.Glyphs.length T [z]) ((gl.Parts.take y.1).map bE.Glyph)) ++ M))) (fun y => gl.Parts.length - y.1) (0, k1) rfl ⟨rfl, trivial⟩ (Nat.zero_le _) (fun _ _ h => h) ?_
  rintro ⟨j, k2⟩ hj
  dsimp only at hj ⊢
  have hT2 := hT1.add ((gl.Parts.take j).map bE.Glyph)
  try dsimp only [List.cons_append, List.nil_append, List.map_cons, List.map_nil]
  (repeat' (first|refine ah ?_|refine a6 ?_|refine a8 ?_|refine aa ?_|refine ae a7 rfl rfl ?_|fail))
  refine av rfl (fun h => ?_) (fun h => ?_)
  ·have hjl : j < gl.Parts.length := by have := of_decide_eq_true h; omega
   obtain ⟨q, hq2⟩ : ∃ q, gl.Parts[j]? = some q := ⟨_, List.getElem?_eq_getElem hjl⟩
   have hqg := b5 (c := d7) hq2
   clear h
   (repeat' (first|refine ah ?_|refine a6 ?_|refine am ?_|refine ak ?_|refine a8 ?_|refine aa ?_|refine ae a7 rfl rfl ?_|(apply aP; first|refine aO a7 ?_|refine aI a7 ?_)|(apply aT; first|refine ai 5 a7 0 rfl rfl rfl rfl rfl rfl rfl rfl ?_|refine ai 5 a7 1 rfl rfl rfl rfl rfl rfl rfl rfl ?_|refine ai 5 a7 2 rfl rfl rfl rfl rfl rfl rfl rfl ?_|refine ai 8 a7 0 rfl rfl rfl rfl rfl rfl rfl rfl ?_|refine ai 8 a7 1 rfl rfl rfl rfl rfl rfl rfl rfl ?_|refine ai 8 a7 2 rfl rfl rfl rfl rfl rfl rfl rfl ?_|refine ai 10 a7 0 rfl rfl rfl rfl rfl rfl rfl rfl ?_|refine ai 10 a7 1 rfl rfl rfl rfl rfl rfl rfl rfl ?_|refine ai 10 a7 2 rfl rfl rfl rfl rfl rfl rfl rfl ?_|refine aj a7 0 rfl rfl rfl rfl rfl rfl rfl ?_|refine aj a7 1 rfl rfl rfl rfl rfl rfl rfl ?_|refine aj a7 2 rfl rfl rfl rfl rfl rfl rfl ?_|refine aj a7 3 rfl rfl rfl rfl rfl rfl rfl ?_|fail)|refine bb a7 fun _=>?_|refine bM a7 ?_|fail))
   refine aZ (b9 np nb f.Glyphs.length k2 (bR f.Glyphs.length (bR f.Glyphs.length T [z]) ((gl.Parts.take j).map bE.Glyph))) _ (kz np nb f.Glyphs.length k2 _ [q.Glyph] (by omega) hT2) rfl rfl qL rfl fun c L1 ⟨k3, hL⟩ => ?_
   subst hL
   refine bh (bc qL.symm) ?_
   (repeat' (first|refine a6 ?_|refine a8 ?_|refine aJ ?_|refine aa ?_|refine ae a7 rfl rfl ?_|(apply aX; refine aW ?_)|fail))
   refine aE (j + 1, k3) rfl ⟨by rw [Int.natCast_add]; rfl, trivial⟩ (by dsimp only; omega) (by dsimp only; omega) (fun σ w h => ?_)
   dsimp only
   rw [List.take_add_one, hq2, Option.toList_some, List.map_append, ← dT]
   exact h
  ·have hjl : j = gl.Parts.length := by have := of_decide_eq_false h; omega
   subst hjl
   rw [List.take_length]
   (repeat' (first|refine aR ?_|refine az ?_|refine aJ ?_|refine aC ?_|refine aA ?_|fail))
   subst hM
   refine bU (L' := (b9 ap ab f.Glyphs.length ka S ++ (b9 np nb f.Glyphs.length k2 (bR f.Glyphs.length (bR f.Glyphs.length T [z]) (gl.Parts.map bE.Glyph)) ++ (eF f gp kg hq [] ++ [(db, dO)]))) ++ [(l, dV { rec with state := .busy })]) (bc ?_) (g7 ?_)
   ·have := (zT (f := f) (gp := gp) (k := kg) (hq := hq) (A := b9 ap ab f.Glyphs.length ka S) (N := b9 np nb f.Glyphs.length k2 (bR f.Glyphs.length (bR f.Glyphs.length T [z]) (gl.Parts.map bE.Glyph))) (M := [(db, dO)] ++ [(l, dV { rec with state := .busy })])).symm
    simpa using this
   ·rw [f9 hrec.state hrec.pending]
    refine ⟨rfl, (_, k2), ⟨hil, ?_⟩, by simp; rfl⟩
    rw [oz hz, hp0, ← dT, ← hT, show z :: gl.Parts.map bE.Glyph = [z] ++ gl.Parts.map bE.Glyph from rfl, ← dT]
 have hit := Ae (σ0 := σ0) (l := l) (p := ap) (b := ab) (n := f.Glyphs.length) (fun _ => S) (fun _ => ka) (fun x : List Int × Option (Nat × Nat) => b9 np nb f.Glyphs.length x.2 x.1 ++ (eF f gp kg hq [] ++ ([(db, dO)] ++ [(l, dV rec)]))) (fun i x => i ≤ S.length ∧ x.1 = bR f.Glyphs.length [] (dK f (S.take i))) (by omega) (fun i x h => ⟨h.1, qN⟩) hy ([], none) ⟨Nat.zero_le _, rfl⟩
 refine ⟨_, hit.perm (List.Perm.of_eq (by simp)), ?_⟩
 rintro c L' ⟨⟨T, kn⟩, ⟨_, hT⟩, rfl⟩
 dsimp only at hT ⊢
 rw [List.take_length] at hT
 refine ⟨rec, b9 ap ab f.Glyphs.length ka S ++ (b9 np nb f.Glyphs.length kn T ++ (eF f gp kg hq [] ++ [(db, dO)])), List.Perm.of_eq (by simp), (by rw [hrec.state]; intro h; cases h), ?_⟩
 rw [hrec.pending]
 show AX _ _ _ _ _ _ _ _
 refine bU (bc zT) ?_
 have hTok : cm f.Glyphs.length T := by rw [hT]; exact cm.nil.add _
 clear hy hit hrec
 unfold eF fI
 (repeat' (first|refine ah ?_|refine a6 ?_|refine am ?_|refine a8 ?_|refine aJ ?_|refine aa ?_|refine ae a7 rfl rfl ?_|(apply bn; first|refine aq a7 0 rfl rfl rfl rfl rfl ?_|refine aq a7 1 rfl rfl rfl rfl rfl ?_|refine aq a7 2 rfl rfl rfl rfl rfl ?_|refine aq a7 3 rfl rfl rfl rfl rfl ?_|refine aF a7 0 rfl rfl rfl rfl rfl ?_|refine aF a7 1 rfl rfl rfl rfl rfl ?_|refine aF a7 2 rfl rfl rfl rfl rfl ?_|refine aq a7 1 rfl rfl rfl (by assumption) rfl ?_|refine aq a7 0 rfl rfl rfl (by assumption) rfl ?_|fail)|fail))
 refine aL [2, 3, 5, 49, 50] (α := Nat × HQ × List Int × Option (Nat × Nat)) (fun y => [(51, aQ y.1)]) (fun y => y.1 ≤ hq.length ∧ y.2.1.map (·.1) = hq.map (·.1) ∧ y.2.1.map (·.2) = ((hq.map (·.2)).take y.1).map (adv f S) ++ (hq.map (·.2)).drop y.1 ∧ y.2.2.1 = bR f.Glyphs.length T (((hq.map (·.2)).take y.1).flatMap (cH f S))) (fun y => eF f gp kg y.2.1 (b9 ap ab f.Glyphs.length ka S ++ (b9 np nb f.Glyphs.length y.2.2.2 y.2.2.1 ++ [(db, dO)]))) (fun y => hq.length - y.1) (0, hq, T, kn) rfl ⟨rfl, trivial⟩ ⟨Nat.zero_le _, rfl, by simp, rfl⟩ (fun _ _ h => h) ?_
 rintro ⟨j, hqj, T1, k1⟩ ⟨hj, hf1, hf2, hT1⟩
 dsimp only at hj hf1 hf2 hT1 ⊢
 have hTok1 : cm f.Glyphs.length T1 := by rw [hT1]; exact hTok.add _
 have hpl : ((hq.map (·.1)).map fun q => [eV q]).length = hq.length := by simp
 try dsimp only [List.cons_append, List.nil_append, List.map_cons, List.map_nil]
 (repeat' (first|refine ah ?_|refine a6 ?_|refine a8 ?_|refine aa ?_|refine ae a7 rfl rfl ?_|fail))
 refine av rfl (fun h => ?_) (fun h => ?_)
 ·have hjl : j < hq.length := by have := of_decide_eq_true h; omega
  obtain ⟨⟨q, hp⟩, hqj0⟩ : ∃ x, hq[j]? = some x := ⟨_, List.getElem?_eq_getElem hjl⟩
  have hqs : (hq.map (·.2))[j]? = some hp := by rw [List.getElem?_map, hqj0]; rfl
  have hqg : ((hq.map (·.1)).map fun q => [eV q])[j]? = some [eV q] := by simp [hqj0]
  have hlen := congrArg List.length hf1
  rw [List.length_map, List.length_map] at hlen
  have hx : hqj[j]? = some (q, hp) := by
   obtain ⟨⟨q', h'⟩, hx⟩ : ∃ x, hqj[j]? = some x := ⟨_, List.getElem?_eq_getElem (by omega)⟩
   have e1 := congrArg (fun l => l[j]?) hf1
   simp only [List.getElem?_map, hx, hqj0, Option.map_some, Option.some.injEq] at e1
   have e3 : ((((hq.map (·.2)).take j).map (adv f S)) ++ (hq.map (·.2)).drop j)[j]? = some hp := by
    rw [List.getElem?_append_right (by simp; omega), List.getElem?_drop, show j + (j - (((hq.map (·.2)).take j).map (adv f S)).length) = j by simp; omega]
    exact hqs
   have e2 : (hqj.map (·.2))[j]? = some hp := by rw [hf2]; exact e3
   rw [List.getElem?_map, hx, Option.map_some, Option.some.injEq] at e2
   dsimp only at e1 e2
   subst e1
   subst e2
   exact hx
  have hsp : hqj = hqj.take j ++ (q, hp) :: hqj.drop (j + 1) := by
   conv => lhs; rw [← List.take_append_drop j hqj]
   rw [List.drop_eq_getElem_cons (by omega), (List.getElem?_eq_some_iff.1 hx).2]
  have hok := hH hp (List.mem_of_getElem? hqs)
  clear h
  (repeat' (first|refine ah ?_|refine a6 ?_|refine am ?_|refine ak ?_|refine a8 ?_|refine aa ?_|refine ae a7 rfl rfl ?_|(apply aP; first|refine aO a7 ?_|refine aI a7 ?_)|(apply aT; first|refine ai 5 a7 0 rfl rfl rfl rfl rfl rfl rfl rfl ?_|refine ai 5 a7 1 rfl rfl rfl rfl rfl rfl rfl rfl ?_|refine ai 5 a7 2 rfl rfl rfl rfl rfl rfl rfl rfl ?_|refine ai 8 a7 0 rfl rfl rfl rfl rfl rfl rfl rfl ?_|refine ai 8 a7 1 rfl rfl rfl rfl rfl rfl rfl rfl ?_|refine ai 8 a7 2 rfl rfl rfl rfl rfl rfl rfl rfl ?_|refine ai 10 a7 0 rfl rfl rfl rfl rfl rfl rfl rfl ?_|refine ai 10 a7 1 rfl rfl rfl rfl rfl rfl rfl rfl ?_|refine ai 10 a7 2 rfl rfl rfl rfl rfl rfl rfl rfl ?_|refine aj a7 0 rfl rfl rfl rfl rfl rfl rfl ?_|refine aj a7 1 rfl rfl rfl rfl rfl rfl rfl ?_|refine aj a7 2 rfl rfl rfl rfl rfl rfl rfl ?_|refine aj a7 3 rfl rfl rfl rfl rfl rfl rfl ?_|fail)|refine bb a7 fun _=>?_|fail))
  have hlen1 : (hqj.take j).length = j := by rw [List.length_take]; omega
  generalize hqj.take j = u1 at hsp hlen1
  generalize hqj.drop (j + 1) = u2 at hsp
  subst hsp
  refine aZ (dD (q, hp) :: (gp, .box (fI f kg (List.map (fun x : Nat × gB => x.1) (u1 ++ (q, hp) :: u2))) 131) :: b9 ap ab f.Glyphs.length ka S) _ (sg (g := 56) (caps := [.iptr [eV ap], .iptr [eV q], .iptr [eV gp]]) q hp (fe f S hp.ign) _ (fun un z => tA f ap ab gp q ka kg S _ { hp with unmet := un } z)) rfl rfl zS rfl fun c L1 ⟨hc, hL⟩ => ?_
  subst hc; subst hL
  have hfst : List.map (fun x : Nat × gB => x.1) (u1 ++ (q, hp) :: u2) = List.map (fun x : Nat × gB => x.1) (u1 ++ (q, adv f S hp) :: u2) := by simp
  have hf2' : List.map (fun x : Nat × gB => x.2) (u1 ++ (q, adv f S hp) :: u2) = ((hq.map (·.2)).take (j + 1)).map (adv f S) ++ (hq.map (·.2)).drop (j + 1) := by
   have hd : (hq.map (·.2)).drop j = hp :: (hq.map (·.2)).drop (j + 1) := by
    obtain ⟨h1, h2⟩ := List.getElem?_eq_some_iff.1 hqs
    rw [List.drop_eq_getElem_cons h1, h2]
   rw [hd, List.map_append, List.map_cons] at hf2
   obtain ⟨e1, e2⟩ := List.append_inj hf2 (by simp; omega)
   injection e2 with _ e2
   rw [List.map_append, List.map_cons, e1, e2, List.take_add_one, hqs]
   simp
  have htell : ∀ X : List Int, (((hq.map (·.2)).take (j + 1)).flatMap (cH f S)) = (((hq.map (·.2)).take j).flatMap (cH f S)) ++ cH f S hp := fun _ => by
   rw [List.take_add_one, hqs, Option.toList_some, List.flatMap_append]
   simp
  clear hf2
  rw [hfst] at hf1 ⊢
  refine bh (bc zS.symm) ?_
  (repeat' (first|refine a8 ?_|refine aa ?_|fail))
  refine av rfl (fun h => ?_) (fun h => ?_)
  ·(repeat' (first|refine a6 ?_|refine ae a7 rfl rfl ?_|fail))
   refine aZ (dD (q, adv f S hp) :: (gp, .box (fI f kg (List.map (fun x : Nat × gB => x.1) (u1 ++ (q, adv f S hp) :: u2))) 131) :: b9 ap ab f.Glyphs.length ka S ++ b9 np nb f.Glyphs.length k1 T1) _ (yN (g := 56) (caps := [.iptr [eV ap], .iptr [eV q], .iptr [eV gp]]) q (adv f S hp) (fe f S hp.ign) _ (fun z => tA f ap ab gp q ka kg S _ (adv f S hp) z) hok.1 hok.2 np nb f.Glyphs.length k1 T1 (by omega) hTok1) rfl rfl Bb rfl fun c L1 ⟨k2, hL⟩ => ?_
   subst hL
   refine bh (bc Bb.symm) ?_
   (repeat' (first|refine a6 ?_|refine a8 ?_|refine aJ ?_|refine aa ?_|refine ae a7 rfl rfl ?_|(apply aX; refine aW ?_)|fail))
   refine aE (j + 1, u1 ++ (q, adv f S hp) :: u2, _, k2) rfl ⟨by rw [Int.natCast_add]; rfl, trivial⟩ ⟨by dsimp only; omega, hf1, hf2', ?_⟩ (by dsimp only; omega) (fun _ _ h => h)
   dsimp only
   rw [htell [], ← dT, ← hT1]
   unfold cH
   rw [if_pos h]
   rfl
  ·(repeat' (first|refine a6 ?_|refine ak ?_|refine a8 ?_|refine aJ ?_|refine aa ?_|refine ae a7 rfl rfl ?_|(apply aX; refine aW ?_)|fail))
   refine aE (j + 1, u1 ++ (q, adv f S hp) :: u2, T1, k1) rfl ⟨by rw [Int.natCast_add]; rfl, trivial⟩ ⟨by dsimp only; omega, hf1, hf2', ?_⟩ (by dsimp only; omega) (fun _ _ h => h)
   dsimp only
   rw [htell [], ← dT, ← hT1]
   unfold cH
   rw [if_neg (by rw [h]; exact fun e => by cases e)]
   rfl
 ·have hjl : j = hq.length := by have := of_decide_eq_false h; omega
  subst hjl
  rw [List.take_of_length_le (by simp)] at hf2 hT1
  rw [List.drop_eq_nil_of_le (by simp), List.append_nil] at hf2
  (repeat' (first|refine ah ?_|refine a6 ?_|refine au ?_|refine aR ?_|refine a8 ?_|refine az ?_|refine aC ?_|refine aA ?_|refine aa ?_|refine ae a7 rfl rfl ?_|fail))
  refine eI (cs := [eV np]) [db] (eF f gp kg hqj (b9 ap ab f.Glyphs.length ka S ++ b9 np nb f.Glyphs.length k1 T1)) rfl (List.Perm.of_eq (by simp [eF])) ⟨rfl, trivial⟩ ⟨np, nb, k1, hqj, rfl, ?_, hf1, hf2⟩
  unfold dC
  rw [hT1, hT, dT]
  rfl
end Go.Proofs.YtpbinloeemebkaaGreat

namespace Go.Proofs.YtpbinloeemebkaaGreat
open Go.RowKit
attribute [local irreducible] AT bN AX AO Av Kt bi dE DA d6
theorem rm (f : aH) (hs : ck f) (gs : List Int) : AC Tryz.prog 35 [bw f, .imm 1 (aV gs)] [] fun c L => ∃ p b k, c = eV p ∧ L = b9 p b f.Glyphs.length k (bR f.Glyphs.length [] gs) := by
 refine aU Tryz.func35 rfl Tryz.ntmps35 rfl fun B => ?_
 have hGl := hs.glyphs
 have hml : (f.Glyphs.map bz).length = f.Glyphs.length := List.length_map ..
 (repeat' (first|refine ah ?_|refine a6 ?_|refine a8 ?_|refine aa ?_|refine ae a7 rfl rfl ?_|refine b6 ?_|fail))
 rw [hml]
 refine aZ [] [] (z2 f.Glyphs.length (by omega)) rfl rfl (List.Perm.refl _) rfl fun c L1 ⟨p, b, hc, hL⟩ => ?_
 subst hc; subst hL
 rw [List.append_nil]
 (repeat' (first|refine ah ?_|refine a6 ?_|refine a8 ?_|refine aa ?_|refine ae a7 rfl rfl ?_|fail))
 refine aZ (b9 p b f.Glyphs.length none []) [] (kz p b f.Glyphs.length none [] gs (by omega) cm.nil) rfl rfl (by rw [List.append_nil]) rfl fun c L1 ⟨k, hL⟩ => ?_
 subst hL
 rw [List.append_nil]
 (repeat' (first|refine ah ?_|refine a6 ?_|refine au ?_|refine a8 ?_|refine aa ?_|refine ae a7 rfl rfl ?_|fail))
 exact aB rfl rfl ⟨p, b, k, rfl, rfl⟩
theorem td {f : aH} (hs : ck f) (S : List Int) : lm (dq f S) := by
 intro h hh
 unfold dq at hh
 obtain ⟨n, _, hh⟩ := List.mem_flatMap.1 hh
 unfold iv at hh
 split at hh
 ·rename_i l hl
  unfold f7 at hh
  obtain ⟨r, hr, rfl⟩ := List.mem_map.1 hh
  rw [List.mem_filter] at hr
  refine ⟨of_decide_eq_true hr.2, ?_⟩
  have := hs.out (List.mem_of_getElem? hl) hr.1
  show r.Out.length ≤ 1000000
  omega
 ·cases hh
def c5 (f : aH) (ks gs : List Int) : List Int := dC f (bR f.Glyphs.length [] gs) (dq f (bR f.Lookups.length [] ks))
theorem wg {f : aH} (hs : ck f) {ks : List Int} {hq : HQ} (h : hq.map (·.2) = dq f (bR f.Lookups.length [] ks)) : hq.length ≤ 100000000 := by
 have h1 := congrArg List.length h
 rw [List.length_map] at h1
 have h2 := nn f hs (bR f.Lookups.length [] ks)
 have h3 := ((cm.nil (n := f.Lookups.length)).add ks).len
 have h4 := hs.lookups
 omega
theorem jl (f : aH) (S : List Int) (hs : List gB) : cm f.Glyphs.length (dC f S hs) := cm.nil.add _
theorem wP {σ0 : ce} {l p b n : Nat} (k : Option (Nat × Nat)) (S : List Int) (q : Int → Bool) (E E' : AL) (hn : n ≤ 1000000) (hS : S.length ≤ n)
  (hy : ∀ z ∈ S, AY Tryz.prog σ0 l [aQ z] (b9 p b n k S ++ E) fun c L => if q z = true then c = c8 true ∧ L = b9 p b n k S ++ E else c = c8 false ∧ L = b9 p b n k S ++ E') :
  vf Tryz.prog σ0 68 [.sc (.func (.yield l) #[] #[]), .iptr [eV p]] (b9 p b n k S ++ E) fun _ L => L = if S.all q = true then b9 p b n k S ++ E else b9 p b n k S ++ E' := by
 refine jW Tryz.func68 rfl Tryz.ntmps68 rfl fun B hB => ?_
 (repeat' (first|refine ah ?_|refine a6 ?_|refine am ?_|refine a8 ?_|refine aa ?_|refine ae a7 rfl rfl ?_|fail))
 refine aL [0, 1] (α := Nat) (fun y => [(3, aQ y)]) (fun y => y ≤ S.length ∧ (S.take y).all q = true) (fun y => b9 p b n k S ++ E) (fun y => n - y) 0 rfl ⟨rfl, trivial⟩ ⟨Nat.zero_le _, rfl⟩ (fun _ _ h => h) ?_
 rintro i ⟨hi, ha⟩
 unfold b9
 try dsimp only [List.cons_append, List.nil_append, List.map_cons, List.map_nil]
 (repeat' (first|refine ah ?_|refine a6 ?_|refine a8 ?_|refine aa ?_|refine ae a7 rfl rfl ?_|(apply bn; first|refine aq a7 0 rfl rfl rfl rfl rfl ?_|refine aq a7 1 rfl rfl rfl rfl rfl ?_|refine aq a7 2 rfl rfl rfl rfl rfl ?_|refine aq a7 3 rfl rfl rfl rfl rfl ?_|refine aF a7 0 rfl rfl rfl rfl rfl ?_|refine aF a7 1 rfl rfl rfl rfl rfl ?_|refine aF a7 2 rfl rfl rfl rfl rfl ?_|refine aq a7 1 rfl rfl rfl (by assumption) rfl ?_|refine aq a7 0 rfl rfl rfl (by assumption) rfl ?_|fail)|fail))
 refine av rfl (fun h => ?_) (fun h => ?_)
 ·have hil : i < S.length := by have := of_decide_eq_true h; simp [aM] at this; omega
  obtain ⟨z, hz⟩ : ∃ z, S[i]? = some z := ⟨_, List.getElem?_eq_getElem hil⟩
  have hzg := bk hz
  have hzm := List.mem_of_getElem? hz
  (repeat' (first|refine ah ?_|refine a6 ?_|refine am ?_|refine ak ?_|refine a8 ?_|refine ae a7 rfl rfl ?_|(apply bn; first|refine aq a7 0 rfl rfl rfl rfl rfl ?_|refine aq a7 1 rfl rfl rfl rfl rfl ?_|refine aq a7 2 rfl rfl rfl rfl rfl ?_|refine aq a7 3 rfl rfl rfl rfl rfl ?_|refine aF a7 0 rfl rfl rfl rfl rfl ?_|refine aF a7 1 rfl rfl rfl rfl rfl ?_|refine aF a7 2 rfl rfl rfl rfl rfl ?_|refine aq a7 1 rfl rfl rfl (by assumption) rfl ?_|refine aq a7 0 rfl rfl rfl (by assumption) rfl ?_|fail)|(apply aP; first|refine aO a7 ?_|refine aI a7 ?_)|fail))
  refine iz (b9 p b n k S ++ E) [] hB (hy z hzm) rfl rfl rfl (by rw [List.append_nil]; exact List.Perm.refl _) rfl rfl fun c L1 hc => ?_
  cases hq : q z with
  | true =>
   rw [if_pos hq] at hc
   obtain ⟨hc, hL⟩ := hc
   subst hc; subst hL
   rw [List.append_nil]
   (repeat' (first|refine a6 ?_|refine ak ?_|refine a8 ?_|refine aJ ?_|refine aa ?_|refine ae a7 rfl rfl ?_|(apply aX; refine aW ?_)|refine bV rfl ?_|fail))
   refine aE (i + 1) rfl ⟨by rw [Int.natCast_add]; rfl, trivial⟩ ⟨by omega, ?_⟩ (by omega) (fun _ _ h => h)
   rw [List.take_add_one, hz, List.all_append, ha]
   simpa using hq
  | false =>
   rw [if_neg (by rw [hq]; exact fun e => by cases e)] at hc
   obtain ⟨hc, hL⟩ := hc
   subst hc; subst hL
   rw [List.append_nil]
   (repeat' (first|refine au ?_|refine a8 ?_|refine ar ?_|refine aG ?_|refine aK ?_|refine aa ?_|refine ae a7 rfl rfl ?_|refine bI rfl ?_|fail))
   refine pn rfl ?_
   rw [if_neg (fun e => by rw [List.all_eq_true] at e; rw [e z hzm] at hq; cases hq)]
   rfl
 ·have hil : i = S.length := by have := of_decide_eq_false h; simp [aM] at this; omega
  subst hil
  rw [List.take_length] at ha
  (repeat' (first|refine aR ?_|refine az ?_|refine aC ?_|refine aA ?_|fail))
  refine cB rfl ?_
  rw [if_pos ha]
def eQ (f : aH) (ks gs : List Int) : Bool := (c5 f ks gs).all fun z => vh f.Glyphs.length (bR f.Glyphs.length [] gs) z
set_option maxHeartbeats 4000000 in
theorem oA (f : aH) (hs : ck f) (ks gs : List Int) : bo Tryz.prog 19 [bw f, .imm 1 (aV ks), .imm 1 (aV gs)] (c8 (eQ f ks gs)) := by
 refine iS Tryz.func19 rfl Tryz.ntmps19 rfl fun B => ?_
 have hGl := hs.glyphs
 (repeat' (first|refine ah ?_|refine a6 ?_|refine a8 ?_|refine aa ?_|refine ae a7 rfl rfl ?_|refine b6 ?_|refine bb a7 fun _=>?_|fail))
 refine aZ [] _ (rm f hs gs) rfl rfl (List.Perm.refl _) rfl fun c L1 ⟨ap, ab, ka, hc, hL⟩ => ?_
 subst hc; subst hL
 (repeat' (first|refine ah ?_|refine a8 ?_|refine aa ?_|(apply aT; first|refine ai 7 a7 0 rfl rfl rfl rfl rfl rfl rfl rfl ?_|refine ai 7 a7 1 rfl rfl rfl rfl rfl rfl rfl rfl ?_|refine ai 7 a7 2 rfl rfl rfl rfl rfl rfl rfl rfl ?_|refine aj a7 0 rfl rfl rfl rfl rfl rfl rfl ?_|refine aj a7 1 rfl rfl rfl rfl rfl rfl rfl ?_|refine aj a7 2 rfl rfl rfl rfl rfl rfl rfl ?_|refine aj a7 3 rfl rfl rfl rfl rfl rfl rfl ?_|fail)|refine bb a7 fun _=>?_|fail))
 refine bj 4 [(0, .v), (1, .v), (3, .v), (2, .e)] none ?_ trivial rfl (by kernel_rfl) (by kernel_rfl) (by kernel_rfl) mixed (by kernel_rfl) rfl
 (repeat' (first|refine aN ?_|refine bf a7 ?_|fail))
 refine fB [] _ (kV f hs ks) rfl rfl (List.Perm.refl _) trivial fun c L1 ⟨gp, kg, hq, hc, hL, hh⟩ => ?_
 subst hc; subst hL
 (repeat' (first|fail))
 rename_i br _ _ _
 refine bl [6, 7, 14, 15] rfl rfl ?_
 refine bh (bc (L' := eF f gp kg hq (b9 ap ab f.Glyphs.length ka (bR f.Glyphs.length [] gs)) ++ [(br, .box [c8 false] 4)]) (List.Perm.of_eq (by simp [eF, b9]))) ?_
 (repeat' (first|fail))
 refine aZ (eF f gp kg hq (b9 ap ab f.Glyphs.length ka (bR f.Glyphs.length [] gs))) [(br, .box [c8 false] 4)] (tF f hs gp ap ab kg ka hq _ (cm.nil.add gs) (by rw [hh]; exact td hs _) (wg hs hh)) rfl rfl (List.Perm.refl _) rfl fun c L1 ⟨np, nb, kn, hq', hc, hL, _, _⟩ => ?_
 subst hc; subst hL
 rw [hh]
 have hok := jl f (bR f.Glyphs.length [] gs) (dq f (bR f.Lookups.length [] ks))
 have hol := hok.len
 refine bh (dA (L' := b9 ap ab f.Glyphs.length ka (bR f.Glyphs.length [] gs) ++ (b9 np nb f.Glyphs.length kn (c5 f ks gs) ++ [(br, .box [c8 false] 4)])) ?_) ?_
 ·have : (b9 ap ab f.Glyphs.length ka (bR f.Glyphs.length [] gs) ++ b9 np nb f.Glyphs.length kn (c5 f ks gs)).Sublist (eF f gp kg hq' (b9 ap ab f.Glyphs.length ka (bR f.Glyphs.length [] gs) ++ b9 np nb f.Glyphs.length kn (c5 f ks gs))) := by
   unfold eF
   exact (((List.sublist_append_right _ _).trans (List.sublist_append_right _ _)).cons _)
  have h2 := this.append_right [(br, AB.box [c8 false] 4)]
  rw [List.append_assoc] at h2
  exact h2
 (repeat' (first|refine am ?_|refine a8 ?_|refine aa ?_|(apply ba;refine aY ?_)|fail))
 refine fA (fr' := [(17, .fn 68 [.iptr [eV np]]), (6, eV br), (7, .iptr [eV ap])]) (L' := b9 np nb f.Glyphs.length kn (c5 f ks gs) ++ ((br, .box [c8 false] 4) :: b9 ap ab f.Glyphs.length ka (bR f.Glyphs.length [] gs))) ⟨rfl, rfl, rfl, trivial⟩ (fun σ w h => ?_) ?_
 ·refine cK.perm h ?_
  refine List.perm_append_comm.trans ?_
  rw [List.append_assoc]
  exact List.Perm.refl _
 refine eY (ps := [18]) rfl fun σ0 l db rec hrec => ?_
 have hy : ∀ z ∈ c5 f ks gs, AY Tryz.prog σ0 l [aQ z] (b9 np nb f.Glyphs.length kn (c5 f ks gs) ++ ((br, .box [c8 false] 4) :: b9 ap ab f.Glyphs.length ka (bR f.Glyphs.length [] gs) ++ ([(db, dO)] ++ [(l, dV rec)]))) fun c L => if vh f.Glyphs.length (bR f.Glyphs.length [] gs) z = true then c = c8 true ∧ L = b9 np nb f.Glyphs.length kn (c5 f ks gs) ++ ((br, .box [c8 false] 4) :: b9 ap ab f.Glyphs.length ka (bR f.Glyphs.length [] gs) ++ ([(db, dO)] ++ [(l, dV rec)])) else c = c8 false ∧ L = b9 np nb f.Glyphs.length kn (c5 f ks gs) ++ ((br, .box [c8 false] 4) :: b9 ap ab f.Glyphs.length ka (bR f.Glyphs.length [] gs) ++ ([(db, dO)] ++ [(l, dV { ({ rec with state := .busy } : Loop) with state := .done, pending := some .ret })])) := by
  intro z _
  have hE : b9 np nb f.Glyphs.length kn (c5 f ks gs) ++ ((br, AB.box [c8 false] 4) :: b9 ap ab f.Glyphs.length ka (bR f.Glyphs.length [] gs) ++ ([(db, dO)] ++ [(l, dV rec)])) = (b9 np nb f.Glyphs.length kn (c5 f ks gs) ++ ((br, AB.box [c8 false] 4) :: b9 ap ab f.Glyphs.length ka (bR f.Glyphs.length [] gs) ++ [(db, dO)])) ++ [(l, dV rec)] := by simp
  rw [hE]
  refine kE hrec rfl rfl fun B1 hB1 => ?_
  (repeat' (first|refine a6 ?_|refine aa ?_|refine ae a7 rfl rfl ?_|fail))
  refine eZ hrec.state ?_
  generalize hM : b9 np nb f.Glyphs.length kn (c5 f ks gs) = N
  refine fy (bc (L' := (br, .box [c8 false] 4) :: (b9 ap ab f.Glyphs.length ka (bR f.Glyphs.length [] gs) ++ (N ++ ([(db, dO)] ++ [(l, dV { rec with state := .busy })])))) ?_) ?_
  ·have h1 := List.perm_append_comm_assoc N ((br, AB.box [c8 false] 4) :: b9 ap ab f.Glyphs.length ka (bR f.Glyphs.length [] gs)) ([(db, dO)] ++ [(l, dV { rec with state := .busy })])
   simpa using h1
  (repeat' (first|refine ah ?_|refine a6 ?_|refine am ?_|refine ae a7 rfl rfl ?_|fail))
  refine aZ (b9 ap ab f.Glyphs.length ka (bR f.Glyphs.length [] gs)) ((br, .box [c8 false] 4) :: (N ++ ([(db, dO)] ++ [(l, dV { rec with state := .busy })]))) (yV ap ab f.Glyphs.length ka (bR f.Glyphs.length [] gs) z) rfl rfl List.perm_middle.symm rfl fun c L1 ⟨hc, hL⟩ => ?_
  subst hc; subst hL
  refine bh (bc List.perm_middle) ?_
  have hp : ∀ x : AB, ((br, AB.box [c8 false] 4) :: (b9 ap ab f.Glyphs.length ka (bR f.Glyphs.length [] gs) ++ (N ++ ([(db, dO)] ++ [(l, x)])))).Perm ((N ++ ((br, AB.box [c8 false] 4) :: b9 ap ab f.Glyphs.length ka (bR f.Glyphs.length [] gs) ++ [(db, dO)])) ++ [(l, x)]) := fun x => by
   have h1 := (List.perm_append_comm_assoc N ((br, AB.box [c8 false] 4) :: b9 ap ab f.Glyphs.length ka (bR f.Glyphs.length [] gs)) ([(db, dO)] ++ [(l, x)])).symm
   simpa using h1
  (repeat' (first|refine a8 ?_|refine aa ?_|refine ae a7 rfl rfl ?_|fail))
  refine av rfl (fun h => ?_) (fun h => ?_)
  ·(repeat' (first|refine ah ?_|refine a6 ?_|refine au ?_|refine a8 ?_|refine aG ?_|refine aa ?_|(apply aT; first|refine ai 7 a7 0 rfl rfl rfl rfl rfl rfl rfl rfl ?_|refine ai 7 a7 1 rfl rfl rfl rfl rfl rfl rfl rfl ?_|refine ai 7 a7 2 rfl rfl rfl rfl rfl rfl rfl rfl ?_|refine aj a7 0 rfl rfl rfl rfl rfl rfl rfl ?_|refine aj a7 1 rfl rfl rfl rfl rfl rfl rfl ?_|refine aj a7 2 rfl rfl rfl rfl rfl rfl rfl ?_|refine aj a7 3 rfl rfl rfl rfl rfl rfl rfl ?_|fail)|fail))
   refine bU (bc (hp _)) (k6 ?_)
   rw [if_neg (by intro e; rw [e] at h; cases h)]
   exact ⟨rfl, by simp⟩
  ·(repeat' (first|refine ak ?_|refine aJ ?_|fail))
   refine bU (bc (hp _)) (g7 ?_)
   rw [if_pos (by simpa using h), f9 hrec.state hrec.pending]
   exact ⟨rfl, rfl⟩
 have hit := wP (σ0 := σ0) (l := l) (p := np) (b := nb) (n := f.Glyphs.length) kn (c5 f ks gs) (vh f.Glyphs.length (bR f.Glyphs.length [] gs)) _ _ (by omega) (by unfold c5; exact hol) hy
 refine ⟨_, hit.perm (List.Perm.of_eq (by simp)), ?_⟩
 rintro c L' hL'
 cases hq : (c5 f ks gs).all (vh f.Glyphs.length (bR f.Glyphs.length [] gs)) with
 | true =>
  rw [if_pos hq] at hL'
  subst hL'
  refine ⟨rec, b9 np nb f.Glyphs.length kn (c5 f ks gs) ++ ((br, .box [c8 false] 4) :: b9 ap ab f.Glyphs.length ka (bR f.Glyphs.length [] gs) ++ [(db, dO)]), List.Perm.of_eq (by simp), (by rw [hrec.state]; intro h; cases h), ?_⟩
  rw [hrec.pending]
  show AX _ _ _ _ _ _ _ _
  refine eH (L' := [(br, .box [c8 false] 4), (db, dO)]) ?_ ?_
  ·exact ((((List.sublist_append_right _ _).cons_cons _)).trans (List.sublist_append_right _ _))
  (repeat' (first|refine ah ?_|refine a6 ?_|refine au ?_|refine a8 ?_|refine aJ ?_|refine aa ?_|(apply aT; first|refine ai 7 a7 0 rfl rfl rfl rfl rfl rfl rfl rfl ?_|refine ai 7 a7 1 rfl rfl rfl rfl rfl rfl rfl rfl ?_|refine ai 7 a7 2 rfl rfl rfl rfl rfl rfl rfl rfl ?_|refine aj a7 0 rfl rfl rfl rfl rfl rfl rfl ?_|refine aj a7 1 rfl rfl rfl rfl rfl rfl rfl ?_|refine aj a7 2 rfl rfl rfl rfl rfl rfl rfl ?_|refine aj a7 3 rfl rfl rfl rfl rfl rfl rfl ?_|fail)|fail))
  refine eI (cs := [c8 true]) [db] [(br, .box [c8 true] 4)] rfl (List.Perm.refl _) ⟨⟨br, 0, _, _, rfl, rfl, .inl ⟨co a7 rfl, rfl⟩⟩, trivial⟩ ?_
  show c8 true = c8 (eQ f ks gs)
  unfold eQ
  rw [hq]
 | false =>
  rw [if_neg (by rw [hq]; exact fun e => by cases e)] at hL'
  subst hL'
  refine ⟨_, b9 np nb f.Glyphs.length kn (c5 f ks gs) ++ ((br, .box [c8 false] 4) :: b9 ap ab f.Glyphs.length ka (bR f.Glyphs.length [] gs) ++ [(db, dO)]), List.Perm.of_eq (by simp; rfl), (by intro h; cases h), ?_⟩
  show AX _ _ _ _ _ _ _ _
  refine eH (L' := [(br, .box [c8 false] 4), (db, dO)]) ?_ ?_
  ·exact ((((List.sublist_append_right _ _).cons_cons _)).trans (List.sublist_append_right _ _))
  (repeat' (first|refine ar ?_|refine aG ?_|fail))
  refine eI (cs := [c8 false]) [db] [(br, .box [c8 false] 4)] rfl (List.Perm.refl _) ⟨⟨br, 0, _, _, rfl, rfl, .inl ⟨co a7 rfl, rfl⟩⟩, trivial⟩ ?_
  show c8 false = c8 (eQ f ks gs)
  unfold eQ
  rw [hq]
end Go.Proofs.YtpbinloeemebkaaGreat
