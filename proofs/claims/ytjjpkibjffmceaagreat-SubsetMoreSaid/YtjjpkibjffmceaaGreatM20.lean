/-
  The program: rules that may come to match.
-/
import Derived.Test.YtjjpkibjffmceaaGreatM19
import Derived.Test.YtjjpkibjffmceaaGreatM13
import Derived.Test.YtjjpkibjffmceaaGreatM11
import Derived.Test.YtjjpkibjffmceaaGreatM05
import Derived.Test.YtjjpkibjffmceaaGreatM06
import Derived.Test.YtjjpkibjffmceaaGreatM15
namespace Go.Proofs.YtjjpkibjffmceaaGreat
open Go.RowKit
attribute [local irreducible] AT bV AX AO Av Kt bC eH DA dl
structure iN where
 rule : bX
 kind : Int
 ign : Bool
 unmet : List (List Int)
def uM (h : iN) : List AV := bD h.rule ++ [aM h.kind, cO h.ign, .imm 1 (bv h.unmet)]
def eK (x : Nat × iN) : Nat × AB := (x.1, .box (uM x.2) 186)
def gI (f : aI) (k : Option (Nat × Nat)) (qs : List Nat) : List AV := ce f ++ [.vec k 1 (qs.map fun q => [fJ q])]
def iK (f : aI) (S : List Int) (ign : Bool) (n : Int) : Bool := CK f.Glyphs.length S n && !(ign && qU f n)
set_option maxHeartbeats 1000000 in
theorem wb (f : aI) (ap b gp q : Nat) (k kg : Option (Nat × Nat)) (S : List Int) (qs : List Nat) (h : iN) (n : Int) : AC Tryz.prog 86 [aM n, .iptr [fJ ap], .iptr [fJ q], .iptr [fJ gp]] (eK (q, h) :: (gp, .box (gI f kg qs) 182) :: bM ap b f.Glyphs.length k S) fun c L => c = cO (iK f S h.ign n) ∧ L = eK (q, h) :: (gp, .box (gI f kg qs) 182) :: bM ap b f.Glyphs.length k S := by
 refine aQ Tryz.func86 rfl Tryz.ntmps86 rfl fun B => ?_
 unfold iK
 repeat' (first|refine ae ?_|refine a6 ?_|refine a7 ?_|refine a8 ?_|refine aa a2 rfl rfl ?_)
 refine bb (bM ap b f.Glyphs.length k S) [eK (q, h), (gp, .box (gI f kg qs) 182)] (EM ap b f.Glyphs.length k S n) rfl rfl (List.perm_append_comm (l₁ := [eK (q, h), (gp, .box (gI f kg qs) 182)])) rfl fun c L1 ⟨hc, hL⟩ => ?_
 subst hc; subst hL
 refine aN (aK List.perm_append_comm) ?_
 cases hi : CK f.Glyphs.length S n with
 | false =>
  repeat' (first|refine aq ?_|refine a7 ?_|refine a8 ?_|refine aa a2 rfl rfl ?_|refine aL rfl rfl rfl rfl ?_|refine dC rfl rfl rfl ?_)
  exact aA rfl rfl ⟨rfl, rfl⟩
 | true =>
  have hr : 0 ≤ n ∧ n < f.Glyphs.length := by
   unfold CK at hi
   rw [Bool.and_eq_true, decide_eq_true_eq] at hi
   exact hi.1
  obtain ⟨gl, hg⟩ : ∃ g, f.Glyphs[n.toNat]? = some g := ⟨_, Ee (by omega)⟩
  have hgg := bn (c := bA) hg
  have hm : qU f n = gl.Mark := by unfold qU; rw [hg]
  rw [hm]
  obtain ⟨rule, kind, ign, unmet⟩ := h
  unfold eK uM gI
  dsimp only
  repeat' (first|refine aa a2 rfl rfl ?_|refine aF rfl rfl ?_|(apply bK; first|refine aj a2 0 rfl rfl rfl rfl rfl ?_|refine aj a2 1 rfl rfl rfl rfl rfl ?_|refine aj a2 2 rfl rfl rfl rfl rfl ?_|refine aj a2 3 rfl rfl rfl rfl rfl ?_|refine aD a2 0 rfl rfl rfl rfl rfl ?_|refine aD a2 1 rfl rfl rfl rfl rfl ?_|refine aD a2 2 rfl rfl rfl rfl rfl ?_|refine aj a2 1 rfl rfl rfl (by assumption) rfl ?_|refine aj a2 0 rfl rfl rfl (by assumption) rfl ?_|fail)|fail)
  cases ign
  ·repeat' (first|refine aq ?_|refine a7 ?_|refine a8 ?_|refine aa a2 rfl rfl ?_|refine aF rfl rfl ?_|refine aL rfl rfl rfl rfl ?_)
   exact aA rfl rfl ⟨rfl, rfl⟩
  ·repeat' (first|refine aq ?_|refine a7 ?_|refine a8 ?_|refine aa a2 rfl rfl ?_|refine aF rfl rfl ?_|(apply bK; first|refine aj a2 0 rfl rfl rfl rfl rfl ?_|refine aj a2 1 rfl rfl rfl rfl rfl ?_|refine aj a2 2 rfl rfl rfl rfl rfl ?_|refine aj a2 3 rfl rfl rfl rfl rfl ?_|refine aD a2 0 rfl rfl rfl rfl rfl ?_|refine aD a2 1 rfl rfl rfl rfl rfl ?_|refine aD a2 2 rfl rfl rfl rfl rfl ?_|refine aj a2 1 rfl rfl rfl (by assumption) rfl ?_|refine aj a2 0 rfl rfl rfl (by assumption) rfl ?_|fail)|(apply aX; first|refine aW a2 ?_|refine aP a2 ?_)|fail)
   exact aA rfl rfl ⟨rfl, rfl⟩
def iN.rest (h : iN) (p : Int → Bool) : iN := { h with unmet := h.unmet.dropWhile fun s => s.any p }
set_option maxHeartbeats 1000000 in
theorem uU {g : FuncId} {caps : List AV} [bF Tryz.prog g] (q : Nat) (h : iN) (p : Int → Bool) (rest : AL) (hw : ∀ un z, AC Tryz.prog g ([aM z] ++ caps) (eK (q, { h with unmet := un }) :: rest) fun c L' => c = cO (p z) ∧ L' = eK (q, { h with unmet := un }) :: rest) : AC Tryz.prog 88 [fJ q, .fn g caps] (eK (q, h) :: rest) fun c L => c = cO (h.unmet.all fun s => s.any p) ∧ L = eK (q, h.rest p) :: rest := by
 refine aQ Tryz.func88 rfl Tryz.ntmps88 rfl fun B => ?_
 repeat' (first|refine ae ?_|refine a6 ?_|refine ak ?_|refine a7 ?_|refine a8 ?_|refine aa a2 rfl rfl ?_)
 refine aJ [0, 1] (α := List (List Int)) (fun _ => []) (fun un => (h.unmet.all fun s => s.any p) = (un.all fun s => s.any p) ∧ (h.unmet.dropWhile fun s => s.any p) = un.dropWhile fun s => s.any p) (fun un => eK (q, { h with unmet := un }) :: rest) (fun un => un.length) h.unmet rfl trivial ⟨rfl, rfl⟩ (fun _ _ h => h) ?_
 rintro un ⟨h1, h2⟩
 try dsimp only [Gr, Gq, Gp, Gj]
 cases un with
 | nil =>
  unfold eK uM
  dsimp only
  repeat' (first|refine ae ?_|refine a6 ?_|refine aq ?_|refine aO ?_|refine a7 ?_|refine au ?_|refine ay ?_|refine av ?_|refine a8 ?_|refine aa a2 rfl rfl ?_|refine aL rfl rfl rfl rfl ?_|(apply bK; first|refine aj a2 0 rfl rfl rfl rfl rfl ?_|refine aj a2 1 rfl rfl rfl rfl rfl ?_|refine aj a2 2 rfl rfl rfl rfl rfl ?_|refine aj a2 3 rfl rfl rfl rfl rfl ?_|refine aD a2 0 rfl rfl rfl rfl rfl ?_|refine aD a2 1 rfl rfl rfl rfl rfl ?_|refine aD a2 2 rfl rfl rfl rfl rfl ?_|refine aj a2 1 rfl rfl rfl (by assumption) rfl ?_|refine aj a2 0 rfl rfl rfl (by assumption) rfl ?_|fail)|refine bN rfl ?_)
  refine aA rfl rfl ⟨by rw [h1]; rfl, ?_⟩
  unfold iN.rest
  rw [h2]
  rfl
 | cons s un =>
  have hsg : (bv (s :: un))[(0 : Int).toNat]? = some [.imm 1 (aT s)] := rfl
  have hpos : decide (0 < (((bv (s :: un)).length : Nat) : Int)) = true := decide_eq_true (by rw [fQ, List.length_cons]; omega)
  have hw' := hw (s :: un)
  unfold eK uM at hw' ⊢
  dsimp only at hw' ⊢
  repeat' (first|refine ae ?_|refine a6 ?_|refine aa a2 rfl rfl ?_|(apply bK; first|refine aj a2 0 rfl rfl rfl rfl rfl ?_|refine aj a2 1 rfl rfl rfl rfl rfl ?_|refine aj a2 2 rfl rfl rfl rfl rfl ?_|refine aj a2 3 rfl rfl rfl rfl rfl ?_|refine aD a2 0 rfl rfl rfl rfl rfl ?_|refine aD a2 1 rfl rfl rfl rfl rfl ?_|refine aD a2 2 rfl rfl rfl rfl rfl ?_|refine aj a2 1 rfl rfl rfl (by assumption) rfl ?_|refine aj a2 0 rfl rfl rfl (by assumption) rfl ?_|fail)|fail)
  rw [hpos]
  repeat' (first|refine aa a2 rfl rfl ?_|refine aF rfl rfl ?_|(apply bK; first|refine aj a2 0 rfl rfl rfl rfl rfl ?_|refine aj a2 1 rfl rfl rfl rfl rfl ?_|refine aj a2 2 rfl rfl rfl rfl rfl ?_|refine aj a2 3 rfl rfl rfl rfl rfl ?_|refine aD a2 0 rfl rfl rfl rfl rfl ?_|refine aD a2 1 rfl rfl rfl rfl rfl ?_|refine aD a2 2 rfl rfl rfl rfl rfl ?_|refine aj a2 1 rfl rfl rfl (by assumption) rfl ?_|refine aj a2 0 rfl rfl rfl (by assumption) rfl ?_|fail)|(apply aX; first|refine aW a2 ?_|refine aP a2 ?_)|fail)
  refine bb ((q, AB.box (bD h.rule ++ [aM h.kind, cO h.ign, AV.imm 1 (bv (s :: un))]) 186) :: rest) [] (wL rfl s p _ hw') rfl rfl (bT rfl) rfl fun c L1 ⟨hc, hL⟩ => ?_
  subst hc; subst hL
  rw [List.append_nil]
  cases hs : s.any p with
  | false =>
   repeat' (first|refine ae ?_|refine a6 ?_|refine aq ?_|refine aO ?_|refine a7 ?_|refine au ?_|refine ay ?_|refine av ?_|refine a8 ?_|refine aa a2 rfl rfl ?_|(apply bK; first|refine aj a2 0 rfl rfl rfl rfl rfl ?_|refine aj a2 1 rfl rfl rfl rfl rfl ?_|refine aj a2 2 rfl rfl rfl rfl rfl ?_|refine aj a2 3 rfl rfl rfl rfl rfl ?_|refine aD a2 0 rfl rfl rfl rfl rfl ?_|refine aD a2 1 rfl rfl rfl rfl rfl ?_|refine aD a2 2 rfl rfl rfl rfl rfl ?_|refine aj a2 1 rfl rfl rfl (by assumption) rfl ?_|refine aj a2 0 rfl rfl rfl (by assumption) rfl ?_|fail)|refine bN rfl ?_)
   refine aA rfl rfl ⟨?_, ?_⟩
   ·rw [h1, List.all_cons, hs]
    rfl
   ·unfold iN.rest
    rw [h2, List.dropWhile_cons_of_neg (by simpa using hs)]
  | true =>
   repeat' (first|refine a6 ?_|refine ak ?_|refine ar ?_|refine a7 ?_|refine a8 ?_|refine aa a2 rfl rfl ?_|(apply bK; first|refine aj a2 0 rfl rfl rfl rfl rfl ?_|refine aj a2 1 rfl rfl rfl rfl rfl ?_|refine aj a2 2 rfl rfl rfl rfl rfl ?_|refine aj a2 3 rfl rfl rfl rfl rfl ?_|refine aD a2 0 rfl rfl rfl rfl rfl ?_|refine aD a2 1 rfl rfl rfl rfl rfl ?_|refine aD a2 2 rfl rfl rfl rfl rfl ?_|refine aj a2 1 rfl rfl rfl (by assumption) rfl ?_|refine aj a2 0 rfl rfl rfl (by assumption) rfl ?_|fail)|refine bS rfl ?_)
   refine dJ (Da (lo := 1) (bZ a2 rfl).1 rfl rfl rfl rfl rfl (by rw [fQ, List.length_cons]; omega)) rfl rfl ?_
   repeat' (first|refine aH ?_|refine a8 ?_|refine aa a2 rfl rfl ?_|(apply aG; first|refine ai a2 0 rfl rfl rfl rfl rfl rfl rfl ?_|refine ai a2 1 rfl rfl rfl rfl rfl rfl rfl ?_|refine ai a2 2 rfl rfl rfl rfl rfl rfl rfl ?_|refine ai a2 3 rfl rfl rfl rfl rfl rfl rfl ?_|fail))
   refine aB un rfl trivial ⟨?_, ?_⟩ (by simp) (fun _ _ h => h)
   ·rw [h1, List.all_cons, hs, Bool.true_and]
   ·rw [h2, List.dropWhile_cons_of_pos (by simpa using hs)]
section
variable {P : Program} {tt : TT} {l : List Oper} {fr : cg} {fin : jm} {sk : lB} {acc : cg} {L : AL} {k : Nat} {dd : Option Tmp} {ty t t' : TypeId} {pos : String} {af : Array Edge} {g : Option (Nat × Bool)} {x y : Operand} {u : AV}
theorem rp (ok : fa P tt) (hi : Nat) {e sz by_ s : Nat} {l1 : List (List AV)} {q : IntKind} {a : Int} (ht : mF tt t = some (e, sz, by_)) (hx : bH (cV l.toArray acc fr af.toList) x = some u) (hu : iF u = some (s, l1)) (hs : Nat.beq s sz = true) (hy : bH (cV l.toArray acc fr af.toList) y = some (.sc (.int q a))) (ha : a = (hi : Int)) (h1 : hi ≤ l1.length) (hg : iM ⟨dd, .slice t x none (some y) none, ty, pos, af, g⟩ acc) (h : DA P l fr fin sk ((k, .imm s (l1.take hi)) :: acc) L) :
  dl P l fr fin k .v ⟨dd, .slice t x none (some y) none, ty, pos, af, g⟩ sk acc L := gS hg (fun _ _ => (yf (bZ ok ht).1 hx (dc hu) hs hy ha h1).ao) h
end
def kA (h : iN) (p : Int → Bool) : List Int := if h.kind = 1 ∨ h.kind = 5 then ((h.rule.Out.zip (h.rule.In.headD [])).filter fun x => p x.2).map (·.1) else if h.kind = 2 then h.rule.Out else if h.kind = 3 then h.rule.Out.take 1 else []
theorem uO (l : List Int) : (aT l).take (min l.length 1) = aT (l.take 1) := by
 cases l with
 | nil => rfl
 | cons x l => rw [show min (x :: l).length 1 = 1 by rw [List.length_cons]; omega]; rfl
theorem qd {l k : List Int} {i : Nat} {a b : Int} (ha : l[i]? = some a) (hb : k[i]? = some b) : (l.zip k).take (i + 1) = (l.zip k).take i ++ [(a, b)] := by
 rw [List.take_add_one, show (l.zip k)[i]? = some (a, b) by rw [List.getElem?_zip_eq_some]; exact ⟨ha, hb⟩]
 rfl
set_option maxHeartbeats 4000000 in
theorem Cx {g : FuncId} {caps : List AV} [bF Tryz.prog g] (q : Nat) (h : iN) (p : Int → Bool) (rest : AL) (hw : ∀ z, AC Tryz.prog g ([aM z] ++ caps) (eK (q, h) :: rest) fun c L' => c = cO (p z) ∧ L' = eK (q, h) :: rest) (hin : h.rule.In ≠ []) (hout : h.rule.Out.length ≤ 1000000) (np nb n : Nat) (k : Option (Nat × Nat)) (l : List Int) (hn : n ≤ 1000000) (hl : co n l) : AC Tryz.prog 89 [fJ q, .fn g caps, fJ np] (eK (q, h) :: rest ++ bM np nb n k l) fun _ L => ∃ k', L = eK (q, h) :: rest ++ bM np nb n k' (da n l (kA h p)) := by
 refine aQ Tryz.func89 rfl Tryz.ntmps89 rfl fun B => ?_
 obtain ⟨y, hy⟩ : ∃ y, h.rule.In[0]? = some y := ⟨_, Ee (List.length_pos_iff.2 hin)⟩
 have hyg := nj hy
 have hd : h.rule.In.headD [] = y := by
  cases hI : h.rule.In with
  | nil => exact absurd hI hin
  | cons y' q => rw [hI] at hy; simpa using hy
 have hadd := lF np nb n k l
 have hOl := aR h.rule.Out
 have hYl := aR y
 by_cases h1 : h.kind = 1
 ·have ht : kA h p = ((h.rule.Out.zip y).filter fun x => p x.2).map (·.1) := by unfold kA; rw [if_pos (.inl h1), hd]
  rw [ht]
  unfold eK uM at hw ⊢
  dsimp only at hw ⊢
  repeat' (first|refine ae ?_|refine a6 ?_|refine ak ?_|refine a7 ?_|refine a8 ?_|refine aa a2 rfl rfl ?_|(apply bK; first|refine aj a2 0 rfl rfl rfl rfl rfl ?_|refine aj a2 1 rfl rfl rfl rfl rfl ?_|refine aj a2 2 rfl rfl rfl rfl rfl ?_|refine aj a2 3 rfl rfl rfl rfl rfl ?_|refine aD a2 0 rfl rfl rfl rfl rfl ?_|refine aD a2 1 rfl rfl rfl rfl rfl ?_|refine aD a2 2 rfl rfl rfl rfl rfl ?_|refine aj a2 1 rfl rfl rfl (by assumption) rfl ?_|refine aj a2 0 rfl rfl rfl (by assumption) rfl ?_|fail)|fail)
  refine aw rfl (fun hh => ?_) (fun hh => absurd h1 (Gy hh))
  rw [decide_eq_true h1]
  repeat' (first|refine ae ?_|refine a6 ?_|refine ar ?_|refine a7 ?_|refine a8 ?_|refine aa a2 rfl rfl ?_|(apply bK; first|refine aj a2 0 rfl rfl rfl rfl rfl ?_|refine aj a2 1 rfl rfl rfl rfl rfl ?_|refine aj a2 2 rfl rfl rfl rfl rfl ?_|refine aj a2 3 rfl rfl rfl rfl rfl ?_|refine aD a2 0 rfl rfl rfl rfl rfl ?_|refine aD a2 1 rfl rfl rfl rfl rfl ?_|refine aD a2 2 rfl rfl rfl rfl rfl ?_|refine aj a2 1 rfl rfl rfl (by assumption) rfl ?_|refine aj a2 0 rfl rfl rfl (by assumption) rfl ?_|fail)|(apply aX; first|refine aW a2 ?_|refine aP a2 ?_)|refine bS rfl ?_)
  refine bt 17 [(0, .v), (1, .v), (2, .v), (3, .v), (4, .l), (5, .v), (6, .v), (7, .v), (8, .v), (9, .l), (10, .v), (11, .v), (12, .v), (13, .v), (14, .v), (15, .v), (16, .v)] none ?_ trivial rfl (by kernel_rfl) (by kernel_rfl) (by kernel_rfl) mixed (by kernel_rfl) rfl
  repeat' (first|refine aC ?_|refine aZ a2 ?_|refine df a2 0 rfl rfl rfl rfl (by first|trivial|rfl) ?_)
  refine rp a2 (min h.rule.Out.length y.length) rfl rfl rfl rfl rfl (by rw [hOl, hYl]; omega) (by rw [hOl]; omega) trivial ?_
  repeat' (first|refine aC ?_|refine aZ a2 ?_|fail)
  refine bq [1, 2, 6, 37, 38, 39] rfl rfl ?_
  repeat' (first|refine ak ?_|refine a7 ?_|refine a8 ?_)
  have hm : ((aT h.rule.Out).take (min h.rule.Out.length y.length)).length = min h.rule.Out.length y.length := by rw [List.length_take, hOl]; omega
  refine aJ [1, 2, 6, 37, 38] (α := Nat × Option (Nat × Nat)) (fun x => [(39, aM x.1)]) (fun x => x.1 ≤ min h.rule.Out.length y.length) (fun x => (q, AB.box (bD h.rule ++ [aM h.kind, cO h.ign, AV.imm 1 (bv h.unmet)]) 186) :: rest ++ bM np nb n x.2 (da n l ((((h.rule.Out.zip y).take x.1).filter fun x => p x.2).map (·.1)))) (fun x => min h.rule.Out.length y.length - x.1) (0, k) rfl ⟨rfl, trivial⟩ (Nat.zero_le _) (fun _ _ h => h) ?_
  rintro ⟨i, k1⟩ hi
  dsimp only at hi ⊢
  try dsimp only [Gr, Gq, Gp, Gj]
  repeat' (first|refine ae ?_|refine a6 ?_|refine a7 ?_|refine a8 ?_|refine aa a2 rfl rfl ?_)
  refine aw rfl (fun e => ?_) (fun e => ?_)
  ·have hil : i < min h.rule.Out.length y.length := by have := Gz e; rw [hm] at this; omega
   obtain ⟨o, ho⟩ : ∃ z, h.rule.Out[i]? = some z := ⟨_, Ee (by omega)⟩
   obtain ⟨z, hz⟩ : ∃ z, y[i]? = some z := ⟨_, Ee (by omega)⟩
   have hog : ((aT h.rule.Out).take (min h.rule.Out.length y.length))[i]? = some [aM o] := by rw [List.getElem?_take, if_pos hil]; exact bW ho
   have hzg := bW hz
   have hzt := qd ho hz
   repeat' (first|refine ae ?_|refine a6 ?_|refine ak ?_|refine ar ?_|refine a7 ?_|refine a8 ?_|refine aa a2 rfl rfl ?_|(apply aX; first|refine aW a2 ?_|refine aP a2 ?_)|fail)
   refine dh ((q, AB.box (bD h.rule ++ [aM h.kind, cO h.ign, AV.imm 1 (bv h.unmet)]) 186) :: rest) _ (hw z) rfl rfl rfl (Gm _) rfl rfl fun c L1 ⟨hc, hL⟩ => ?_
   subst hc; subst hL
   repeat' (first|refine a7 ?_|refine a8 ?_)
   refine aw rfl (fun e2 => ?_) (fun e2 => ?_)
   ·repeat' (first|refine a6 ?_|refine aa a2 rfl rfl ?_|refine bG a2 ?_|fail)
    refine bb (bM np nb n k1 (da n l ((((h.rule.Out.zip y).take i).filter fun x => p x.2).map (·.1)))) _ (lF np nb n k1 _ [o] hn (hl.add _)) rfl rfl List.perm_append_comm rfl fun c L1 ⟨k', hL⟩ => ?_
    subst hL
    refine aN (aK List.perm_append_comm) ?_
    repeat' (first|refine a6 ?_|refine a7 ?_|refine aH ?_|refine a8 ?_|refine aa a2 rfl rfl ?_|(apply aV; refine aU ?_)|fail)
    refine aB (i + 1, k') rfl ⟨by rw [Gw]; rfl, trivial⟩ (by dsimp only; omega) (by dsimp only; omega) (fun _ _ h => ?_)
    dsimp only
    rw [hzt, List.filter_append, List.map_append, ← eW]
    simpa [e2] using h
   ·repeat' (first|refine a6 ?_|refine ar ?_|refine a7 ?_|refine aH ?_|refine a8 ?_|refine aa a2 rfl rfl ?_|(apply aV; refine aU ?_)|fail)
    refine aB (i + 1, k1) rfl ⟨by rw [Gw]; rfl, trivial⟩ (by dsimp only; omega) (by dsimp only; omega) (fun _ _ h => ?_)
    dsimp only
    rw [hzt, List.filter_append, List.map_append, ← eW]
    simpa [e2, da] using h
  ·have hil : i = min h.rule.Out.length y.length := by have := Gy e; rw [hm] at this; omega
   subst hil
   repeat' (first|refine aO ?_|refine au ?_|refine aH ?_|refine ay ?_|refine av ?_)
   refine dL rfl ⟨k1, ?_⟩
   rw [List.take_of_length_le (by rw [List.length_zip]; exact Nat.le_refl _)]
 by_cases h5 : h.kind = 5
 ·have ht : kA h p = ((h.rule.Out.zip y).filter fun x => p x.2).map (·.1) := by unfold kA; rw [if_pos (.inr h5), hd]
  rw [ht]
  unfold eK uM at hw ⊢
  dsimp only at hw ⊢
  repeat' (first|refine ae ?_|refine a6 ?_|refine ak ?_|refine a7 ?_|refine a8 ?_|refine aa a2 rfl rfl ?_|(apply bK; first|refine aj a2 0 rfl rfl rfl rfl rfl ?_|refine aj a2 1 rfl rfl rfl rfl rfl ?_|refine aj a2 2 rfl rfl rfl rfl rfl ?_|refine aj a2 3 rfl rfl rfl rfl rfl ?_|refine aD a2 0 rfl rfl rfl rfl rfl ?_|refine aD a2 1 rfl rfl rfl rfl rfl ?_|refine aD a2 2 rfl rfl rfl rfl rfl ?_|refine aj a2 1 rfl rfl rfl (by assumption) rfl ?_|refine aj a2 0 rfl rfl rfl (by assumption) rfl ?_|fail)|fail)
  refine aw rfl (fun hh => absurd (Gz hh) h1) (fun _ => ?_)
  repeat' (first|refine a6 ?_|refine a7 ?_|refine a8 ?_|refine aa a2 rfl rfl ?_)
  rw [decide_eq_true h5]
  repeat' (first|refine ae ?_|refine a6 ?_|refine a7 ?_|refine a8 ?_|refine aa a2 rfl rfl ?_|(apply bK; first|refine aj a2 0 rfl rfl rfl rfl rfl ?_|refine aj a2 1 rfl rfl rfl rfl rfl ?_|refine aj a2 2 rfl rfl rfl rfl rfl ?_|refine aj a2 3 rfl rfl rfl rfl rfl ?_|refine aD a2 0 rfl rfl rfl rfl rfl ?_|refine aD a2 1 rfl rfl rfl rfl rfl ?_|refine aD a2 2 rfl rfl rfl rfl rfl ?_|refine aj a2 1 rfl rfl rfl (by assumption) rfl ?_|refine aj a2 0 rfl rfl rfl (by assumption) rfl ?_|fail)|(apply aX; first|refine aW a2 ?_|refine aP a2 ?_)|refine bS rfl ?_)
  refine bt 17 [(0, .v), (1, .v), (2, .v), (3, .v), (4, .l), (5, .v), (6, .v), (7, .v), (8, .v), (9, .l), (10, .v), (11, .v), (12, .v), (13, .v), (14, .v), (15, .v), (16, .v)] none ?_ trivial rfl (by kernel_rfl) (by kernel_rfl) (by kernel_rfl) mixed (by kernel_rfl) rfl
  repeat' (first|refine aC ?_|refine aZ a2 ?_|refine df a2 0 rfl rfl rfl rfl (by first|trivial|rfl) ?_)
  refine rp a2 (min h.rule.Out.length y.length) rfl rfl rfl rfl rfl (by rw [hOl, hYl]; omega) (by rw [hOl]; omega) trivial ?_
  repeat' (first|refine aC ?_|refine aZ a2 ?_|fail)
  refine bq [1, 2, 6, 37, 38, 39] rfl rfl ?_
  repeat' (first|refine ak ?_|refine a7 ?_|refine a8 ?_)
  have hm : ((aT h.rule.Out).take (min h.rule.Out.length y.length)).length = min h.rule.Out.length y.length := by rw [List.length_take, hOl]; omega
  refine aJ [1, 2, 6, 37, 38] (α := Nat × Option (Nat × Nat)) (fun x => [(39, aM x.1)]) (fun x => x.1 ≤ min h.rule.Out.length y.length) (fun x => (q, AB.box (bD h.rule ++ [aM h.kind, cO h.ign, AV.imm 1 (bv h.unmet)]) 186) :: rest ++ bM np nb n x.2 (da n l ((((h.rule.Out.zip y).take x.1).filter fun x => p x.2).map (·.1)))) (fun x => min h.rule.Out.length y.length - x.1) (0, k) rfl ⟨rfl, trivial⟩ (Nat.zero_le _) (fun _ _ h => h) ?_
  rintro ⟨i, k1⟩ hi
  dsimp only at hi ⊢
  try dsimp only [Gr, Gq, Gp, Gj]
  repeat' (first|refine ae ?_|refine a6 ?_|refine a7 ?_|refine a8 ?_|refine aa a2 rfl rfl ?_)
  refine aw rfl (fun e => ?_) (fun e => ?_)
  ·have hil : i < min h.rule.Out.length y.length := by have := Gz e; rw [hm] at this; omega
   obtain ⟨o, ho⟩ : ∃ z, h.rule.Out[i]? = some z := ⟨_, Ee (by omega)⟩
   obtain ⟨z, hz⟩ : ∃ z, y[i]? = some z := ⟨_, Ee (by omega)⟩
   have hog : ((aT h.rule.Out).take (min h.rule.Out.length y.length))[i]? = some [aM o] := by rw [List.getElem?_take, if_pos hil]; exact bW ho
   have hzg := bW hz
   have hzt := qd ho hz
   repeat' (first|refine ae ?_|refine a6 ?_|refine ak ?_|refine ar ?_|refine a7 ?_|refine a8 ?_|refine aa a2 rfl rfl ?_|(apply aX; first|refine aW a2 ?_|refine aP a2 ?_)|fail)
   refine dh ((q, AB.box (bD h.rule ++ [aM h.kind, cO h.ign, AV.imm 1 (bv h.unmet)]) 186) :: rest) _ (hw z) rfl rfl rfl (Gm _) rfl rfl fun c L1 ⟨hc, hL⟩ => ?_
   subst hc; subst hL
   repeat' (first|refine a7 ?_|refine a8 ?_)
   refine aw rfl (fun e2 => ?_) (fun e2 => ?_)
   ·repeat' (first|refine a6 ?_|refine aa a2 rfl rfl ?_|refine bG a2 ?_|fail)
    refine bb (bM np nb n k1 (da n l ((((h.rule.Out.zip y).take i).filter fun x => p x.2).map (·.1)))) _ (lF np nb n k1 _ [o] hn (hl.add _)) rfl rfl List.perm_append_comm rfl fun c L1 ⟨k', hL⟩ => ?_
    subst hL
    refine aN (aK List.perm_append_comm) ?_
    repeat' (first|refine a6 ?_|refine a7 ?_|refine aH ?_|refine a8 ?_|refine aa a2 rfl rfl ?_|(apply aV; refine aU ?_)|fail)
    refine aB (i + 1, k') rfl ⟨by rw [Gw]; rfl, trivial⟩ (by dsimp only; omega) (by dsimp only; omega) (fun _ _ h => ?_)
    dsimp only
    rw [hzt, List.filter_append, List.map_append, ← eW]
    simpa [e2] using h
   ·repeat' (first|refine a6 ?_|refine ar ?_|refine a7 ?_|refine aH ?_|refine a8 ?_|refine aa a2 rfl rfl ?_|(apply aV; refine aU ?_)|fail)
    refine aB (i + 1, k1) rfl ⟨by rw [Gw]; rfl, trivial⟩ (by dsimp only; omega) (by dsimp only; omega) (fun _ _ h => ?_)
    dsimp only
    rw [hzt, List.filter_append, List.map_append, ← eW]
    simpa [e2, da] using h
  ·have hil : i = min h.rule.Out.length y.length := by have := Gy e; rw [hm] at this; omega
   subst hil
   repeat' (first|refine aO ?_|refine au ?_|refine aH ?_|refine ay ?_|refine av ?_)
   refine dL rfl ⟨k1, ?_⟩
   rw [List.take_of_length_le (by rw [List.length_zip]; exact Nat.le_refl _)]
 have ht : kA h p = if h.kind = 2 then h.rule.Out else if h.kind = 3 then h.rule.Out.take 1 else [] := by unfold kA; rw [if_neg (by omega)]
 rw [ht]
 unfold eK uM
 dsimp only
 repeat' (first|refine ae ?_|refine a6 ?_|refine ak ?_|refine a7 ?_|refine a8 ?_|refine aa a2 rfl rfl ?_|(apply bK; first|refine aj a2 0 rfl rfl rfl rfl rfl ?_|refine aj a2 1 rfl rfl rfl rfl rfl ?_|refine aj a2 2 rfl rfl rfl rfl rfl ?_|refine aj a2 3 rfl rfl rfl rfl rfl ?_|refine aD a2 0 rfl rfl rfl rfl rfl ?_|refine aD a2 1 rfl rfl rfl rfl rfl ?_|refine aD a2 2 rfl rfl rfl rfl rfl ?_|refine aj a2 1 rfl rfl rfl (by assumption) rfl ?_|refine aj a2 0 rfl rfl rfl (by assumption) rfl ?_|fail)|fail)
 refine aw rfl (fun h => absurd (Gz h) h1) (fun _ => ?_)
 repeat' (first|refine a6 ?_|refine a7 ?_|refine a8 ?_|refine aa a2 rfl rfl ?_)
 rw [decide_eq_false h5]
 repeat' (first|refine ae ?_|refine a6 ?_|refine a7 ?_|refine a8 ?_|refine aa a2 rfl rfl ?_|refine bN rfl ?_)
 refine aw rfl (fun e => ?_) (fun e => ?_)
 ·have e' := Gz e
  rw [if_pos e']
  repeat' (first|refine a6 ?_|refine aa a2 rfl rfl ?_|(apply bK; first|refine aj a2 0 rfl rfl rfl rfl rfl ?_|refine aj a2 1 rfl rfl rfl rfl rfl ?_|refine aj a2 2 rfl rfl rfl rfl rfl ?_|refine aj a2 3 rfl rfl rfl rfl rfl ?_|refine aD a2 0 rfl rfl rfl rfl rfl ?_|refine aD a2 1 rfl rfl rfl rfl rfl ?_|refine aD a2 2 rfl rfl rfl rfl rfl ?_|refine aj a2 1 rfl rfl rfl (by assumption) rfl ?_|refine aj a2 0 rfl rfl rfl (by assumption) rfl ?_|fail)|fail)
  refine bb (bM np nb n k l) _ (lF np nb n k l h.rule.Out hn hl) rfl rfl List.perm_append_comm rfl fun c L1 ⟨k', hL⟩ => ?_
  subst hL
  refine aN (aK List.perm_append_comm) ?_
  repeat' (first|refine aH ?_|refine a8 ?_)
  exact dL rfl ⟨k', rfl⟩
 have e2 := Gy e
 rw [if_neg e2]
 repeat' (first|refine ae ?_|refine a6 ?_|refine a7 ?_|refine a8 ?_|refine aa a2 rfl rfl ?_)
 refine aw rfl (fun e => ?_) (fun e => ?_)
 ·have e' := Gz e
  rw [if_pos e']
  repeat' (first|fail)
  refine bt 15 [(0, .v), (1, .v), (2, .v), (3, .v), (4, .v), (5, .l), (6, .v), (7, .v), (8, .v), (9, .v), (10, .l), (11, .v), (12, .v), (13, .v), (14, .e)] none ?_ trivial rfl (by kernel_rfl) (by kernel_rfl) (by kernel_rfl) mixed (by kernel_rfl) rfl
  repeat' (first|refine aC ?_|refine aZ a2 ?_|refine df a2 0 rfl rfl rfl rfl (by first|trivial|rfl) ?_)
  refine rp a2 (min h.rule.Out.length 1) rfl rfl rfl rfl rfl (by rw [hOl]; omega) (by rw [hOl]; omega) trivial ?_
  repeat' (first|refine aC ?_|fail)
  refine f7 (bM np nb n k l) _ (lF np nb n k l (h.rule.Out.take 1) hn hl) rfl (by rw [show (aT h.rule.Out).take (min h.rule.Out.length 1) = aT (h.rule.Out.take 1) from uO _]; rfl) List.perm_append_comm trivial fun c L1 ⟨k', hL⟩ => ?_
  subst hL
  repeat' (first|fail)
  refine bq [] rfl rfl ?_
  repeat' (first|refine aH ?_|refine a8 ?_)
  exact be (aK List.perm_append_comm) (dL rfl ⟨k', rfl⟩)
 ·have e' := Gy e
  rw [if_neg e']
  repeat' (first|refine ar ?_|refine aH ?_)
  exact dL rfl ⟨k, rfl⟩
end Go.Proofs.YtjjpkibjffmceaaGreat
namespace Go.Proofs.YtjjpkibjffmceaaGreat
open Go.RowKit
section
variable {P : Program} {tt : TT} {r : Option Nat} {ops : Array Oper} {Q : Exit → Act → World → Prop} {nt : Nat} {D : List Deferred} {fr : cg} {B : Bs} {L : AL} {rest : List Oper} {d : Nat} {ty t t' : TypeId} {pos : String} {af : Array Edge} {g : Option (Nat × Bool)} {x y z : Operand} {u : AV}
theorem D6 (ok : fa P tt) {dd : Option Tmp} {n e : Nat} {k : IntKind} {i : Nat} {a : Int} {cs : List AV} (ht : ww tt t = some (n, e, 1)) (he : E5 tt e = true) (hx : bH fr x = some (.agg cs)) (hy : bH fr y = some (.sc (.int k a))) (ha : a = (i : Int)) (h0 : i < n) (hu : cs[i]? = some u) : Av P ⟨dd, .index t x y, ty, pos, af, g⟩ fr u := by
 intro σ ρ w hρ _
 subst ha
 obtain ⟨h1, h2⟩ := mO ok ht
 have hc := dg ok he
 have hyv := (hρ y _ hy).sc_inv
 obtain ⟨vs, hv, hs, _⟩ := (hρ x _ hx).agg_inv
 obtain ⟨v, g1, g2⟩ := hs.get hu
 have hso : (sizeOf e : Sem Nat).run P w = .ok 1 w := by
  cases hi : P.info? e with
  | none => rw [hi] at h2; cases h2
  | some i => rw [hi] at h2; simp at h2; simp [sizeOf, typeInfo, hi, h2]
 refine ⟨v, ?_, g2⟩
 have h3 : (i : Int) < n := by omega
 simp [execOp, hv, hyv, Instr.index, asIntOf, run_underlying h1, h3, hso, part, hc.agg w, g1]
 intro hle
 omega
theorem DQ (ok : fa P tt) (i : Nat) {n e : Nat} {k : IntKind} {a : Int} {cs : List AV} (ht : ww tt t = some (n, e, 1)) (he : E5 tt e = true) (hx : bH fr x = some (.agg cs)) (hy : bH fr y = some (.sc (.int k a))) (ha : a = (i : Int)) (h0 : i < n) (hu : cs[i]? = some u) (hd : Nat.ble nt d = false) (h : bV P r ops Q nt D rest ((d, u) :: fr) B L) : bV P r ops Q nt D (⟨some d, .index t x y, ty, pos, af, none⟩ :: rest) fr B L := dJ (D6 ok ht he hx hy ha h0 hu) hd rfl h
end
section
variable {P : Program} {tt : TT} {l : List Oper} {fr : cg} {fin : jm} {sk : lB} {acc : cg} {L : AL} {k : Nat} {dd : Option Tmp} {ty t : TypeId} {pos : String} {af : Array Edge} {g : Option (Nat × Bool)}
theorem yM (ok : fa P tt) {zs : List Value} (hz : zI tt t = some zs) (h1 : zs.all (·.oneCell') = true) (hg : iM ⟨dd, .alloc t, ty, pos, af, g⟩ acc) (h : ∀ b, DA P l fr fin sk ((k, .sc (.pointer (some ⟨b, 0, none⟩))) :: acc) ((b, .box (zs.map .sc) t) :: L)) :
  dl P l fr fin k .a ⟨dd, .alloc t, ty, pos, af, g⟩ sk acc L :=
 yO (fun c L' ⟨b, _, h2⟩ => ⟨[(b, _)], h2⟩) hg (fun _ => ii (f9 ok hz) h1) fun c L' ⟨b, h1, h2⟩ => by subst h1; subst h2; exact h b
end
end Go.Proofs.YtjjpkibjffmceaaGreat
namespace Go.Proofs.YtjjpkibjffmceaaGreat
structure MS where
 a : Nat
 lo : Fin 3
abbrev DM (α : Type) := MS → α × MS
section
variable {α β : Type}
def cI (x : α) : DM α := fun m => (x, m)
def cf (g : DM α) (k : α → DM β) : DM β := fun m => k (g m).1 (g m).2
def gN (g : Nat → β → DM β) (b : β) : Nat → DM β
 | 0 => cI b
 | k + 1 => cf (gN g b k) (g k)
end
def rx (s : List Int) (a : Nat) (n : Int) : Int := match s[a]? with
 | some x => x % n
 | none => 0
def dr (s : List Int) (n : Int) : DM Int := fun m => (rx s m.a n, { m with a := m.a + 1 })
def EN : DM Unit := fun m => ((), { m with lo := ⟨m.lo.val - 1, Nat.lt_of_le_of_lt (Nat.sub_le ..) m.lo.isLt⟩ })
def gJ (z : Fin 3) : DM Unit := fun m => ((), { m with lo := z })
def pm : DM Int := fun m => ((m.lo.val : Int), m)
section
variable (s : List Int)
def CU (p : Nat) : DM eB := cf (dr s 21) fun x => cf (dr s 21) fun y => if p = 0 then cI ⟨x * 50 - 100, y * 50 - 200, true⟩ else cf (dr s 4) fun z => cI ⟨x * 50 - 100, y * 50 - 200, decide (0 < z)⟩
def nh (l : List eB) (k : Nat) : DM (List eB) := gN (fun p l => cf (CU s p) fun t => cI (l ++ [t])) l k
def hQ (n : Nat) : DM (List eB × List Int) := gN (fun _ o => cf (dr s 4) fun k => cf (nh s o.1 (2 + k).toNat) fun l => cI (l, o.2 ++ [(l.length : Int) - 1])) ([], []) n
def jb : DM (List eB × List Int) := cf (dr s 3) fun n => hQ s n.toNat
def gy (q : Int) : DM (List ew) := cI [⟨39, 0⟩, ⟨1, 16⟩, ⟨17, 0⟩, ⟨36, 2⟩, ⟨1, q⟩, ⟨2, 0⟩]
def cP (n funcs : Int) : DM (List ew) := cf (dr s (n + 1)) fun p => cf (dr s (n + 1)) fun q => cf (dr s 2) fun a => cf (dr s 12) fun k =>
 if k = 0 then cI [⟨22, a⟩, ⟨23, a⟩]
 else if k = 1 then cf (dr s 6) fun z => cI [⟨24, z⟩]
 else if k = 2 ∨ k = 3 then cI [⟨1, p⟩, ⟨1, p⟩, ⟨29, 0⟩, ⟨15, 0⟩, ⟨32, 0⟩]
 else if k = 4 then cf (dr s 200) fun z => cI [⟨1, p⟩, ⟨1, z - 100⟩, ⟨31, 0⟩]
 else if k = 5 then cI [⟨1, p⟩, ⟨1, q⟩, ⟨33, 0⟩]
 else if k = 6 then cI [⟨34, a⟩]
 else if k = 7 then cI [⟨1, a⟩, ⟨1, q⟩, ⟨25, 0⟩, ⟨1, 3⟩, ⟨5, 0⟩, ⟨26, 0⟩]
 else if k = 8 then (if 0 < funcs then cf (dr s funcs) fun z => cI [⟨37, z⟩] else gy q)
 else if k = 9 then (if 0 < funcs then cf pm fun lo => if 0 < lo then cf EN fun _ => cf (dr s 5) fun y => cf (dr s funcs) fun z => cI [⟨1, y⟩, ⟨38, z⟩] else gy q else gy q)
 else if k = 10 then cI [⟨1, p⟩, ⟨30, 0⟩, ⟨1, q⟩, ⟨29, 0⟩, ⟨16, 0⟩, ⟨36, 3⟩, ⟨1, q⟩, ⟨1, 64⟩, ⟨31, 0⟩]
 else gy q
def fA (n funcs : Int) (k : Nat) : DM (List ew) := gN (fun _ l => cf (cP s n funcs) fun p => cI (l ++ p)) [] k
def m7 (n funcs most : Int) : DM (List ew) := cf (dr s most) fun k => fA s n funcs k.toNat
def fk (a : Int) (k : Nat) : DM (List Int) := gN (fun j l => if l.length < 4 then cf (dr s 3) fun z => cI (if z = 0 then l ++ [a + 1 + j] else l) else cI l) [a] k
def mx (n : Int) : DM (List Int) := cf (dr s n) fun a => fk s a (n - (a + 1)).toNat
def hY (n : Int) (k : Nat) : DM (List (List Int)) := gN (fun _ l => cf (mx s n) fun x => cI (l ++ [x])) [] k
def og (n most : Int) : DM (List (List Int)) := cf (dr s (most + 1)) fun k => hY s n k.toNat
def fR (n : Int) (k : Nat) : DM (List Int) := gN (fun _ l => cf (dr s n) fun x => cI (l ++ [x])) [] k
def fc (n : Int) (calls : List Int) (k : Nat) : DM (List fT) := gN (fun _ l => cf (dr s n) fun a => cf (dr s calls.length) fun z => cI (l ++ [⟨a, calls.getD z.toNat 0⟩])) [] k
def CR (n : Int) (a : List Int) : DM bX := cf (mx s n) fun b => cf (dr s 41) fun x => cI ⟨[], [a, b], [], [], [], x * 10 - 200⟩
def iS (n : Int) : DM (List (List Int) × List (List Int)) := cf (dr s 2) fun z => if z = 0 then cf (og s n 2) fun b => cf (og s n 2) fun c => cI (b, c) else cI ([], [])
def gm (n kind : Int) (calls : List Int) : DM bX := cf (mx s n) fun a => if kind = 6 then CR s n a else cf (iS s n) fun e =>
 if kind = 1 ∨ kind = 5 then cf (fR s n a.length) fun o => cI ⟨e.1, [a], e.2, o, [], 0⟩
 else if kind = 2 then cf (dr s 4) fun k => cf (fR s n k.toNat) fun o => cI ⟨e.1, [a], e.2, o, [], 0⟩
 else if kind = 3 then cf (og s n 2) fun m => cf (dr s n) fun o => cI ⟨e.1, a :: m, e.2, [o], [], 0⟩
 else cf (og s n 2) fun m => cf (dr s 3) fun k => cf (fc s (a :: m).length calls (if calls.length = 0 then 0 else k.toNat)) fun c => cI ⟨e.1, a :: m, e.2, [], c, 0⟩
def fF : List Int := [1, 2, 3, 4, 4, 5, 6, 7, 8, 1]
def eE (k : Nat) : DM (List ba × List Int) := gN (fun i o => cf (dr s 10) fun z => cf (dr s 3) fun y => cI (o.1 ++ [⟨fF.getD z.toNat 0, decide (y = 0), []⟩], if fF.getD z.toNat 0 ≤ 4 then o.2 ++ [(i : Int)] else o.2)) ([], []) k
def f3 (n kind : Int) (calls : List Int) (k : Nat) : DM (List bX) := gN (fun _ l => cf (gm s n kind calls) fun r => cI (l ++ [r])) [] k
def fh (n : Int) (calls : List Int) (l : List ba) (k : Nat) : DM (List ba) := gN (fun i l => match l[i]? with
 | none => cI l
 | some q => if q.Kind ≥ 7 then cI l else cf (dr s 3) fun k => cf (f3 s n q.Kind calls (1 + k).toNat) fun rs => cI (l.set i { q with Rules := rs })) l k
def iw (n : Int) : DM (List ba) := cf (dr s 7) fun k => cf (eE s k.toNat) fun o => fh s n o.2 o.1 k.toNat
def bytes (l : List UInt8) : ByteArray := ⟨l.toArray⟩
def iv (p : List UInt8) (n : Nat) : ByteArray := bytes (p ++ [(97 + n).toUInt8])
def FM : List UInt8 := [103]
def rk : List UInt8 := [97, 120]
def zS : ByteArray := bytes [46, 110, 111, 116, 100, 101, 102]
def cL (n : Nat) : ByteArray := if n = 0 then zS else iv FM n
def iC (n : Nat) : DM (List cR) := if 1 < n then cf (dr s 4) fun z => if z = 0 then cf (dr s 9) fun x => cf (dr s 5) fun y => cI [⟨1, x * 50 - 200, y * 50⟩] else cI [] else cI []
def f6 (cl : Int) : List (Int × Int) := [(1, 0), (1, 1), (3, 0), (4, 0), (2, cl)]
def eX (mark : Bool) (cl : Int) (k : Nat) : DM (List dH) := gN (fun i l => cf (dr s 3) fun z => if z = 0 ∧ (((f6 cl).getD i (0, 0)).1 ≠ 2 ∨ mark = true) then cf (dr s 21) fun x => cf (dr s 21) fun y => cI (l ++ [⟨((f6 cl).getD i (0, 0)).1, ((f6 cl).getD i (0, 0)).2, x * 50, y * 50 - 200⟩]) else cI l) [] k
def gT (r : Nat) (l : List dN) (k : Nat) : DM (List dN) := gN (fun p l => cf (dr s 3) fun z => if z = 0 then cf (dr s 41) fun x => if p = 0 then cI (l ++ [⟨r, -1, x - 20, 0⟩]) else cf (dr s 41) fun y => cI (l ++ [⟨r, (p : Int) - 1, x - 20, y - 20⟩]) else cI l) l k
def fZ (pts : Nat) (R : Nat) : DM (List dN) := gN (fun r l => gT s r l (pts + 1)) [] R
def jF (R fn n : Nat) : DM bo := cf (dr s 19) fun ad => cf (dr s 4) fun mk => cf (jb s) fun o => cf (iC s n) fun ps => cf (dr s 2) fun cl => cf (eX s (decide (mk = 0) && decide (n ≠ 0)) cl 5) fun an => cf (fZ s o.1.length R) fun de => cf (gJ 2) fun _ => cf (m7 s o.1.length fn 6) fun h => cI ⟨cL n, 100 + ad * 50, decide (mk = 0) && decide (n ≠ 0), o.1, o.2, ps, an, de, h⟩
def g8 (R fn k : Nat) : DM (List bo) := gN (fun i l => cf (jF s R fn i) fun g => cI (l ++ [g])) [] k
def jZ (k : Nat) : DM (List eo) := gN (fun i l => cf (dr s 3) fun a => cf (dr s 4) fun b => cI (l ++ [⟨iv rk i, 0 - a * 100, 0, b * 100⟩])) [] k
def jM : List ea := [⟨0, 64, 64⟩, ⟨0, 32, 64⟩, ⟨-64, -64, 0⟩, ⟨-1, 0, 5⟩, ⟨10, 32, 50⟩]
def gX (k : Nat) : DM (List ea) := gN (fun _ l => cf (dr s 5) fun z => cI (l ++ [jM.getD z.toNat ⟨0, 0, 0⟩])) [] k
def jU (axes k : Nat) : DM (List (List ea)) := gN (fun _ l => cf (gX s axes) fun r => cI (l ++ [r])) [] k
def fG (axes : Nat) : DM (List (List ea)) := if axes = 0 then cI [] else cf (dr s 4) fun n => jU s axes n.toNat
def ir (k : Nat) : DM (List (List ew)) := gN (fun i l => cf (gJ 0) fun _ => cf (m7 s 6 i 4) fun h => cI (l ++ [h])) [] k
def oZ (k : Nat) : DM (List Int) := gN (fun _ l => cf (dr s 500) fun z => cI (l ++ [z - 100])) [] k
def eV : List Int := [97, 98, 99, 102, 105, 108, 57345, 57346, 57601, 57602, 57603, 57857, 57861, 58113, 58114, 58369]
def gR (n : Int) (k : Nat) : DM (List ep) := gN (fun i l => cf (dr s 4) fun z => if 0 < z then cf (dr s n) fun g => cI (l ++ [⟨eV.getD i 0, g⟩]) else cI l) [] k
def dU : List ByteArray := [bytes [108, 105, 103, 97], bytes [105, 115, 111, 108], bytes [105, 110, 105, 116], bytes [109, 101, 100, 105], bytes [102, 105, 110, 97], bytes [107, 101, 114, 110], bytes [109, 97, 114, 107], bytes [99, 97, 108, 116]]
def mP (k : Nat) : DM (List Int) := gN (fun i l => cf (dr s 3) fun z => cI (if z = 0 then l ++ [(i : Int)] else l)) [] k
def gU (n : Nat) (k : Nat) : DM (List bO) := gN (fun i l => cf (mP s n) fun r => cf (dr s 2) fun z => cI (if z = 0 then l ++ [⟨dU.getD i ByteArray.empty, r⟩] else l)) [] k
def lA : List Int := [1000, 1024, 100, 2048]
def zy : DM aI := cf (dr s 4) fun u => cf (dr s 3) fun k => cf (jZ s k.toNat) fun ax => cf (fG s k.toNat) fun rg => cf (dr s 3) fun k2 => cf (ir s k2.toNat) fun fu => cf (dr s 4) fun k3 => cf (oZ s k3.toNat) fun cv => cf (dr s 9) fun k4 => cf (g8 s rg.length fu.length (2 + k4).toNat) fun gl => cf (gR s gl.length 16) fun ch => cf (iw s gl.length) fun lk => cf (gU s lk.length 8) fun ft => cI ⟨lA.getD u.toNat 0, gl, ch, lk, ft, ax, rg, fu, cv⟩
def md : aI := (zy s ⟨0, 0⟩).1
def fI : List Int := eV ++ [122]
def F8 : List Int := (s.take 20).map fun z => fI.getD (z % 17).toNat 0
end
end Go.Proofs.YtjjpkibjffmceaaGreat
namespace Go.Proofs.YtjjpkibjffmceaaGreat
open Go.RowKit
attribute [local irreducible] AT bV AX AO Av Kt bC eH DA dl
structure MF where
 u : AV
 gl : AV
 ch : AV
 lk : AV
 ft : AV
 ax : AV
 rg : AV
 fu : AV
 cv : AV
def EU (s : List Int) (F : MF) (m : MS) : List AV := [.imm 1 (aT s), aM (min m.a s.length : Nat), F.u, F.gl, F.ch, F.lk, F.ft, F.ax, F.rg, F.fu, F.cv, aM (m.lo.val : Nat)]
abbrev ej (b : Nat) (s : List Int) (F : MF) (m : MS) : Nat × AB := (b, .box (EU s F m) 153)
def qf (f : FuncId) (args : List AV) (s : List Int) (F : MF) {α : Type} (u : DM α) (out : α → AV) : Prop := ∀ (b : Nat) (m : MS), AC Tryz.prog f (fJ b :: args) [ej b s F m] fun c L => c = out (u m).1 ∧ L = [ej b s F (u m).2]
theorem C8 {x n : Int} (hn : 0 < n) : (x.tmod n + n).tmod n = x % n := by
 have h0 := Int.lt_tmod_of_pos x hn
 rw [Int.tmod_eq_emod_of_nonneg (by omega), Int.add_emod_right]
 have h2 : (x.tmod n) % n = (x - n * x.tdiv n) % n := by rw [Int.tmod_def]
 rw [h2, Int.sub_mul_emod_self_left]
set_option maxHeartbeats 1000000 in
theorem nc (s : List Int) (hs : s.length ≤ 1000000) (F : MF) (n : Int) (hn : 0 < n ∧ n ≤ 1000000) : qf 63 [aM n] s F (dr s n) aM := by
 intro b m
 refine aQ Tryz.func63 rfl Tryz.ntmps63 rfl fun B => ?_
 have hil := aR s
 unfold ej
 repeat' (first|refine ae ?_|refine a6 ?_|refine a7 ?_|refine a8 ?_|refine aa a2 rfl rfl ?_)
 refine bt 9 [(0, .v), (1, .v), (2, .v), (3, .l), (4, .v), (5, .v), (6, .v), (7, .l), (8, .v)] none ?_ trivial rfl (by kernel_rfl) (by kernel_rfl) (by kernel_rfl) mixed (by kernel_rfl) rfl
 repeat' (first|refine aC ?_|refine aZ a2 ?_|refine df a2 0 rfl rfl rfl rfl (by first|trivial|rfl) ?_)
 refine bq [0, 1, 9, 14] rfl rfl ?_
 repeat' (first|refine a7 ?_|refine a8 ?_|refine aa a2 rfl rfl ?_)
 refine aw rfl (fun h => ?_) (fun h => ?_)
 ·have h1 : s.length ≤ min m.a s.length := by have := Gz h; rw [hil] at this; omega
  repeat' (first|refine ae ?_|refine a6 ?_|refine aq ?_|refine a7 ?_|refine aE ?_|refine a8 ?_|refine aa a2 rfl rfl ?_)
  refine aA rfl rfl ⟨?_, ?_⟩
  ·unfold dr rx
   rw [List.getElem?_eq_none (show s.length ≤ m.a by omega)]
  ·unfold dr EU
   rw [show min m.a s.length = min (m.a + 1) s.length by omega]
 have h1 : m.a < s.length := by have := Gy h; rw [hil] at this; omega
 have h2 : min m.a s.length = m.a := by omega
 obtain ⟨x, hx⟩ : ∃ x, s[m.a]? = some x := ⟨_, Ee h1⟩
 have hxg := bW hx
 unfold EU
 rw [h2]
 repeat' (first|refine ae ?_|refine ar ?_|refine a7 ?_)
 refine bt 8 [(0, .v), (1, .v), (2, .v), (3, .l), (4, .v), (5, .v), (6, .v), (7, .l)] none ?_ trivial rfl (by kernel_rfl) (by kernel_rfl) (by kernel_rfl) mixed (by kernel_rfl) rfl
 repeat' (first|refine aC ?_|refine aZ a2 ?_|refine df a2 0 rfl rfl rfl rfl (by first|trivial|rfl) ?_)
 refine bq [0, 1, 19, 23] rfl rfl ?_
 repeat' (first|refine ae ?_|refine a6 ?_|refine a7 ?_|refine a8 ?_|refine aa a2 rfl rfl ?_|(apply bK; first|refine aj a2 0 rfl rfl rfl rfl rfl ?_|refine aj a2 1 rfl rfl rfl rfl rfl ?_|refine aj a2 2 rfl rfl rfl rfl rfl ?_|refine aj a2 3 rfl rfl rfl rfl rfl ?_|refine aD a2 0 rfl rfl rfl rfl rfl ?_|refine aD a2 1 rfl rfl rfl rfl rfl ?_|refine aD a2 2 rfl rfl rfl rfl rfl ?_|refine aj a2 1 rfl rfl rfl (by assumption) rfl ?_|refine aj a2 0 rfl rfl rfl (by assumption) rfl ?_|fail)|(apply aV; refine aU ?_)|(apply aX; first|refine aW a2 ?_|refine aP a2 ?_)|(apply aG; first|refine ai a2 0 rfl rfl rfl rfl rfl rfl rfl ?_|refine ai a2 1 rfl rfl rfl rfl rfl rfl rfl ?_|refine ai a2 2 rfl rfl rfl rfl rfl rfl rfl ?_|refine ai a2 3 rfl rfl rfl rfl rfl rfl rfl ?_|fail))
 refine zO ?_
 repeat' (first|refine aa a2 rfl rfl ?_)
 have hb := Int.lt_tmod_of_pos x hn.1
 have hb2 := Int.tmod_lt_of_pos x hn.1
 refine aU ?_
 repeat' (first|refine aa a2 rfl rfl ?_)
 refine zO ?_
 repeat' (first|refine aq ?_|refine a7 ?_|refine a8 ?_|refine aa a2 rfl rfl ?_)
 refine aA rfl rfl ⟨?_, ?_⟩
 ·unfold dr rx
  rw [hx, C8 hn.1]
 ·unfold dr
  dsimp only
  rw [show min (m.a + 1) s.length = m.a + 1 by omega]
  rfl
section
variable {r : Option Nat} {ops : Array Oper} {Q : Exit → Act → World → Prop} {nt : Nat} {D : List Deferred} {fr : cg} {B : Bs} {rest : List Oper} {d : Nat} {ty : TypeId} {pos : String} {af : Array Edge} {s : List Int} {F : MF} {b : Nat} {m : MS} {Z : AL} {args : Array Operand} {ts : Array TypeId}
theorem tv {f : FuncId} [bF Tryz.prog f] {α : Type} {u : DM α} {out : α → AV} {az ds : List AV} (hc : qf f az s F u out) (h : bV Tryz.prog r ops Q nt D rest ((d, out (u m).1) :: fr) B (ej b s F (u m).2 :: Z)) (hv : eC fr args.toList = some ds := by rfl) (hi : kj ds = some (fJ b :: az) := by rfl) (hd : Nat.ble nt d = false := by rfl) : bV Tryz.prog r ops Q nt D (⟨some d, .call ⟨.value (.func f), args, ts⟩, ty, pos, af, none⟩ :: rest) fr B (ej b s F m :: Z) :=
 bb [ej b s F m] Z (hc b m) hv hi (Gm _) hd fun c L1 ⟨h1, h2⟩ => by subst h1; subst h2; exact h
theorem cJ {n : Int} (h : bV Tryz.prog r ops Q nt D rest ((d, aM (dr s n m).1) :: fr) B (ej b s F (dr s n m).2 :: Z)) (hv : eC fr args.toList = some [fJ b, aM n] := by rfl) (hs : s.length ≤ 1000000 := by assumption) (hn : 0 < n ∧ n ≤ 1000000 := by omega) (hd : Nat.ble nt d = false := by rfl) : bV Tryz.prog r ops Q nt D (⟨some d, .call ⟨.value (.func 63), args, ts⟩, ty, pos, af, none⟩ :: rest) fr B (ej b s F m :: Z) :=
 tv (nc s hs F n hn) h hv rfl hd
end
section
variable {l : List Oper} {fr : cg} {fin : jm} {sk : lB} {acc : cg} {k : Nat} {dd : Option Tmp} {ty : TypeId} {pos : String} {af : Array Edge} {g : Option (Nat × Bool)} {s : List Int} {F : MF} {b : Nat} {m : MS} {Z : AL} {args : Array Operand} {ts : Array TypeId}
theorem cb {L : AL} : eA [] L := fun q hq => by cases hq
theorem bR {q : Nat × Nat × AV} {gs : KpL} {L : AL} (i : Nat) {cs : List AV} {e : TypeId} (hL : L[i]? = some (q.1, .box cs e)) (hc : cs[q.2.1]? = some q.2.2) (h : eA gs L) : eA (.cell q :: gs) L := fun p hp => by
 rcases List.mem_cons.1 hp with rfl | hp
 ·exact show ∃ cs e, (q.1, AB.box cs e) ∈ L ∧ cs[q.2.1]? = some q.2.2 from ⟨cs, e, Gx hL, hc⟩
 ·exact h p hp
theorem Fq {f : FuncId} [bF Tryz.prog f] {α : Type} {u : DM α} {out : α → AV} {az ds : List AV} (hc : qf f az s F u out) (h : DA Tryz.prog l fr fin sk ((k, out (u m).1) :: acc) (ej b s F (u m).2 :: Z)) (hv : eC (cV l.toArray acc fr af.toList) args.toList = some ds := by rfl) (hi : kj ds = some (fJ b :: az) := by rfl) (hg : iM ⟨dd, .call ⟨.value (.func f), args, ts⟩, ty, pos, af, g⟩ acc := by first | trivial | rfl) : dl Tryz.prog l fr fin k .e ⟨dd, .call ⟨.value (.func f), args, ts⟩, ty, pos, af, g⟩ sk acc (ej b s F m :: Z) :=
 f7 [ej b s F m] Z (hc b m) hv hi (Gm _) hg fun c L1 ⟨h1, h2⟩ => by subst h1; subst h2; exact h
theorem qF {f : FuncId} [bF Tryz.prog f] {α : Type} {u : DM α} {out : α → AV} {az ds : List AV} (hc : qf f az s F u out) (hK : eA fin.gs (ej b s F (u m).2 :: Z)) (h : DA Tryz.prog l fr fin sk ((k, out (u m).1) :: acc) (ej b s F (u m).2 :: Z)) (hv : eC (cV l.toArray acc fr af.toList) args.toList = some ds := by rfl) (hi : kj ds = some (fJ b :: az) := by rfl) (hg : iM ⟨dd, .call ⟨.value (.func f), args, ts⟩, ty, pos, af, g⟩ acc := by first | trivial | rfl) : dl Tryz.prog l fr fin k .f ⟨dd, .call ⟨.value (.func f), args, ts⟩, ty, pos, af, g⟩ sk acc (ej b s F m :: Z) :=
 vJ [ej b s F m] Z (hc b m) hv hi (Gm _) hg (fun c L1 ⟨_, h2⟩ _ => by subst h2; exact hK) fun c L1 ⟨h1, h2⟩ => by subst h1; subst h2; exact h
theorem rq {n : Int} (h : DA Tryz.prog l fr fin sk ((k, aM (dr s n m).1) :: acc) (ej b s F (dr s n m).2 :: Z)) (hv : eC (cV l.toArray acc fr af.toList) args.toList = some [fJ b, aM n] := by rfl) (hs : s.length ≤ 1000000 := by assumption) (hn : 0 < n ∧ n ≤ 1000000 := by omega) (hg : iM ⟨dd, .call ⟨.value (.func 63), args, ts⟩, ty, pos, af, g⟩ acc := by first | trivial | rfl) : dl Tryz.prog l fr fin k .e ⟨dd, .call ⟨.value (.func 63), args, ts⟩, ty, pos, af, g⟩ sk acc (ej b s F m :: Z) :=
 Fq (nc s hs F n hn) h hv rfl hg
theorem eR {n : Int} (hK : eA fin.gs (ej b s F (dr s n m).2 :: Z)) (h : DA Tryz.prog l fr fin sk ((k, aM (dr s n m).1) :: acc) (ej b s F (dr s n m).2 :: Z)) (hv : eC (cV l.toArray acc fr af.toList) args.toList = some [fJ b, aM n] := by rfl) (hs : s.length ≤ 1000000 := by assumption) (hn : 0 < n ∧ n ≤ 1000000 := by omega) (hg : iM ⟨dd, .call ⟨.value (.func 63), args, ts⟩, ty, pos, af, g⟩ acc := by first | trivial | rfl) : dl Tryz.prog l fr fin k .f ⟨dd, .call ⟨.value (.func 63), args, ts⟩, ty, pos, af, g⟩ sk acc (ej b s F m :: Z) :=
 qF (nc s hs F n hn) hK h hv rfl hg
end
end Go.Proofs.YtjjpkibjffmceaaGreat
