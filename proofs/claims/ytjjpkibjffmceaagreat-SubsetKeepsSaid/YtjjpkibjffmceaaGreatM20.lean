/-
  The program: rules that may come to match.
-/
import Derived.Test.YtjjpkibjffmceaaGreatM19
import Derived.Test.YtjjpkibjffmceaaGreatM13
import Derived.Test.YtjjpkibjffmceaaGreatM11
import Derived.Test.YtjjpkibjffmceaaGreatM05
import Derived.Test.YtjjpkibjffmceaaGreatM06
import Derived.Test.YtjjpkibjffmceaaGreatM15
namespace Go.Proofs.YtjjpkibjffmceaaGreat
open Go.RowKit
attribute [local irreducible] AT bT AX AO Av Kt bk ej DA cX
structure ix where
 rule : bV
 kind : Int
 ign : Bool
 unmet : List (List Int)
def ud (h : ix) : List AV := bC h.rule ++ [aM h.kind, cF h.ign, .imm 1 (bq h.unmet)]
def ey (x : Nat × ix) : Nat × AB := (x.1, .box (ud x.2) 186)
def gt (f : aJ) (k : Option (Nat × Nat)) (qs : List Nat) : List AV := bZ f ++ [.vec k 1 (qs.map fun q => [fp q])]
def iv (f : aJ) (S : List Int) (ign : Bool) (n : Int) : Bool := BS f.Glyphs.length S n && !(ign && ql f n)
set_option maxHeartbeats 1000000 in
theorem vt (f : aJ) (ap b gp q : Nat) (k kg : Option (Nat × Nat)) (S : List Int) (qs : List Nat) (h : ix) (n : Int) : AC Tryz.prog 86 [aM n, .iptr [fp ap], .iptr [fp q], .iptr [fp gp]] (ey (q, h) :: (gp, .box (gt f kg qs) 182) :: bJ ap b f.Glyphs.length k S) fun c L => c = cF (iv f S h.ign n) ∧ L = ey (q, h) :: (gp, .box (gt f kg qs) 182) :: bJ ap b f.Glyphs.length k S := by
 refine aP Tryz.func86 rfl Tryz.ntmps86 rfl fun B => ?_
 unfold iv
 repeat' (first|refine ah ?_|refine a7 ?_|refine a8 ?_|refine aa ?_|refine ae a6 rfl rfl ?_)
 refine b7 (bJ ap b f.Glyphs.length k S) [ey (q, h), (gp, .box (gt f kg qs) 182)] (E5 ap b f.Glyphs.length k S n) rfl rfl (List.perm_append_comm (l₁ := [ey (q, h), (gp, .box (gt f kg qs) 182)])) rfl fun c L1 ⟨hc, hL⟩ => ?_
 subst hc; subst hL
 refine aO (aK List.perm_append_comm) ?_
 cases hi : BS f.Glyphs.length S n with
 | false =>
  repeat' (first|refine ar ?_|refine a8 ?_|refine aa ?_|refine ae a6 rfl rfl ?_|refine aL rfl rfl rfl rfl ?_|refine dm rfl rfl rfl ?_)
  exact aA rfl rfl ⟨rfl, rfl⟩
 | true =>
  have hr : 0 ≤ n ∧ n < f.Glyphs.length := by
   unfold BS at hi
   rw [Bool.and_eq_true, decide_eq_true_eq] at hi
   exact hi.1
  obtain ⟨gl, hg⟩ : ∃ g, f.Glyphs[n.toNat]? = some g := ⟨_, Ds (by omega)⟩
  have hgg := bj (c := bb) hg
  have hm : ql f n = gl.Mark := by unfold ql; rw [hg]
  rw [hm]
  obtain ⟨rule, kind, ign, unmet⟩ := h
  unfold ey ud gt
  dsimp only
  repeat' (first|refine ae a6 rfl rfl ?_|refine aG rfl rfl ?_|(apply bB; first|refine ak a6 0 rfl rfl rfl rfl rfl ?_|refine ak a6 1 rfl rfl rfl rfl rfl ?_|refine ak a6 2 rfl rfl rfl rfl rfl ?_|refine ak a6 3 rfl rfl rfl rfl rfl ?_|refine aD a6 0 rfl rfl rfl rfl rfl ?_|refine aD a6 1 rfl rfl rfl rfl rfl ?_|refine aD a6 2 rfl rfl rfl rfl rfl ?_|refine ak a6 1 rfl rfl rfl (by assumption) rfl ?_|refine ak a6 0 rfl rfl rfl (by assumption) rfl ?_|fail)|fail)
  cases ign
  ·repeat' (first|refine ar ?_|refine a8 ?_|refine aa ?_|refine ae a6 rfl rfl ?_|refine aG rfl rfl ?_|refine aL rfl rfl rfl rfl ?_)
   exact aA rfl rfl ⟨rfl, rfl⟩
  ·repeat' (first|refine ar ?_|refine a8 ?_|refine aa ?_|refine ae a6 rfl rfl ?_|refine aG rfl rfl ?_|(apply bB; first|refine ak a6 0 rfl rfl rfl rfl rfl ?_|refine ak a6 1 rfl rfl rfl rfl rfl ?_|refine ak a6 2 rfl rfl rfl rfl rfl ?_|refine ak a6 3 rfl rfl rfl rfl rfl ?_|refine aD a6 0 rfl rfl rfl rfl rfl ?_|refine aD a6 1 rfl rfl rfl rfl rfl ?_|refine aD a6 2 rfl rfl rfl rfl rfl ?_|refine ak a6 1 rfl rfl rfl (by assumption) rfl ?_|refine ak a6 0 rfl rfl rfl (by assumption) rfl ?_|fail)|(apply aY; first|refine aX a6 ?_|refine aS a6 ?_)|fail)
   exact aA rfl rfl ⟨rfl, rfl⟩
def ix.rest (h : ix) (p : Int → Bool) : ix := { h with unmet := h.unmet.dropWhile fun s => s.any p }
set_option maxHeartbeats 1000000 in
theorem ul {g : FuncId} {caps : List AV} [bD Tryz.prog g] (q : Nat) (h : ix) (p : Int → Bool) (rest : AL) (hw : ∀ un z, AC Tryz.prog g ([aM z] ++ caps) (ey (q, { h with unmet := un }) :: rest) fun c L' => c = cF (p z) ∧ L' = ey (q, { h with unmet := un }) :: rest) : AC Tryz.prog 88 [fp q, .fn g caps] (ey (q, h) :: rest) fun c L => c = cF (h.unmet.all fun s => s.any p) ∧ L = ey (q, h.rest p) :: rest := by
 refine aP Tryz.func88 rfl Tryz.ntmps88 rfl fun B => ?_
 repeat' (first|refine ah ?_|refine a7 ?_|refine aq ?_|refine a8 ?_|refine aa ?_|refine ae a6 rfl rfl ?_)
 refine aN [0, 1] (α := List (List Int)) (fun _ => []) (fun un => (h.unmet.all fun s => s.any p) = (un.all fun s => s.any p) ∧ (h.unmet.dropWhile fun s => s.any p) = un.dropWhile fun s => s.any p) (fun un => ey (q, { h with unmet := un }) :: rest) (fun un => un.length) h.unmet rfl trivial ⟨rfl, rfl⟩ (fun _ _ h => h) ?_
 rintro un ⟨h1, h2⟩
 try dsimp only [Gr, Gq, Gp, Gj]
 cases un with
 | nil =>
  unfold ey ud
  dsimp only
  repeat' (first|refine ah ?_|refine a7 ?_|refine ar ?_|refine aR ?_|refine a8 ?_|refine av ?_|refine aB ?_|refine ay ?_|refine aa ?_|refine ae a6 rfl rfl ?_|refine aL rfl rfl rfl rfl ?_|(apply bB; first|refine ak a6 0 rfl rfl rfl rfl rfl ?_|refine ak a6 1 rfl rfl rfl rfl rfl ?_|refine ak a6 2 rfl rfl rfl rfl rfl ?_|refine ak a6 3 rfl rfl rfl rfl rfl ?_|refine aD a6 0 rfl rfl rfl rfl rfl ?_|refine aD a6 1 rfl rfl rfl rfl rfl ?_|refine aD a6 2 rfl rfl rfl rfl rfl ?_|refine ak a6 1 rfl rfl rfl (by assumption) rfl ?_|refine ak a6 0 rfl rfl rfl (by assumption) rfl ?_|fail)|refine bv rfl ?_)
  refine aA rfl rfl ⟨by rw [h1]; rfl, ?_⟩
  unfold ix.rest
  rw [h2]
  rfl
 | cons s un =>
  have hsg : (bq (s :: un))[(0 : Int).toNat]? = some [.imm 1 (aU s)] := rfl
  have hpos : decide (0 < (((bq (s :: un)).length : Nat) : Int)) = true := decide_eq_true (by rw [fC, List.length_cons]; omega)
  have hw' := hw (s :: un)
  unfold ey ud at hw' ⊢
  dsimp only at hw' ⊢
  repeat' (first|refine ah ?_|refine a7 ?_|refine ae a6 rfl rfl ?_|(apply bB; first|refine ak a6 0 rfl rfl rfl rfl rfl ?_|refine ak a6 1 rfl rfl rfl rfl rfl ?_|refine ak a6 2 rfl rfl rfl rfl rfl ?_|refine ak a6 3 rfl rfl rfl rfl rfl ?_|refine aD a6 0 rfl rfl rfl rfl rfl ?_|refine aD a6 1 rfl rfl rfl rfl rfl ?_|refine aD a6 2 rfl rfl rfl rfl rfl ?_|refine ak a6 1 rfl rfl rfl (by assumption) rfl ?_|refine ak a6 0 rfl rfl rfl (by assumption) rfl ?_|fail)|fail)
  rw [hpos]
  repeat' (first|refine ae a6 rfl rfl ?_|refine aG rfl rfl ?_|(apply bB; first|refine ak a6 0 rfl rfl rfl rfl rfl ?_|refine ak a6 1 rfl rfl rfl rfl rfl ?_|refine ak a6 2 rfl rfl rfl rfl rfl ?_|refine ak a6 3 rfl rfl rfl rfl rfl ?_|refine aD a6 0 rfl rfl rfl rfl rfl ?_|refine aD a6 1 rfl rfl rfl rfl rfl ?_|refine aD a6 2 rfl rfl rfl rfl rfl ?_|refine ak a6 1 rfl rfl rfl (by assumption) rfl ?_|refine ak a6 0 rfl rfl rfl (by assumption) rfl ?_|fail)|(apply aY; first|refine aX a6 ?_|refine aS a6 ?_)|fail)
  refine b7 ((q, AB.box (bC h.rule ++ [aM h.kind, cF h.ign, AV.imm 1 (bq (s :: un))]) 186) :: rest) [] (w6 rfl s p _ hw') rfl rfl (bR rfl) rfl fun c L1 ⟨hc, hL⟩ => ?_
  subst hc; subst hL
  rw [List.append_nil]
  cases hs : s.any p with
  | false =>
   repeat' (first|refine ah ?_|refine a7 ?_|refine ar ?_|refine aR ?_|refine a8 ?_|refine av ?_|refine aB ?_|refine ay ?_|refine aa ?_|refine ae a6 rfl rfl ?_|(apply bB; first|refine ak a6 0 rfl rfl rfl rfl rfl ?_|refine ak a6 1 rfl rfl rfl rfl rfl ?_|refine ak a6 2 rfl rfl rfl rfl rfl ?_|refine ak a6 3 rfl rfl rfl rfl rfl ?_|refine aD a6 0 rfl rfl rfl rfl rfl ?_|refine aD a6 1 rfl rfl rfl rfl rfl ?_|refine aD a6 2 rfl rfl rfl rfl rfl ?_|refine ak a6 1 rfl rfl rfl (by assumption) rfl ?_|refine ak a6 0 rfl rfl rfl (by assumption) rfl ?_|fail)|refine bv rfl ?_)
   refine aA rfl rfl ⟨?_, ?_⟩
   ·rw [h1, List.all_cons, hs]
    rfl
   ·unfold ix.rest
    rw [h2, List.dropWhile_cons_of_neg (by simpa using hs)]
  | true =>
   repeat' (first|refine a7 ?_|refine aq ?_|refine au ?_|refine a8 ?_|refine aa ?_|refine ae a6 rfl rfl ?_|(apply bB; first|refine ak a6 0 rfl rfl rfl rfl rfl ?_|refine ak a6 1 rfl rfl rfl rfl rfl ?_|refine ak a6 2 rfl rfl rfl rfl rfl ?_|refine ak a6 3 rfl rfl rfl rfl rfl ?_|refine aD a6 0 rfl rfl rfl rfl rfl ?_|refine aD a6 1 rfl rfl rfl rfl rfl ?_|refine aD a6 2 rfl rfl rfl rfl rfl ?_|refine ak a6 1 rfl rfl rfl (by assumption) rfl ?_|refine ak a6 0 rfl rfl rfl (by assumption) rfl ?_|fail)|refine bQ rfl ?_)
   refine dy (Ci (lo := 1) (bU a6 rfl).1 rfl rfl rfl rfl rfl (by rw [fC, List.length_cons]; omega)) rfl rfl ?_
   repeat' (first|refine aI ?_|refine aa ?_|refine ae a6 rfl rfl ?_|(apply aH; first|refine aj a6 0 rfl rfl rfl rfl rfl rfl rfl ?_|refine aj a6 1 rfl rfl rfl rfl rfl rfl rfl ?_|refine aj a6 2 rfl rfl rfl rfl rfl rfl rfl ?_|refine aj a6 3 rfl rfl rfl rfl rfl rfl rfl ?_|fail))
   refine aC un rfl trivial ⟨?_, ?_⟩ (by simp) (fun _ _ h => h)
   ·rw [h1, List.all_cons, hs, Bool.true_and]
   ·rw [h2, List.dropWhile_cons_of_pos (by simpa using hs)]
section
variable {P : Program} {tt : TT} {l : List Oper} {fr : ca} {fin : jz} {sk : lm} {acc : ca} {L : AL} {k : Nat} {dd : Option Tmp} {ty t t' : TypeId} {pos : String} {af : Array Edge} {g : Option (Nat × Bool)} {x y : Operand} {u : AV}
theorem qQ (ok : eW P tt) (hi : Nat) {e sz by_ s : Nat} {l1 : List (List AV)} {q : IntKind} {a : Int} (ht : mf tt t = some (e, sz, by_)) (hx : bH (cM l.toArray acc fr af.toList) x = some u) (hu : il u = some (s, l1)) (hs : Nat.beq s sz = true) (hy : bH (cM l.toArray acc fr af.toList) y = some (.sc (.int q a))) (ha : a = (hi : Int)) (h1 : hi ≤ l1.length) (hg : iC ⟨dd, .slice t x none (some y) none, ty, pos, af, g⟩ acc) (h : DA P l fr fin sk ((k, .imm s (l1.take hi)) :: acc) L) :
  cX P l fr fin k .v ⟨dd, .slice t x none (some y) none, ty, pos, af, g⟩ sk acc L := gD hg (fun _ _ => (xt (bU ok ht).1 hx (cT hu) hs hy ha h1).ao) h
end
def k8 (h : ix) (p : Int → Bool) : List Int := if h.kind = 1 ∨ h.kind = 5 then ((h.rule.Out.zip (h.rule.In.headD [])).filter fun x => p x.2).map (·.1) else if h.kind = 2 then h.rule.Out else if h.kind = 3 then h.rule.Out.take 1 else []
theorem uf (l : List Int) : (aU l).take (min l.length 1) = aU (l.take 1) := by
 cases l with
 | nil => rfl
 | cons x l => rw [show min (x :: l).length 1 = 1 by rw [List.length_cons]; omega]; rfl
theorem px {l k : List Int} {i : Nat} {a b : Int} (ha : l[i]? = some a) (hb : k[i]? = some b) : (l.zip k).take (i + 1) = (l.zip k).take i ++ [(a, b)] := by
 rw [List.take_add_one, show (l.zip k)[i]? = some (a, b) by rw [List.getElem?_zip_eq_some]; exact ⟨ha, hb⟩]
 rfl
set_option maxHeartbeats 4000000 in
theorem BH {g : FuncId} {caps : List AV} [bD Tryz.prog g] (q : Nat) (h : ix) (p : Int → Bool) (rest : AL) (hw : ∀ z, AC Tryz.prog g ([aM z] ++ caps) (ey (q, h) :: rest) fun c L' => c = cF (p z) ∧ L' = ey (q, h) :: rest) (hin : h.rule.In ≠ []) (hout : h.rule.Out.length ≤ 1000000) (np nb n : Nat) (k : Option (Nat × Nat)) (l : List Int) (hn : n ≤ 1000000) (hl : ce n l) : AC Tryz.prog 89 [fp q, .fn g caps, fp np] (ey (q, h) :: rest ++ bJ np nb n k l) fun _ L => ∃ k', L = ey (q, h) :: rest ++ bJ np nb n k' (cS n l (k8 h p)) := by
 refine aP Tryz.func89 rfl Tryz.ntmps89 rfl fun B => ?_
 obtain ⟨y, hy⟩ : ∃ y, h.rule.In[0]? = some y := ⟨_, Ds (List.length_pos_iff.2 hin)⟩
 have hyg := qr hy
 have hd : h.rule.In.headD [] = y := by
  cases hI : h.rule.In with
  | nil => exact absurd hI hin
  | cons y' q => rw [hI] at hy; simpa using hy
 have hadd := lr np nb n k l
 have hOl := aQ h.rule.Out
 have hYl := aQ y
 by_cases h1 : h.kind = 1
 ·have ht : k8 h p = ((h.rule.Out.zip y).filter fun x => p x.2).map (·.1) := by unfold k8; rw [if_pos (.inl h1), hd]
  rw [ht]
  unfold ey ud at hw ⊢
  dsimp only at hw ⊢
  repeat' (first|refine ah ?_|refine a7 ?_|refine aq ?_|refine a8 ?_|refine aa ?_|refine ae a6 rfl rfl ?_|(apply bB; first|refine ak a6 0 rfl rfl rfl rfl rfl ?_|refine ak a6 1 rfl rfl rfl rfl rfl ?_|refine ak a6 2 rfl rfl rfl rfl rfl ?_|refine ak a6 3 rfl rfl rfl rfl rfl ?_|refine aD a6 0 rfl rfl rfl rfl rfl ?_|refine aD a6 1 rfl rfl rfl rfl rfl ?_|refine aD a6 2 rfl rfl rfl rfl rfl ?_|refine ak a6 1 rfl rfl rfl (by assumption) rfl ?_|refine ak a6 0 rfl rfl rfl (by assumption) rfl ?_|fail)|fail)
  refine aw rfl (fun hh => ?_) (fun hh => absurd h1 (Gy hh))
  rw [decide_eq_true h1]
  repeat' (first|refine ah ?_|refine a7 ?_|refine au ?_|refine a8 ?_|refine aa ?_|refine ae a6 rfl rfl ?_|(apply bB; first|refine ak a6 0 rfl rfl rfl rfl rfl ?_|refine ak a6 1 rfl rfl rfl rfl rfl ?_|refine ak a6 2 rfl rfl rfl rfl rfl ?_|refine ak a6 3 rfl rfl rfl rfl rfl ?_|refine aD a6 0 rfl rfl rfl rfl rfl ?_|refine aD a6 1 rfl rfl rfl rfl rfl ?_|refine aD a6 2 rfl rfl rfl rfl rfl ?_|refine ak a6 1 rfl rfl rfl (by assumption) rfl ?_|refine ak a6 0 rfl rfl rfl (by assumption) rfl ?_|fail)|(apply aY; first|refine aX a6 ?_|refine aS a6 ?_)|refine bQ rfl ?_)
  refine bt 17 [(0, .v), (1, .v), (2, .v), (3, .v), (4, .l), (5, .v), (6, .v), (7, .v), (8, .v), (9, .l), (10, .v), (11, .v), (12, .v), (13, .v), (14, .v), (15, .v), (16, .v)] none ?_ trivial rfl (by kernel_rfl) (by kernel_rfl) (by kernel_rfl) mixed (by kernel_rfl) rfl
  repeat' (first|refine aE ?_|refine aZ a6 ?_|refine cI a6 0 rfl rfl rfl rfl (by first|trivial|rfl) ?_)
  refine qQ a6 (min h.rule.Out.length y.length) rfl rfl rfl rfl rfl (by rw [hOl, hYl]; omega) (by rw [hOl]; omega) trivial ?_
  repeat' (first|refine aE ?_|refine aZ a6 ?_|fail)
  refine br [1, 2, 6, 37, 38, 39] rfl rfl ?_
  repeat' (first|refine aq ?_|refine a8 ?_|refine aa ?_)
  have hm : ((aU h.rule.Out).take (min h.rule.Out.length y.length)).length = min h.rule.Out.length y.length := by rw [List.length_take, hOl]; omega
  refine aN [1, 2, 6, 37, 38] (α := Nat × Option (Nat × Nat)) (fun x => [(39, aM x.1)]) (fun x => x.1 ≤ min h.rule.Out.length y.length) (fun x => (q, AB.box (bC h.rule ++ [aM h.kind, cF h.ign, AV.imm 1 (bq h.unmet)]) 186) :: rest ++ bJ np nb n x.2 (cS n l ((((h.rule.Out.zip y).take x.1).filter fun x => p x.2).map (·.1)))) (fun x => min h.rule.Out.length y.length - x.1) (0, k) rfl ⟨rfl, trivial⟩ (Nat.zero_le _) (fun _ _ h => h) ?_
  rintro ⟨i, k1⟩ hi
  dsimp only at hi ⊢
  try dsimp only [Gr, Gq, Gp, Gj]
  repeat' (first|refine ah ?_|refine a7 ?_|refine a8 ?_|refine aa ?_|refine ae a6 rfl rfl ?_)
  refine aw rfl (fun e => ?_) (fun e => ?_)
  ·have hil : i < min h.rule.Out.length y.length := by have := Gz e; rw [hm] at this; omega
   obtain ⟨o, ho⟩ : ∃ z, h.rule.Out[i]? = some z := ⟨_, Ds (by omega)⟩
   obtain ⟨z, hz⟩ : ∃ z, y[i]? = some z := ⟨_, Ds (by omega)⟩
   have hog : ((aU h.rule.Out).take (min h.rule.Out.length y.length))[i]? = some [aM o] := by rw [List.getElem?_take, if_pos hil]; exact bN ho
   have hzg := bN hz
   have hzt := px ho hz
   repeat' (first|refine ah ?_|refine a7 ?_|refine aq ?_|refine au ?_|refine a8 ?_|refine aa ?_|refine ae a6 rfl rfl ?_|(apply aY; first|refine aX a6 ?_|refine aS a6 ?_)|fail)
   refine cV ((q, AB.box (bC h.rule ++ [aM h.kind, cF h.ign, AV.imm 1 (bq h.unmet)]) 186) :: rest) _ (hw z) rfl rfl rfl (Gm _) rfl rfl fun c L1 ⟨hc, hL⟩ => ?_
   subst hc; subst hL
   repeat' (first|refine a8 ?_|refine aa ?_)
   refine aw rfl (fun e2 => ?_) (fun e2 => ?_)
   ·repeat' (first|refine a7 ?_|refine ae a6 rfl rfl ?_|refine bz a6 ?_|fail)
    refine b7 (bJ np nb n k1 (cS n l ((((h.rule.Out.zip y).take i).filter fun x => p x.2).map (·.1)))) _ (lr np nb n k1 _ [o] hn (hl.add _)) rfl rfl List.perm_append_comm rfl fun c L1 ⟨k', hL⟩ => ?_
    subst hL
    refine aO (aK List.perm_append_comm) ?_
    repeat' (first|refine a7 ?_|refine a8 ?_|refine aI ?_|refine aa ?_|refine ae a6 rfl rfl ?_|(apply aW; refine aV ?_)|fail)
    refine aC (i + 1, k') rfl ⟨by rw [Gw]; rfl, trivial⟩ (by dsimp only; omega) (by dsimp only; omega) (fun _ _ h => ?_)
    dsimp only
    rw [hzt, List.filter_append, List.map_append, ← eI]
    simpa [e2] using h
   ·repeat' (first|refine a7 ?_|refine au ?_|refine a8 ?_|refine aI ?_|refine aa ?_|refine ae a6 rfl rfl ?_|(apply aW; refine aV ?_)|fail)
    refine aC (i + 1, k1) rfl ⟨by rw [Gw]; rfl, trivial⟩ (by dsimp only; omega) (by dsimp only; omega) (fun _ _ h => ?_)
    dsimp only
    rw [hzt, List.filter_append, List.map_append, ← eI]
    simpa [e2, cS] using h
  ·have hil : i = min h.rule.Out.length y.length := by have := Gy e; rw [hm] at this; omega
   subst hil
   repeat' (first|refine aR ?_|refine av ?_|refine aI ?_|refine aB ?_|refine ay ?_)
   refine dz rfl ⟨k1, ?_⟩
   rw [List.take_of_length_le (by rw [List.length_zip]; exact Nat.le_refl _)]
 by_cases h5 : h.kind = 5
 ·have ht : k8 h p = ((h.rule.Out.zip y).filter fun x => p x.2).map (·.1) := by unfold k8; rw [if_pos (.inr h5), hd]
  rw [ht]
  unfold ey ud at hw ⊢
  dsimp only at hw ⊢
  repeat' (first|refine ah ?_|refine a7 ?_|refine aq ?_|refine a8 ?_|refine aa ?_|refine ae a6 rfl rfl ?_|(apply bB; first|refine ak a6 0 rfl rfl rfl rfl rfl ?_|refine ak a6 1 rfl rfl rfl rfl rfl ?_|refine ak a6 2 rfl rfl rfl rfl rfl ?_|refine ak a6 3 rfl rfl rfl rfl rfl ?_|refine aD a6 0 rfl rfl rfl rfl rfl ?_|refine aD a6 1 rfl rfl rfl rfl rfl ?_|refine aD a6 2 rfl rfl rfl rfl rfl ?_|refine ak a6 1 rfl rfl rfl (by assumption) rfl ?_|refine ak a6 0 rfl rfl rfl (by assumption) rfl ?_|fail)|fail)
  refine aw rfl (fun hh => absurd (Gz hh) h1) (fun _ => ?_)
  repeat' (first|refine a7 ?_|refine a8 ?_|refine aa ?_|refine ae a6 rfl rfl ?_)
  rw [decide_eq_true h5]
  repeat' (first|refine ah ?_|refine a7 ?_|refine a8 ?_|refine aa ?_|refine ae a6 rfl rfl ?_|(apply bB; first|refine ak a6 0 rfl rfl rfl rfl rfl ?_|refine ak a6 1 rfl rfl rfl rfl rfl ?_|refine ak a6 2 rfl rfl rfl rfl rfl ?_|refine ak a6 3 rfl rfl rfl rfl rfl ?_|refine aD a6 0 rfl rfl rfl rfl rfl ?_|refine aD a6 1 rfl rfl rfl rfl rfl ?_|refine aD a6 2 rfl rfl rfl rfl rfl ?_|refine ak a6 1 rfl rfl rfl (by assumption) rfl ?_|refine ak a6 0 rfl rfl rfl (by assumption) rfl ?_|fail)|(apply aY; first|refine aX a6 ?_|refine aS a6 ?_)|refine bQ rfl ?_)
  refine bt 17 [(0, .v), (1, .v), (2, .v), (3, .v), (4, .l), (5, .v), (6, .v), (7, .v), (8, .v), (9, .l), (10, .v), (11, .v), (12, .v), (13, .v), (14, .v), (15, .v), (16, .v)] none ?_ trivial rfl (by kernel_rfl) (by kernel_rfl) (by kernel_rfl) mixed (by kernel_rfl) rfl
  repeat' (first|refine aE ?_|refine aZ a6 ?_|refine cI a6 0 rfl rfl rfl rfl (by first|trivial|rfl) ?_)
  refine qQ a6 (min h.rule.Out.length y.length) rfl rfl rfl rfl rfl (by rw [hOl, hYl]; omega) (by rw [hOl]; omega) trivial ?_
  repeat' (first|refine aE ?_|refine aZ a6 ?_|fail)
  refine br [1, 2, 6, 37, 38, 39] rfl rfl ?_
  repeat' (first|refine aq ?_|refine a8 ?_|refine aa ?_)
  have hm : ((aU h.rule.Out).take (min h.rule.Out.length y.length)).length = min h.rule.Out.length y.length := by rw [List.length_take, hOl]; omega
  refine aN [1, 2, 6, 37, 38] (α := Nat × Option (Nat × Nat)) (fun x => [(39, aM x.1)]) (fun x => x.1 ≤ min h.rule.Out.length y.length) (fun x => (q, AB.box (bC h.rule ++ [aM h.kind, cF h.ign, AV.imm 1 (bq h.unmet)]) 186) :: rest ++ bJ np nb n x.2 (cS n l ((((h.rule.Out.zip y).take x.1).filter fun x => p x.2).map (·.1)))) (fun x => min h.rule.Out.length y.length - x.1) (0, k) rfl ⟨rfl, trivial⟩ (Nat.zero_le _) (fun _ _ h => h) ?_
  rintro ⟨i, k1⟩ hi
  dsimp only at hi ⊢
  try dsimp only [Gr, Gq, Gp, Gj]
  repeat' (first|refine ah ?_|refine a7 ?_|refine a8 ?_|refine aa ?_|refine ae a6 rfl rfl ?_)
  refine aw rfl (fun e => ?_) (fun e => ?_)
  ·have hil : i < min h.rule.Out.length y.length := by have := Gz e; rw [hm] at this; omega
   obtain ⟨o, ho⟩ : ∃ z, h.rule.Out[i]? = some z := ⟨_, Ds (by omega)⟩
   obtain ⟨z, hz⟩ : ∃ z, y[i]? = some z := ⟨_, Ds (by omega)⟩
   have hog : ((aU h.rule.Out).take (min h.rule.Out.length y.length))[i]? = some [aM o] := by rw [List.getElem?_take, if_pos hil]; exact bN ho
   have hzg := bN hz
   have hzt := px ho hz
   repeat' (first|refine ah ?_|refine a7 ?_|refine aq ?_|refine au ?_|refine a8 ?_|refine aa ?_|refine ae a6 rfl rfl ?_|(apply aY; first|refine aX a6 ?_|refine aS a6 ?_)|fail)
   refine cV ((q, AB.box (bC h.rule ++ [aM h.kind, cF h.ign, AV.imm 1 (bq h.unmet)]) 186) :: rest) _ (hw z) rfl rfl rfl (Gm _) rfl rfl fun c L1 ⟨hc, hL⟩ => ?_
   subst hc; subst hL
   repeat' (first|refine a8 ?_|refine aa ?_)
   refine aw rfl (fun e2 => ?_) (fun e2 => ?_)
   ·repeat' (first|refine a7 ?_|refine ae a6 rfl rfl ?_|refine bz a6 ?_|fail)
    refine b7 (bJ np nb n k1 (cS n l ((((h.rule.Out.zip y).take i).filter fun x => p x.2).map (·.1)))) _ (lr np nb n k1 _ [o] hn (hl.add _)) rfl rfl List.perm_append_comm rfl fun c L1 ⟨k', hL⟩ => ?_
    subst hL
    refine aO (aK List.perm_append_comm) ?_
    repeat' (first|refine a7 ?_|refine a8 ?_|refine aI ?_|refine aa ?_|refine ae a6 rfl rfl ?_|(apply aW; refine aV ?_)|fail)
    refine aC (i + 1, k') rfl ⟨by rw [Gw]; rfl, trivial⟩ (by dsimp only; omega) (by dsimp only; omega) (fun _ _ h => ?_)
    dsimp only
    rw [hzt, List.filter_append, List.map_append, ← eI]
    simpa [e2] using h
   ·repeat' (first|refine a7 ?_|refine au ?_|refine a8 ?_|refine aI ?_|refine aa ?_|refine ae a6 rfl rfl ?_|(apply aW; refine aV ?_)|fail)
    refine aC (i + 1, k1) rfl ⟨by rw [Gw]; rfl, trivial⟩ (by dsimp only; omega) (by dsimp only; omega) (fun _ _ h => ?_)
    dsimp only
    rw [hzt, List.filter_append, List.map_append, ← eI]
    simpa [e2, cS] using h
  ·have hil : i = min h.rule.Out.length y.length := by have := Gy e; rw [hm] at this; omega
   subst hil
   repeat' (first|refine aR ?_|refine av ?_|refine aI ?_|refine aB ?_|refine ay ?_)
   refine dz rfl ⟨k1, ?_⟩
   rw [List.take_of_length_le (by rw [List.length_zip]; exact Nat.le_refl _)]
 have ht : k8 h p = if h.kind = 2 then h.rule.Out else if h.kind = 3 then h.rule.Out.take 1 else [] := by unfold k8; rw [if_neg (by omega)]
 rw [ht]
 unfold ey ud
 dsimp only
 repeat' (first|refine ah ?_|refine a7 ?_|refine aq ?_|refine a8 ?_|refine aa ?_|refine ae a6 rfl rfl ?_|(apply bB; first|refine ak a6 0 rfl rfl rfl rfl rfl ?_|refine ak a6 1 rfl rfl rfl rfl rfl ?_|refine ak a6 2 rfl rfl rfl rfl rfl ?_|refine ak a6 3 rfl rfl rfl rfl rfl ?_|refine aD a6 0 rfl rfl rfl rfl rfl ?_|refine aD a6 1 rfl rfl rfl rfl rfl ?_|refine aD a6 2 rfl rfl rfl rfl rfl ?_|refine ak a6 1 rfl rfl rfl (by assumption) rfl ?_|refine ak a6 0 rfl rfl rfl (by assumption) rfl ?_|fail)|fail)
 refine aw rfl (fun h => absurd (Gz h) h1) (fun _ => ?_)
 repeat' (first|refine a7 ?_|refine a8 ?_|refine aa ?_|refine ae a6 rfl rfl ?_)
 rw [decide_eq_false h5]
 repeat' (first|refine ah ?_|refine a7 ?_|refine a8 ?_|refine aa ?_|refine ae a6 rfl rfl ?_|refine bv rfl ?_)
 refine aw rfl (fun e => ?_) (fun e => ?_)
 ·have e' := Gz e
  rw [if_pos e']
  repeat' (first|refine a7 ?_|refine ae a6 rfl rfl ?_|(apply bB; first|refine ak a6 0 rfl rfl rfl rfl rfl ?_|refine ak a6 1 rfl rfl rfl rfl rfl ?_|refine ak a6 2 rfl rfl rfl rfl rfl ?_|refine ak a6 3 rfl rfl rfl rfl rfl ?_|refine aD a6 0 rfl rfl rfl rfl rfl ?_|refine aD a6 1 rfl rfl rfl rfl rfl ?_|refine aD a6 2 rfl rfl rfl rfl rfl ?_|refine ak a6 1 rfl rfl rfl (by assumption) rfl ?_|refine ak a6 0 rfl rfl rfl (by assumption) rfl ?_|fail)|fail)
  refine b7 (bJ np nb n k l) _ (lr np nb n k l h.rule.Out hn hl) rfl rfl List.perm_append_comm rfl fun c L1 ⟨k', hL⟩ => ?_
  subst hL
  refine aO (aK List.perm_append_comm) ?_
  repeat' (first|refine aI ?_|refine aa ?_)
  exact dz rfl ⟨k', rfl⟩
 have e2 := Gy e
 rw [if_neg e2]
 repeat' (first|refine ah ?_|refine a7 ?_|refine a8 ?_|refine aa ?_|refine ae a6 rfl rfl ?_)
 refine aw rfl (fun e => ?_) (fun e => ?_)
 ·have e' := Gz e
  rw [if_pos e']
  repeat' (first|fail)
  refine bt 15 [(0, .v), (1, .v), (2, .v), (3, .v), (4, .v), (5, .l), (6, .v), (7, .v), (8, .v), (9, .v), (10, .l), (11, .v), (12, .v), (13, .v), (14, .e)] none ?_ trivial rfl (by kernel_rfl) (by kernel_rfl) (by kernel_rfl) mixed (by kernel_rfl) rfl
  repeat' (first|refine aE ?_|refine aZ a6 ?_|refine cI a6 0 rfl rfl rfl rfl (by first|trivial|rfl) ?_)
  refine qQ a6 (min h.rule.Out.length 1) rfl rfl rfl rfl rfl (by rw [hOl]; omega) (by rw [hOl]; omega) trivial ?_
  repeat' (first|refine aE ?_|fail)
  refine eT (bJ np nb n k l) _ (lr np nb n k l (h.rule.Out.take 1) hn hl) rfl (by rw [show (aU h.rule.Out).take (min h.rule.Out.length 1) = aU (h.rule.Out.take 1) from uf _]; rfl) List.perm_append_comm trivial fun c L1 ⟨k', hL⟩ => ?_
  subst hL
  repeat' (first|fail)
  refine br [] rfl rfl ?_
  repeat' (first|refine aI ?_|refine aa ?_)
  exact ba (aK List.perm_append_comm) (dz rfl ⟨k', rfl⟩)
 ·have e' := Gy e
  rw [if_neg e']
  repeat' (first|refine au ?_|refine aI ?_)
  exact dz rfl ⟨k, rfl⟩
end Go.Proofs.YtjjpkibjffmceaaGreat
namespace Go.Proofs.YtjjpkibjffmceaaGreat
open Go.RowKit
section
variable {P : Program} {tt : TT} {r : Option Nat} {ops : Array Oper} {Q : Exit → Act → World → Prop} {nt : Nat} {D : List Deferred} {fr : ca} {B : Bs} {L : AL} {rest : List Oper} {d : Nat} {ty t t' : TypeId} {pos : String} {af : Array Edge} {g : Option (Nat × Bool)} {x y z : Operand} {u : AV}
theorem Cd (ok : eW P tt) {dd : Option Tmp} {n e : Nat} {k : IntKind} {i : Nat} {a : Int} {cs : List AV} (ht : vN tt t = some (n, e, 1)) (he : Da tt e = true) (hx : bH fr x = some (.agg cs)) (hy : bH fr y = some (.sc (.int k a))) (ha : a = (i : Int)) (h0 : i < n) (hu : cs[i]? = some u) : Av P ⟨dd, .index t x y, ty, pos, af, g⟩ fr u := by
 intro σ ρ w hρ _
 subst ha
 obtain ⟨h1, h2⟩ := mt ok ht
 have hc := cU ok he
 have hyv := (hρ y _ hy).sc_inv
 obtain ⟨vs, hv, hs, _⟩ := (hρ x _ hx).agg_inv
 obtain ⟨v, g1, g2⟩ := hs.get hu
 have hso : (sizeOf e : Sem Nat).run P w = .ok 1 w := by
  cases hi : P.info? e with
  | none => rw [hi] at h2; cases h2
  | some i => rw [hi] at h2; simp at h2; simp [sizeOf, typeInfo, hi, h2]
 refine ⟨v, ?_, g2⟩
 have h3 : (i : Int) < n := by omega
 simp [execOp, hv, hyv, Instr.index, asIntOf, run_underlying h1, h3, hso, part, hc.agg w, g1]
 intro hle
 omega
theorem CW (ok : eW P tt) (i : Nat) {n e : Nat} {k : IntKind} {a : Int} {cs : List AV} (ht : vN tt t = some (n, e, 1)) (he : Da tt e = true) (hx : bH fr x = some (.agg cs)) (hy : bH fr y = some (.sc (.int k a))) (ha : a = (i : Int)) (h0 : i < n) (hu : cs[i]? = some u) (hd : Nat.ble nt d = false) (h : bT P r ops Q nt D rest ((d, u) :: fr) B L) : bT P r ops Q nt D (⟨some d, .index t x y, ty, pos, af, none⟩ :: rest) fr B L := dy (Cd ok ht he hx hy ha h0 hu) hd rfl h
end
end Go.Proofs.YtjjpkibjffmceaaGreat
namespace Go.Proofs.YtjjpkibjffmceaaGreat
structure MS where
 a : Nat
 lo : Fin 3
abbrev DM (α : Type) := MS → α × MS
section
variable {α β : Type}
def cA (x : α) : DM α := fun m => (x, m)
def c9 (g : DM α) (k : α → DM β) : DM β := fun m => k (g m).1 (g m).2
def gz (g : Nat → β → DM β) (b : β) : Nat → DM β
 | 0 => cA b
 | k + 1 => c9 (gz g b k) (g k)
end
def qU (s : List Int) (a : Nat) (n : Int) : Int := match s[a]? with
 | some x => x % n
 | none => 0
def dr (s : List Int) (n : Int) : DM Int := fun m => (qU s m.a n, { m with a := m.a + 1 })
def E6 : DM Unit := fun m => ((), { m with lo := ⟨m.lo.val - 1, Nat.lt_of_le_of_lt (Nat.sub_le ..) m.lo.isLt⟩ })
def gu (z : Fin 3) : DM Unit := fun m => ((), { m with lo := z })
def oJ : DM Int := fun m => ((m.lo.val : Int), m)
section
variable (s : List Int)
def C2 (p : Nat) : DM ei := c9 (dr s 21) fun x => c9 (dr s 21) fun y => if p = 0 then cA ⟨x * 50 - 100, y * 50 - 200, true⟩ else c9 (dr s 4) fun z => cA ⟨x * 50 - 100, y * 50 - 200, decide (0 < z)⟩
def mO (l : List ei) (k : Nat) : DM (List ei) := gz (fun p l => c9 (C2 s p) fun t => cA (l ++ [t])) l k
def gK (n : Nat) : DM (List ei × List Int) := gz (fun _ o => c9 (dr s 4) fun k => c9 (mO s o.1 (2 + k).toNat) fun l => cA (l, o.2 ++ [(l.length : Int) - 1])) ([], []) n
def iQ : DM (List ei × List Int) := c9 (dr s 3) fun n => gK s n.toNat
def gh (q : Int) : DM (List eb) := cA [⟨39, 0⟩, ⟨1, 16⟩, ⟨17, 0⟩, ⟨36, 2⟩, ⟨1, q⟩, ⟨2, 0⟩]
def cG (n funcs : Int) : DM (List eb) := c9 (dr s (n + 1)) fun p => c9 (dr s (n + 1)) fun q => c9 (dr s 2) fun a => c9 (dr s 12) fun k =>
 if k = 0 then cA [⟨22, a⟩, ⟨23, a⟩]
 else if k = 1 then c9 (dr s 6) fun z => cA [⟨24, z⟩]
 else if k = 2 ∨ k = 3 then cA [⟨1, p⟩, ⟨1, p⟩, ⟨29, 0⟩, ⟨15, 0⟩, ⟨32, 0⟩]
 else if k = 4 then c9 (dr s 200) fun z => cA [⟨1, p⟩, ⟨1, z - 100⟩, ⟨31, 0⟩]
 else if k = 5 then cA [⟨1, p⟩, ⟨1, q⟩, ⟨33, 0⟩]
 else if k = 6 then cA [⟨34, a⟩]
 else if k = 7 then cA [⟨1, a⟩, ⟨1, q⟩, ⟨25, 0⟩, ⟨1, 3⟩, ⟨5, 0⟩, ⟨26, 0⟩]
 else if k = 8 then (if 0 < funcs then c9 (dr s funcs) fun z => cA [⟨37, z⟩] else gh q)
 else if k = 9 then (if 0 < funcs then c9 oJ fun lo => if 0 < lo then c9 E6 fun _ => c9 (dr s 5) fun y => c9 (dr s funcs) fun z => cA [⟨1, y⟩, ⟨38, z⟩] else gh q else gh q)
 else if k = 10 then cA [⟨1, p⟩, ⟨30, 0⟩, ⟨1, q⟩, ⟨29, 0⟩, ⟨16, 0⟩, ⟨36, 3⟩, ⟨1, q⟩, ⟨1, 64⟩, ⟨31, 0⟩]
 else gh q
def fh (n funcs : Int) (k : Nat) : DM (List eb) := gz (fun _ l => c9 (cG s n funcs) fun p => cA (l ++ p)) [] k
def lL (n funcs most : Int) : DM (List eb) := c9 (dr s most) fun k => fh s n funcs k.toNat
def f8 (a : Int) (k : Nat) : DM (List Int) := gz (fun j l => if l.length < 4 then c9 (dr s 3) fun z => cA (if z = 0 then l ++ [a + 1 + j] else l) else cA l) [a] k
def m9 (n : Int) : DM (List Int) := c9 (dr s n) fun a => f8 s a (n - (a + 1)).toNat
def gL (n : Int) (k : Nat) : DM (List (List Int)) := gz (fun _ l => c9 (m9 s n) fun x => cA (l ++ [x])) [] k
def nH (n most : Int) : DM (List (List Int)) := c9 (dr s (most + 1)) fun k => gL s n k.toNat
def fD (n : Int) (k : Nat) : DM (List Int) := gz (fun _ l => c9 (dr s n) fun x => cA (l ++ [x])) [] k
def eZ (n : Int) (calls : List Int) (k : Nat) : DM (List fF) := gz (fun _ l => c9 (dr s n) fun a => c9 (dr s calls.length) fun z => cA (l ++ [⟨a, calls.getD z.toNat 0⟩])) [] k
def BZ (n : Int) (a : List Int) : DM bV := c9 (m9 s n) fun b => c9 (dr s 41) fun x => cA ⟨[], [a, b], [], [], [], x * 10 - 200⟩
def iB (n : Int) : DM (List (List Int) × List (List Int)) := c9 (dr s 2) fun z => if z = 0 then c9 (nH s n 2) fun b => c9 (nH s n 2) fun c => cA (b, c) else cA ([], [])
def fW (n kind : Int) (calls : List Int) : DM bV := c9 (m9 s n) fun a => if kind = 6 then BZ s n a else c9 (iB s n) fun e =>
 if kind = 1 ∨ kind = 5 then c9 (fD s n a.length) fun o => cA ⟨e.1, [a], e.2, o, [], 0⟩
 else if kind = 2 then c9 (dr s 4) fun k => c9 (fD s n k.toNat) fun o => cA ⟨e.1, [a], e.2, o, [], 0⟩
 else if kind = 3 then c9 (nH s n 2) fun m => c9 (dr s n) fun o => cA ⟨e.1, a :: m, e.2, [o], [], 0⟩
 else c9 (nH s n 2) fun m => c9 (dr s 3) fun k => c9 (eZ s (a :: m).length calls (if calls.length = 0 then 0 else k.toNat)) fun c => cA ⟨e.1, a :: m, e.2, [], c, 0⟩
def fj : List Int := [1, 2, 3, 4, 4, 5, 6, 7, 8, 1]
def ep (k : Nat) : DM (List b9 × List Int) := gz (fun i o => c9 (dr s 10) fun z => c9 (dr s 3) fun y => cA (o.1 ++ [⟨fj.getD z.toNat 0, decide (y = 0), []⟩], if fj.getD z.toNat 0 ≤ 4 then o.2 ++ [(i : Int)] else o.2)) ([], []) k
def eQ (n kind : Int) (calls : List Int) (k : Nat) : DM (List bV) := gz (fun _ l => c9 (fW s n kind calls) fun r => cA (l ++ [r])) [] k
def f5 (n : Int) (calls : List Int) (l : List b9) (k : Nat) : DM (List b9) := gz (fun i l => match l[i]? with
 | none => cA l
 | some q => if q.Kind ≥ 7 then cA l else c9 (dr s 3) fun k => c9 (eQ s n q.Kind calls (1 + k).toNat) fun rs => cA (l.set i { q with Rules := rs })) l k
def i8 (n : Int) : DM (List b9) := c9 (dr s 7) fun k => c9 (ep s k.toNat) fun o => f5 s n o.2 o.1 k.toNat
def bytes (l : List UInt8) : ByteArray := ⟨l.toArray⟩
def i7 (p : List UInt8) (n : Nat) : ByteArray := bytes (p ++ [(97 + n).toUInt8])
def F7 : List UInt8 := [103]
def qM : List UInt8 := [97, 120]
def yW : ByteArray := bytes [46, 110, 111, 116, 100, 101, 102]
def cE (n : Nat) : ByteArray := if n = 0 then yW else i7 F7 n
def ie (n : Nat) : DM (List cB) := if 1 < n then c9 (dr s 4) fun z => if z = 0 then c9 (dr s 9) fun x => c9 (dr s 5) fun y => cA [⟨1, x * 50 - 200, y * 50⟩] else cA [] else cA []
def eS (cl : Int) : List (Int × Int) := [(1, 0), (1, 1), (3, 0), (4, 0), (2, cl)]
def eJ (mark : Bool) (cl : Int) (k : Nat) : DM (List dt) := gz (fun i l => c9 (dr s 3) fun z => if z = 0 ∧ (((eS cl).getD i (0, 0)).1 ≠ 2 ∨ mark = true) then c9 (dr s 21) fun x => c9 (dr s 21) fun y => cA (l ++ [⟨((eS cl).getD i (0, 0)).1, ((eS cl).getD i (0, 0)).2, x * 50, y * 50 - 200⟩]) else cA l) [] k
def gE (r : Nat) (l : List dB) (k : Nat) : DM (List dB) := gz (fun p l => c9 (dr s 3) fun z => if z = 0 then c9 (dr s 41) fun x => if p = 0 then cA (l ++ [⟨r, -1, x - 20, 0⟩]) else c9 (dr s 41) fun y => cA (l ++ [⟨r, (p : Int) - 1, x - 20, y - 20⟩]) else cA l) l k
def fK (pts : Nat) (R : Nat) : DM (List dB) := gz (fun r l => gE s r l (pts + 1)) [] R
def jj (R fn n : Nat) : DM bf := c9 (dr s 19) fun ad => c9 (dr s 4) fun mk => c9 (iQ s) fun o => c9 (ie s n) fun ps => c9 (dr s 2) fun cl => c9 (eJ s (decide (mk = 0) && decide (n ≠ 0)) cl 5) fun an => c9 (fK s o.1.length R) fun de => c9 (gu 2) fun _ => c9 (lL s o.1.length fn 6) fun h => cA ⟨cE n, 100 + ad * 50, decide (mk = 0) && decide (n ≠ 0), o.1, o.2, ps, an, de, h⟩
def fL (R fn k : Nat) : DM (List bf) := gz (fun i l => c9 (jj s R fn i) fun g => cA (l ++ [g])) [] k
def jE (k : Nat) : DM (List dY) := gz (fun i l => c9 (dr s 3) fun a => c9 (dr s 4) fun b => cA (l ++ [⟨i7 qM i, 0 - a * 100, 0, b * 100⟩])) [] k
def jq : List dS := [⟨0, 64, 64⟩, ⟨0, 32, 64⟩, ⟨-64, -64, 0⟩, ⟨-1, 0, 5⟩, ⟨10, 32, 50⟩]
def gG (k : Nat) : DM (List dS) := gz (fun _ l => c9 (dr s 5) fun z => cA (l ++ [jq.getD z.toNat ⟨0, 0, 0⟩])) [] k
def jy (axes k : Nat) : DM (List (List dS)) := gz (fun _ l => c9 (gG s axes) fun r => cA (l ++ [r])) [] k
def fm (axes : Nat) : DM (List (List dS)) := if axes = 0 then cA [] else c9 (dr s 4) fun n => jy s axes n.toNat
def i4 (k : Nat) : DM (List (List eb)) := gz (fun i l => c9 (gu 0) fun _ => c9 (lL s 6 i 4) fun h => cA (l ++ [h])) [] k
def oo (k : Nat) : DM (List Int) := gz (fun _ l => c9 (dr s 500) fun z => cA (l ++ [z - 100])) [] k
def eR : List Int := [97, 98, 99, 102, 105, 108, 57345, 57346, 57601, 57602, 57603, 57857, 57861, 58113, 58114, 58369]
def gC (n : Int) (k : Nat) : DM (List dO) := gz (fun i l => c9 (dr s 4) fun z => if 0 < z then c9 (dr s n) fun g => cA (l ++ [⟨eR.getD i 0, g⟩]) else cA l) [] k
def dW : List ByteArray := [bytes [108, 105, 103, 97], bytes [105, 115, 111, 108], bytes [105, 110, 105, 116], bytes [109, 101, 100, 105], bytes [102, 105, 110, 97], bytes [107, 101, 114, 110], bytes [109, 97, 114, 107], bytes [99, 97, 108, 116]]
def mv (k : Nat) : DM (List Int) := gz (fun i l => c9 (dr s 3) fun z => cA (if z = 0 then l ++ [(i : Int)] else l)) [] k
def gF (n : Nat) (k : Nat) : DM (List bL) := gz (fun i l => c9 (mv s n) fun r => c9 (dr s 2) fun z => cA (if z = 0 then l ++ [⟨dW.getD i ByteArray.empty, r⟩] else l)) [] k
def lj : List Int := [1000, 1024, 100, 2048]
def yE : DM aJ := c9 (dr s 4) fun u => c9 (dr s 3) fun k => c9 (jE s k.toNat) fun ax => c9 (fm s k.toNat) fun rg => c9 (dr s 3) fun k2 => c9 (i4 s k2.toNat) fun fu => c9 (dr s 4) fun k3 => c9 (oo s k3.toNat) fun cv => c9 (dr s 9) fun k4 => c9 (fL s rg.length fu.length (2 + k4).toNat) fun gl => c9 (gC s gl.length 16) fun ch => c9 (i8 s gl.length) fun lk => c9 (gF s lk.length 8) fun ft => cA ⟨lj.getD u.toNat 0, gl, ch, lk, ft, ax, rg, fu, cv⟩
def lQ : aJ := (yE s ⟨0, 0⟩).1
def fX : List Int := eR ++ [122]
def Ev : List Int := (s.take 20).map fun z => fX.getD (z % 17).toNat 0
end
end Go.Proofs.YtjjpkibjffmceaaGreat
namespace Go.Proofs.YtjjpkibjffmceaaGreat
open Go.RowKit
attribute [local irreducible] AT bT AX AO Av Kt bk ej DA cX
structure MF where
 u : AV
 gl : AV
 ch : AV
 lk : AV
 ft : AV
 ax : AV
 rg : AV
 fu : AV
 cv : AV
def Ee (s : List Int) (F : MF) (m : MS) : List AV := [.imm 1 (aU s), aM (min m.a s.length : Nat), F.u, F.gl, F.ch, F.lk, F.ft, F.ax, F.rg, F.fu, F.cv, aM (m.lo.val : Nat)]
abbrev dV (b : Nat) (s : List Int) (F : MF) (m : MS) : Nat × AB := (b, .box (Ee s F m) 153)
def pz (f : FuncId) (args : List AV) (s : List Int) (F : MF) {α : Type} (u : DM α) (out : α → AV) : Prop := ∀ (b : Nat) (m : MS), AC Tryz.prog f (fp b :: args) [dV b s F m] fun c L => c = out (u m).1 ∧ L = [dV b s F (u m).2]
theorem Bj {x n : Int} (hn : 0 < n) : (x.tmod n + n).tmod n = x % n := by
 have h0 := Int.lt_tmod_of_pos x hn
 rw [Int.tmod_eq_emod_of_nonneg (by omega), Int.add_emod_right]
 have h2 : (x.tmod n) % n = (x - n * x.tdiv n) % n := by rw [Int.tmod_def]
 rw [h2, Int.sub_mul_emod_self_left]
set_option maxHeartbeats 1000000 in
theorem mK (s : List Int) (hs : s.length ≤ 1000000) (F : MF) (n : Int) (hn : 0 < n ∧ n ≤ 1000000) : pz 63 [aM n] s F (dr s n) aM := by
 intro b m
 refine aP Tryz.func63 rfl Tryz.ntmps63 rfl fun B => ?_
 have hil := aQ s
 unfold dV
 repeat' (first|refine ah ?_|refine a7 ?_|refine a8 ?_|refine aa ?_|refine ae a6 rfl rfl ?_)
 refine bt 9 [(0, .v), (1, .v), (2, .v), (3, .l), (4, .v), (5, .v), (6, .v), (7, .l), (8, .v)] none ?_ trivial rfl (by kernel_rfl) (by kernel_rfl) (by kernel_rfl) mixed (by kernel_rfl) rfl
 repeat' (first|refine aE ?_|refine aZ a6 ?_|refine cI a6 0 rfl rfl rfl rfl (by first|trivial|rfl) ?_)
 refine br [0, 1, 9, 14] rfl rfl ?_
 repeat' (first|refine a8 ?_|refine aa ?_|refine ae a6 rfl rfl ?_)
 refine aw rfl (fun h => ?_) (fun h => ?_)
 ·have h1 : s.length ≤ min m.a s.length := by have := Gz h; rw [hil] at this; omega
  repeat' (first|refine ah ?_|refine a7 ?_|refine ar ?_|refine a8 ?_|refine aF ?_|refine aa ?_|refine ae a6 rfl rfl ?_)
  refine aA rfl rfl ⟨?_, ?_⟩
  ·unfold dr qU
   rw [List.getElem?_eq_none (show s.length ≤ m.a by omega)]
  ·unfold dr Ee
   rw [show min m.a s.length = min (m.a + 1) s.length by omega]
 have h1 : m.a < s.length := by have := Gy h; rw [hil] at this; omega
 have h2 : min m.a s.length = m.a := by omega
 obtain ⟨x, hx⟩ : ∃ x, s[m.a]? = some x := ⟨_, Ds h1⟩
 have hxg := bN hx
 unfold Ee
 rw [h2]
 repeat' (first|refine ah ?_|refine au ?_|refine a8 ?_)
 refine bt 8 [(0, .v), (1, .v), (2, .v), (3, .l), (4, .v), (5, .v), (6, .v), (7, .l)] none ?_ trivial rfl (by kernel_rfl) (by kernel_rfl) (by kernel_rfl) mixed (by kernel_rfl) rfl
 repeat' (first|refine aE ?_|refine aZ a6 ?_|refine cI a6 0 rfl rfl rfl rfl (by first|trivial|rfl) ?_)
 refine br [0, 1, 19, 23] rfl rfl ?_
 repeat' (first|refine ah ?_|refine a7 ?_|refine a8 ?_|refine aa ?_|refine ae a6 rfl rfl ?_|(apply bB; first|refine ak a6 0 rfl rfl rfl rfl rfl ?_|refine ak a6 1 rfl rfl rfl rfl rfl ?_|refine ak a6 2 rfl rfl rfl rfl rfl ?_|refine ak a6 3 rfl rfl rfl rfl rfl ?_|refine aD a6 0 rfl rfl rfl rfl rfl ?_|refine aD a6 1 rfl rfl rfl rfl rfl ?_|refine aD a6 2 rfl rfl rfl rfl rfl ?_|refine ak a6 1 rfl rfl rfl (by assumption) rfl ?_|refine ak a6 0 rfl rfl rfl (by assumption) rfl ?_|fail)|(apply aW; refine aV ?_)|(apply aY; first|refine aX a6 ?_|refine aS a6 ?_)|(apply aH; first|refine aj a6 0 rfl rfl rfl rfl rfl rfl rfl ?_|refine aj a6 1 rfl rfl rfl rfl rfl rfl rfl ?_|refine aj a6 2 rfl rfl rfl rfl rfl rfl rfl ?_|refine aj a6 3 rfl rfl rfl rfl rfl rfl rfl ?_|fail))
 refine yS ?_
 repeat' (first|refine ae a6 rfl rfl ?_)
 have hb := Int.lt_tmod_of_pos x hn.1
 have hb2 := Int.tmod_lt_of_pos x hn.1
 refine aV ?_
 repeat' (first|refine ae a6 rfl rfl ?_)
 refine yS ?_
 repeat' (first|refine ar ?_|refine a8 ?_|refine aa ?_|refine ae a6 rfl rfl ?_)
 refine aA rfl rfl ⟨?_, ?_⟩
 ·unfold dr qU
  rw [hx, Bj hn.1]
 ·unfold dr
  dsimp only
  rw [show min (m.a + 1) s.length = m.a + 1 by omega]
  rfl
section
variable {r : Option Nat} {ops : Array Oper} {Q : Exit → Act → World → Prop} {nt : Nat} {D : List Deferred} {fr : ca} {B : Bs} {rest : List Oper} {d : Nat} {ty : TypeId} {pos : String} {af : Array Edge} {s : List Int} {F : MF} {b : Nat} {m : MS} {Z : AL} {args : Array Operand} {ts : Array TypeId}
theorem sG {f : FuncId} [bD Tryz.prog f] {α : Type} {u : DM α} {out : α → AV} {az ds : List AV} (hc : pz f az s F u out) (h : bT Tryz.prog r ops Q nt D rest ((d, out (u m).1) :: fr) B (dV b s F (u m).2 :: Z)) (hv : ek fr args.toList = some ds := by rfl) (hi : jP ds = some (fp b :: az) := by rfl) (hd : Nat.ble nt d = false := by rfl) : bT Tryz.prog r ops Q nt D (⟨some d, .call ⟨.value (.func f), args, ts⟩, ty, pos, af, none⟩ :: rest) fr B (dV b s F m :: Z) :=
 b7 [dV b s F m] Z (hc b m) hv hi (Gm _) hd fun c L1 ⟨h1, h2⟩ => by subst h1; subst h2; exact h
theorem cD {n : Int} (h : bT Tryz.prog r ops Q nt D rest ((d, aM (dr s n m).1) :: fr) B (dV b s F (dr s n m).2 :: Z)) (hv : ek fr args.toList = some [fp b, aM n] := by rfl) (hs : s.length ≤ 1000000 := by assumption) (hn : 0 < n ∧ n ≤ 1000000 := by omega) (hd : Nat.ble nt d = false := by rfl) : bT Tryz.prog r ops Q nt D (⟨some d, .call ⟨.value (.func 63), args, ts⟩, ty, pos, af, none⟩ :: rest) fr B (dV b s F m :: Z) :=
 sG (mK s hs F n hn) h hv rfl hd
end
section
variable {l : List Oper} {fr : ca} {fin : jz} {sk : lm} {acc : ca} {k : Nat} {dd : Option Tmp} {ty : TypeId} {pos : String} {af : Array Edge} {g : Option (Nat × Bool)} {s : List Int} {F : MF} {b : Nat} {m : MS} {Z : AL} {args : Array Operand} {ts : Array TypeId}
theorem bW {L : AL} : eh [] L := fun q hq => by cases hq
theorem bM {q : Nat × Nat × AV} {gs : KpL} {L : AL} (i : Nat) {cs : List AV} {e : TypeId} (hL : L[i]? = some (q.1, .box cs e)) (hc : cs[q.2.1]? = some q.2.2) (h : eh gs L) : eh (.cell q :: gs) L := fun p hp => by
 rcases List.mem_cons.1 hp with rfl | hp
 ·exact show ∃ cs e, (q.1, AB.box cs e) ∈ L ∧ cs[q.2.1]? = some q.2.2 from ⟨cs, e, Gx hL, hc⟩
 ·exact h p hp
theorem EN {f : FuncId} [bD Tryz.prog f] {α : Type} {u : DM α} {out : α → AV} {az ds : List AV} (hc : pz f az s F u out) (h : DA Tryz.prog l fr fin sk ((k, out (u m).1) :: acc) (dV b s F (u m).2 :: Z)) (hv : ek (cM l.toArray acc fr af.toList) args.toList = some ds := by rfl) (hi : jP ds = some (fp b :: az) := by rfl) (hg : iC ⟨dd, .call ⟨.value (.func f), args, ts⟩, ty, pos, af, g⟩ acc := by first | trivial | rfl) : cX Tryz.prog l fr fin k .e ⟨dd, .call ⟨.value (.func f), args, ts⟩, ty, pos, af, g⟩ sk acc (dV b s F m :: Z) :=
 eT [dV b s F m] Z (hc b m) hv hi (Gm _) hg fun c L1 ⟨h1, h2⟩ => by subst h1; subst h2; exact h
theorem pY {f : FuncId} [bD Tryz.prog f] {α : Type} {u : DM α} {out : α → AV} {az ds : List AV} (hc : pz f az s F u out) (hK : eh fin.gs (dV b s F (u m).2 :: Z)) (h : DA Tryz.prog l fr fin sk ((k, out (u m).1) :: acc) (dV b s F (u m).2 :: Z)) (hv : ek (cM l.toArray acc fr af.toList) args.toList = some ds := by rfl) (hi : jP ds = some (fp b :: az) := by rfl) (hg : iC ⟨dd, .call ⟨.value (.func f), args, ts⟩, ty, pos, af, g⟩ acc := by first | trivial | rfl) : cX Tryz.prog l fr fin k .f ⟨dd, .call ⟨.value (.func f), args, ts⟩, ty, pos, af, g⟩ sk acc (dV b s F m :: Z) :=
 v7 [dV b s F m] Z (hc b m) hv hi (Gm _) hg (fun c L1 ⟨_, h2⟩ _ => by subst h2; exact hK) fun c L1 ⟨h1, h2⟩ => by subst h1; subst h2; exact h
theorem qR {n : Int} (h : DA Tryz.prog l fr fin sk ((k, aM (dr s n m).1) :: acc) (dV b s F (dr s n m).2 :: Z)) (hv : ek (cM l.toArray acc fr af.toList) args.toList = some [fp b, aM n] := by rfl) (hs : s.length ≤ 1000000 := by assumption) (hn : 0 < n ∧ n ≤ 1000000 := by omega) (hg : iC ⟨dd, .call ⟨.value (.func 63), args, ts⟩, ty, pos, af, g⟩ acc := by first | trivial | rfl) : cX Tryz.prog l fr fin k .e ⟨dd, .call ⟨.value (.func 63), args, ts⟩, ty, pos, af, g⟩ sk acc (dV b s F m :: Z) :=
 EN (mK s hs F n hn) h hv rfl hg
theorem eD {n : Int} (hK : eh fin.gs (dV b s F (dr s n m).2 :: Z)) (h : DA Tryz.prog l fr fin sk ((k, aM (dr s n m).1) :: acc) (dV b s F (dr s n m).2 :: Z)) (hv : ek (cM l.toArray acc fr af.toList) args.toList = some [fp b, aM n] := by rfl) (hs : s.length ≤ 1000000 := by assumption) (hn : 0 < n ∧ n ≤ 1000000 := by omega) (hg : iC ⟨dd, .call ⟨.value (.func 63), args, ts⟩, ty, pos, af, g⟩ acc := by first | trivial | rfl) : cX Tryz.prog l fr fin k .f ⟨dd, .call ⟨.value (.func 63), args, ts⟩, ty, pos, af, g⟩ sk acc (dV b s F m :: Z) :=
 pY (mK s hs F n hn) hK h hv rfl hg
end
end Go.Proofs.YtjjpkibjffmceaaGreat
