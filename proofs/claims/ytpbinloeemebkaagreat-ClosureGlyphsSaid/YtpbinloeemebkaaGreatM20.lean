/-
  The document's answer: what comes of a rule.
-/
import Derived.Test.YtpbinloeemebkaaGreatM19
namespace Go.Proofs.YtpbinloeemebkaaGreat
open Go.RowKit
attribute [local irreducible] AT bN AX AO Av Kt bi dE DA d6
def lr (r : bJ) (G : List Int) : Bool := !r.In.isEmpty && mq r.In G && mq r.Back G && mq r.Ahead G
def fj (kind : Int) (r : bJ) (G : List Int) : List Int := if lr r G = true then eu ⟨r, kind, false, []⟩ (fun z => G.contains z) else []
set_option maxHeartbeats 4000000 in
theorem tY (kind : Int) (r : bJ) (G : List Int) (hout : r.Out.length ≤ 1000000) : bo Tryz.prog 61 [aQ kind, .agg (ca r), .imm 1 (aV G)] (.imm 1 (aV (fj kind r G))) := by
 refine aU Tryz.func61 rfl Tryz.ntmps61 rfl fun B => ?_
 have hOl := aM r.Out
 have hIl := cq r.In
 haveI a1 : AD Tryz.prog 120 [.imm 1 (c7 r.In), .imm 1 (aV G)] (c8 (mq r.In G)) := ⟨sV _ _⟩
 (repeat' (first|refine ah ?_|refine a6 ?_|refine a8 ?_|refine aa ?_|refine ae a7 rfl rfl ?_|refine b6 ?_|refine nF (n := 0) a7 fun _=>?_|fail))
 rename_i kb
 refine bv (t := 34) [0, 2, 4, 7] (lr r G = false) rfl (fun Q' K => ?_) ?_
 ·(repeat' (first|refine aa ?_|refine ae a7 rfl rfl ?_|refine aw rfl rfl ?_|refine aD rfl rfl rfl rfl ?_|(apply ba;refine aY ?_)|refine aS rfl rfl rfl (fun _ => ?_) (fun _ => ?_)|fail))
  all_goals exact K _ _ rfl rfl (by clear K; unfold lr; simp_all)
 (repeat' (first|refine a8 ?_|fail))
 refine av rfl (fun h => ?_) (fun h => ?_)
 ·unfold fj
  rw [if_neg (by simp_all)]
  (repeat' (first|refine ah ?_|refine a6 ?_|refine au ?_|refine a8 ?_|refine ar ?_|refine aa ?_|refine ae a7 rfl rfl ?_|fail))
  exact bU (cw (t := 6) (c' := .imm 1 []) rfl fun σ v h => VR.im h) (aB rfl rfl rfl)
 have hB : lr r G = true := by simpa using h
 have hin : r.In ≠ [] := by
  intro e
  unfold lr at hB
  rw [e] at hB
  cases hB
 unfold fj
 rw [if_pos hB]
 clear h
 obtain ⟨y, hy⟩ : ∃ y, r.In[0]? = some y := ⟨_, List.getElem?_eq_getElem (List.length_pos_iff.2 hin)⟩
 have hyg := fq hy
 have hd : r.In.headD [] = y := by
  cases hI : r.In with
  | nil => exact absurd hI hin
  | cons y' q => rw [hI] at hy; simpa using hy
 have hYl := aM y
 (repeat' (first|refine ah ?_|refine a6 ?_|refine am ?_|refine ak ?_|refine a8 ?_|refine aa ?_|refine ae a7 rfl rfl ?_|fail))
 by_cases h1 : kind = 1
 ·have ht : eu ⟨r, kind, false, []⟩ (fun z => G.contains z) = ((r.Out.zip y).filter fun x => G.contains x.2).map (·.1) := by unfold eu; rw [if_pos (.inl h1), hd]
  rw [ht]
  refine av rfl (fun hh => ?_) (fun hh => absurd h1 (of_decide_eq_false hh))
  rw [decide_eq_true h1]
  (repeat' (first|refine ah ?_|refine a6 ?_|refine am ?_|refine ak ?_|refine a8 ?_|refine aa ?_|refine ae a7 rfl rfl ?_|refine bI rfl ?_|fail))
  refine aL [2, 4] (α := Nat × Option (Nat × Nat)) (fun x => [(8, aQ x.1), (7, .vec x.2 1 (aV ((((r.Out.zip y).take x.1).filter fun x => G.contains x.2).map (·.1))))]) (fun x => x.1 ≤ min r.Out.length y.length) (fun x => tok x.2 3 1 (aV ((((r.Out.zip y).take x.1).filter fun x => G.contains x.2).map (·.1))).length) (fun x => min r.Out.length y.length - x.1) (0, some (kb, 0)) rfl ⟨rfl, rfl, trivial⟩ (Nat.zero_le _) (fun _ _ h => h) ?_
  rintro ⟨i, q⟩ hi
  dsimp only at hi ⊢
  have hsl : (aV ((((r.Out.zip y).take i).filter fun x => G.contains x.2).map (·.1))).length ≤ 1000000 := by
   rw [aM, List.length_map]
   have h1 := List.length_filter_le (fun x => G.contains x.2) ((r.Out.zip y).take i)
   rw [List.length_take] at h1
   omega
  try dsimp only [List.cons_append, List.nil_append, List.map_cons, List.map_nil]
  (repeat' (first|refine ah ?_|refine a6 ?_|refine ae a7 rfl rfl ?_|(apply aP; first|refine aO a7 ?_|refine aI a7 ?_)|fail))
  refine ci [2, 4, 7, 8] (i < y.length ∧ i < r.Out.length) rfl (fun Q' K => ?_) (fun hC => ?_) (fun hC => ?_)
  ·(repeat' (first|refine aa ?_|refine ae a7 rfl rfl ?_|refine aw rfl rfl ?_|refine aD rfl rfl rfl rfl ?_|refine aS rfl rfl rfl (fun _ => ?_) (fun _ => ?_)|fail))
   all_goals exact K _ _ rfl rfl (by clear K; simp_all <;> omega)
  ·obtain ⟨o, ho⟩ : ∃ z, r.Out[i]? = some z := ⟨_, List.getElem?_eq_getElem hC.2⟩
   obtain ⟨z, hz⟩ : ∃ z, y[i]? = some z := ⟨_, List.getElem?_eq_getElem hC.1⟩
   have hog := bk ho
   have hzg := bk hz
   have hzt := lf ho hz
   (repeat' (first|refine ah ?_|refine a6 ?_|refine am ?_|refine ak ?_|refine a8 ?_|refine aa ?_|refine ae a7 rfl rfl ?_|(apply aP; first|refine aO a7 ?_|refine aI a7 ?_)|(apply ba;refine aY ?_)|fail))
   refine av rfl (fun e2 => ?_) (fun e2 => ?_)
   ·(repeat' (first|refine a6 ?_|refine ae a7 rfl rfl ?_|(apply aP; first|refine aO a7 ?_|refine aI a7 ?_)|refine bM a7 ?_|fail))
    refine cF a7 [] rfl rfl rfl rfl (by rw [List.append_nil]) (by simp only [List.length_cons, List.length_nil]; omega) (by simp only [List.length_cons, List.length_nil]; omega) rfl fun q' => ?_
    rw [List.append_nil]
    (repeat' (first|refine a6 ?_|refine a8 ?_|refine aJ ?_|refine aa ?_|refine ae a7 rfl rfl ?_|(apply aX; refine aW ?_)|fail))
    have hst : ((((r.Out.zip y).take (i + 1)).filter fun x => G.contains x.2).map (·.1)) = ((((r.Out.zip y).take i).filter fun x => G.contains x.2).map (·.1)) ++ [o] := by
     rw [hzt, List.filter_append, List.map_append, List.filter_cons, if_pos e2]; rfl
    exact aE (i + 1, q') rfl ⟨by rw [Int.natCast_add]; rfl, by rw [hst]; dsimp only; rw [← cE]; rfl, trivial⟩ (by dsimp only; omega) (by dsimp only; omega) (fun _ _ h => by dsimp only; rw [hst, ← cE]; exact h)
   ·(repeat' (first|refine a6 ?_|refine ak ?_|refine a8 ?_|refine aJ ?_|refine aa ?_|refine ae a7 rfl rfl ?_|(apply aX; refine aW ?_)|fail))
    have hst : ((((r.Out.zip y).take (i + 1)).filter fun x => G.contains x.2).map (·.1)) = ((((r.Out.zip y).take i).filter fun x => G.contains x.2).map (·.1)) := by
     rw [hzt, List.filter_append, List.map_append, List.filter_cons, if_neg (by simpa using e2)]; simp
    exact aE (i + 1, q) rfl ⟨by rw [Int.natCast_add]; rfl, by rw [hst]; rfl, trivial⟩ (by dsimp only; omega) (by dsimp only; omega) (fun _ _ h => by dsimp only; rw [hst]; exact h)
  have hil : i = min r.Out.length y.length := by omega
  subst hil
  rw [List.take_of_length_le (by rw [List.length_zip]; exact Nat.le_refl _)]
  (repeat' (first|refine ah ?_|refine a6 ?_|refine au ?_|refine aR ?_|refine a8 ?_|refine az ?_|refine aJ ?_|refine aC ?_|refine aA ?_|refine aa ?_|refine ae a7 rfl rfl ?_|fail))
  exact bU (cw (t := 6) (c' := .imm 1 (aV (((r.Out.zip y).filter fun x : Int × Int => G.contains x.2).map fun x : Int × Int => x.1))) rfl fun σ v h => VR.im h) (aB rfl rfl rfl)
 by_cases h5 : kind = 5
 ·have ht : eu ⟨r, kind, false, []⟩ (fun z => G.contains z) = ((r.Out.zip y).filter fun x => G.contains x.2).map (·.1) := by unfold eu; rw [if_pos (.inr h5), hd]
  rw [ht]
  refine av rfl (fun hh => absurd (of_decide_eq_true hh) h1) (fun _ => ?_)
  (repeat' (first|refine a6 ?_|refine a8 ?_|refine aa ?_|refine ae a7 rfl rfl ?_|fail))
  rw [decide_eq_true h5]
  (repeat' (first|refine ah ?_|refine a6 ?_|refine am ?_|refine a8 ?_|refine aa ?_|refine ae a7 rfl rfl ?_|refine bI rfl ?_|fail))
  refine aL [2, 4] (α := Nat × Option (Nat × Nat)) (fun x => [(8, aQ x.1), (7, .vec x.2 1 (aV ((((r.Out.zip y).take x.1).filter fun x => G.contains x.2).map (·.1))))]) (fun x => x.1 ≤ min r.Out.length y.length) (fun x => tok x.2 3 1 (aV ((((r.Out.zip y).take x.1).filter fun x => G.contains x.2).map (·.1))).length) (fun x => min r.Out.length y.length - x.1) (0, some (kb, 0)) rfl ⟨rfl, rfl, trivial⟩ (Nat.zero_le _) (fun _ _ h => h) ?_
  rintro ⟨i, q⟩ hi
  dsimp only at hi ⊢
  have hsl : (aV ((((r.Out.zip y).take i).filter fun x => G.contains x.2).map (·.1))).length ≤ 1000000 := by
   rw [aM, List.length_map]
   have h1 := List.length_filter_le (fun x => G.contains x.2) ((r.Out.zip y).take i)
   rw [List.length_take] at h1
   omega
  try dsimp only [List.cons_append, List.nil_append, List.map_cons, List.map_nil]
  (repeat' (first|refine ah ?_|refine a6 ?_|refine ae a7 rfl rfl ?_|(apply aP; first|refine aO a7 ?_|refine aI a7 ?_)|fail))
  refine ci [2, 4, 7, 8] (i < y.length ∧ i < r.Out.length) rfl (fun Q' K => ?_) (fun hC => ?_) (fun hC => ?_)
  ·(repeat' (first|refine aa ?_|refine ae a7 rfl rfl ?_|refine aw rfl rfl ?_|refine aD rfl rfl rfl rfl ?_|refine aS rfl rfl rfl (fun _ => ?_) (fun _ => ?_)|fail))
   all_goals exact K _ _ rfl rfl (by clear K; simp_all <;> omega)
  ·obtain ⟨o, ho⟩ : ∃ z, r.Out[i]? = some z := ⟨_, List.getElem?_eq_getElem hC.2⟩
   obtain ⟨z, hz⟩ : ∃ z, y[i]? = some z := ⟨_, List.getElem?_eq_getElem hC.1⟩
   have hog := bk ho
   have hzg := bk hz
   have hzt := lf ho hz
   (repeat' (first|refine ah ?_|refine a6 ?_|refine am ?_|refine ak ?_|refine a8 ?_|refine aa ?_|refine ae a7 rfl rfl ?_|(apply aP; first|refine aO a7 ?_|refine aI a7 ?_)|(apply ba;refine aY ?_)|fail))
   refine av rfl (fun e2 => ?_) (fun e2 => ?_)
   ·(repeat' (first|refine a6 ?_|refine ae a7 rfl rfl ?_|(apply aP; first|refine aO a7 ?_|refine aI a7 ?_)|refine bM a7 ?_|fail))
    refine cF a7 [] rfl rfl rfl rfl (by rw [List.append_nil]) (by simp only [List.length_cons, List.length_nil]; omega) (by simp only [List.length_cons, List.length_nil]; omega) rfl fun q' => ?_
    rw [List.append_nil]
    (repeat' (first|refine a6 ?_|refine a8 ?_|refine aJ ?_|refine aa ?_|refine ae a7 rfl rfl ?_|(apply aX; refine aW ?_)|fail))
    have hst : ((((r.Out.zip y).take (i + 1)).filter fun x => G.contains x.2).map (·.1)) = ((((r.Out.zip y).take i).filter fun x => G.contains x.2).map (·.1)) ++ [o] := by
     rw [hzt, List.filter_append, List.map_append, List.filter_cons, if_pos e2]; rfl
    exact aE (i + 1, q') rfl ⟨by rw [Int.natCast_add]; rfl, by rw [hst]; dsimp only; rw [← cE]; rfl, trivial⟩ (by dsimp only; omega) (by dsimp only; omega) (fun _ _ h => by dsimp only; rw [hst, ← cE]; exact h)
   ·(repeat' (first|refine a6 ?_|refine ak ?_|refine a8 ?_|refine aJ ?_|refine aa ?_|refine ae a7 rfl rfl ?_|(apply aX; refine aW ?_)|fail))
    have hst : ((((r.Out.zip y).take (i + 1)).filter fun x => G.contains x.2).map (·.1)) = ((((r.Out.zip y).take i).filter fun x => G.contains x.2).map (·.1)) := by
     rw [hzt, List.filter_append, List.map_append, List.filter_cons, if_neg (by simpa using e2)]; simp
    exact aE (i + 1, q) rfl ⟨by rw [Int.natCast_add]; rfl, by rw [hst]; rfl, trivial⟩ (by dsimp only; omega) (by dsimp only; omega) (fun _ _ h => by dsimp only; rw [hst]; exact h)
  have hil : i = min r.Out.length y.length := by omega
  subst hil
  rw [List.take_of_length_le (by rw [List.length_zip]; exact Nat.le_refl _)]
  (repeat' (first|refine ah ?_|refine a6 ?_|refine au ?_|refine aR ?_|refine a8 ?_|refine az ?_|refine aJ ?_|refine aC ?_|refine aA ?_|refine aa ?_|refine ae a7 rfl rfl ?_|fail))
  exact bU (cw (t := 6) (c' := .imm 1 (aV (((r.Out.zip y).filter fun x : Int × Int => G.contains x.2).map fun x : Int × Int => x.1))) rfl fun σ v h => VR.im h) (aB rfl rfl rfl)
 have ht : eu ⟨r, kind, false, []⟩ (fun z => G.contains z) = if kind = 2 then r.Out else if kind = 3 then r.Out.take 1 else [] := by unfold eu; rw [if_neg (by simp only; omega)]
 rw [ht]
 refine av rfl (fun h => absurd (of_decide_eq_true h) h1) (fun _ => ?_)
 (repeat' (first|refine a6 ?_|refine a8 ?_|refine aa ?_|refine ae a7 rfl rfl ?_|fail))
 rw [decide_eq_false h5]
 (repeat' (first|refine ah ?_|refine a6 ?_|refine a8 ?_|refine aa ?_|refine ae a7 rfl rfl ?_|refine bV rfl ?_|fail))
 refine av rfl (fun e => ?_) (fun e => ?_)
 ·rw [if_pos (of_decide_eq_true e)]
  (repeat' (first|refine a6 ?_|refine ae a7 rfl rfl ?_|fail))
  refine cF a7 [] rfl rfl rfl rfl (by rw [List.append_nil]; exact List.Perm.refl _) (by simp [hOl]; omega) (by simp [hOl]; omega) rfl fun q' => ?_
  rw [List.append_nil]
  (repeat' (first|refine ah ?_|refine a6 ?_|refine au ?_|refine a8 ?_|refine aJ ?_|refine aa ?_|refine ae a7 rfl rfl ?_|fail))
  exact bU (cw (t := 6) (c' := .imm 1 (aV r.Out)) rfl fun σ v h => VR.im h) (aB rfl rfl rfl)
 rw [if_neg (of_decide_eq_false e)]
 (repeat' (first|refine ah ?_|refine a6 ?_|refine a8 ?_|refine aa ?_|refine ae a7 rfl rfl ?_|fail))
 refine av rfl (fun e => ?_) (fun e => ?_)
 ·rw [if_pos (of_decide_eq_true e)]
  (repeat' (first|refine ah ?_|refine a6 ?_|refine a8 ?_|refine aa ?_|refine ae a7 rfl rfl ?_|fail))
  refine av rfl (fun e => ?_) (fun e => ?_)
  ·have hlen : 0 < r.Out.length := by have := of_decide_eq_true e; omega
   obtain ⟨o, ho⟩ : ∃ z, r.Out[0]? = some z := ⟨_, List.getElem?_eq_getElem hlen⟩
   have hog := bk ho
   (repeat' (first|refine a6 ?_|refine ae a7 rfl rfl ?_|(apply aP; first|refine aO a7 ?_|refine aI a7 ?_)|refine bM a7 ?_|fail))
   refine cF a7 [] rfl rfl rfl rfl (by rw [List.append_nil]; exact List.Perm.refl _) (by simp) (by simp) rfl fun q' => ?_
   rw [List.append_nil]
   (repeat' (first|refine ah ?_|refine a6 ?_|refine au ?_|refine a8 ?_|refine aJ ?_|refine aa ?_|refine ae a7 rfl rfl ?_|fail))
   have : r.Out.take 1 = [o] := by
    cases hO : r.Out with
    | nil => rw [hO] at ho; cases ho
    | cons a t => rw [hO] at ho; simp at ho; rw [ho]; rfl
   rw [this]
   exact bU (cw (t := 6) (c' := .imm 1 (aV [o])) rfl fun σ v h => VR.im h) (aB rfl rfl rfl)
  ·have : r.Out = [] := List.eq_nil_of_length_eq_zero (by have := of_decide_eq_false e; omega)
   rw [this]
   (repeat' (first|refine ah ?_|refine a6 ?_|refine ak ?_|refine au ?_|refine a8 ?_|refine aJ ?_|refine aa ?_|refine ae a7 rfl rfl ?_|fail))
   exact bU (cw (t := 6) (c' := .imm 1 []) rfl fun σ v h => VR.im h) (aB rfl rfl rfl)
 rw [if_neg (of_decide_eq_false e)]
 (repeat' (first|refine ah ?_|refine a6 ?_|refine ak ?_|refine au ?_|refine a8 ?_|refine aJ ?_|refine aa ?_|refine ae a7 rfl rfl ?_|fail))
 exact bU (cw (t := 6) (c' := .imm 1 []) rfl fun σ v h => VR.im h) (aB rfl rfl rfl)
end Go.Proofs.YtpbinloeemebkaaGreat

namespace Go.Proofs.YtpbinloeemebkaaGreat
open Go.RowKit
attribute [local irreducible] AT bN AX AO Av Kt bi dE DA d6
def eA (kind : Int) (rs : List bJ) (s : List Int) : List Int := rs.flatMap fun r => fj kind r s
def th (f : aH) (G : List Int) (n : Int) : List Int := match f.Lookups[n.toNat]? with | some x => eA x.Kind x.Rules (fJ f x.Ignore G) | none => []
def cu (f : aH) (gs : List Int) : List Int := d3 gs f.Glyphs.length
def tr (f : aH) (G : List Int) : List Int := G ++ G.flatMap (dy f)
def jk (f : aH) (ks gs : List Int) : List Int := d3 (tr f (cu f gs) ++ (d3 ks f.Lookups.length).flatMap (th f (cu f gs))) f.Glyphs.length
theorem iu {α β : Type} {g : α → List β} {l : List α} {i : Nat} {z : α} (h : l[i]? = some z) : (l.take (i + 1)).flatMap g = (l.take i).flatMap g ++ g z := by
 rw [List.take_add_one, h, Option.toList_some, List.flatMap_append]
 simp
theorem j2 {α β : Type} {g : α → List β} {l : List α} {n : Nat} (h : ∀ a ∈ l, (g a).length ≤ n) : (l.flatMap g).length ≤ n * l.length := by
 induction l with
 | nil => simp
 | cons a l ih =>
  have h1 := h a (List.mem_cons_self ..)
  have h2 := ih fun b hb => h b (List.mem_cons_of_mem _ hb)
  rw [List.flatMap_cons, List.length_append, List.length_cons, Nat.mul_succ]
  omega
theorem qZ {f : aH} (hs : ck f) (n : Int) : (dy f n).length ≤ 2000 := by
 unfold dy
 split
 ·rename_i g hg
  rw [List.length_map]
  exact hs.parts (List.mem_of_getElem? hg)
 ·exact Nat.zero_le _
theorem n6 (kind : Int) (r : bJ) (G : List Int) : (fj kind r G).length ≤ r.Out.length := by
 unfold fj
 split
 ·unfold eu
  split
  ·rw [List.length_map]
   refine Nat.le_trans (List.length_filter_le _ _) ?_
   rw [List.length_zip]
   exact Nat.min_le_left _ _
  ·split
   ·exact Nat.le_refl _
   ·split
    ·rw [List.length_take]; exact Nat.min_le_right _ _
    ·exact Nat.zero_le _
 ·exact Nat.zero_le _
theorem nP {f : aH} (hs : ck f) {x : bC} (hx : x ∈ f.Lookups) (G : List Int) (i : Nat) : (eA x.Kind (x.Rules.take i) G).length ≤ 4000000 := by
 unfold eA
 have h1 : ((x.Rules.take i).flatMap fun r => fj x.Kind r G).length ≤ 2000 * (x.Rules.take i).length := j2 fun r hr => Nat.le_trans (n6 ..) (hs.out hx (List.mem_of_mem_take hr))
 have h2 := hs.rulesL hx
 rw [List.length_take] at h1
 have h3 : 2000 * min i x.Rules.length ≤ 2000 * 2000 := Nat.mul_le_mul_left _ (by omega)
 omega
theorem yf {f : aH} (hs : ck f) (G : List Int) (n : Int) : (th f G n).length ≤ 4000000 := by
 unfold th
 split
 ·rename_i x hx
  have := nP hs (List.mem_of_getElem? hx) (fJ f x.Ignore G) x.Rules.length
  rwa [List.take_length] at this
 ·exact Nat.zero_le _
theorem lG (l : List Int) (z : Int) : aV (l ++ [z]) = aV l ++ [[aQ z]] := (cE l [z]).symm
set_option maxHeartbeats 4000000 in
theorem p8 (f : aH) (hs : ck f) (ks gs : List Int) : bo Tryz.prog 43 [bw f, .imm 1 (aV ks), .imm 1 (aV gs)] (.imm 1 (aV (jk f ks gs))) := by
 refine aU Tryz.func43 rfl Tryz.ntmps43 rfl fun B => ?_
 have hG := hs.glyphs
 have hLk := hs.lookups
 have hml : (f.Glyphs.map bz).length = f.Glyphs.length := List.length_map ..
 have hll : (f.Lookups.map bq).length = f.Lookups.length := List.length_map ..
 have hFl : (cu f gs).length ≤ 2000 := by have := nT gs f.Glyphs.length; unfold cu; omega
 have hFm : ∀ z ∈ cu f gs, 0 ≤ z ∧ z < f.Glyphs.length := fun z hz => (dL.1 hz).2
 have hFi := aM (cu f gs)
 (repeat' (first|refine ah ?_|refine a6 ?_|refine a8 ?_|refine aa ?_|refine ae a7 rfl rfl ?_|refine b6 ?_|fail))
 rw [hml]
 refine aY (hc := ⟨jD gs _ (by omega)⟩) ?_
 rw [show d3 gs f.Glyphs.length = cu f gs from rfl]
 (repeat' (first|refine ah ?_|refine a6 ?_|refine a8 ?_|refine aa ?_|refine ae a7 rfl rfl ?_|refine nF (n := 0) a7 fun _=>?_|fail))
 refine cF a7 [] rfl rfl rfl rfl (by rw [List.append_nil]; exact List.Perm.refl _) (by simp [hFi]; omega) (by simp [hFi]; omega) rfl fun q0 => ?_
 rw [List.append_nil]
 (repeat' (first|refine ah ?_|refine a6 ?_|refine am ?_|refine a8 ?_|refine aa ?_|refine ae a7 rfl rfl ?_|fail))
 refine aL [1, 3, 7] (α := Nat × Option (Nat × Nat)) (fun x => [(9, aQ x.1), (8, .vec x.2 1 (aV (cu f gs ++ ((cu f gs).take x.1).flatMap (dy f))))]) (fun x => x.1 ≤ (cu f gs).length) (fun x => tok x.2 3 1 (aV (cu f gs ++ ((cu f gs).take x.1).flatMap (dy f))).length) (fun x => (cu f gs).length - x.1) (0, q0) rfl ⟨rfl, by dsimp only; rw [List.take_zero, List.flatMap_nil, List.append_nil]; rfl, trivial⟩ (Nat.zero_le _) (fun _ _ h => by dsimp only; rw [List.take_zero, List.flatMap_nil, List.append_nil]; exact h) ?_
 rintro ⟨i, q⟩ hi
 dsimp only at hi ⊢
 have hol : (cu f gs ++ ((cu f gs).take i).flatMap (dy f)).length ≤ 4002000 := by
  have h1 : (((cu f gs).take i).flatMap (dy f)).length ≤ 2000 * ((cu f gs).take i).length := j2 fun z _ => qZ hs z
  rw [List.length_take] at h1
  have h2 : 2000 * min i (cu f gs).length ≤ 2000 * 2000 := Nat.mul_le_mul_left _ (by omega)
  rw [List.length_append]
  omega
 try dsimp only [List.cons_append, List.nil_append, List.map_cons, List.map_nil]
 (repeat' (first|refine ah ?_|refine a6 ?_|refine a8 ?_|refine aa ?_|refine ae a7 rfl rfl ?_|fail))
 refine av rfl (fun h => ?_) (fun h => ?_)
 ·have hil : i < (cu f gs).length := by have := of_decide_eq_true h; omega
  obtain ⟨z, hz⟩ : ∃ z, (cu f gs)[i]? = some z := ⟨_, List.getElem?_eq_getElem hil⟩
  have hzg := bk hz
  have hzd := hFm z (List.mem_of_getElem? hz)
  obtain ⟨gl, hg⟩ : ∃ g, f.Glyphs[z.toNat]? = some g := ⟨_, List.getElem?_eq_getElem (by omega)⟩
  have hgg := b5 (c := bz) hg
  have hp0 : dy f z = gl.Parts.map bE.Glyph := by unfold dy; rw [hg]
  have hpl := hs.parts (List.mem_of_getElem? hg)
  have hst := iu (g := dy f) hz
  rw [hp0] at hst
  generalize hO : cu f gs ++ ((cu f gs).take i).flatMap (dy f) = O at hol ⊢
  (repeat' (first|refine ah ?_|refine am ?_|refine ak ?_|refine a8 ?_|fail))
  refine bj 9 [(0, .v), (1, .v), (2, .v), (3, .v), (4, .v), (5, .v), (6, .v), (7, .v)] (some (8, .box _ 64)) ?_ ⟨_, rfl, rfl, fun _ _ _ => kB (eN a7 rfl) rfl⟩ rfl (by kernel_rfl) (by kernel_rfl) (by kernel_rfl) mixed (by kernel_rfl) rfl
  (repeat' (first|refine aN ?_|refine bf a7 ?_|(apply bs;refine bH a7 ?_)|fail))
  refine pp [1, 3, 7, 8, 9, 10, 39] (fun _ => _) (fun _ => rfl) rfl fun _ => ?_
  refine bh (bc List.perm_append_comm) ?_
  (repeat' (first|refine ah ?_|refine a6 ?_|refine am ?_|refine a8 ?_|refine aa ?_|refine ae a7 rfl rfl ?_|(apply aT; first|refine ai 10 a7 0 rfl rfl rfl rfl rfl rfl rfl rfl ?_|refine ai 10 a7 1 rfl rfl rfl rfl rfl rfl rfl rfl ?_|refine ai 10 a7 2 rfl rfl rfl rfl rfl rfl rfl rfl ?_|refine ai 14 a7 0 rfl rfl rfl rfl rfl rfl rfl rfl ?_|refine ai 14 a7 1 rfl rfl rfl rfl rfl rfl rfl rfl ?_|refine ai 14 a7 2 rfl rfl rfl rfl rfl rfl rfl rfl ?_|refine aj a7 0 rfl rfl rfl rfl rfl rfl rfl ?_|refine aj a7 1 rfl rfl rfl rfl rfl rfl rfl ?_|refine aj a7 2 rfl rfl rfl rfl rfl rfl rfl ?_|refine aj a7 3 rfl rfl rfl rfl rfl rfl rfl ?_|fail)|fail))
  refine aL [1, 3, 7, 9, 10] (α := Nat × Option (Nat × Nat)) (fun x => [(11, aQ x.1), (8, .vec x.2 1 (aV (O ++ (gl.Parts.take x.1).map bE.Glyph)))]) (fun x => x.1 ≤ gl.Parts.length) (fun x => tok x.2 3 1 (aV (O ++ (gl.Parts.take x.1).map bE.Glyph)).length) (fun x => gl.Parts.length - x.1) (0, q) rfl ⟨rfl, by dsimp only; rw [List.take_zero, List.map_nil, List.append_nil]; rfl, trivial⟩ (Nat.zero_le _) (fun _ _ h => by dsimp only; rw [List.take_zero, List.map_nil, List.append_nil]; exact h) ?_
  clear h
  rintro ⟨j, q1⟩ hj
  dsimp only at hj ⊢
  have hjl : (aV (O ++ (gl.Parts.take j).map bE.Glyph)).length ≤ 4004000 := by
   rw [aM, List.length_append, List.length_map, List.length_take]
   omega
  try dsimp only [List.cons_append, List.nil_append, List.map_cons, List.map_nil]
  (repeat' (first|refine ah ?_|refine a6 ?_|refine a8 ?_|refine aa ?_|refine ae a7 rfl rfl ?_|fail))
  refine av rfl (fun h => ?_) (fun h => ?_)
  ·have hjl2 : j < gl.Parts.length := by have := of_decide_eq_true h; simp at this; omega
   obtain ⟨pt, hpt⟩ : ∃ z, gl.Parts[j]? = some z := ⟨_, List.getElem?_eq_getElem hjl2⟩
   have hptg := b5 (c := d7) hpt
   (repeat' (first|refine ah ?_|refine a6 ?_|refine am ?_|refine ak ?_|refine a8 ?_|refine ae a7 rfl rfl ?_|(apply aP; first|refine aO a7 ?_|refine aI a7 ?_)|refine bM a7 ?_|fail))
   refine cF a7 [] rfl rfl rfl rfl (by rw [List.append_nil]) (by simp only [List.length_cons, List.length_nil]; omega) (by simp only [List.length_cons, List.length_nil]; omega) rfl fun q' => ?_
   rw [List.append_nil]
   (repeat' (first|refine a6 ?_|refine a8 ?_|refine aJ ?_|refine aa ?_|refine ae a7 rfl rfl ?_|(apply aX; refine aW ?_)|fail))
   have hst2 : O ++ (gl.Parts.take (j + 1)).map bE.Glyph = (O ++ (gl.Parts.take j).map bE.Glyph) ++ [pt.Glyph] := by
    rw [List.take_add_one, hpt, Option.toList_some, List.map_append, ← List.append_assoc, List.map_cons, List.map_nil]
   exact aE (j + 1, q') rfl ⟨by rw [Int.natCast_add]; rfl, by rw [hst2]; dsimp only; rw [lG]; rfl, trivial⟩ (by dsimp only; omega) (by dsimp only; omega) (fun _ _ h => by dsimp only; rw [hst2, lG]; exact h)
  have hjl2 : j = gl.Parts.length := by have := of_decide_eq_false h; simp at this; omega
  subst hjl2
  rw [List.take_length]
  (repeat' (first|refine a6 ?_|refine aR ?_|refine a8 ?_|refine az ?_|refine aJ ?_|refine aC ?_|refine aA ?_|refine aa ?_|refine ae a7 rfl rfl ?_|(apply aX; refine aW ?_)|fail))
  have hst3 : cu f gs ++ ((cu f gs).take (i + 1)).flatMap (dy f) = O ++ gl.Parts.map bE.Glyph := by rw [hst, ← List.append_assoc, hO]
  exact aE (i + 1, q1) rfl ⟨by rw [Int.natCast_add]; rfl, by dsimp only; rw [hst3]; rfl, trivial⟩ (by dsimp only; omega) (by dsimp only; omega) (fun _ _ h => by dsimp only; rw [hst3]; exact h)
 have hil : i = (cu f gs).length := by have := of_decide_eq_false h; omega
 subst hil
 rw [List.take_length] at hol ⊢
 rw [show cu f gs ++ (cu f gs).flatMap (dy f) = tr f (cu f gs) from rfl] at hol ⊢
 clear h hi
 (repeat' (first|refine ah ?_|refine a6 ?_|refine aR ?_|refine a8 ?_|refine az ?_|refine aC ?_|refine aA ?_|refine ae a7 rfl rfl ?_|fail))
 rw [hll]
 refine aY (hc := ⟨jD ks _ (by omega)⟩) ?_
 have hKl : (d3 ks f.Lookups.length).length ≤ 2000 := by have := nT ks f.Lookups.length; omega
 have hKm : ∀ z ∈ d3 ks f.Lookups.length, 0 ≤ z ∧ z < f.Lookups.length := fun z hz => (dL.1 hz).2
 have hKi := aM (d3 ks f.Lookups.length)
 unfold jk
 generalize d3 ks f.Lookups.length = K at hKl hKm hKi ⊢
 generalize hO : tr f (cu f gs) = O at hol ⊢
 (repeat' (first|refine ah ?_|refine a6 ?_|refine am ?_|refine a8 ?_|refine aa ?_|refine ae a7 rfl rfl ?_|fail))
 refine aL [3, 7, 12] (α := Nat × Option (Nat × Nat)) (fun x => [(13, aQ x.1), (8, .vec x.2 1 (aV (O ++ (K.take x.1).flatMap (th f (cu f gs)))))]) (fun x => x.1 ≤ K.length) (fun x => tok x.2 3 1 (aV (O ++ (K.take x.1).flatMap (th f (cu f gs)))).length) (fun x => K.length - x.1) (0, q) rfl ⟨rfl, by dsimp only; rw [List.take_zero, List.flatMap_nil, List.append_nil]; rfl, trivial⟩ (Nat.zero_le _) (fun _ _ h => by dsimp only; rw [List.take_zero, List.flatMap_nil, List.append_nil]; exact h) ?_
 clear q
 rintro ⟨i, q⟩ hi
 dsimp only at hi ⊢
 have hol2 : (O ++ (K.take i).flatMap (th f (cu f gs))).length ≤ 4002000 + 8000000000 := by
  have h1 : ((K.take i).flatMap (th f (cu f gs))).length ≤ 4000000 * (K.take i).length := j2 fun z _ => yf hs _ z
  rw [List.length_take] at h1
  have h2 : 4000000 * min i K.length ≤ 4000000 * 2000 := Nat.mul_le_mul_left _ (by omega)
  rw [List.length_append]
  omega
 try dsimp only [List.cons_append, List.nil_append, List.map_cons, List.map_nil]
 (repeat' (first|refine ah ?_|refine a6 ?_|refine a8 ?_|refine aa ?_|refine ae a7 rfl rfl ?_|fail))
 refine av rfl (fun h => ?_) (fun h => ?_)
 ·have hil : i < K.length := by have := of_decide_eq_true h; omega
  obtain ⟨z, hz⟩ : ∃ z, K[i]? = some z := ⟨_, List.getElem?_eq_getElem hil⟩
  have hzg := bk hz
  have hzd := hKm z (List.mem_of_getElem? hz)
  obtain ⟨x, hx⟩ : ∃ x, f.Lookups[z.toNat]? = some x := ⟨_, List.getElem?_eq_getElem (by omega)⟩
  have hxg := b5 (c := bq) hx
  have hxm := List.mem_of_getElem? hx
  have hst := iu (g := th f (cu f gs)) hz
  rw [show th f (cu f gs) z = eA x.Kind x.Rules (fJ f x.Ignore (cu f gs)) by unfold th; rw [hx]] at hst
  generalize hP : O ++ (K.take i).flatMap (th f (cu f gs)) = P at hol2 ⊢
  (repeat' (first|refine ah ?_|refine am ?_|refine ak ?_|refine a8 ?_|fail))
  refine bj 9 [(0, .v), (1, .v), (2, .v), (3, .v), (4, .v), (5, .v), (6, .v), (7, .v)] (some (8, .box _ 70)) ?_ ⟨_, rfl, rfl, fun _ _ _ => kB (eN a7 rfl) rfl⟩ rfl (by kernel_rfl) (by kernel_rfl) (by kernel_rfl) mixed (by kernel_rfl) rfl
  (repeat' (first|refine aN ?_|refine bf a7 ?_|(apply bs;refine bH a7 ?_)|fail))
  refine pp [3, 7, 8, 12, 13, 14, 74] (fun _ => _) (fun _ => rfl) rfl fun _ => ?_
  refine bh (bc List.perm_append_comm) ?_
  (repeat' (first|refine ah ?_|refine a6 ?_|refine a8 ?_|refine aa ?_|refine ae a7 rfl rfl ?_|(apply aT; first|refine ai 10 a7 0 rfl rfl rfl rfl rfl rfl rfl rfl ?_|refine ai 10 a7 1 rfl rfl rfl rfl rfl rfl rfl rfl ?_|refine ai 10 a7 2 rfl rfl rfl rfl rfl rfl rfl rfl ?_|refine ai 14 a7 0 rfl rfl rfl rfl rfl rfl rfl rfl ?_|refine ai 14 a7 1 rfl rfl rfl rfl rfl rfl rfl rfl ?_|refine ai 14 a7 2 rfl rfl rfl rfl rfl rfl rfl rfl ?_|refine aj a7 0 rfl rfl rfl rfl rfl rfl rfl ?_|refine aj a7 1 rfl rfl rfl rfl rfl rfl rfl ?_|refine aj a7 2 rfl rfl rfl rfl rfl rfl rfl ?_|refine aj a7 3 rfl rfl rfl rfl rfl rfl rfl ?_|fail)|fail))
  refine aY (hc := ⟨x5 f x (cu f gs) hFm (by omega)⟩) ?_
  generalize fJ f x.Ignore (cu f gs) = S at hst ⊢
  (repeat' (first|refine ah ?_|refine a6 ?_|refine am ?_|refine a8 ?_|refine aa ?_|refine ae a7 rfl rfl ?_|fail))
  refine aL [3, 7, 12, 13, 14, 15] (α := Nat × Option (Nat × Nat)) (fun y => [(16, aQ y.1), (8, .vec y.2 1 (aV (P ++ eA x.Kind (x.Rules.take y.1) S)))]) (fun y => y.1 ≤ x.Rules.length) (fun y => tok y.2 3 1 (aV (P ++ eA x.Kind (x.Rules.take y.1) S)).length) (fun y => x.Rules.length - y.1) (0, q) rfl ⟨rfl, by dsimp only; rw [List.take_zero, show eA x.Kind [] S = [] from rfl, List.append_nil]; rfl, trivial⟩ (Nat.zero_le _) (fun _ _ h => by dsimp only; rw [List.take_zero, show eA x.Kind [] S = [] from rfl, List.append_nil]; exact h) ?_
  clear h
  rintro ⟨j, q1⟩ hj
  dsimp only at hj ⊢
  have hrl := nP hs hxm S j
  have hRl := hs.rulesL hxm
  have hjl : (aV (P ++ eA x.Kind (x.Rules.take j) S)).length ≤ 8010000000 := by
   rw [aM, List.length_append]
   omega
  try dsimp only [List.cons_append, List.nil_append, List.map_cons, List.map_nil]
  (repeat' (first|refine ah ?_|refine a6 ?_|refine a8 ?_|refine aa ?_|refine ae a7 rfl rfl ?_|fail))
  refine av rfl (fun h => ?_) (fun h => ?_)
  ·have hjl2 : j < x.Rules.length := by have := of_decide_eq_true h; simp at this; omega
   obtain ⟨r, hr⟩ : ∃ z, x.Rules[j]? = some z := ⟨_, List.getElem?_eq_getElem hjl2⟩
   have hrg := b5 (c := ca) hr
   have hro := hs.out hxm (List.mem_of_getElem? hr)
   have hcl := aM (fj x.Kind r S)
   have hcl2 := n6 x.Kind r S
   haveI a1 : AD Tryz.prog 61 [aQ x.Kind, .agg (ca r), .imm 1 (aV S)] (.imm 1 (aV (fj x.Kind r S))) := ⟨tY _ _ _ (by omega)⟩
   (repeat' (first|refine ah ?_|refine am ?_|refine ak ?_|refine a8 ?_|fail))
   refine bj 10 [(0, .v), (1, .v), (2, .v), (3, .v), (4, .v), (5, .v), (6, .v), (7, .v), (8, .v), (9, .v)] none ?_ trivial rfl (by kernel_rfl) (by kernel_rfl) (by kernel_rfl) mixed (by kernel_rfl) rfl
   (repeat' (first|refine aN ?_|refine bf a7 ?_|(apply bs;refine bH a7 ?_)|(apply cZ;refine dl ?_)|fail))
   refine bl [3, 7, 12, 13, 14, 15, 16, 86, 95] rfl rfl ?_
   (repeat' (first|fail))
   refine cF a7 [] rfl rfl rfl rfl (by rw [List.append_nil]) (by omega) (by omega) rfl fun q' => ?_
   rw [List.append_nil]
   (repeat' (first|refine a6 ?_|refine a8 ?_|refine aJ ?_|refine aa ?_|refine ae a7 rfl rfl ?_|(apply aX; refine aW ?_)|fail))
   have hst2 : P ++ eA x.Kind (x.Rules.take (j + 1)) S = (P ++ eA x.Kind (x.Rules.take j) S) ++ fj x.Kind r S := by
    unfold eA
    rw [iu hr, List.append_assoc]
   have hst4 : aV (P ++ eA x.Kind (x.Rules.take (j + 1)) S) = aV (P ++ eA x.Kind (x.Rules.take j) S) ++ aV (fj x.Kind r S) := by rw [hst2, ← cE]
   exact aE (j + 1, q') rfl ⟨by rw [Int.natCast_add]; rfl, by dsimp only; rw [hst4]; rfl, trivial⟩ (by dsimp only; omega) (by dsimp only; omega) (fun _ _ h => by dsimp only; rw [hst4]; exact h)
  have hjl2 : j = x.Rules.length := by have := of_decide_eq_false h; simp at this; omega
  subst hjl2
  rw [List.take_length]
  (repeat' (first|refine a6 ?_|refine aR ?_|refine a8 ?_|refine az ?_|refine aJ ?_|refine aC ?_|refine aA ?_|refine aa ?_|refine ae a7 rfl rfl ?_|(apply aX; refine aW ?_)|fail))
  have hst3 : O ++ (K.take (i + 1)).flatMap (th f (cu f gs)) = P ++ eA x.Kind x.Rules S := by rw [hst, ← List.append_assoc, hP]
  exact aE (i + 1, q1) rfl ⟨by rw [Int.natCast_add]; rfl, by dsimp only; rw [hst3]; rfl, trivial⟩ (by dsimp only; omega) (by dsimp only; omega) (fun _ _ h => by dsimp only; rw [hst3]; exact h)
 have hil : i = K.length := by have := of_decide_eq_false h; omega
 subst hil
 rw [List.take_length]
 (repeat' (first|refine ah ?_|refine a6 ?_|refine aR ?_|refine a8 ?_|refine az ?_|refine aC ?_|refine aA ?_|refine ae a7 rfl rfl ?_|fail))
 rw [hml]
 refine aY (hc := ⟨jD _ _ (by omega)⟩) ?_
 (repeat' (first|refine au ?_|refine a8 ?_|refine aa ?_|refine ae a7 rfl rfl ?_|fail))
 exact aB rfl rfl rfl
end Go.Proofs.YtpbinloeemebkaaGreat

namespace Go.Proofs.YtpbinloeemebkaaGreat
section
variable {f : aH}
theorem x7 {S T : List Int} (h : ∀ z ∈ S, z ∈ T) (x : gB) : cH f T (adv f S x) = cH f T x := by
 have hall : ∀ l : List (List Int), ((l.dropWhile fun s => s.any (fe f S x.ign)).all fun s => s.any (fe f T x.ign)) = l.all fun s => s.any (fe f T x.ign) := by
  intro l
  induction l with
  | nil => rfl
  | cons s l ih =>
   rw [List.dropWhile_cons]
   split
   ·rename_i hs
    have : (s.any (fe f T x.ign)) = true := by
     rw [List.any_eq_true] at hs ⊢
     obtain ⟨y, hy, hp⟩ := hs
     exact ⟨y, hy, kq h hp⟩
    rw [ih, List.all_cons, this, Bool.true_and]
   ·rfl
 unfold cH adv gB.rest
 dsimp only
 rw [hall]
 rfl
def jp (f : aH) (S : List Int) (hs hs' : List gB) : Prop := ∀ T, (∀ z ∈ S, z ∈ T) → hs.map (cH f T) = hs'.map (cH f T)
theorem jp.step {S : List Int} {hs hs' : List gB} (h : jp f S hs hs') {T : List Int} (hT : ∀ z ∈ S, z ∈ T) : dC f T hs = dC f T hs' := by
 unfold dC
 rw [List.flatMap_def, List.flatMap_def, h T hT]
theorem jp.adv {S : List Int} {hs hs' : List gB} (h : jp f S hs hs') {T : List Int} (hT : ∀ z ∈ S, z ∈ T) : jp f T (hs.map (adv f S)) hs' := by
 intro U hU
 rw [← h U fun z hz => hU z (hT z hz), List.map_map]
 exact List.map_congr_left fun x _ => x7 (fun z hz => hU z (hT z hz)) x
theorem v8 {S : List Int} {hs : List gB} {z : Int} : z ∈ dC f S hs ↔ (z ∈ dK f S ∨ ∃ h ∈ hs, z ∈ cH f S h) ∧ 0 ≤ z ∧ z < f.Glyphs.length := by
 unfold dC
 rw [dw, List.mem_append, List.mem_flatMap]
 exact ⟨fun h => h.elim (fun h => by cases h) id, .inr⟩
theorem ku {S T : List Int} (h : ∀ z ∈ S, z ∈ T) {hs : List gB} {z : Int} (hz : z ∈ dC f S hs) : z ∈ dC f T hs := by
 rw [v8] at hz ⊢
 refine ⟨?_, hz.2⟩
 rcases hz.1 with k | ⟨x, hx, k⟩
 ·refine .inl ?_
  unfold dK at k ⊢
  obtain ⟨y, hy, k⟩ := List.mem_flatMap.1 k
  exact List.mem_flatMap.2 ⟨y, h y hy, k⟩
 ·exact .inr ⟨x, hx, jQ h k⟩
theorem rk {S T : List Int} (hS : S.Nodup) (hT : T.Nodup) (h : ∀ z ∈ S, z ∈ T) (hl : T.length = S.length) : ∀ z ∈ T, z ∈ S := by
 intro z hz
 refine Classical.byContradiction fun hn => ?_
 have := lJ (S := z :: S) (T := T) (List.nodup_cons.2 ⟨hn, hS⟩) fun y hy => by
  rcases List.mem_cons.1 hy with rfl | hy
  ·exact hz
  ·exact h y hy
 rw [List.length_cons] at this
 omega
theorem rf (hs0 : List gB) : ∀ (k : Nat) (S : List Int) (hs : List gB), cm f.Glyphs.length S → f.Glyphs.length < S.length + k → jp f S hs hs0 → ∀ K, eE f k S hs = K → cm f.Glyphs.length K ∧ (∀ z ∈ S, z ∈ K) ∧ (∀ z ∈ dC f K hs0, z ∈ K) ∧ ∀ C, (∀ z ∈ S, z ∈ C) → (∀ z ∈ dC f C hs0, z ∈ C) → ∀ z ∈ K, z ∈ C
 | 0, S, hs, hS, hl, _, K, _ => by have := hS.len; omega
 | k + 1, S, hs, hS, hl, hh, K, hK => by
  have he : dC f S hs = dC f S hs0 := hh.step fun _ h => h
  have hsub := p9 (hs := hs) hS
  have hok := jl f S hs
  rw [eE] at hK
  split at hK
  ·rename_i heq
   subst hK
   refine ⟨hS, fun _ h => h, fun z hz => ?_, fun C hC _ => hC⟩
   rw [← he] at hz
   exact rk hS.nodup hok.nodup hsub heq z hz
  ·rename_i hne
   have hlen := lJ hS.nodup hsub
   obtain ⟨h1, h2, h3, h4⟩ := rf hs0 k (dC f S hs) (hs.map (Go.Proofs.YtpbinloeemebkaaGreat.adv f S)) hok (by omega) (hh.adv hsub) K hK
   refine ⟨h1, fun z hz => h2 z (hsub z hz), h3, fun C hC hcl => h4 C (fun z hz => ?_) hcl⟩
   rw [he] at hz
   exact hcl z (ku hC hz)
theorem cm.start {n : Nat} {l : List Int} : cm n (bR n [] l) := cm.nil.add _
structure zh (f : aH) (rs : List Int) (fs : List ByteArray) (K : List Int) : Prop where
 ok : cm f.Glyphs.length K
 start : ∀ z ∈ du f rs, z ∈ K
 closed : ∀ z ∈ c5 f (dc f fs) K, z ∈ K
 least : ∀ C, (∀ z ∈ du f rs, z ∈ C) → (∀ z ∈ c5 f (dc f fs) C, z ∈ C) → ∀ z ∈ K, z ∈ C
theorem nL {ks C : List Int} {z : Int} (hz : z ∈ c5 f ks C) : z ∈ dC f C (dq f (bR f.Lookups.length [] ks)) := by
 unfold c5 at hz
 refine ku (fun y hy => ?_) hz
 rcases dw.1 hy with k | k
 ·cases k
 ·exact k.1
theorem o7 {ks C : List Int} {z : Int} (hC : ∀ z ∈ C, 0 ≤ z ∧ z < f.Glyphs.length) (hz : z ∈ dC f C (dq f (bR f.Lookups.length [] ks))) : z ∈ c5 f ks C := by
 unfold c5
 exact ku (fun y hy => dw.2 (.inr ⟨hy, hC y hy⟩)) hz
theorem mG (rs : List Int) (fs : List ByteArray) : zh f rs fs (nr f rs fs) := by
 have hS : cm f.Glyphs.length (du f rs) := cm.start
 obtain ⟨h1, h2, h3, h4⟩ := rf (f := f) (dq f (bR f.Lookups.length [] (dc f fs))) (f.Glyphs.length + 1) (du f rs) _ hS (by omega) (fun T _ => rfl) _ rfl
 refine ⟨h1, h2, fun z hz => h3 z (nL hz), fun C hC hcl z hz => ?_⟩
 have := h4 (C.filter fun z => decide (0 ≤ z ∧ z < f.Glyphs.length)) (fun z hz => List.mem_filter.2 ⟨hC z hz, decide_eq_true (hS.dom z hz)⟩) (fun z hz => ?_) z hz
 ·exact (List.mem_filter.1 this).1
 ·have hd := (jl f _ _).dom z hz
  refine List.mem_filter.2 ⟨hcl z ?_, decide_eq_true hd⟩
  refine jP (fun _ h => h) (fun y hy => (List.mem_filter.1 hy).1) z (o7 (fun y hy => ?_) hz)
  exact of_decide_eq_true (List.mem_filter.1 hy).2
end
end Go.Proofs.YtpbinloeemebkaaGreat

namespace Go.Proofs.YtpbinloeemebkaaGreat
section
variable {f : aH}
theorem j3 {gs : List Int} {z : Int} : z ∈ cu f gs ↔ z ∈ bR f.Glyphs.length [] gs := by
 unfold cu
 rw [dL, dw]
 exact ⟨fun h => .inr h, fun h => h.elim (fun h => by cases h) id⟩
theorem p4 (gs : List Int) (ign : Bool) : (fun z => (fJ f ign (cu f gs)).contains z) = fe f (bR f.Glyphs.length [] gs) ign := by
 funext z
 unfold fJ fe vh
 rw [Bool.eq_iff_iff, List.contains_iff_mem, List.mem_filter, j3, Bool.and_eq_true, Bool.and_eq_true, decide_eq_true_iff, List.contains_iff_mem]
 constructor
 ·rintro ⟨h1, h2⟩
  refine ⟨⟨(cm.start (l := gs)).dom z h1, h1⟩, ?_⟩
  cases ign <;> simp_all
 ·rintro ⟨⟨_, h1⟩, h2⟩
  refine ⟨h1, ?_⟩
  cases ign <;> simp_all
theorem n7 (x : bC) (r : bJ) (gs : List Int) : fj x.Kind r (fJ f x.Ignore (cu f gs)) = if r.In ≠ [] then cH f (bR f.Glyphs.length [] gs) (pB x r) else [] := by
 have hm : ∀ l : List (List Int), mq l (fJ f x.Ignore (cu f gs)) = l.all fun q => q.any (fe f (bR f.Glyphs.length [] gs) x.Ignore) := by
  intro l
  unfold mq iy
  rw [p4]
 have ht : ∀ p, eu ⟨r, x.Kind, false, []⟩ p = eu (pB x r) p := fun p => rfl
 unfold fj lr cH
 rw [hm, hm, hm, p4, ht]
 show _ = if r.In ≠ [] then (if ((r.In ++ (r.Back ++ r.Ahead)).all fun s => s.any (fe f (bR f.Glyphs.length [] gs) x.Ignore)) = true then eu (pB x r) (fe f (bR f.Glyphs.length [] gs) x.Ignore) else []) else []
 rw [List.all_append, List.all_append]
 by_cases h : r.In = []
 ·rw [if_neg (not_not_intro h)]
  simp [h]
 ·rw [if_pos h]
  have he : r.In.isEmpty = false := by simpa [List.isEmpty_iff] using h
  rw [he, Bool.not_false, Bool.true_and, Bool.and_assoc]
theorem tj {gs : List Int} {k z : Int} : z ∈ th f (cu f gs) k ↔ ∃ h ∈ iv f k, z ∈ cH f (bR f.Glyphs.length [] gs) h := by
 unfold th iv
 cases f.Lookups[k.toNat]? with
 | none => simp
 | some x =>
  dsimp only
  unfold eA f7
  rw [List.mem_flatMap]
  constructor
  ·rintro ⟨r, hr, hz⟩
   rw [n7] at hz
   split at hz
   ·exact ⟨_, List.mem_map.2 ⟨r, List.mem_filter.2 ⟨hr, decide_eq_true (by assumption)⟩, rfl⟩, hz⟩
   ·cases hz
  ·rintro ⟨h, hh, hz⟩
   obtain ⟨r, hr, rfl⟩ := List.mem_map.1 hh
   rw [List.mem_filter] at hr
   refine ⟨r, hr.1, ?_⟩
   rw [n7, if_pos (of_decide_eq_true hr.2)]
   exact hz
theorem lQ {ks gs : List Int} {z : Int} : z ∈ jk f ks gs ↔ z ∈ c5 f ks gs := by
 unfold jk
 rw [dL, iB]
 refine and_congr_left fun _ => ?_
 rw [List.mem_append]
 refine or_congr ?_ ?_
 ·unfold tr dK
  rw [List.mem_append, List.mem_flatMap, List.mem_flatMap]
  constructor
  ·rintro (h | ⟨n, hn, h⟩)
   ·exact ⟨z, j3.1 h, List.mem_cons_self ..⟩
   ·exact ⟨n, j3.1 hn, List.mem_cons_of_mem _ h⟩
  ·rintro ⟨n, hn, h⟩
   rcases List.mem_cons.1 h with rfl | h
   ·exact .inl (j3.2 hn)
   ·exact .inr ⟨n, j3.2 hn, h⟩
 ·rw [List.mem_flatMap]
  unfold dq
  constructor
  ·rintro ⟨k, hk, hz⟩
   obtain ⟨h, hh, ht⟩ := tj.1 hz
   obtain ⟨k1, k2⟩ := dL.1 hk
   exact ⟨h, List.mem_flatMap.2 ⟨k, dw.2 (.inr ⟨k1, k2⟩), hh⟩, ht⟩
  ·rintro ⟨h, hh, ht⟩
   obtain ⟨k, hk, hh⟩ := List.mem_flatMap.1 hh
   refine ⟨k, dL.2 ?_, tj.2 ⟨h, hh, ht⟩⟩
   rcases dw.1 hk with hk | hk
   ·cases hk
   ·exact hk
def nZ (f : aH) (rs : List Int) : List Int := d3 (0 :: mr rs f.Chars) f.Glyphs.length
theorem o0 {rs : List Int} {z : Int} : z ∈ nZ f rs ↔ z ∈ du f rs := by
 unfold nZ du
 rw [dL, dw]
 exact ⟨fun h => .inr h, fun h => h.elim (fun h => by cases h) id⟩
def jt (f : aH) (ks gs : List Int) : Bool := decide ((jk f ks gs).length = (d3 gs f.Glyphs.length).length)
theorem p5 {gs : List Int} {n : Nat} : d3 (d3 gs n) n = d3 gs n := nS fun z h0 h1 => ⟨fun h => (dL.1 h).1, fun h => dL.2 ⟨h, h0, h1⟩⟩
structure jV (f : aH) (rs : List Int) (fs : List ByteArray) (l : List Int) : Prop where
 self : d3 l f.Glyphs.length = l
 start : ∀ z ∈ du f rs, z ∈ l
 inn : ∀ z ∈ l, z ∈ nr f rs fs
variable {rs : List Int} {fs : List ByteArray} {l : List Int}
theorem jV.nodup (h : jV f rs fs l) : l.Nodup := by rw [← h.self]; exact iD _ _
theorem jV.dom (h : jV f rs fs l) : ∀ z ∈ l, 0 ≤ z ∧ z < f.Glyphs.length := by
 intro z hz
 rw [← h.self] at hz
 exact (dL.1 hz).2
theorem ve : jV f rs fs (nZ f rs) where
 self := p5
 start _ hz := o0.2 hz
 inn z hz := (mG rs fs).start z (o0.1 hz)
theorem jV.more (h : jV f rs fs l) : ∀ z ∈ l, z ∈ jk f (dc f fs) l := fun z hz => lQ.2 (ow hz (h.dom z hz).1 (h.dom z hz).2)
theorem jV.step (h : jV f rs fs l) : jV f rs fs (jk f (dc f fs) l) where
 self := p5
 start z hz := h.more z (h.start z hz)
 inn z hz := (mG rs fs).closed z (jP (fun _ h => h) h.inn z (lQ.1 hz))
theorem jV.grows (h : jV f rs fs l) (hc : jt f (dc f fs) l = false) : l.length < (jk f (dc f fs) l).length := by
 have h1 := of_decide_eq_false hc
 rw [h.self] at h1
 have h2 := lJ (S := l) (T := jk f (dc f fs) l) h.nodup h.more
 omega
theorem jV.end (h : jV f rs fs l) (hc : jt f (dc f fs) l = true) : l = dt (nr f rs fs) := by
 have h1 := of_decide_eq_true hc
 rw [h.self] at h1
 have h2 := rk h.nodup (iD _ _) h.more h1
 have h3 := (mG rs fs).least l h.start fun z hz => h2 z (lQ.2 hz)
 rw [kr (mG rs fs).ok, ← h.self]
 exact nS fun z _ _ => ⟨h.inn z, h3 z⟩
end
end Go.Proofs.YtpbinloeemebkaaGreat

namespace Go.Proofs.YtpbinloeemebkaaGreat
open Go.RowKit
attribute [local irreducible] AT bN AX AO Av Kt bi dE DA d6
theorem vH (rs : List Int) (cs : List eS) : (mr rs cs).length ≤ cs.length := by
 unfold mr
 rw [List.length_map]
 exact List.length_filter_le _ _
set_option maxHeartbeats 4000000 in
theorem sH (f : aH) (hs : ck f) (rs : List Int) : bo Tryz.prog 41 [bw f, .imm 1 (aV rs)] (.imm 1 (aV (nZ f rs))) := by
 refine aU Tryz.func41 rfl Tryz.ntmps41 rfl fun B => ?_
 have hG := hs.glyphs
 have hC := hs.chars
 have hml : (f.Glyphs.map bz).length = f.Glyphs.length := List.length_map ..
 (repeat' (first|refine ah ?_|refine a6 ?_|refine am ?_|refine a8 ?_|refine aa ?_|refine ae a7 rfl rfl ?_|refine b6 ?_|refine nF (d := 7) a7 fun _=>?_|fail))
 rename_i kb
 refine aL [1, 2] (α := Nat × Option (Nat × Nat)) (fun x => [(6, aQ x.1), (5, .vec x.2 1 (aV (0 :: mr rs (f.Chars.take x.1))))]) (fun x => x.1 ≤ f.Chars.length) (fun x => tok x.2 3 1 (aV (0 :: mr rs (f.Chars.take x.1))).length) (fun x => f.Chars.length - x.1) (0, some (kb, 1)) rfl ⟨rfl, rfl, trivial⟩ (Nat.zero_le _) (fun _ _ h => h) ?_
 rintro ⟨i, q⟩ hi
 dsimp only at hi ⊢
 have hal : (aV (0 :: mr rs (f.Chars.take i))).length ≤ 2001 := by
  have := vH rs (f.Chars.take i)
  rw [List.length_take] at this
  rw [aM, List.length_cons]
  omega
 try dsimp only [List.cons_append, List.nil_append, List.map_cons, List.map_nil]
 (repeat' (first|refine ah ?_|refine a6 ?_|refine a8 ?_|refine aa ?_|refine ae a7 rfl rfl ?_|fail))
 refine av rfl (fun h => ?_) (fun h => ?_)
 ·have hil : i < f.Chars.length := by have := of_decide_eq_true h; simp at this; omega
  obtain ⟨c, hc⟩ : ∃ c, f.Chars[i]? = some c := ⟨_, List.getElem?_eq_getElem hil⟩
  have hcg := b5 (c := dY) hc
  have hst := oH rs hc
  (repeat' (first|refine ah ?_|refine a6 ?_|refine am ?_|refine ak ?_|refine a8 ?_|refine aa ?_|refine ae a7 rfl rfl ?_|(apply aP; first|refine aO a7 ?_|refine aI a7 ?_)|(apply ba;refine aY ?_)|fail))
  refine av rfl (fun h2 => ?_) (fun h2 => ?_)
  ·rw [if_pos (by simpa using h2)] at hst
   have hst2 : aV (0 :: mr rs (f.Chars.take (i + 1))) = aV (0 :: mr rs (f.Chars.take i)) ++ [[aQ c.Glyph]] := by rw [hst, ← List.cons_append, lG]
   (repeat' (first|refine a6 ?_|refine ae a7 rfl rfl ?_|(apply aP; first|refine aO a7 ?_|refine aI a7 ?_)|refine bM a7 ?_|fail))
   refine cF a7 [] rfl rfl rfl rfl (by rw [List.append_nil]) (by simp only [List.length_cons, List.length_nil]; omega) (by simp only [List.length_cons, List.length_nil]; omega) rfl fun q' => ?_
   rw [List.append_nil]
   (repeat' (first|refine a6 ?_|refine a8 ?_|refine aJ ?_|refine aa ?_|refine ae a7 rfl rfl ?_|(apply aX; refine aW ?_)|fail))
   exact aE (i + 1, q') rfl ⟨by rw [Int.natCast_add]; rfl, by dsimp only; rw [hst2]; rfl, trivial⟩ (by dsimp only; omega) (by dsimp only; omega) (fun _ _ h => by dsimp only; rw [hst2]; exact h)
  ·rw [if_neg (by simpa using h2), List.append_nil] at hst
   (repeat' (first|refine a6 ?_|refine ak ?_|refine a8 ?_|refine aJ ?_|refine aa ?_|refine ae a7 rfl rfl ?_|(apply aX; refine aW ?_)|fail))
   exact aE (i + 1, q) rfl ⟨by rw [Int.natCast_add]; rfl, by dsimp only; rw [hst]; rfl, trivial⟩ (by dsimp only; omega) (by dsimp only; omega) (fun _ _ h => by dsimp only; rw [hst]; exact h)
 have hil : i = f.Chars.length := by have := of_decide_eq_false h; simp at this; omega
 subst hil
 rw [List.take_length]
 (repeat' (first|refine ah ?_|refine a6 ?_|refine aR ?_|refine a8 ?_|refine az ?_|refine aC ?_|refine aA ?_|refine ae a7 rfl rfl ?_|fail))
 rw [hml]
 refine aY (hc := ⟨jD _ _ (by omega)⟩) ?_
 (repeat' (first|refine au ?_|refine a8 ?_|refine aa ?_|refine ae a7 rfl rfl ?_|fail))
 exact aB rfl rfl rfl
set_option maxHeartbeats 4000000 in
theorem qo (f : aH) (hs : ck f) (ks gs : List Int) : bo Tryz.prog 42 [bw f, .imm 1 (aV ks), .imm 1 (aV gs)] (c8 (jt f ks gs)) := by
 refine aU Tryz.func42 rfl Tryz.ntmps42 rfl fun B => ?_
 have hG := hs.glyphs
 have hml : (f.Glyphs.map bz).length = f.Glyphs.length := List.length_map ..
 haveI a1 : AD Tryz.prog 43 [bw f, .imm 1 (aV ks), .imm 1 (aV gs)] (.imm 1 (aV (jk f ks gs))) := ⟨p8 f hs ks gs⟩
 haveI a2 : AD Tryz.prog 32 [.imm 1 (aV gs), .sc (.int .i64 (f.Glyphs.map bz).length)] (.imm 1 (aV (d3 gs f.Glyphs.length))) := ⟨by rw [hml]; exact jD _ _ (by omega)⟩
 (repeat' (first|refine ah ?_|refine a6 ?_|refine a8 ?_|refine aa ?_|refine ae a7 rfl rfl ?_|refine b6 ?_|fail))
 refine bj 11 [(0, .v), (1, .v), (2, .v), (3, .v), (4, .v), (5, .v), (6, .v), (7, .v), (8, .v), (9, .v), (10, .v)] none ?_ trivial rfl (by kernel_rfl) (by kernel_rfl) (by kernel_rfl) mixed (by kernel_rfl) rfl
 (repeat' (first|refine aN ?_|refine bf a7 ?_|(apply cZ;refine dl ?_)|fail))
 refine bl [11, 17] rfl rfl ?_
 (repeat' (first|refine au ?_|refine a8 ?_|refine aa ?_|refine ae a7 rfl rfl ?_|fail))
 refine aB rfl rfl ?_
 unfold jt
 rw [aM, aM]
 exact congrArg c8 (decide_eq_decide.2 Int.ofNat_inj)
theorem qH (f : aH) (hs : ck f) (hR : bo Tryz.prog 40 [bw f] (c8 (decide ((er f).1 = 0)))) (rs : List Int) (fs : List ByteArray) (hrl : rs.length ≤ 1000000) : bo Tryz.prog 16 [bw f, lq rs fs] (eJ f rs fs) := by
 refine aU Tryz.func16 rfl Tryz.ntmps16 rfl fun B => ?_
 have hri := aM rs
 haveI a1 : AD Tryz.prog 40 [bw f] (c8 (decide ((er f).1 = 0))) := ⟨hR⟩
 unfold eJ lq
 (repeat' (first|refine ah ?_|refine a6 ?_|refine a8 ?_|refine aa ?_|refine ae a7 rfl rfl ?_|refine b6 ?_|(apply ba;refine aY ?_)|fail))
 refine av rfl (fun h => ?_) (fun h => ?_)
 ·have h : ¬ (er f).1 = 0 := by simpa using h
  rw [if_neg h]
  (repeat' (first|refine ah ?_|refine a6 ?_|refine au ?_|refine a8 ?_|refine ar ?_|refine aa ?_|refine ae a7 rfl rfl ?_|fail))
  exact b4 rfl rfl rfl rfl
 have h : (er f).1 = 0 := by simpa using h
 rw [if_pos h]
 clear h
 (repeat' (first|refine ah ?_|refine a6 ?_|refine am ?_|refine ak ?_|refine a8 ?_|refine aa ?_|refine ae a7 rfl rfl ?_|fail))
 refine aL [2, 3] (α := Nat) (fun i => [(6, aQ i)]) (fun i => i ≤ rs.length ∧ (rs.take i).any mt = false) (fun _ => []) (fun i => rs.length - i) 0 rfl ⟨rfl, trivial⟩ ⟨Nat.zero_le _, rfl⟩ (fun _ _ h => h) ?_
 rintro i ⟨hi, ha⟩
 try dsimp only [List.cons_append, List.nil_append, List.map_cons, List.map_nil]
 (repeat' (first|refine ah ?_|refine a6 ?_|refine a8 ?_|refine aa ?_|refine ae a7 rfl rfl ?_|fail))
 refine av rfl (fun h => ?_) (fun h => ?_)
 ·have hil : i < rs.length := by have := of_decide_eq_true h; omega
  obtain ⟨z, hz⟩ : ∃ z, rs[i]? = some z := ⟨_, List.getElem?_eq_getElem hil⟩
  have hzg := bk hz
  (repeat' (first|refine ah ?_|refine a6 ?_|refine am ?_|refine ak ?_|refine a8 ?_|refine ae a7 rfl rfl ?_|(apply aP; first|refine aO a7 ?_|refine aI a7 ?_)|fail))
  refine bv (t := 32) [2, 3, 6] (z < 0 ∨ z > 1114111) rfl (fun Q' K => ?_) ?_
  ·(repeat' (first|refine aa ?_|refine ae a7 rfl rfl ?_|refine aw rfl rfl ?_|refine aD rfl rfl rfl rfl ?_|(apply aP; first|refine aO a7 ?_|refine aI a7 ?_)|refine aS rfl rfl rfl (fun _ => ?_) (fun _ => ?_)|fail))
   all_goals exact K _ _ rfl rfl (by clear K; simp_all <;> omega)
  (repeat' (first|refine a8 ?_|fail))
  refine av rfl (fun h2 => ?_) (fun h2 => ?_)
  ·have : rs.any mt = true := List.any_eq_true.2 ⟨z, List.mem_of_getElem? hz, h2⟩
   rw [if_pos this]
   (repeat' (first|refine ah ?_|refine a6 ?_|refine au ?_|refine a8 ?_|refine ar ?_|refine aG ?_|refine aK ?_|refine aa ?_|refine ae a7 rfl rfl ?_|fail))
   exact b4 rfl rfl rfl rfl
  (repeat' (first|refine a6 ?_|refine ak ?_|refine a8 ?_|refine aJ ?_|refine aa ?_|refine ae a7 rfl rfl ?_|(apply aX; refine aW ?_)|fail))
  refine aE (i + 1) rfl ⟨by rw [Int.natCast_add]; rfl, trivial⟩ ⟨by omega, ?_⟩ (by omega) (fun _ _ h => h)
  rw [List.take_add_one, hz, List.any_append, ha]
  have : mt z = false := h2
  simp [this]
 have hil : i = rs.length := by have := of_decide_eq_false h; omega
 subst hil
 rw [List.take_length] at ha
 rw [if_neg (by rw [ha]; exact fun e => by cases e)]
 clear h hi ha
 (repeat' (first|refine ah ?_|refine a6 ?_|refine aR ?_|refine a8 ?_|refine az ?_|refine aC ?_|refine aA ?_|refine ae a7 rfl rfl ?_|fail))
 refine aY (hc := ⟨sH f hs rs⟩) ?_
 (repeat' (first|refine ah ?_|refine a6 ?_|refine a8 ?_|refine aa ?_|refine ae a7 rfl rfl ?_|fail))
 refine aY (hc := ⟨qT f fs hs⟩) ?_
 (repeat' (first|refine ah ?_|refine am ?_|refine a8 ?_|refine aa ?_|refine ae a7 rfl rfl ?_|fail))
 refine aL [2, 8] (α := List Int) (fun l => [(7, .imm 1 (aV l))]) (fun l => jV f rs fs l) (fun _ => []) (fun l => f.Glyphs.length + 1 - l.length) (nZ f rs) rfl ⟨rfl, trivial⟩ ve (fun _ _ h => h) ?_
 rintro l hw
 have hll : l.length ≤ f.Glyphs.length := eb hw.nodup hw.dom
 try dsimp only [List.cons_append, List.nil_append, List.map_cons, List.map_nil]
 (repeat' (first|refine ah ?_|refine a6 ?_|refine ae a7 rfl rfl ?_|fail))
 refine aY (hc := ⟨qo f hs (dc f fs) l⟩) ?_
 (repeat' (first|refine a8 ?_|refine aa ?_|refine ae a7 rfl rfl ?_|fail))
 refine av rfl (fun h => ?_) (fun h => ?_)
 ·have h : jt f (dc f fs) l = false := by simpa using h
  have hg := hw.grows h
  (repeat' (first|refine a6 ?_|refine am ?_|refine ak ?_|refine a8 ?_|refine ae a7 rfl rfl ?_|fail))
  refine aY (hc := ⟨p8 f hs (dc f fs) l⟩) ?_
  (repeat' (first|refine aJ ?_|refine aa ?_|refine ae a7 rfl rfl ?_|fail))
  exact aE (jk f (dc f fs) l) rfl ⟨rfl, trivial⟩ hw.step (by omega) (fun _ _ h => h)
 have h : jt f (dc f fs) l = true := by simpa using h
 rw [hw.end h]
 (repeat' (first|refine ah ?_|refine a6 ?_|refine au ?_|refine aR ?_|refine a8 ?_|refine az ?_|refine aC ?_|refine aA ?_|refine aa ?_|refine ae a7 rfl rfl ?_|fail))
 exact b4 rfl rfl rfl rfl
end Go.Proofs.YtpbinloeemebkaaGreat
