/-
  Plain law: lines as their sides; which way round, where each begins, in which order.
-/
import Derived.Test.YtbgolbkolcmldaaP5
namespace Go.Proofs.Ytbgolbkolcmldaa

/-! ### boxes -/
def Within (q : Int × Int × Int × Int × Bool) (x0 x1 y0 y1 : Int) : Prop := q.2.2.2.2 = true → x0 ≤ q.1 ∧ q.2.2.1 ≤ x1 ∧ y0 ≤ q.2.1 ∧ q.2.2.2.1 ≤ y1
theorem bxS_within {q : Int × Int × Int × Int × Bool} {p : Int × Int} {x0 x1 y0 y1 : Int} (h : Within q x0 x1 y0 y1) (hp : x0 ≤ cut p.1 ∧ cut p.1 ≤ x1 ∧ y0 ≤ cut p.2 ∧ cut p.2 ≤ y1) : Within (bxS q p) x0 x1 y0 y1 := by
  intro _
  unfold bxS
  cases hq : q.2.2.2.2
  · simp only [Bool.false_eq_true, if_false]; omega
  · have := h hq
    simp only [if_true]; omega
theorem fold_within {x0 x1 y0 y1 : Int} : ∀ (l : Pts) {q : Int × Int × Int × Int × Bool}, Within q x0 x1 y0 y1 → (∀ p ∈ l, x0 ≤ cut p.1 ∧ cut p.1 ≤ x1 ∧ y0 ≤ cut p.2 ∧ cut p.2 ≤ y1) → Within (l.foldl bxS q) x0 x1 y0 y1
  | [], _, h, _ => h
  | a :: l, _, h, hp => fold_within l (bxS_within h (hp a (by simp))) fun p hp' => hp p (by simp [hp'])
theorem cut_id {n : Int} (h : -268435456 ≤ n ∧ n ≤ 268435456) : cut n = n := by unfold cut; omega
theorem small_of {ls : List Pts} (x0 x1 y0 y1 : Int) (hne : ls.flatten ≠ []) (h : ∀ p ∈ ls.flatten, x0 ≤ p.1 ∧ p.1 ≤ x1 ∧ y0 ≤ p.2 ∧ p.2 ≤ y1) (hx : -268435456 ≤ x0 ∧ x1 ≤ 268435456 ∧ x1 - x0 ≤ 65536) (hy : -268435456 ≤ y0 ∧ y1 ≤ 268435456 ∧ y1 - y0 ≤ 65536) : Small ls := by
  obtain ⟨p, hp⟩ := List.exists_mem_of_ne_nil _ hne
  have hin : InBox (boxP ls) p := fold_mem _ hp
  have hw : Within (boxP ls) x0 x1 y0 y1 := fold_within _ (fun h => by cases h) fun p hp => by
    have := h p hp
    rw [cut_id (by omega), cut_id (by omega)]
    exact this
  have := hw hin.1
  exact ⟨hin.1, by omega, by omega⟩
theorem fill_none {ls : List Pts} (h : ls.flatten = []) : fillB ls = Bm.nil := by
  unfold fillB boxP
  rw [h]
  simp

/-! ### sides -/
def steps {α : Type} : List α → List (α × α)
  | a :: b :: r => (a, b) :: steps (b :: r)
  | _ => []
def pairs {α : Type} : List α → List (α × α)
  | [] => []
  | h :: t => steps (h :: t ++ [h])
theorem steps_cut {α : Type} : ∀ (l : List α) (m : α) (r : List α), steps (l ++ m :: r) = steps (l ++ [m]) ++ steps (m :: r)
  | [], m, r => by simp [steps]
  | [a], m, r => by simp [steps]
  | a :: b :: l, m, r => by
    have := steps_cut (b :: l) m r
    simp only [List.cons_append, steps] at this ⊢
    rw [this]
theorem steps_reverse {α : Type} : ∀ (l : List α), steps l.reverse = ((steps l).map Prod.swap).reverse
  | [] => rfl
  | [a] => rfl
  | a :: b :: r => by
    have ih := steps_reverse (b :: r)
    rw [List.reverse_cons, List.reverse_cons, List.append_assoc, List.singleton_append, steps_cut, ← List.reverse_cons, ih]
    simp [steps]
theorem pairs_rot {α : Type} (a b : List α) : (pairs (a ++ b)).Perm (pairs (b ++ a)) := by
  cases a with
  | nil => simp
  | cons x a =>
    cases b with
    | nil => simp
    | cons y b =>
      have e1 : pairs (x :: a ++ y :: b) = steps (x :: a ++ [y]) ++ steps (y :: b ++ [x]) := by
        have := steps_cut (x :: a) y (b ++ [x])
        simp only [pairs, List.cons_append, List.append_assoc] at this ⊢
        exact this
      have e2 : pairs (y :: b ++ x :: a) = steps (y :: b ++ [x]) ++ steps (x :: a ++ [y]) := by
        have := steps_cut (y :: b) x (a ++ [y])
        simp only [pairs, List.cons_append, List.append_assoc] at this ⊢
        exact this
      rw [e1, e2]
      exact List.perm_append_comm
theorem pairs_reverse {α : Type} (l : List α) : (pairs l.reverse).Perm ((pairs l).map Prod.swap) := by
  cases l with
  | nil => exact .nil
  | cons h t =>
    rw [List.reverse_cons]
    refine (pairs_rot _ _).trans ?_
    have e : pairs ([h] ++ t.reverse) = steps ((h :: t ++ [h]).reverse) := by
      simp [pairs]
    rw [e, steps_reverse]
    exact List.reverse_perm _
theorem pairs_map {α β : Type} (f : α → β) (l : List α) : pairs (l.map f) = (pairs l).map fun x => (f x.1, f x.2) := by
  have hs : ∀ l : List α, steps (l.map f) = (steps l).map fun x => (f x.1, f x.2) := by
    intro l
    induction l with
    | nil => rfl
    | cons a l ih =>
      cases l with
      | nil => rfl
      | cons b l => simp only [List.map_cons, steps] at ih ⊢; rw [ih]
  cases l with
  | nil => rfl
  | cons h t =>
    have := hs (h :: t ++ [h])
    simpa [pairs] using this
theorem steps_mem {α : Type} : ∀ (l : List α) (x : α × α), x ∈ steps l → x.1 ∈ l ∧ x.2 ∈ l
  | [], x, h => by simp [steps] at h
  | [a], x, h => by simp [steps] at h
  | a :: b :: r, x, h => by
    simp only [steps, List.mem_cons] at h
    rcases h with rfl | h
    · simp
    · have := steps_mem (b :: r) x h
      exact ⟨List.mem_cons_of_mem _ this.1, List.mem_cons_of_mem _ this.2⟩
theorem pairs_mem {α : Type} {l : List α} {x : α × α} (h : x ∈ pairs l) : x.1 ∈ l ∧ x.2 ∈ l := by
  cases l with
  | nil => cases h
  | cons a t =>
    have := steps_mem _ _ h
    simp only [List.cons_append, List.mem_cons, List.mem_append, List.not_mem_nil, or_false] at this ⊢
    refine ⟨?_, ?_⟩
    · rcases this.1 with h | h | h
      · exact .inl h
      · exact .inr h
      · exact .inl h
    · rcases this.2 with h | h | h
      · exact .inl h
      · exact .inr h
      · exact .inl h

def edgeP (s : (Int × Int) × (Int × Int)) : List Edg := if (edgeV s.1.1 s.1.2 s.2.1 s.2.2).2.1 < (edgeV s.1.1 s.1.2 s.2.1 s.2.2).2.2.2.1 then [edgeV s.1.1 s.1.2 s.2.1 s.2.2] else []
def segs (ls : List Pts) : List ((Int × Int) × (Int × Int)) := ls.flatMap pairs

theorem steps_get {α : Type} : ∀ (l : List α) (i : Nat) (a b : α), l[i]? = some a → l[i + 1]? = some b → (steps l)[i]? = some (a, b)
  | [], i, a, b, h, _ => by simp at h
  | [x], i, a, b, h, h2 => by simp at h2
  | x :: y :: r, 0, a, b, h, h2 => by simp at h h2; subst h; subst h2; rfl
  | x :: y :: r, i + 1, a, b, h, h2 => by
    simp only [steps, List.getElem?_cons_succ] at h h2 ⊢
    exact steps_get (y :: r) i a b h (by simpa using h2)
theorem steps_len {α : Type} : ∀ (l : List α), (steps l).length = l.length - 1
  | [] => rfl
  | [_] => rfl
  | _ :: b :: r => by
    have := steps_len (b :: r)
    simp only [steps, List.length_cons] at this ⊢
    omega
theorem pairs_len {α : Type} (l : List α) : (pairs l).length = l.length := by
  cases l with
  | nil => rfl
  | cons h t => simp [pairs, steps_len]
theorem pairs_get {α : Type} {l : List α} {i : Nat} {a b : α} (h1 : l[i]? = some a) (h2 : l[(i + 1) % l.length]? = some b) : (pairs l)[i]? = some (a, b) := by
  have hi := (List.getElem?_eq_some_iff.1 h1).1
  cases l with
  | nil => simp at h1
  | cons h t =>
    refine steps_get (h :: t ++ [h]) i a b (by rw [List.getElem?_append_left hi]; exact h1) ?_
    by_cases hl : i + 1 < (h :: t).length
    · rw [Nat.mod_eq_of_lt hl] at h2
      rw [List.getElem?_append_left hl]; exact h2
    · have e : i + 1 = (h :: t).length := by omega
      rw [e, Nat.mod_self] at h2
      simp at h2
      subst h2
      rw [List.getElem?_append_right (by omega), e]
      simp
theorem flat_range {α β : Type} (f : α → List β) : ∀ l : List α, l.flatMap f = (List.range l.length).flatMap fun i => match l[i]? with | some a => f a | none => []
  | [] => rfl
  | a :: l => by
    rw [List.flatMap_cons, flat_range f l, List.length_cons, List.range_succ_eq_map, List.flatMap_cons, List.flatMap_map]
    rfl
theorem edgesOf_pairs (l : Pts) : edgesOf l = (pairs l).flatMap edgeP := by
  rw [flat_range, pairs_len]
  unfold edgesOf edgesTo
  refine flatMap_congr' fun i hi => ?_
  rw [List.mem_range] at hi
  have h1 : l[i]? = some l[i] := List.getElem?_eq_getElem hi
  have hm : (i + 1) % l.length < l.length := Nat.mod_lt _ (by omega)
  have h2 : l[(i + 1) % l.length]? = some (l[(i + 1) % l.length]'hm) := List.getElem?_eq_getElem hm
  rw [pairs_get h1 h2, edgeAt, h1, h2]
  rfl
theorem edgesAll_segs (ls : List Pts) : edgesAll ls = (segs ls).flatMap edgeP := by
  unfold edgesAll segs
  rw [List.flatMap_assoc]
  exact flatMap_congr' fun l _ => edgesOf_pairs l

/-- a side's crossing of a row of pixels -/
def crP (k : Int) (s : (Int × Int) × (Int × Int)) : List Cr := ((edgeP s).filter (crB (64 * k + 32))).map (crOf (64 * k + 32))
theorem crs_segs (ls : List Pts) (k : Int) : crs ls k = (segs ls).flatMap (crP k) := by
  unfold crs
  rw [edgesAll_segs, List.filter_flatMap, List.map_flatMap]
  rfl
def negC (c : Cr) : Cr := ⟨c.n, c.d, -c.t⟩
theorem edgeP_swap (s : (Int × Int) × (Int × Int)) : edgeP s.swap = (edgeP s).map fun e => (e.1, e.2.1, e.2.2.1, e.2.2.2.1, -e.2.2.2.2) := by
  obtain ⟨p, q⟩ := s
  unfold edgeP edgeV
  simp only [Prod.swap]
  rcases Int.lt_trichotomy (cut p.2) (cut q.2) with h | h | h
  · have h1 : ¬ cut q.2 < cut p.2 := by omega
    simp [h, h1]
  · have h1 : ¬ cut q.2 < cut p.2 := by omega
    have h2 : ¬ cut p.2 < cut q.2 := by omega
    simp [h1, h2]
  · have h1 : ¬ cut p.2 < cut q.2 := by omega
    simp [h, h1]
theorem crP_swap (k : Int) (s : (Int × Int) × (Int × Int)) : crP k s.swap = (crP k s).map negC := by
  unfold crP
  rw [edgeP_swap, List.filter_map, List.map_map, List.map_map]
  rfl
theorem crs_perm {ls ls' : List Pts} (h : (segs ls).Perm (segs ls')) (k : Int) : (crs ls k).Perm (crs ls' k) := by
  rw [crs_segs, crs_segs]
  exact h.flatMap_right _
theorem crs_swap {ls ls' : List Pts} (h : (segs ls').Perm ((segs ls).map Prod.swap)) (k : Int) : (crs ls' k).Perm ((crs ls k).map negC) := by
  rw [crs_segs, crs_segs]
  refine (h.flatMap_right _).trans (List.Perm.of_eq ?_)
  rw [List.flatMap_map, List.map_flatMap]
  exact flatMap_congr' fun s _ => crP_swap k s

/-! ### the other way round -/
theorem sum_neg {α : Type} (f : α → Int) : ∀ l : List α, (l.map fun x => -f x).sum = -(l.map f).sum
  | [] => rfl
  | a :: l => by rw [List.map_cons, List.sum_cons, sum_neg f l, List.map_cons, List.sum_cons]; omega
theorem W_neg (cs : List Cr) (q : Place) : W (cs.map negC) q = -W cs q := by
  unfold W
  rw [List.map_map, ← sum_neg]
  congr 1
  refine List.map_congr_left fun c _ => ?_
  show (if leP (c.n, c.d) q then -c.t else 0) = -(if leP (c.n, c.d) q then c.t else 0)
  by_cases h : leP (c.n, c.d) q
  · rw [if_pos h, if_pos h]
  · rw [if_neg h, if_neg h]; rfl
theorem Wlt_neg (cs : List Cr) (q : Place) : Wlt (cs.map negC) q = -Wlt cs q := by
  unfold Wlt
  rw [List.map_map, ← sum_neg]
  congr 1
  refine List.map_congr_left fun c _ => ?_
  show (if leP q (c.n, c.d) then 0 else -c.t) = -(if leP q (c.n, c.d) then 0 else c.t)
  by_cases h : leP q (c.n, c.d)
  · rw [if_pos h, if_pos h]; rfl
  · rw [if_neg h, if_neg h]
theorem IsStr.neg {cs : List Cr} {a b : Cr} (h : IsStr cs a b) : IsStr (cs.map negC) (negC a) (negC b) := by
  refine ⟨List.mem_map_of_mem h.ma, List.mem_map_of_mem h.mb, ?_, fun p hp h1 h2 => ?_, ?_, h.apart⟩
  · rw [Wlt_neg]; have := h.before; simp only [negC, Cr.p] at this ⊢; omega
  · obtain ⟨c, hc, rfl⟩ := List.mem_map.1 hp
    rw [W_neg]
    have := h.within c hc h1 h2
    simp only [negC, Cr.p] at this ⊢
    omega
  · rw [W_neg]; have := h.behind; simp only [negC, Cr.p] at this ⊢; omega
theorem negC_negC (cs : List Cr) : (cs.map negC).map negC = cs := by
  rw [List.map_map]
  refine (List.map_congr_left fun c _ => ?_).trans (List.map_id _)
  simp [negC]
theorem blk_perm {ls ls' : List Pts} (h : (segs ls).Perm (segs ls')) (x k : Int) : Blk ls x k → Blk ls' x k := by
  rintro ⟨a, b, hi, hin⟩
  exact ⟨a, b, hi.perm (crs_perm h k), hin⟩
theorem blk_swap {ls ls' : List Pts} (h : (segs ls').Perm ((segs ls).map Prod.swap)) (x k : Int) : Blk ls x k ↔ Blk ls' x k := by
  have hp := crs_swap h k
  constructor
  · rintro ⟨a, b, hi, hin⟩
    exact ⟨negC a, negC b, hi.neg.perm hp.symm, hin⟩
  · rintro ⟨a, b, hi, hin⟩
    have h2 := (hi.perm hp).neg
    rw [negC_negC] at h2
    exact ⟨negC a, negC b, h2, hin⟩
theorem segs_append (a b : List Pts) : segs (a ++ b) = segs a ++ segs b := by simp [segs]
theorem segs_reverse (ls : List Pts) : (segs (ls.map List.reverse)).Perm ((segs ls).map Prod.swap) := by
  unfold segs
  rw [List.flatMap_map, List.map_flatMap]
  induction ls with
  | nil => exact .nil
  | cons l ls ih => rw [List.flatMap_cons, List.flatMap_cons]; exact (pairs_reverse l).append ih
theorem blk_both {ls ls' : List Pts} (h : (segs ls').Perm ((segs ls).map Prod.swap)) (x k : Int) : ¬ Blk (ls ++ ls') x k := by
  rintro ⟨a, b, hi, _⟩
  have hp : (crs (ls ++ ls') k).Perm (crs ls k ++ (crs ls k).map negC) := by
    have e : crs (ls ++ ls') k = crs ls k ++ crs ls' k := by rw [crs_segs, segs_append, List.flatMap_append, ← crs_segs, ← crs_segs]
    rw [e]
    exact (crs_swap h k).append_left _
  have h0 : W (crs (ls ++ ls') k) a.p = 0 := by rw [W_perm hp, W_append, W_neg]; omega
  exact hi.within a hi.ma (leP_refl _) hi.apart h0

/-! ### how often lines go around a place -/
def windP (x y : Int) (s : (Int × Int) × (Int × Int)) : Int := windE x y (edgeP s)
theorem windE_flat {α : Type} (x y : Int) (f : α → List Edg) : ∀ l : List α, windE x y (l.flatMap f) = (l.map fun a => windE x y (f a)).sum
  | [] => rfl
  | a :: l => by
    rw [List.flatMap_cons, List.map_cons, List.sum_cons, ← windE_flat x y f l]
    simp [windE, List.sum_append]
theorem wind_segs (ls : List Pts) (x y : Int) : wind ls x y = ((segs ls).map (windP (cut x) (cut y))).sum := by
  unfold wind
  rw [edgesAll_segs, windE_flat]
  rfl
theorem windP_swap (x y : Int) (s : (Int × Int) × (Int × Int)) : windP x y s.swap = -windP x y s := by
  unfold windP windE
  rw [edgeP_swap, List.map_map, ← sum_neg]
  congr 1
  refine List.map_congr_left fun e _ => ?_
  show (if (decide (e.2.1 ≤ y) && decide (y < e.2.2.2.1)) = true ∧ cmpI (atN e y * 1) (x * atD e) ≤ 0 then -e.2.2.2.2 else 0) = -(if (decide (e.2.1 ≤ y) && decide (y < e.2.2.2.1)) = true ∧ cmpI (atN e y * 1) (x * atD e) ≤ 0 then e.2.2.2.2 else 0)
  by_cases h : (decide (e.2.1 ≤ y) && decide (y < e.2.2.2.1)) = true ∧ cmpI (atN e y * 1) (x * atD e) ≤ 0
  · rw [if_pos h, if_pos h]
  · rw [if_neg h, if_neg h]; rfl
theorem wind_perm {ls ls' : List Pts} (h : (segs ls).Perm (segs ls')) (x y : Int) : wind ls x y = wind ls' x y := by
  rw [wind_segs, wind_segs]; exact sum_perm (h.map _)
theorem wind_swap {ls ls' : List Pts} (h : (segs ls').Perm ((segs ls).map Prod.swap)) (x y : Int) : wind ls' x y = -wind ls x y := by
  rw [wind_segs, wind_segs, sum_perm (h.map _), List.map_map, ← sum_neg]
  congr 1
  exact List.map_congr_left fun s _ => windP_swap _ _ s
theorem wind_append (a b : List Pts) (x y : Int) : wind (a ++ b) x y = wind a x y + wind b x y := by
  rw [wind_segs, wind_segs, wind_segs, segs_append, List.map_append, List.sum_append]

end Go.Proofs.Ytbgolbkolcmldaa
