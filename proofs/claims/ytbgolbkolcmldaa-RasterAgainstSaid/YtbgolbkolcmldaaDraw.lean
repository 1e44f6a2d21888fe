/-
  A region whose order Go leaves open: each operation is asked for once, whatever has been carried out before it.
-/
import Derived.Test.YtbgolbkolcmldaaMem
namespace Go.Proofs.Ytbgolbkolcmldaa
open Go.RowKit

def dstOf (ops : Array Oper) (i : Nat) : Option Nat := (ops[i]?).bind (·.dst)

/-- what an operation knows of its frame: what it comes after, and the region's start -/
def frk (ops : Array Oper) (ε : Nat → Value) (fr : Fr) : List Edge → Fr
  | [] => fr
  | e :: r => bif Region.binds .any e then (match dstOf ops e.on with
    | some t => (t, ε e.on) :: frk ops ε fr r
    | none => frk ops ε fr r) else frk ops ε fr r

def reachIn (ops : Array Oper) : Nat → Nat → Nat → Bool
  | 0, _, _ => false
  | n + 1, i, k => match ops[i]? with
    | none => false
    | some o => o.after.toList.any fun e => Region.binds .any e && (Nat.beq e.on k || reachIn ops n e.on k)

def edgeTo (o : Oper) (i : Nat) : Bool := o.after.toList.any fun e => Region.binds .any e && Nat.beq e.on i

def slotsOf (ops : Array Oper) (o : Oper) : List Nat :=
  (o.op.operands.toList.filterMap fun | .tmp t => some t | _ => none) ++ (match o.guard with | some (j, _) => (dstOf ops j).toList | none => [])

def okEdges (l : List Oper) : Nat → Bool
  | k => match l with
    | [] => true
    | o :: r => (o.after.toList.all fun e => !Region.binds .any e || Nat.blt e.on k) && okEdges r (k + 1)

def okDst : List Oper → Bool
  | [] => true
  | o :: r => (match o.dst with | none => true | some t => r.all fun p => !(p.dst == some t)) && okDst r

def okWriters (ops : Array Oper) (k : Nat) (o : Oper) (t : Nat) : List Oper → Nat → Bool
  | [], _ => true
  | p :: r, i => (!(p.dst == some t) || edgeTo o i || reachIn ops 6 i k) && okWriters ops k o t r (i + 1)

def okReads (ops : Array Oper) (all : List Oper) : List Oper → Nat → Bool
  | [], _ => true
  | o :: r, k => ((slotsOf ops o).all fun t => okWriters ops k o t all 0) && okReads ops all r (k + 1)

def okGuards (ops : Array Oper) : List Oper → Bool
  | [] => true
  | o :: r => (match o.guard with | none => true | some (j, _) => edgeTo o j && (dstOf ops j).isSome) && okGuards ops r

def okNoDefer : List Oper → Bool
  | [] => true
  | o :: r => Oper.noDefer o && okNoDefer r

def regionOk (l : List Oper) : Bool := okEdges l 0 && okDst l && okReads l.toArray l l 0 && okGuards l.toArray l && okNoDefer l

section
variable {l : List Oper}

theorem okEdges_spec : ∀ (l : List Oper) (k : Nat), okEdges l k = true → ∀ i o, l[i]? = some o → ∀ e ∈ o.after, Region.binds .any e = true → e.on < k + i
  | [], _, _, _, _, h => by simp at h
  | p :: r, k, hk, i, o, h => by
    simp only [okEdges, Bool.and_eq_true, List.all_eq_true] at hk
    intro e he hb
    cases i with
    | zero =>
      simp at h; subst h
      have := hk.1 e (by simpa using he)
      simp [hb, Nat.blt_eq] at this
      simpa using this
    | succ i =>
      have := okEdges_spec r (k + 1) hk.2 i o (by simpa using h) e he hb
      omega

theorem okDst_spec : ∀ (l : List Oper), okDst l = true → ∀ (i j : Nat) (oi oj : Oper) (t : Nat), i < j → l[i]? = some oi → l[j]? = some oj → oi.dst = some t → oj.dst ≠ some t
  | [], _, _, _, _, _, _, _, h, _, _ => by simp at h
  | p :: r, hk, i, j, oi, oj, t, hij, hi, hj, hd => by
    simp only [okDst, Bool.and_eq_true] at hk
    cases j with
    | zero => omega
    | succ j =>
      simp only [List.getElem?_cons_succ] at hj
      cases i with
      | zero =>
        simp at hi; subst hi
        rw [hd] at hk
        have := List.all_eq_true.1 hk.1 oj (List.mem_of_getElem? hj)
        intro e; simp [e] at this
      | succ i => exact okDst_spec r hk.2 i j oi oj t (by omega) (by simpa using hi) hj hd

theorem okWriters_spec (ops : Array Oper) (k : Nat) (o : Oper) (t : Nat) : ∀ (l : List Oper) (i : Nat), okWriters ops k o t l i = true → ∀ j p, l[j]? = some p → p.dst = some t → edgeTo o (i + j) = true ∨ reachIn ops 6 (i + j) k = true
  | [], _, _, _, _, h, _ => by simp at h
  | q :: r, i, hk, j, p, hj, hd => by
    simp only [okWriters, Bool.and_eq_true, Bool.or_eq_true] at hk
    cases j with
    | zero =>
      simp at hj; subst hj
      simpa [hd] using hk.1
    | succ j =>
      have := okWriters_spec ops k o t r (i + 1) hk.2 j p (by simpa using hj) hd
      rwa [show i + 1 + j = i + (j + 1) by omega] at this

theorem okReads_spec (ops : Array Oper) (all : List Oper) : ∀ (l : List Oper) (i : Nat), okReads ops all l i = true → ∀ j o, l[j]? = some o → ∀ t ∈ slotsOf ops o, okWriters ops (i + j) o t all 0 = true
  | [], _, _, _, _, h => by simp at h
  | q :: r, i, hk, j, o, hj => by
    simp only [okReads, Bool.and_eq_true, List.all_eq_true] at hk
    cases j with
    | zero => simp at hj; subst hj; simpa using hk.1
    | succ j =>
      have := okReads_spec ops all r (i + 1) hk.2 j o (by simpa using hj)
      rwa [show i + 1 + j = i + (j + 1) by omega] at this

theorem okGuards_spec (ops : Array Oper) : ∀ (l : List Oper), okGuards ops l = true → ∀ (i : Nat) (o : Oper) (j : Nat) (b : Bool), l[i]? = some o → o.guard = some (j, b) → edgeTo o j = true ∧ (dstOf ops j).isSome = true
  | [], _, _, _, _, _, h, _ => by simp at h
  | q :: r, hk, i, o, j, b, hi, hg => by
    simp only [okGuards, Bool.and_eq_true] at hk
    cases i with
    | zero => simp at hi; subst hi; simpa [hg] using hk.1
    | succ i => exact okGuards_spec ops r hk.2 i o j b (by simpa using hi) hg

theorem okNoDefer_spec : ∀ (l : List Oper), okNoDefer l = true → ∀ (i : Nat) (o : Oper), l[i]? = some o → Oper.noDefer o = true
  | [], _, _, _, h => by simp at h
  | q :: r, hk, i, o, hi => by
    simp only [okNoDefer, Bool.and_eq_true] at hk
    cases i with
    | zero => simp at hi; subst hi; exact hk.1
    | succ i => exact okNoDefer_spec r hk.2 i o (by simpa using hi)

theorem edgeTo_iff {o : Oper} {i : Nat} : edgeTo o i = true ↔ ∃ e ∈ o.after, Region.binds .any e = true ∧ e.on = i := by
  simp only [edgeTo, List.any_eq_true, Bool.and_eq_true, Nat.beq_eq, Array.mem_toList_iff]

/-- closed under what each operation comes after -/
def Closed (ops : Array Oper) (S : Nat → Bool) : Prop := ∀ i o, ops[i]? = some o → S i = true → ∀ e ∈ o.after, Region.binds .any e = true → S e.on = true

theorem reach_spec {ops : Array Oper} {S : Nat → Bool} (hc : Closed ops S) : ∀ (n i k : Nat), reachIn ops n i k = true → S i = true → S k = true
  | 0, _, _, h, _ => by simp [reachIn] at h
  | n + 1, i, k, h, hi => by
    simp only [reachIn] at h
    cases ho : ops[i]? with
    | none => rw [ho] at h; cases h
    | some o =>
      rw [ho] at h
      simp only [List.any_eq_true, Bool.and_eq_true, Bool.or_eq_true, Nat.beq_eq] at h
      obtain ⟨e, he, hb, h⟩ := h
      have hs := hc i o ho hi e (by simpa using he) hb
      rcases h with h | h
      · rw [← h]; exact hs
      · exact reach_spec hc n e.on k h hs
end

/-- the slots of a region under way -/
structure Way (nt : Nat) (D : List Deferred) (fr : Fr) (ops : Array Oper) (S : Nat → Bool) (ε : Nat → Value) (a : Act) : Prop where
  size : a.tmps.size = nt
  defers : a.defers = D
  base : ∀ t v, flook fr t = some v → (∀ i, S i = true → dstOf ops i ≠ some t) → a.tmps.getD t undef = v
  done : ∀ i t, S i = true → dstOf ops i = some t → a.tmps.getD t undef = ε i

theorem frk_look {ops : Array Oper} {ε : Nat → Value} {fr : Fr} : ∀ (es : List Edge) {t : Nat} {v : Value}, flook (frk ops ε fr es) t = some v →
    (∃ e ∈ es, Region.binds .any e = true ∧ dstOf ops e.on = some t ∧ v = ε e.on) ∨ (flook fr t = some v ∧ ∀ e ∈ es, Region.binds .any e = true → dstOf ops e.on ≠ some t)
  | [], t, v, h => .inr ⟨h, by simp⟩
  | e :: r, t, v, h => by
    simp only [frk] at h
    cases hb : Region.binds .any e with
    | false =>
      rw [hb] at h
      rcases frk_look r h with ⟨e', he, h1⟩ | ⟨h1, h2⟩
      · exact .inl ⟨e', List.mem_cons_of_mem _ he, h1⟩
      · refine .inr ⟨h1, fun e' he hb' => ?_⟩
        rcases List.mem_cons.1 he with rfl | he
        · rw [hb] at hb'; cases hb'
        · exact h2 e' he hb'
    | true =>
      rw [hb] at h
      simp only [cond_true] at h
      cases hd : dstOf ops e.on with
      | none =>
        rw [hd] at h
        rcases frk_look r h with ⟨e', he, h1⟩ | ⟨h1, h2⟩
        · exact .inl ⟨e', List.mem_cons_of_mem _ he, h1⟩
        · refine .inr ⟨h1, fun e' he hb' => ?_⟩
          rcases List.mem_cons.1 he with rfl | he
          · rw [hd]; simp
          · exact h2 e' he hb'
      | some t' =>
        rw [hd] at h
        simp only [flook_cons] at h
        by_cases e1 : t' = t
        · subst e1
          simp only [if_true, Option.some.injEq] at h
          exact .inl ⟨e, List.mem_cons_self .., hb, hd, h.symm⟩
        · rw [if_neg e1] at h
          rcases frk_look r h with ⟨e', he, h1⟩ | ⟨h1, h2⟩
          · exact .inl ⟨e', List.mem_cons_of_mem _ he, h1⟩
          · refine .inr ⟨h1, fun e' he hb' => ?_⟩
            rcases List.mem_cons.1 he with rfl | he
            · rw [hd]; intro e2; injection e2 with e2; exact e1 e2
            · exact h2 e' he hb'

def upd (ε : Nat → Value) (k : Nat) (v : Value) : Nat → Value := fun i => if i = k then v else ε i
def mark (S : Nat → Bool) (k : Nat) : Nat → Bool := fun i => decide (i = k) || S i

/-- what is asked of one operation -/
def Ob (P : Program) (l : List Oper) (fr : Fr) (J : (Nat → Bool) → (Nat → Value) → World → Prop) (k : Nat) (o : Oper) : Prop :=
  ∀ S ε, Closed l.toArray S → S k = false → (∀ e ∈ o.after, Region.binds .any e = true → S e.on = true) →
    match o.guard with
    | none => O P o (frk l.toArray ε fr o.after.toList) (J S ε) (fun v w => J (mark S k) (upd ε k v) w)
    | some (j, want) => (ε j = .bool want → O P o (frk l.toArray ε fr o.after.toList) (J S ε) (fun v w => J (mark S k) (upd ε k v) w)) ∧
        (ε j ≠ .bool want → ∀ w, J S ε w → J (mark S k) (upd ε k undef) w)

variable {P : Program} {r : Option Nat} {Q : Exit → Act → World → Prop} {nt : Nat} {D : List Deferred} {fr : Fr} {I : World → Prop}

def tailOk (l : List Oper) (n0 : Nat) : Bool := (List.range l.length).all fun k => Nat.blt k n0 || (List.range k).all fun i => reachIn l.toArray 6 k i

theorem tailOk_spec {l : List Oper} {n0 : Nat} (h : tailOk l n0 = true) {k i : Nat} (hk : k < l.length) (hn : n0 ≤ k) (hi : i < k) : reachIn l.toArray 6 k i = true := by
  simp only [tailOk, List.all_eq_true, List.mem_range, Bool.or_eq_true] at h
  rcases h k hk with h | h
  · rw [Nat.blt_eq] at h; omega
  · exact h i hi

/-- behind what may come in any order, what comes in the text's own -/
theorem any_tail {l : List Oper} {n0 : Nat} (okE : okEdges l 0 = true) (ht : tailOk l n0 = true) : ∀ (fuel m : Nat) (listed : Array Bool) (a : Act) (w : World), listed.size = l.length → n0 ≤ m → m ≤ l.length → l.length - m ≤ fuel → (∀ i, listed.getD i false = decide (i < m)) →
    wpListIn (Wd r) 0 P l.toArray Q (l.drop m) a w → wpAnyIn (Wd r) 0 P .any l.toArray Q fuel listed a w := by
  have hready : ∀ (m : Nat) (listed : Array Bool), listed.size = l.length → n0 ≤ m → (∀ i, listed.getD i false = decide (i < m)) → ∀ k, k ∈ Region.ready .any l.toArray listed → k = m := by
    intro m listed hs hn hl k hk
    rw [mem_ready] at hk
    obtain ⟨h0, o, ho, hall⟩ := hk
    have hkl : k < l.length := by have := (Array.getElem?_eq_some_iff.1 ho).1; simpa using this
    have hkm : m ≤ k := by
      have := hl k
      have hks : k < listed.size := by omega
      simp [hks] at h0 this
      rw [h0] at this
      simp at this
      exact this
    rcases Nat.lt_or_eq_of_le hkm with hlt | rfl
    · exfalso
      have hr := tailOk_spec ht hkl (by omega) hlt
      simp only [reachIn, ho, List.any_eq_true, Bool.and_eq_true, Bool.or_eq_true, Nat.beq_eq] at hr
      obtain ⟨e, he, hb, hr⟩ := hr
      have hse := hall e (by simpa using he) hb
      have hc : Closed l.toArray (fun i => decide (i < m)) := by
        intro i oi hoi hi e' he' hb'
        have := okEdges_spec l 0 okE i oi (by simpa using hoi) e' he' hb'
        simp at hi ⊢; omega
      rw [hl] at hse
      rcases hr with hr | hr
      · rw [hr] at hse; simp at hse
      · have := reach_spec hc 5 e.on m hr hse
        simp at this
    · rfl
  intro fuel
  induction fuel with
  | zero =>
    intro m listed a w hs hn hm hf hl h
    have hml : m = l.length := by omega
    subst hml
    refine ⟨?_, by simpa [wpListIn] using h⟩
    rw [List.eq_nil_iff_forall_not_mem]
    intro k hk
    have := hready _ _ hs hn hl k hk
    subst this
    rw [mem_ready] at hk
    obtain ⟨_, o, ho, _⟩ := hk
    have := (Array.getElem?_eq_some_iff.1 ho).1
    simp at this
  | succ fuel ih =>
    intro m listed a w hs hn hm hf hl h
    rcases Nat.lt_or_eq_of_le hm with hlt | hml
    · have hmem : m ∈ Region.ready .any l.toArray listed := by
        rw [mem_ready]
        have hms : m < listed.size := by omega
        refine ⟨?_, l[m], by simp [hlt], fun e he hb => ?_⟩
        · have := hl m; simp [hms] at this ⊢; exact this
        · have := okEdges_spec l 0 okE m l[m] (by simp [hlt]) e he hb
          rw [hl]; simp; omega
      refine ⟨(fun hnil => by rw [hnil] at hmem; cases hmem), ?_⟩
      intro k hk
      have := hready _ _ hs hn hl k hk
      subst this
      have hdrop : l.drop k = l[k] :: l.drop (k + 1) := List.drop_eq_getElem_cons hlt
      rw [hdrop] at h
      unfold wpListIn at h
      unfold wpOpIn
      rw [show l.toArray[k]? = some l[k] by simp [hlt]]
      have hl' : ∀ i, (listed.setIfInBounds k true).getD i false = decide (i < k + 1) := by
        intro i
        by_cases e : i = k
        · subst e; have : i < listed.size := by omega
          simp [this]
        · rw [getD_set_ne false (Ne.symm e), hl]
          by_cases hik : i < k
          · simp [hik]; omega
          · simp [hik]; omega
      have next : ∀ a w, wpListIn (Wd r) 0 P l.toArray Q (l.drop (k + 1)) a w → wpAnyIn (Wd r) 0 P .any l.toArray Q fuel (listed.setIfInBounds k true) a w := fun a w h => ih (k + 1) _ a w (by simpa using hs) (by omega) (by omega) (by omega) hl' h
      simp only
      split
      · rename_i hw; rw [if_pos hw] at h; exact Oper.wpIn_mono next h
      · rename_i hw; rw [if_neg hw] at h; exact ⟨h.1, next _ _ h.2⟩
    · subst hml
      have hnil : Region.ready .any l.toArray listed = [] := by
        rw [List.eq_nil_iff_forall_not_mem]
        intro k hk
        have := hready _ _ hs hn hl k hk
        subst this
        rw [mem_ready] at hk
        obtain ⟨_, o, ho, _⟩ := hk
        have := (Array.getElem?_eq_some_iff.1 ho).1
        simp at this
      refine ⟨fun _ => by simpa [wpListIn] using h, ?_⟩
      rw [hnil]; intro k hk; cases hk

theorem any_of_obs {l : List Oper} {n0 : Nat} {J : (Nat → Bool) → (Nat → Value) → World → Prop} (hn0 : n0 ≤ l.length) (ht : tailOk l n0 = true) (ok : regionOk l = true) (hlt : ∀ i t, dstOf l.toArray i = some t → t < nt) (hob : ∀ k o, k < n0 → l[k]? = some o → Ob P l fr J k o)
    (fin : ∀ ε a w, Way nt D fr l.toArray (fun i => decide (i < n0)) ε a → J (fun i => decide (i < n0)) ε w → wpListIn (Wd r) 0 P l.toArray Q (l.drop n0) a w) :
    ∀ (fuel : Nat) (listed : Array Bool) (ε : Nat → Value) (a : Act) (w : World), listed.size = l.length → Closed l.toArray (fun i => listed.getD i false) → (∀ i, n0 ≤ i → listed.getD i false = false) → (listed.toList.countP (· == false)) ≤ fuel →
      Way nt D fr l.toArray (fun i => listed.getD i false) ε a → J (fun i => listed.getD i false) ε w → wpAnyIn (Wd r) 0 P .any l.toArray Q fuel listed a w := by
  simp only [regionOk, Bool.and_eq_true] at ok
  obtain ⟨⟨⟨⟨okE, okD⟩, okR⟩, okG⟩, okN⟩ := ok
  -- all that may come in any order has come
  have finish : ∀ (fuel : Nat) (listed : Array Bool) (ε : Nat → Value) (a : Act) (w : World), listed.size = l.length → (∀ i, n0 ≤ i → listed.getD i false = false) → (listed.toList.countP (· == false)) ≤ fuel → Way nt D fr l.toArray (fun i => listed.getD i false) ε a → J (fun i => listed.getD i false) ε w → (∀ i, i < n0 → listed.getD i false = true) → wpAnyIn (Wd r) 0 P .any l.toArray Q fuel listed a w := by
    intro fuel listed ε a w hs hno hf hway hj hall
    have he : ∀ i, listed.getD i false = decide (i < n0) := fun i => by
      by_cases hi : i < n0
      · rw [hall i hi]; simp [hi]
      · rw [hno i (by omega)]; simp [hi]
    have hfun : (fun i => listed.getD i false) = (fun i => decide (i < n0)) := funext he
    rw [hfun] at hway hj
    refine any_tail okE ht fuel n0 listed a w hs (Nat.le_refl _) hn0 ?_ he (fin ε a w hway hj)
    refine Nat.le_trans ?_ hf
    have hcnt : listed.toList.countP (· == false) = ((List.range l.length).map fun i => decide (i < n0)).countP (· == false) := by
      congr 1
      apply List.ext_getElem?
      intro i
      by_cases hi : i < l.length
      · have := he i
        have his : i < listed.size := by omega
        simp [his] at this
        simp [hi, his, this]
      · rw [List.getElem?_eq_none (by simpa using by omega), List.getElem?_eq_none (by simp; omega)]
    rw [hcnt]
    clear hcnt hfun he
    have : ∀ n m : Nat, n - m ≤ ((List.range n).map fun i => decide (i < m)).countP (· == false) := by
      intro n m
      induction n with
      | zero => simp
      | succ n ih =>
        rw [List.range_succ, List.map_append, List.countP_append]
        by_cases h : n < m
        · simp [h]; omega
        · simp [h] at ih ⊢; omega
    exact this _ _
  intro fuel
  induction fuel with
  | zero =>
    intro listed ε a w hs hc hno hf hway hj
    refine finish 0 listed ε a w hs hno hf hway hj ?_
    intro i hi
    rcases Bool.eq_false_or_eq_true (listed.getD i false) with h | h
    · exact h
    · exfalso
      have hlt : i < listed.size := by omega
      have : listed.toList.countP (· == false) > 0 := by
        rw [gt_iff_lt, List.countP_pos_iff]
        refine ⟨listed[i], by simp, ?_⟩
        simp [hlt] at h; simp [h]
      omega
  | succ fuel ih =>
    intro listed ε a w hs hc hno hf hway hj
    by_cases hdone : ∀ i, i < n0 → listed.getD i false = true
    · exact finish _ listed ε a w hs hno hf hway hj hdone
    have hex : ∃ i, i < n0 ∧ listed.getD i false = false := by
      rcases Classical.em (∃ i, i < n0 ∧ listed.getD i false = false) with h | h
      · exact h
      · exfalso; apply hdone
        intro i hi
        rcases Bool.eq_false_or_eq_true (listed.getD i false) with h1 | h1
        · exact h1
        · exact absurd ⟨i, hi, h1⟩ h
    obtain ⟨i0, hi0, hi0f⟩ := hex
    have least : ∀ i, i < l.length → Region.ready .any l.toArray listed = [] → listed.getD i false = true := by
      intro i
      induction i using Nat.strongRecOn with
      | _ i ih =>
        intro hi hr
        rcases Bool.eq_false_or_eq_true (listed.getD i false) with h | h
        · exact h
        · exfalso
          have hm : i ∈ Region.ready .any l.toArray listed := by
            rw [mem_ready]
            refine ⟨?_, l[i], by simp [hi], fun e he hb => ?_⟩
            · have hii : i < listed.size := by omega
              simp [hii] at h ⊢; exact h
            · have := okEdges_spec l 0 okE i l[i] (by simp [hi]) e he hb
              exact ih e.on (by omega) (by omega) hr
          rw [hr] at hm; cases hm
    refine ⟨(fun hr => by have := least i0 (by omega) hr; rw [hi0f] at this; cases this), ?_⟩
    intro k hk
    rw [mem_ready] at hk
    obtain ⟨h0, o, ho, hall⟩ := hk
    have hkn0 : k < n0 := by
      rcases Nat.lt_or_ge k n0 with h | h
      · exact h
      · exfalso
        have hkl : k < l.length := by have := (Array.getElem?_eq_some_iff.1 ho).1; simpa using this
        have hr := tailOk_spec ht hkl h (i := i0) (by omega)
        simp only [reachIn, ho, List.any_eq_true, Bool.and_eq_true, Bool.or_eq_true, Nat.beq_eq] at hr
        obtain ⟨e, he, hb, hr⟩ := hr
        have hse := hall e (by simpa using he) hb
        rcases hr with hr | hr
        · rw [hr, hi0f] at hse; cases hse
        · have := reach_spec (S := fun i => listed.getD i false) hc 5 e.on i0 hr hse
          simp only [hi0f] at this; cases this
    have hkl : k < l.length := by have := (Array.getElem?_eq_some_iff.1 ho).1; simpa using this
    have hlo : l[k]? = some o := by simpa using ho
    have hklt : k < listed.size := by omega
    have hk0 : listed.getD k false = false := by simp [hklt] at h0 ⊢; exact h0
    have hmark : (fun i => (listed.setIfInBounds k true).getD i false) = mark (fun i => listed.getD i false) k := by
      funext i
      by_cases e : i = k
      · subst e; simp [mark, hklt]
      · rw [getD_set_ne false (Ne.symm e)]; simp [mark, e]
    have hclosed' : Closed l.toArray (fun i => (listed.setIfInBounds k true).getD i false) := by
      intro i oi hoi hi e he hb
      by_cases e1 : i = k
      · subst e1
        rw [ho] at hoi; cases hoi
        exact getD_set_true (hall e he hb)
      · have hi' : listed.getD i false = true := by
          have := hi
          simp only at this
          rwa [getD_set_ne false (Ne.symm e1)] at this
        exact getD_set_true (hc i oi hoi hi' e he hb)
    have hno' : ∀ i, n0 ≤ i → (listed.setIfInBounds k true).getD i false = false := fun i hi => by
      rw [getD_set_ne false (by omega)]; exact hno i hi
    have hcount : (listed.setIfInBounds k true).toList.countP (· == false) ≤ fuel := by
      have h1 : (listed.setIfInBounds k true).toList = listed.toList.set k true := by simp
      rw [h1, List.countP_set (by simpa using hklt)]
      have : listed.toList[k]'(by simpa using hklt) = false := by
        simp [hklt] at h0; simpa using h0
      simp [this]
      have h2 : 0 < listed.toList.countP (· == false) := by
        rw [List.countP_pos_iff]
        exact ⟨listed.toList[k]'(by simpa using hklt), by simp, by simp [this]⟩
      simp at h2 hf ⊢
      omega
    -- the slots behind the step
    have hput : ∀ v, Way nt D fr l.toArray (mark (fun i => listed.getD i false) k) (upd ε k v) (a.put o.dst v) := by
      intro v
      have hdk : dstOf l.toArray k = o.dst := by simp [dstOf, hlo]
      refine ⟨?_, ?_, ?_, ?_⟩
      · cases hd : o.dst <;> simp [Act.put, hway.size]
      · cases hd : o.dst <;> simp [Act.put, hway.defers]
      · intro t u hu hno
        have hbase := hway.base t u hu (fun i hi => hno i (by simp [mark, hi]))
        have hnk : o.dst ≠ some t := by have := hno k (by simp [mark]); rwa [hdk] at this
        cases hd : o.dst with
        | none => simpa [Act.put] using hbase
        | some t' =>
          have : t' ≠ t := by intro e; subst e; exact hnk hd
          simp only [Act.put]
          rw [← hbase]
          simp [Array.getElem?_setIfInBounds_ne this]
      · intro i t hi hd
        by_cases e : i = k
        · subst e
          rw [hdk] at hd
          have ht := hlt i t (by rw [hdk]; exact hd)
          rw [hd]
          simp [Act.put, upd, hway.size, ht]
        · have hi' : listed.getD i false = true := by simpa [mark, e] using hi
          have hold := hway.done i t hi' hd
          simp only [upd, if_neg e]
          cases hdo : o.dst with
          | none => simpa [Act.put] using hold
          | some t' =>
            have hne : t' ≠ t := by
              intro e1; subst e1
              have hoi : ∃ oi, l[i]? = some oi ∧ oi.dst = some t' := by
                unfold dstOf at hd
                cases hq : l.toArray[i]? with
                | none => rw [hq] at hd; cases hd
                | some oi => rw [hq] at hd; exact ⟨oi, by simpa using hq, by simpa using hd⟩
              obtain ⟨oi, hoi, hdi⟩ := hoi
              rcases Nat.lt_or_gt_of_ne e with hlt' | hgt
              · exact okDst_spec l okD i k oi o t' hlt' hoi hlo hdi hdo
              · exact okDst_spec l okD k i o oi t' hgt hlo hoi hdo hdi
            simp only [Act.put]
            rw [← hold]
            simp [Array.getElem?_setIfInBounds_ne hne]
    -- what the operation reads
    have hreads : ∀ t ∈ slotsOf l.toArray o, ∀ v, flook (frk l.toArray ε fr o.after.toList) t = some v → a.tmps.getD t undef = v := by
      intro t ht v hv
      rcases frk_look _ hv with ⟨e, he, hb, hd, rfl⟩ | ⟨hv, hno⟩
      · exact hway.done e.on t (hall e (by simpa using he) hb) hd
      · refine hway.base t v hv fun i hi hd => ?_
        have hoi : ∃ oi, l[i]? = some oi ∧ oi.dst = some t := by
          unfold dstOf at hd
          cases hq : l.toArray[i]? with
          | none => rw [hq] at hd; cases hd
          | some oi => rw [hq] at hd; exact ⟨oi, by simpa using hq, by simpa using hd⟩
        obtain ⟨oi, hoi, hdi⟩ := hoi
        have hw := okReads_spec l.toArray l l 0 okR k o hlo t ht
        rw [Nat.zero_add] at hw
        have := okWriters_spec l.toArray k o t l 0 hw i oi hoi hdi
        rw [Nat.zero_add] at this
        rcases this with h | h
        · obtain ⟨e, he, hb, hei⟩ := edgeTo_iff.1 h
          exact hno e (by simpa using he) hb (by rw [hei]; exact hd)
        · have := reach_spec (S := fun i => listed.getD i false) hc 6 i k h hi
          simp only [hk0] at this; cases this
    have heval : ∀ x ∈ o.op.operands, ∀ v, fev (frk l.toArray ε fr o.after.toList) x = some v → a.eval x = v := by
      intro x hx v hv
      cases x with
      | tmp t => exact hreads t (List.mem_append_left _ (List.mem_filterMap.2 ⟨.tmp t, by simpa using hx, rfl⟩)) v hv
      | const u => simpa [fev, Act.eval] using hv
      | global g => simpa [fev, Act.eval] using hv
      | func f => simpa [fev, Act.eval] using hv
    have hN := okNoDefer_spec l okN k o hlo
    have run : O P o (frk l.toArray ε fr o.after.toList) (J (fun i => listed.getD i false) ε) (fun v w => J (mark (fun i => listed.getD i false) k) (upd ε k v) w) →
        o.wpIn (Wd r) 0 P a w (wpAnyIn (Wd r) 0 P .any l.toArray Q fuel (listed.setIfInBounds k true)) Q := by
      intro hO
      -- an evaluation that agrees with the frame everywhere, and with 'a' at the operands
      let ρ : Operand → Value := fun x => (fev (frk l.toArray ε fr o.after.toList) x).getD (a.eval x)
      have hρ : ∀ x v, fev (frk l.toArray ε fr o.after.toList) x = some v → ρ x = v := fun x v hv => by simp [ρ, hv]
      have hop := hO ρ w hρ hj
      have hsel : ∀ cs b, o.op ≠ .select cs b := by intro cs b e; simp [Oper.noDefer, e] at hN
      have hcongr : execOp ρ o = execOp a.eval o := execOp_congr o hsel fun x hx => by
        cases hfx : fev (frk l.toArray ε fr o.after.toList) x with
        | none => simp [ρ, hfx]
        | some v => simp [ρ, hfx, heval x hx v hfx]
      have hop' : Op1 P o a.eval w (fun v w => J (mark (fun i => listed.getD i false) k) (upd ε k v) w) := by
        unfold Op1 at hop ⊢; rw [← hcongr]; exact hop
      refine op1_wpIn hN hop' fun v w' hv => ?_
      exact ih _ _ _ _ (by simpa using hs) hclosed' hno' hcount (by rw [hmark]; exact hput v) (by rw [hmark]; exact hv)
    unfold wpOpIn
    rw [ho]
    simp only
    have hobk := hob k o hkn0 hlo (fun i => listed.getD i false) ε hc hk0 hall
    cases hg : o.guard with
    | none =>
      rw [hg] at hobk
      rw [if_pos (by simp [Region.wanted, hg])]
      exact run hobk
    | some q =>
      obtain ⟨j, want⟩ := q
      rw [hg] at hobk
      simp only at hobk
      obtain ⟨hej, hsj⟩ := okGuards_spec l.toArray l okG k o j want hlo hg
      obtain ⟨e, he, hb, hei⟩ := edgeTo_iff.1 hej
      have hSj : listed.getD j false = true := by have := hall e he hb; rwa [hei] at this
      have hy : yielded l.toArray a.tmps j = some want ↔ ε j = .bool want := by
        cases hdj : dstOf l.toArray j with
        | none => rw [hdj] at hsj; cases hsj
        | some dj =>
          have hv := hway.done j dj hSj hdj
          unfold yielded
          rw [show (l.toArray[j]?).bind (·.dst) = some dj from hdj]
          simp only [Option.bind_some]
          have hltj : dj < a.tmps.size := by rw [hway.size]; exact hlt j dj hdj
          rw [Array.getD_eq_getD_getElem?, Array.getElem?_eq_getElem hltj] at hv
          simp only [Option.getD_some] at hv
          rw [Array.getElem?_eq_getElem hltj]
          simp only [hv]
          cases ε j <;> simp
      by_cases hwt : ε j = .bool want
      · rw [if_pos (by simp [Region.wanted, hg, hy.2 hwt])]
        exact run (hobk.1 hwt)
      · rw [if_neg (by
          simp only [Region.wanted, hg]
          intro h
          exact hwt (hy.1 (by simpa using h)))]
        exact ⟨fun _ _ => trivial, ih _ _ _ _ (by simpa using hs) hclosed' hno' hcount (by rw [hmark]; exact hput undef) (by rw [hmark]; exact hobk.2 hwt w hj)⟩

end Go.Proofs.Ytbgolbkolcmldaa
