/-
  A region whose order Go leaves open, all of whose operations have values that are known: it is walked once, in the order of the text.
-/
import Derived.Test.YtbgolbkolcmldaaDraw
namespace Go.Proofs.Ytbgolbkolcmldaa
open Go.RowKit

variable {P : Program} {r : Option Nat} {Q : Exit → Act → World → Prop} {nt : Nat} {D : List Deferred} {fr : Fr} {I : World → Prop}

def frAll (ops : Array Oper) (ε : Nat → Value) (fr : Fr) : Nat → Fr
  | 0 => fr
  | n + 1 => match dstOf ops n with
    | some t => (t, ε n) :: frAll ops ε fr n
    | none => frAll ops ε fr n

theorem frAll_look {ops : Array Oper} {ε : Nat → Value} {fr : Fr} : ∀ (n : Nat) {t : Nat} {v : Value}, flook (frAll ops ε fr n) t = some v →
    (∃ i, i < n ∧ dstOf ops i = some t ∧ v = ε i) ∨ (flook fr t = some v ∧ ∀ i, i < n → dstOf ops i ≠ some t)
  | 0, t, v, h => .inr ⟨h, by intro i hi; omega⟩
  | n + 1, t, v, h => by
    simp only [frAll] at h
    cases hd : dstOf ops n with
    | none =>
      rw [hd] at h
      rcases frAll_look n h with ⟨i, hi, h1⟩ | ⟨h1, h2⟩
      · exact .inl ⟨i, by omega, h1⟩
      · refine .inr ⟨h1, fun i hi => ?_⟩
        rcases Nat.lt_or_eq_of_le (Nat.le_of_lt_succ hi) with h | rfl
        · exact h2 i h
        · rw [hd]; simp
    | some t' =>
      rw [hd] at h
      simp only [flook_cons] at h
      by_cases e : t' = t
      · subst e
        simp only [if_true, Option.some.injEq] at h
        exact .inl ⟨n, by omega, hd, h.symm⟩
      · rw [if_neg e] at h
        rcases frAll_look n h with ⟨i, hi, h1⟩ | ⟨h1, h2⟩
        · exact .inl ⟨i, by omega, h1⟩
        · refine .inr ⟨h1, fun i hi => ?_⟩
          rcases Nat.lt_or_eq_of_le (Nat.le_of_lt_succ hi) with h | rfl
          · exact h2 i h
          · rw [hd]; intro e1; injection e1 with e1; exact e e1

def okSlots (nt : Nat) : List Oper → Bool
  | [] => true
  | o :: r => (match o.dst with | none => true | some t => Nat.blt t nt) && okSlots nt r

theorem okSlots_spec : ∀ (l : List Oper), okSlots nt l = true → ∀ (i t : Nat), dstOf l.toArray i = some t → t < nt
  | [], _, i, t, h => by simp [dstOf] at h
  | o :: l, hk, i, t, h => by
    simp only [okSlots, Bool.and_eq_true] at hk
    cases i with
    | zero =>
      have : o.dst = some t := by simpa [dstOf] using h
      simpa [this, Nat.blt_eq] using hk.1
    | succ i => exact okSlots_spec l hk.2 i t (by simpa [dstOf] using h)

theorem tailOk_all (l : List Oper) : tailOk l l.length = true := by
  simp only [tailOk, List.all_eq_true, List.mem_range, Bool.or_eq_true]
  intro k hk
  exact .inl (by rw [Nat.blt_eq]; exact hk)

/-- the general form: the first n0 operations in any order, then the others in the text's -/
theorem t_drawG {id : Nat} {l : List Oper} (n0 : Nat) {J : (Nat → Bool) → (Nat → Value) → World → Prop} (hn0 : n0 ≤ l.length) (ht : tailOk l n0 = true) (hm : P.follows .mixedOrders = true) (ok : regionOk l = true) (hs : okSlots nt l = true)
    (h0 : ∀ w n, I w → J (fun _ => false) (fun _ => undef) { w with drawn := n }) (hob : ∀ k o, k < n0 → l[k]? = some o → Ob P l fr J k o)
    (fin : ∀ ε, TL P r l.toArray Q nt D (l.drop n0) (frAll l.toArray ε fr n0) (J (fun i => decide (i < n0)) ε)) : T P r (.region id l.toArray true) Q nt D fr I := by
  intro a w ha hw
  refine wpIn_region_any hm ?_
  have hnone : (fun i => (Array.replicate l.toArray.size false).getD i false) = (fun _ : Nat => false) := by
    funext i
    by_cases hi : i < l.length <;> simp [hi]
  refine any_of_obs (J := J) (fr := fr) (D := D) (nt := nt) hn0 ht ok (okSlots_spec l hs) hob ?_ _ _ (fun _ => undef) a _ (by simp) ?_ ?_ ?_ ?_ ?_
  · intro ε a w hway hj
    refine fin ε a w ⟨hway.size, hway.defers, fun t v hl => ?_⟩ hj
    rcases frAll_look _ hl with ⟨i, hi, hd, rfl⟩ | ⟨hl, hno⟩
    · exact hway.done i t (by simpa using hi) hd
    · exact hway.base t v hl fun i hi hd => hno i (by simpa using hi) hd
  · rw [hnone]; intro i o _ h; simp at h
  · intro i _; exact congrFun hnone i
  · exact Nat.le_trans List.countP_le_length (by simp)
  · rw [hnone]
    exact ⟨ha.size, ha.defers, fun t v hl _ => ha.look t v hl, fun i t h => by simp at h⟩
  · rw [hnone]; exact h0 w _ hw

def lv (acc : Fr) (i : Nat) : Value := (flook acc i).getD undef

/-- values that are known, one by one -/
def DV (P : Program) (l : List Oper) (fr : Fr) (I : World → Prop) (fin : Fr → Prop) : Nat → List Oper → Fr → Prop
  | _, [], acc => fin acc
  | k, o :: rest, acc => ∃ u, (match o.guard with
      | none => O P o (frk l.toArray (lv acc) fr o.after.toList) I (fun v w => v = u ∧ I w)
      | some (j, want) => (lv acc j = .bool want ∧ O P o (frk l.toArray (lv acc) fr o.after.toList) I (fun v w => v = u ∧ I w)) ∨ (lv acc j ≠ .bool want ∧ u = undef)) ∧
      DV P l fr I fin (k + 1) rest ((k, u) :: acc)

theorem frk_congr {ops : Array Oper} {ε ε' : Nat → Value} {fr : Fr} : ∀ (es : List Edge), (∀ e ∈ es, Region.binds .any e = true → ε e.on = ε' e.on) → frk ops ε fr es = frk ops ε' fr es
  | [], _ => rfl
  | e :: r, h => by
    simp only [frk]
    rw [frk_congr r fun e' he => h e' (List.mem_cons_of_mem _ he)]
    cases hb : Region.binds .any e with
    | false => rfl
    | true =>
      simp only [cond_true]
      rw [h e (List.mem_cons_self ..) hb]

theorem frAll_congr {ops : Array Oper} {ε ε' : Nat → Value} {fr : Fr} : ∀ (n : Nat), (∀ i, i < n → ε i = ε' i) → frAll ops ε fr n = frAll ops ε' fr n
  | 0, _ => rfl
  | n + 1, h => by
    simp only [frAll]
    rw [frAll_congr n fun i hi => h i (by omega), h n (by omega)]

theorem lv_cons (k : Nat) (u : Value) (acc : Fr) (i : Nat) : lv ((k, u) :: acc) i = if k = i then u else lv acc i := by
  unfold lv
  rw [flook_cons]
  by_cases h : k = i <;> simp [h]

theorem dv_spec {l : List Oper} {fin : Fr → Prop} : ∀ (rest : List Oper) (k : Nat) (acc : Fr), DV P l fr I fin k rest acc →
    ∃ acc', fin acc' ∧ (∀ i, i < k → lv acc' i = lv acc i) ∧ ∀ j o, rest[j]? = some o →
      ∃ accj, (∀ i, i < k + j → lv accj i = lv acc' i) ∧ (match o.guard with
      | none => O P o (frk l.toArray (lv accj) fr o.after.toList) I (fun v w => v = lv acc' (k + j) ∧ I w)
      | some (g, want) => (lv accj g = .bool want ∧ O P o (frk l.toArray (lv accj) fr o.after.toList) I (fun v w => v = lv acc' (k + j) ∧ I w)) ∨ (lv accj g ≠ .bool want ∧ lv acc' (k + j) = undef))
  | [], k, acc, h => ⟨acc, h, fun _ _ => rfl, fun j o hj => by simp at hj⟩
  | o :: rest, k, acc, h => by
    obtain ⟨u, hu, hr⟩ := h
    obtain ⟨acc', hf, hsame, hall⟩ := dv_spec rest (k + 1) _ hr
    have hk : lv acc' k = u := by rw [hsame k (by omega), lv_cons, if_pos rfl]
    have hlow : ∀ i, i < k → lv acc' i = lv acc i := fun i hi => by rw [hsame i (by omega), lv_cons, if_neg (by omega)]
    refine ⟨acc', hf, hlow, ?_⟩
    intro j p hj
    cases j with
    | zero =>
      simp at hj; subst hj
      refine ⟨acc, fun i hi => (hlow i (by omega)).symm, ?_⟩
      rw [Nat.add_zero, hk]
      cases hg : o.guard with
      | none => rw [hg] at hu; exact hu
      | some q => obtain ⟨g, want⟩ := q; rw [hg] at hu; exact hu
    | succ j =>
      obtain ⟨accj, h1, h2⟩ := hall j p (by simpa using hj)
      rw [show k + (j + 1) = k + 1 + j by omega]
      exact ⟨accj, h1, h2⟩

def accFin (P : Program) (r : Option Nat) (l : List Oper) (n0 : Nat) (Q : Exit → Act → World → Prop) (nt : Nat) (D : List Deferred) (fr : Fr) (I : World → Prop) (acc : Fr) : Prop := TL P r l.toArray Q nt D (l.drop n0) (frAll l.toArray (lv acc) fr n0) I

theorem t_drawVT {id : Nat} {l : List Oper} (n0 : Nat) (hI : ∀ w n, I w → I { w with drawn := n }) (h : DV P l fr I (accFin P r l n0 Q nt D fr I) 0 (l.take n0) []) (hn0 : Nat.ble n0 l.length = true) (ht : tailOk l n0 = true) (hm : P.follows .mixedOrders = true) (ok : regionOk l = true) (hs : okSlots nt l = true) : T P r (.region id l.toArray true) Q nt D fr I := by
  have hn0' : n0 ≤ l.length := by simpa [Nat.ble_eq] using hn0
  obtain ⟨acc, hf, _, hall⟩ := dv_spec (l.take n0) 0 [] h
  have okE : okEdges l 0 = true ∧ okGuards l.toArray l = true := by
    simp only [regionOk, Bool.and_eq_true] at ok
    exact ⟨ok.1.1.1.1, ok.1.2⟩
  refine t_drawG n0 (J := fun S ε w => I w ∧ ∀ i, i < n0 → S i = true → ε i = lv acc i) hn0' ht hm ok hs (fun w n hw => ⟨hI w n hw, fun i _ h => by simp at h⟩) ?_ ?_
  · intro k o hkn hk S ε hc hSk hdeps
    obtain ⟨accj, h1, h2⟩ := hall k o (by rw [List.getElem?_take, if_pos hkn]; exact hk)
    rw [Nat.zero_add] at h1 h2
    have step : O P o (frk l.toArray (lv accj) fr o.after.toList) I (fun v w => v = lv acc k ∧ I w) →
        O P o (frk l.toArray ε fr o.after.toList) (fun w => I w ∧ ∀ i, i < n0 → S i = true → ε i = lv acc i) (fun v w => I w ∧ ∀ i, i < n0 → mark S k i = true → upd ε k v i = lv acc i) := by
      intro hO ρ w hρ hw
      have hfr : frk l.toArray ε fr o.after.toList = frk l.toArray (lv accj) fr o.after.toList := frk_congr _ fun e he hb => by
        have hlt := okEdges_spec l 0 okE.1 k o hk e (by simpa using he) hb
        rw [h1 e.on (by omega), hw.2 e.on (by omega) (hdeps e (by simpa using he) hb)]
      rw [hfr] at hρ
      refine (hO ρ w hρ hw.1).mono ?_
      rintro v w' ⟨rfl, hi⟩
      refine ⟨hi, fun i hil hm => ?_⟩
      by_cases e : i = k
      · subst e; simp [upd]
      · simp only [upd, if_neg e]
        exact hw.2 i hil (by simpa [mark, e] using hm)
    cases hg : o.guard with
    | none => rw [hg] at h2; exact step h2
    | some q =>
      obtain ⟨g, want⟩ := q
      rw [hg] at h2
      simp only at h2 ⊢
      obtain ⟨hej, _⟩ := okGuards_spec l.toArray l okE.2 k o g want hk hg
      obtain ⟨e, he, hb, hei⟩ := edgeTo_iff.1 hej
      have hlt := okEdges_spec l 0 okE.1 k o hk e he hb
      have hgv : lv accj g = lv acc g := h1 g (by omega)
      have hSg : S g = true := by have := hdeps e he hb; rwa [hei] at this
      refine ⟨fun hw ρ w hρ hJ => ?_, fun hw w hJ => ?_⟩
      · rcases h2 with ⟨_, hO⟩ | ⟨hne, _⟩
        · exact step hO ρ w hρ hJ
        · exfalso; apply hne; rw [hgv, ← hJ.2 g (by omega) hSg]; exact hw
      · rcases h2 with ⟨he', _⟩ | ⟨_, hu⟩
        · exfalso; apply hw; rw [hJ.2 g (by omega) hSg, ← hgv]; exact he'
        · refine ⟨hJ.1, fun i hil hm => ?_⟩
          by_cases e : i = k
          · subst e; simp [upd, hu]
          · simp only [upd, if_neg e]
            exact hJ.2 i hil (by simpa [mark, e] using hm)
  · intro ε a w ha hw
    have : frAll l.toArray ε fr n0 = frAll l.toArray (lv acc) fr n0 := frAll_congr _ fun i hi => hw.2 i hi (by simpa using hi)
    rw [this] at ha
    exact hf a w ha hw.1

theorem t_drawV {id : Nat} {l : List Oper} (hI : ∀ w n, I w → I { w with drawn := n }) (h : DV P l fr I (accFin P r l l.length Q nt D fr I) 0 l []) (hm : P.follows .mixedOrders = true) (ok : regionOk l = true) (hs : okSlots nt l = true) : T P r (.region id l.toArray true) Q nt D fr I :=
  t_drawVT l.length hI (by rw [List.take_length]; exact h) (by simp) (tailOk_all l) hm ok hs

section
variable {l rest : List Oper} {fin : Fr → Prop} {k : Nat} {acc : Fr} {d : Option Tmp} {op : Op} {ty : TypeId} {pos : String} {af : Array Edge} {u : Value}
theorem dv_op (h : O P ⟨d, op, ty, pos, af, none⟩ (frk l.toArray (lv acc) fr af.toList) I (fun v w => v = u ∧ I w)) (hr : DV P l fr I fin (k + 1) rest ((k, u) :: acc)) : DV P l fr I fin k (⟨d, op, ty, pos, af, none⟩ :: rest) acc := ⟨u, by simpa using h, hr⟩
theorem dv_yes {j : Nat} {want : Bool} (hj : lv acc j = .bool want) (h : O P ⟨d, op, ty, pos, af, some (j, want)⟩ (frk l.toArray (lv acc) fr af.toList) I (fun v w => v = u ∧ I w)) (hr : DV P l fr I fin (k + 1) rest ((k, u) :: acc)) : DV P l fr I fin k (⟨d, op, ty, pos, af, some (j, want)⟩ :: rest) acc := ⟨u, .inl ⟨hj, by simpa using h⟩, hr⟩
theorem dv_no {j : Nat} {want b : Bool} (hj : lv acc j = .bool b) (hb : (b == want) = false) (hr : DV P l fr I fin (k + 1) rest ((k, undef) :: acc)) : DV P l fr I fin k (⟨d, op, ty, pos, af, some (j, want)⟩ :: rest) acc := ⟨undef, .inr ⟨by rw [hj]; intro e; injection e with e; subst e; simp at hb, rfl⟩, hr⟩
theorem dv_undef {j : Nat} {want : Bool} (hj : lv acc j = undef) (hr : DV P l fr I fin (k + 1) rest ((k, undef) :: acc)) : DV P l fr I fin k (⟨d, op, ty, pos, af, some (j, want)⟩ :: rest) acc := ⟨undef, .inr ⟨by rw [hj]; intro e; simp [undef] at e, rfl⟩, hr⟩
theorem dv_nil (h : Xt P .normal Q nt D (frAll l.toArray (lv acc) fr l.length) I) : DV P l fr I (accFin P r l l.length Q nt D fr I) k [] acc := by
  intro a w ha hw
  rw [List.drop_length]
  exact h a w ha hw
theorem dv_tail {n0 : Nat} (h : TL P r l.toArray Q nt D (l.drop n0) (frAll l.toArray (lv acc) fr n0) I) : DV P l fr I (accFin P r l n0 Q nt D fr I) k [] acc := h
end

/-! ### one operation of the region acts -/
def DE (P : Program) (l : List Oper) (fr : Fr) (Bf Af : World → Prop) (k0 : Nat) (fin : Fr → Prop) : Nat → List Oper → Fr → Prop
  | _, [], acc => fin acc
  | k, o :: rest, acc => ∃ u, o.guard = none ∧ (if k = k0 then O P o (frk l.toArray (lv acc) fr o.after.toList) Bf (fun v w => v = u ∧ Af w) else O P o (frk l.toArray (lv acc) fr o.after.toList) Bf (fun v w => v = u ∧ Bf w) ∧ O P o (frk l.toArray (lv acc) fr o.after.toList) Af (fun v w => v = u ∧ Af w)) ∧
      DE P l fr Bf Af k0 fin (k + 1) rest ((k, u) :: acc)

theorem de_spec {l : List Oper} {Bf Af : World → Prop} {k0 : Nat} {fin : Fr → Prop} : ∀ (rest : List Oper) (k : Nat) (acc : Fr), DE P l fr Bf Af k0 fin k rest acc →
    ∃ acc', fin acc' ∧ (∀ i, i < k → lv acc' i = lv acc i) ∧ ∀ j o, rest[j]? = some o → o.guard = none ∧
      ∃ accj, (∀ i, i < k + j → lv accj i = lv acc' i) ∧ (if k + j = k0 then O P o (frk l.toArray (lv accj) fr o.after.toList) Bf (fun v w => v = lv acc' (k + j) ∧ Af w) else O P o (frk l.toArray (lv accj) fr o.after.toList) Bf (fun v w => v = lv acc' (k + j) ∧ Bf w) ∧ O P o (frk l.toArray (lv accj) fr o.after.toList) Af (fun v w => v = lv acc' (k + j) ∧ Af w))
  | [], k, acc, h => ⟨acc, h, fun _ _ => rfl, fun j o hj => by simp at hj⟩
  | o :: rest, k, acc, h => by
    obtain ⟨u, hg, hu, hr⟩ := h
    obtain ⟨acc', hf, hsame, hall⟩ := de_spec rest (k + 1) _ hr
    have hk : lv acc' k = u := by rw [hsame k (by omega), lv_cons, if_pos rfl]
    have hlow : ∀ i, i < k → lv acc' i = lv acc i := fun i hi => by rw [hsame i (by omega), lv_cons, if_neg (by omega)]
    refine ⟨acc', hf, hlow, ?_⟩
    intro j p hj
    cases j with
    | zero =>
      simp at hj; subst hj
      refine ⟨hg, acc, fun i hi => (hlow i (by omega)).symm, ?_⟩
      rw [Nat.add_zero, hk]
      exact hu
    | succ j =>
      obtain ⟨hg', accj, h1, h2⟩ := hall j p (by simpa using hj)
      rw [show k + (j + 1) = k + 1 + j by omega]
      exact ⟨hg', accj, h1, h2⟩

theorem t_drawE {id : Nat} {l : List Oper} (n0 k0 : Nat) {Bf Af : World → Prop} (hI : ∀ w n, I w → Bf { w with drawn := n }) (h : DE P l fr Bf Af k0 (accFin P r l n0 Q nt D fr Af) 0 (l.take n0) []) (hk0 : Nat.blt k0 n0 = true) (hn0 : Nat.ble n0 l.length = true) (ht : tailOk l n0 = true) (hm : P.follows .mixedOrders = true) (ok : regionOk l = true) (hs : okSlots nt l = true) : T P r (.region id l.toArray true) Q nt D fr I := by
  have hn0' : n0 ≤ l.length := by simpa [Nat.ble_eq] using hn0
  have hk0' : k0 < n0 := by simpa [Nat.blt_eq] using hk0
  obtain ⟨acc, hf, _, hall⟩ := de_spec (l.take n0) 0 [] h
  have okE : okEdges l 0 = true := by
    simp only [regionOk, Bool.and_eq_true] at ok
    exact ok.1.1.1.1
  refine t_drawG n0 (J := fun S ε w => (if S k0 = true then Af w else Bf w) ∧ ∀ i, i < n0 → S i = true → ε i = lv acc i) hn0' ht hm ok hs (fun w n hw => ⟨by simpa using hI w n hw, fun i _ h => by simp at h⟩) ?_ ?_
  · intro k o hkn hk S ε hc hSk hdeps
    obtain ⟨hg, accj, h1, h2⟩ := hall k o (by rw [List.getElem?_take, if_pos hkn]; exact hk)
    rw [Nat.zero_add] at h1 h2
    rw [hg]
    intro ρ w hρ hw
    have hfr : frk l.toArray ε fr o.after.toList = frk l.toArray (lv accj) fr o.after.toList := frk_congr _ fun e he hb => by
      have hlt := okEdges_spec l 0 okE k o hk e (by simpa using he) hb
      rw [h1 e.on (by omega), hw.2 e.on (by omega) (hdeps e (by simpa using he) hb)]
    rw [hfr] at hρ
    have vals : ∀ i, i < n0 → mark S k i = true → upd ε k (lv acc k) i = lv acc i := fun i hil hm => by
      by_cases e : i = k
      · subst e; simp [upd]
      · simp only [upd, if_neg e]
        exact hw.2 i hil (by simpa [mark, e] using hm)
    by_cases e0 : k = k0
    · subst e0
      rw [if_pos rfl] at h2
      have hbf : Bf w := by have := hw.1; rwa [hSk, if_neg (by simp)] at this
      refine (h2 ρ w hρ hbf).mono ?_
      rintro v w' ⟨rfl, hi⟩
      exact ⟨by simpa [mark] using hi, vals⟩
    · rw [if_neg e0] at h2
      have hmk : mark S k k0 = S k0 := by simp [mark, Ne.symm e0]
      cases hS0 : S k0 with
      | true =>
        have haf : Af w := by have := hw.1; rwa [if_pos hS0] at this
        refine (h2.2 ρ w hρ haf).mono ?_
        rintro v w' ⟨rfl, hi⟩
        exact ⟨by rw [hmk, if_pos hS0]; exact hi, vals⟩
      | false =>
        have hbf : Bf w := by have := hw.1; rwa [hS0, if_neg (by simp)] at this
        refine (h2.1 ρ w hρ hbf).mono ?_
        rintro v w' ⟨rfl, hi⟩
        exact ⟨by rw [hmk, hS0, if_neg (by simp)]; exact hi, vals⟩
  · intro ε a w ha hw
    have : frAll l.toArray ε fr n0 = frAll l.toArray (lv acc) fr n0 := frAll_congr _ fun i hi => hw.2 i hi (by simpa using hi)
    rw [this] at ha
    exact hf a w ha (by have := hw.1; rwa [if_pos (by simpa using hk0')] at this)

section
variable {l rest : List Oper} {Bf Af : World → Prop} {k0 : Nat} {fin : Fr → Prop} {k : Nat} {acc : Fr} {d : Option Tmp} {op : Op} {ty : TypeId} {pos : String} {af : Array Edge} {u : Value}
theorem de_v (hk : Nat.beq k k0 = false) (h : ∀ I' : World → Prop, (I' = Bf ∨ I' = Af) → O P ⟨d, op, ty, pos, af, none⟩ (frk l.toArray (lv acc) fr af.toList) I' (fun v w => v = u ∧ I' w)) (hr : DE P l fr Bf Af k0 fin (k + 1) rest ((k, u) :: acc)) : DE P l fr Bf Af k0 fin k (⟨d, op, ty, pos, af, none⟩ :: rest) acc :=
  ⟨u, rfl, by rw [if_neg (by intro e; subst e; simp at hk)]; exact ⟨h Bf (.inl rfl), h Af (.inr rfl)⟩, hr⟩
theorem de_e (h : O P ⟨d, op, ty, pos, af, none⟩ (frk l.toArray (lv acc) fr af.toList) Bf (fun v w => v = u ∧ Af w)) (hr : DE P l fr Bf Af k0 fin (k0 + 1) rest ((k0, u) :: acc)) : DE P l fr Bf Af k0 fin k0 (⟨d, op, ty, pos, af, none⟩ :: rest) acc :=
  ⟨u, rfl, by rw [if_pos rfl]; exact h, hr⟩
theorem de_tail {n0 : Nat} {I : World → Prop} (h : TL P r l.toArray Q nt D (l.drop n0) (frAll l.toArray (lv acc) fr n0) I) : DE P l fr Bf Af k0 (accFin P r l n0 Q nt D fr I) k [] acc := h
end

end Go.Proofs.Ytbgolbkolcmldaa
