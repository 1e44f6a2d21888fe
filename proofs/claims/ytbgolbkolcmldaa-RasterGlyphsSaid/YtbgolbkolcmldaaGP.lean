/-
  Plain law: the stretches of a row of crossings, told by sums of ways, whatever their order.
-/
import Derived.Test.YtbgolbkolcmldaaGF
import Derived.Test.YtbgolbkolcmldaaGH
import Derived.Test.YtbgolbkolcmldaaGI

namespace Go.Proofs.Ytbgolbkolcmldaa

/-- a place is not behind another one -/
def leP (p q : Place) : Prop := p.1 * q.2 ≤ q.1 * p.2
instance (p q : Place) : Decidable (leP p q) := by unfold leP; infer_instance
theorem leP_refl (p : Place) : leP p p := Int.le_refl _
theorem leP_total (p q : Place) : leP p q ∨ leP q p := Int.le_total _ _
theorem leP_trans {p q r : Place} (hp : 0 < p.2) (hq : 0 < q.2) (hr : 0 < r.2) (h1 : leP p q) (h2 : leP q r) : leP p r := by
  unfold leP at *
  have e1 : p.1 * q.2 * r.2 ≤ q.1 * p.2 * r.2 := Int.mul_le_mul_of_nonneg_right h1 (Int.le_of_lt hr)
  have e2 : q.1 * r.2 * p.2 ≤ r.1 * q.2 * p.2 := Int.mul_le_mul_of_nonneg_right h2 (Int.le_of_lt hp)
  have e3 : (p.1 * r.2) * q.2 ≤ (r.1 * p.2) * q.2 := by
    have a1 : p.1 * r.2 * q.2 = p.1 * q.2 * r.2 := by rw [Int.mul_assoc, Int.mul_comm r.2, ← Int.mul_assoc]
    have a2 : r.1 * p.2 * q.2 = r.1 * q.2 * p.2 := by rw [Int.mul_assoc, Int.mul_comm p.2, ← Int.mul_assoc]
    have a3 : q.1 * p.2 * r.2 = q.1 * r.2 * p.2 := by rw [Int.mul_assoc, Int.mul_comm p.2, ← Int.mul_assoc]
    omega
  exact Int.le_of_mul_le_mul_right e3 hq
def eqP (p q : Place) : Prop := leP p q ∧ leP q p

/-- all crossings have a place -/
def Pos (cs : List Cr) : Prop := ∀ c ∈ cs, 0 < c.d
/-- the ways up to a place, and ahead of it -/
def W (cs : List Cr) (q : Place) : Int := (cs.map fun c => if leP c.p q then c.t else 0).sum
def Wlt (cs : List Cr) (q : Place) : Int := (cs.map fun c => if leP q c.p then 0 else c.t).sum
def ways (cs : List Cr) : Int := (cs.map (·.t)).sum

theorem W_append (a b : List Cr) (q : Place) : W (a ++ b) q = W a q + W b q := by simp [W, List.sum_append]
theorem Wlt_append (a b : List Cr) (q : Place) : Wlt (a ++ b) q = Wlt a q + Wlt b q := by simp [Wlt, List.sum_append]
theorem ways_append (a b : List Cr) : ways (a ++ b) = ways a + ways b := by simp [ways, List.sum_append]
theorem W_all {cs : List Cr} {q : Place} (h : ∀ c ∈ cs, leP c.p q) : W cs q = ways cs := by
  unfold W ways
  congr 1
  exact List.map_congr_left fun c hc => by rw [if_pos (h c hc)]
theorem W_none {cs : List Cr} {q : Place} (h : ∀ c ∈ cs, ¬ leP c.p q) : W cs q = 0 := by
  induction cs with
  | nil => rfl
  | cons c cs ih =>
    have := ih fun c hc => h c (List.mem_cons_of_mem _ hc)
    simp only [W, List.map_cons, List.sum_cons] at this ⊢
    rw [if_neg (h c (List.mem_cons_self ..)), this]; rfl
theorem Wlt_all {cs : List Cr} {q : Place} (h : ∀ c ∈ cs, ¬ leP q c.p) : Wlt cs q = ways cs := by
  unfold Wlt ways
  congr 1
  exact List.map_congr_left fun c hc => by rw [if_neg (h c hc)]
theorem Wlt_none {cs : List Cr} {q : Place} (h : ∀ c ∈ cs, leP q c.p) : Wlt cs q = 0 := by
  induction cs with
  | nil => rfl
  | cons c cs ih =>
    have := ih fun c hc => h c (List.mem_cons_of_mem _ hc)
    simp only [Wlt, List.map_cons, List.sum_cons] at this ⊢
    rw [if_pos (h c (List.mem_cons_self ..)), this]; rfl
theorem W_congr {cs : List Cr} {p q : Place} (h : ∀ c ∈ cs, (leP c.p p ↔ leP c.p q)) : W cs p = W cs q := by
  unfold W
  congr 1
  exact List.map_congr_left fun c hc => by simp only [h c hc]
theorem Wlt_W {cs : List Cr} {p q : Place} (h : ∀ c ∈ cs, (¬ leP q c.p ↔ leP c.p p)) : Wlt cs q = W cs p := by
  unfold W Wlt
  congr 1
  refine List.map_congr_left fun c hc => ?_
  by_cases h1 : leP q c.p
  · rw [if_pos h1, if_neg fun h2 => (h c hc).2 h2 h1]
  · rw [if_neg h1, if_pos ((h c hc).1 h1)]

/-- a stretch from a crossing to another one -/
structure IsStr (cs : List Cr) (a b : Cr) : Prop where
  ma : a ∈ cs
  mb : b ∈ cs
  before : Wlt cs a.p = 0
  within : ∀ p ∈ cs, leP a.p p.p → ¬ leP b.p p.p → W cs p.p ≠ 0
  behind : W cs b.p = 0
  apart : ¬ leP b.p a.p

theorem eqAt_iff (a c : Cr) : eqAt a c = true ↔ eqP a.p c.p := by
  unfold eqAt eqP leP Cr.p cmpI
  simp only [decide_eq_true_eq]
  split
  · omega
  · split <;> omega

theorem takeRun_spec (c : Cr) : ∀ (r : List Cr) (t : Int), ∃ run, r = run ++ (takeRun c r t).2 ∧ (takeRun c r t).1 = t + ways run ∧ (∀ x ∈ run, eqP x.p c.p) ∧ ∀ x, (takeRun c r t).2.head? = some x → ¬ eqP x.p c.p
  | [], t => ⟨[], rfl, by simp [takeRun, ways], by simp, by simp [takeRun]⟩
  | a :: r, t => by
    unfold takeRun
    by_cases h : eqAt a c = true
    · rw [if_pos h]
      obtain ⟨run, h1, h2, h3, h4⟩ := takeRun_spec c r (t + a.t)
      refine ⟨a :: run, by rw [List.cons_append, ← h1], ?_, fun x hx => ?_, h4⟩
      · rw [h2]; simp [ways]; omega
      · rcases List.mem_cons.1 hx with rfl | hx
        · exact (eqAt_iff _ _).1 h
        · exact h3 x hx
    · rw [if_neg h]
      exact ⟨[], rfl, by simp [ways], by simp, fun x hx => by simp at hx; subst hx; exact fun h2 => h ((eqAt_iff _ _).2 h2)⟩

def Sorted (cs : List Cr) : Prop := cs.Pairwise fun a b => leP a.p b.p

/-- what is known between runs -/
structure Mid (cs pre rest : List Cr) (t : Int) (f : Place) : Prop where
  cut : cs = pre ++ rest
  sum : t = ways pre
  less : ∀ a ∈ pre, ∀ b ∈ rest, ¬ leP b.p a.p
  open_ : t ≠ 0 → ∃ a ∈ pre, f = a.p ∧ Wlt cs a.p = 0 ∧ ∀ p ∈ pre, leP a.p p.p → W cs p.p ≠ 0

theorem le_of_not {p q : Place} (h : ¬ leP p q) : leP q p := (leP_total q p).resolve_right h

theorem Mid.step {cs pre r : List Cr} {c : Cr} {t : Int} {f : Place} (hpos : Pos cs) (hs : Sorted cs) (h : Mid cs pre (c :: r) t f) :
    ∃ run, r = run ++ (takeRun c r (t + c.t)).2 ∧ (takeRun c r (t + c.t)).1 = W cs c.p ∧ Wlt cs c.p = t ∧ (∀ x ∈ c :: run, eqP x.p c.p) ∧
      Mid cs (pre ++ (c :: run)) (takeRun c r (t + c.t)).2 (takeRun c r (t + c.t)).1 (if t = 0 ∧ (takeRun c r (t + c.t)).1 ≠ 0 then c.p else f) := by
  obtain ⟨run, h1, h2, h3, h4⟩ := takeRun_spec c r (t + c.t)
  generalize takeRun c r (t + c.t) = z at h1 h2 h4 ⊢
  obtain ⟨t', r'⟩ := z
  dsimp only at h1 h2 h4 ⊢
  subst h1
  have hcut : cs = (pre ++ (c :: run)) ++ r' := by rw [h.cut]; simp
  have hrun : ∀ x ∈ c :: run, eqP x.p c.p := fun x hx => by
    rcases List.mem_cons.1 hx with rfl | hx
    · exact ⟨leP_refl _, leP_refl _⟩
    · exact h3 x hx
  have hmem : ∀ x, x ∈ pre ++ (c :: run) → x ∈ cs := fun x hx => by rw [hcut]; exact List.mem_append_left _ hx
  have hmr : ∀ x, x ∈ r' → x ∈ cs := fun x hx => by rw [hcut]; exact List.mem_append_right _ hx
  have hd : ∀ x ∈ cs, 0 < x.p.2 := fun x hx => hpos x hx
  have hcm : c ∈ cs := hmem c (by simp)
  -- behind the run all is greater
  have hsr : ∀ x ∈ r', ∀ y ∈ pre ++ (c :: run), leP y.p x.p := by
    intro x hx y hy
    have : (pre ++ (c :: run) ++ r').Pairwise fun a b => leP a.p b.p := by rw [← hcut]; exact hs
    exact (List.pairwise_append.1 this).2.2 y hy x hx
  have hgt : ∀ x ∈ r', ¬ leP x.p c.p := by
    intro x hx hle
    cases r' with
    | nil => cases hx
    | cons z r' =>
      have hz := h4 z rfl
      have hzx : leP z.p x.p := by
        rcases List.mem_cons.1 hx with rfl | hx
        · exact leP_refl _
        · have h5 : (z :: r').Pairwise fun a b => leP a.p b.p := by
            have : (pre ++ (c :: run) ++ (z :: r')).Pairwise fun a b => leP a.p b.p := by rw [← hcut]; exact hs
            exact (List.pairwise_append.1 this).2.1
          exact (List.pairwise_cons.1 h5).1 x hx
      refine hz ⟨leP_trans (hd z (hmr z (by simp))) (hd x (hmr x hx)) (hd c hcm) hzx hle, hsr z (by simp) c (by simp)⟩
  have hlt : ∀ x ∈ pre, ¬ leP c.p x.p := fun x hx => h.less x hx c (by simp)
  have hW : W cs c.p = t + c.t + ways run := by
    rw [hcut, W_append, W_append, W_none hgt, W_all (cs := pre) fun x hx => le_of_not (hlt x hx), W_all (cs := c :: run) fun x hx => (hrun x hx).1, ← h.sum]
    simp [ways]; omega
  have hWlt : Wlt cs c.p = t := by
    rw [hcut, Wlt_append, Wlt_append, Wlt_all (cs := pre) hlt, Wlt_none (cs := c :: run) fun x hx => (hrun x hx).2, Wlt_none (cs := r') fun x hx => le_of_not (hgt x hx), ← h.sum]
    omega
  have hWx : ∀ x ∈ c :: run, W cs x.p = W cs c.p := fun x hx => W_congr fun y hy =>
    ⟨fun h5 => leP_trans (hd y hy) (hd x (hmem x (List.mem_append_right _ hx))) (hd c hcm) h5 (hrun x hx).1, fun h5 => leP_trans (hd y hy) (hd c hcm) (hd x (hmem x (List.mem_append_right _ hx))) h5 (hrun x hx).2⟩
  refine ⟨run, rfl, by rw [h2, hW], hWlt, hrun, hcut, ?_, ?_, ?_⟩
  · rw [h2, ways_append, ← h.sum]; simp [ways]; omega
  · intro a ha b hb hle
    rcases List.mem_append.1 ha with ha | ha
    · exact h.less a ha b (by simp [hb]) hle
    · exact hgt b hb (leP_trans (hd b (hmr b hb)) (hd a (hmem a (List.mem_append_right _ ha))) (hd c hcm) hle (hrun a ha).1)
  · intro ht'
    by_cases ht : t = 0
    · rw [if_pos ⟨ht, ht'⟩]
      refine ⟨c, by simp, rfl, by rw [hWlt, ht], fun p hp hle => ?_⟩
      rcases List.mem_append.1 hp with hp | hp
      · exact absurd hle (hlt p hp)
      · rw [hWx p hp, hW, ← h2]; exact ht'
    · rw [if_neg fun h5 => ht h5.1]
      obtain ⟨a, ha, hf, ha1, ha2⟩ := h.open_ ht
      refine ⟨a, List.mem_append_left _ ha, hf, ha1, fun p hp hle => ?_⟩
      rcases List.mem_append.1 hp with hp | hp
      · exact ha2 p hp hle
      · rw [hWx p hp, hW, ← h2]; exact ht'

theorem exists_max : ∀ (l : List Cr), Pos l → l ≠ [] → ∃ m ∈ l, ∀ x ∈ l, leP x.p m.p
  | [], _, h => absurd rfl h
  | [a], _, _ => ⟨a, by simp, fun x hx => by simp at hx; subst hx; exact leP_refl _⟩
  | a :: b :: l, hp, _ => by
    obtain ⟨m, hm, hx⟩ := exists_max (b :: l) (fun c hc => hp c (List.mem_cons_of_mem _ hc)) (by simp)
    rcases leP_total a.p m.p with h | h
    · exact ⟨m, List.mem_cons_of_mem _ hm, fun x hx' => by
        rcases List.mem_cons.1 hx' with rfl | hx'
        · exact h
        · exact hx x hx'⟩
    · exact ⟨a, by simp, fun x hx' => by
        rcases List.mem_cons.1 hx' with rfl | hx'
        · exact leP_refl _
        · exact leP_trans (hp x (List.mem_cons_of_mem _ hx')) (hp m (List.mem_cons_of_mem _ hm)) (hp a (by simp)) (hx x hx') h⟩

/-- ahead of a place, behind another one: the last crossing there -/
theorem Wlt_last {cs : List Cr} (hpos : Pos cs) {a b : Cr} (ha : a ∈ cs) (hb : b ∈ cs) (hab : ¬ leP b.p a.p) : ∃ m ∈ cs, leP a.p m.p ∧ ¬ leP b.p m.p ∧ Wlt cs b.p = W cs m.p := by
  obtain ⟨m, hm, hx⟩ := exists_max (cs.filter fun x => decide (¬ leP b.p x.p)) (fun c hc => hpos c (List.mem_filter.1 hc).1) (List.ne_nil_of_mem (List.mem_filter.2 ⟨ha, by simpa using hab⟩))
  have hm' := List.mem_filter.1 hm
  have hbm : ¬ leP b.p m.p := by simpa using hm'.2
  refine ⟨m, hm'.1, hx a (List.mem_filter.2 ⟨ha, by simpa using hab⟩), hbm, Wlt_W fun c hc => ⟨fun h => hx c (List.mem_filter.2 ⟨hc, by simpa using h⟩), fun h h2 => hbm (leP_trans (hpos b hb) (hpos c hc) (hpos m hm'.1) h2 h)⟩⟩

theorem W_eq {cs : List Cr} (hpos : Pos cs) {p q : Place} (hp : 0 < p.2) (hq : 0 < q.2) (h : eqP p q) : W cs p = W cs q :=
  W_congr fun c hc => ⟨fun h1 => leP_trans (hpos c hc) hp hq h1 h.1, fun h1 => leP_trans (hpos c hc) hq hp h1 h.2⟩

/-- soundness: what is told is a stretch -/
theorem strs_sound {cs : List Cr} (hpos : Pos cs) (hs : Sorted cs) : ∀ (n : Nat) (pre rest : List Cr) (t : Int) (f : Place), rest.length ≤ n → Mid cs pre rest t f → ∀ st ∈ strs rest t f, ∃ a b, st = (a.p, b.p) ∧ IsStr cs a b
  | n, pre, [], t, f, _, _, st, hst => by rw [strs] at hst; cases hst
  | 0, pre, c :: r, t, f, hn, _, _, _ => by simp at hn
  | n + 1, pre, c :: r, t, f, hn, h, st, hst => by
    obtain ⟨run, h1, h2, h3, h4, h5⟩ := h.step hpos hs
    have hlen := takeRun_len c r (t + c.t)
    rw [strs] at hst
    rcases List.mem_append.1 hst with hst | hst
    · split at hst
      · rename_i hc
        rw [if_neg fun hx => hc.1 hx.1] at hst
        simp at hst
        obtain ⟨a, ha, hf, ha1, ha2⟩ := h.open_ hc.1
        have hcm : c ∈ cs := by rw [h.cut]; simp
        have ham : a ∈ cs := by rw [h.cut]; exact List.mem_append_left _ ha
        refine ⟨a, c, by rw [hst, hf], ham, hcm, ha1, fun p hp hle hnb => ?_, by rw [← h2]; exact hc.2, h.less a ha c (by simp)⟩
        rw [h.cut] at hp
        rcases List.mem_append.1 hp with hp | hp
        · exact ha2 p hp hle
        · exfalso
          have hss : (pre ++ (c :: r)).Pairwise fun a b => leP a.p b.p := by rw [← h.cut]; exact hs
          rcases List.mem_cons.1 hp with rfl | hp
          · exact hnb (leP_refl _)
          · exact hnb ((List.pairwise_cons.1 (List.pairwise_append.1 hss).2.1).1 p hp)
      · cases hst
    · exact strs_sound hpos hs n _ _ _ _ (by simp at hn; omega) h5 st hst

/-- completeness: each stretch is told -/
theorem strs_complete {cs : List Cr} (hpos : Pos cs) (hs : Sorted cs) {a b : Cr} (hi : IsStr cs a b) : ∀ (n : Nat) (pre rest : List Cr) (t : Int) (f : Place), rest.length ≤ n → Mid cs pre rest t f → b ∈ rest → ∃ a' b', (a'.p, b'.p) ∈ strs rest t f ∧ a' ∈ cs ∧ b' ∈ cs ∧ eqP a'.p a.p ∧ eqP b'.p b.p
  | n, pre, [], t, f, _, _, hb => by cases hb
  | 0, pre, c :: r, t, f, hn, _, _ => by simp at hn
  | n + 1, pre, c :: r, t, f, hn, h, hb => by
    obtain ⟨run, h1, h2, h3, h4, h5⟩ := h.step hpos hs
    have hlen := takeRun_len c r (t + c.t)
    have hd : ∀ x ∈ cs, 0 < x.p.2 := fun x hx => hpos x hx
    have hcm : c ∈ cs := by rw [h.cut]; simp
    rw [strs]
    by_cases hbr : b ∈ c :: run
    · have hbc := h4 b hbr
      have hW0 : W cs c.p = 0 := by rw [W_eq hpos (hd c hcm) (hd b hi.mb) ⟨hbc.2, hbc.1⟩]; exact hi.behind
      have hac : ¬ leP c.p a.p := fun hx => hi.apart (leP_trans (hd b hi.mb) (hd c hcm) (hd a hi.ma) hbc.1 hx)
      obtain ⟨m, hm, hm1, hm2, hm3⟩ := Wlt_last hpos hi.ma hcm hac
      have ht : t ≠ 0 := by
        rw [← h3, hm3]
        exact hi.within m hm hm1 fun hx => hm2 (leP_trans (hd c hcm) (hd b hi.mb) (hd m hm) hbc.2 hx)
      obtain ⟨a0, ha0, hf, hz, hnz⟩ := h.open_ ht
      have ha0m : a0 ∈ cs := by rw [h.cut]; exact List.mem_append_left _ ha0
      have ha0c : ¬ leP c.p a0.p := h.less a0 ha0 c (by simp)
      have hpre : ∀ x ∈ cs, ¬ leP c.p x.p → x ∈ pre := by
        intro x hx hn
        rw [h.cut] at hx
        rcases List.mem_append.1 hx with hx | hx
        · exact hx
        · exfalso
          have hss : (pre ++ (c :: r)).Pairwise fun a b => leP a.p b.p := by rw [← h.cut]; exact hs
          rcases List.mem_cons.1 hx with rfl | hx
          · exact hn (leP_refl _)
          · exact hn ((List.pairwise_cons.1 (List.pairwise_append.1 hss).2.1).1 x hx)
      refine ⟨a0, c, List.mem_append_left _ ?_, ha0m, hcm, ⟨?_, ?_⟩, ⟨hbc.2, hbc.1⟩⟩
      · rw [if_pos ⟨ht, by rw [h2, hW0]⟩, if_neg fun hx => ht hx.1, hf]
        exact List.mem_cons_self ..
      · refine Classical.byContradiction fun hx => ?_
        obtain ⟨m, hm, h6, h7, h8⟩ := Wlt_last hpos hi.ma ha0m hx
        rw [hz] at h8
        exact hi.within m hm h6 (fun hy => h7 (leP_trans (hd a0 ha0m) (hd b hi.mb) (hd m hm) (leP_trans (hd a0 ha0m) (hd c hcm) (hd b hi.mb) (le_of_not ha0c) hbc.2) hy)) h8.symm
      · refine Classical.byContradiction fun hx => ?_
        obtain ⟨m, hm, h6, h7, h8⟩ := Wlt_last hpos ha0m hi.ma hx
        rw [hi.before] at h8
        refine hnz m (hpre m hm fun hy => h7 (leP_trans (hd a hi.ma) (hd c hcm) (hd m hm) (le_of_not hac) hy)) h6 h8.symm
    · have hb' : b ∈ (takeRun c r (t + c.t)).2 := by
        have h6 : b ∈ (c :: run) ++ (takeRun c r (t + c.t)).2 := by
          rw [List.cons_append, ← h1]; exact hb
        rcases List.mem_append.1 h6 with h6 | h6
        · exact absurd h6 hbr
        · exact h6
      obtain ⟨a', b', h6, h7⟩ := strs_complete hpos hs hi n _ _ _ _ (by simp at hn; omega) h5 hb'
      exact ⟨a', b', List.mem_append_right _ h6, h7⟩

theorem Mid.init (cs : List Cr) (f : Place) : Mid cs [] cs 0 f := ⟨rfl, rfl, by simp, fun h => absurd rfl h⟩
theorem strs_is {cs : List Cr} (hpos : Pos cs) (hs : Sorted cs) {f : Place} {st : Place × Place} (h : st ∈ strs cs 0 f) : ∃ a b, st = (a.p, b.p) ∧ IsStr cs a b := strs_sound hpos hs _ _ _ _ _ (Nat.le_refl _) (Mid.init cs f) st h
theorem is_strs {cs : List Cr} (hpos : Pos cs) (hs : Sorted cs) {a b : Cr} (h : IsStr cs a b) (f : Place) : ∃ a' b', (a'.p, b'.p) ∈ strs cs 0 f ∧ a' ∈ cs ∧ b' ∈ cs ∧ eqP a'.p a.p ∧ eqP b'.p b.p := strs_complete hpos hs h _ _ _ _ _ (Nat.le_refl _) (Mid.init cs f) h.mb

end Go.Proofs.Ytbgolbkolcmldaa

/-
  Plain law: a bitmap is told by its black pixels alone; the black pixels of lines, told by stretches.
-/
namespace Go.Proofs.Ytbgolbkolcmldaa

/-- a strip that begins and ends black -/
structure Tight (s : Sp) : Prop where
  pos : 1 ≤ s.t.size
  left : bk s.t 0 = true
  right : bk s.t (s.t.size - 1) = true

theorem bx_att : ∀ (ss : List Sp) (q : Int × Int × Int × Int), ((ss.foldl bxStep q).1 = q.1 ∨ ∃ s ∈ ss, (ss.foldl bxStep q).1 = s.x) ∧ ((ss.foldl bxStep q).2.1 = q.2.1 ∨ ∃ s ∈ ss, (ss.foldl bxStep q).2.1 = s.x + s.t.size - 1) ∧ ((ss.foldl bxStep q).2.2.1 = q.2.2.1 ∨ ∃ s ∈ ss, (ss.foldl bxStep q).2.2.1 = s.y) ∧ ((ss.foldl bxStep q).2.2.2 = q.2.2.2 ∨ ∃ s ∈ ss, (ss.foldl bxStep q).2.2.2 = s.y)
  | [], q => ⟨.inl rfl, .inl rfl, .inl rfl, .inl rfl⟩
  | a :: ss, q => by
    obtain ⟨h1, h2, h3, h4⟩ := bx_att ss (bxStep q a)
    simp only [List.foldl_cons]
    have e1 : (bxStep q a).1 = min q.1 a.x := rfl
    have e2 : (bxStep q a).2.1 = max q.2.1 (a.x + a.t.size - 1) := rfl
    have e3 : (bxStep q a).2.2.1 = min q.2.2.1 a.y := rfl
    have e4 : (bxStep q a).2.2.2 = max q.2.2.2 a.y := rfl
    refine ⟨?_, ?_, ?_, ?_⟩
    · rcases h1 with h | ⟨s, hs, h⟩
      · rcases Int.le_total q.1 a.x with h5 | h5
        · exact .inl (by omega)
        · exact .inr ⟨a, by simp, by omega⟩
      · exact .inr ⟨s, by simp [hs], h⟩
    · rcases h2 with h | ⟨s, hs, h⟩
      · rcases Int.le_total q.2.1 (a.x + a.t.size - 1) with h5 | h5
        · exact .inr ⟨a, by simp, by omega⟩
        · exact .inl (by omega)
      · exact .inr ⟨s, by simp [hs], h⟩
    · rcases h3 with h | ⟨s, hs, h⟩
      · rcases Int.le_total q.2.2.1 a.y with h5 | h5
        · exact .inl (by omega)
        · exact .inr ⟨a, by simp, by omega⟩
      · exact .inr ⟨s, by simp [hs], h⟩
    · rcases h4 with h | ⟨s, hs, h⟩
      · rcases Int.le_total q.2.2.2 a.y with h5 | h5
        · exact .inr ⟨a, by simp, by omega⟩
        · exact .inl (by omega)
      · exact .inr ⟨s, by simp [hs], h⟩

theorem blackAt_iff (ss : List Sp) (x y : Int) : blackAt ss x y = true ↔ ∃ s ∈ ss, s.y = y ∧ s.x ≤ x ∧ bk s.t (x - s.x).toNat = true := by
  simp [blackAt, List.any_eq_true, and_assoc]

/-- the box of black pixels -/
structure IsBox (B : Int → Int → Prop) (q : Int × Int × Int × Int) : Prop where
  inn : ∀ x y, B x y → q.1 ≤ x ∧ x ≤ q.2.1 ∧ q.2.2.1 ≤ y ∧ y ≤ q.2.2.2
  l : ∃ y, B q.1 y
  r : ∃ y, B q.2.1 y
  b : ∃ x, B x q.2.2.1
  t : ∃ x, B x q.2.2.2
theorem IsBox.eq {B : Int → Int → Prop} {q q' : Int × Int × Int × Int} (h : IsBox B q) (h' : IsBox B q') : q = q' := by
  obtain ⟨a, b, c, d⟩ := q
  obtain ⟨a', b', c', d'⟩ := q'
  obtain ⟨y1, l⟩ := h.l; obtain ⟨y2, r⟩ := h.r; obtain ⟨x3, bb⟩ := h.b; obtain ⟨x4, t⟩ := h.t
  obtain ⟨y1', l'⟩ := h'.l; obtain ⟨y2', r'⟩ := h'.r; obtain ⟨x3', bb'⟩ := h'.b; obtain ⟨x4', t'⟩ := h'.t
  have := h.inn _ _ l'; have := h.inn _ _ r'; have := h.inn _ _ bb'; have := h.inn _ _ t'
  have := h'.inn _ _ l; have := h'.inn _ _ r; have := h'.inn _ _ bb; have := h'.inn _ _ t
  simp only at *
  simp only [Prod.mk.injEq]
  omega

theorem bxOf_isBox {s0 : Sp} {ss : List Sp} (ht : ∀ s ∈ s0 :: ss, Tight s) : IsBox (fun x y => blackAt (s0 :: ss) x y = true) (bxOf s0 (s0 :: ss)) := by
  obtain ⟨h1, h2, h3, h4, h5⟩ := bx_bounds (s0 :: ss) (s0.x, s0.x, s0.y, s0.y)
  obtain ⟨a1, a2, a3, a4⟩ := bx_att (s0 :: ss) (s0.x, s0.x, s0.y, s0.y)
  have hb0 := h5 s0 (by simp)
  have hp0 := (ht s0 (by simp)).pos
  change IsBox _ ((s0 :: ss).foldl bxStep (s0.x, s0.x, s0.y, s0.y))
  generalize (s0 :: ss).foldl bxStep (s0.x, s0.x, s0.y, s0.y) = q at *
  have L : ∃ s ∈ s0 :: ss, q.1 = s.x := by
    rcases a1 with h | h
    · exact ⟨s0, by simp, h⟩
    · exact h
  have R : ∃ s ∈ s0 :: ss, q.2.1 = s.x + s.t.size - 1 := by
    rcases a2 with h | h
    · exact ⟨s0, by simp, by simp only at h; omega⟩
    · exact h
  have Bt : ∃ s ∈ s0 :: ss, q.2.2.1 = s.y := by
    rcases a3 with h | h
    · exact ⟨s0, by simp, h⟩
    · exact h
  have Tp : ∃ s ∈ s0 :: ss, q.2.2.2 = s.y := by
    rcases a4 with h | h
    · exact ⟨s0, by simp, h⟩
    · exact h
  have first : ∀ s ∈ s0 :: ss, blackAt (s0 :: ss) s.x s.y = true := fun s hs => (blackAt_iff _ _ _).2 ⟨s, hs, rfl, Int.le_refl _, by simpa using (ht s hs).left⟩
  have last : ∀ s ∈ s0 :: ss, blackAt (s0 :: ss) (s.x + s.t.size - 1) s.y = true := fun s hs => (blackAt_iff _ _ _).2 ⟨s, hs, rfl, by have := (ht s hs).pos; omega, by
    have := (ht s hs).right
    rwa [show (s.x + s.t.size - 1 - s.x).toNat = s.t.size - 1 by omega]⟩
  refine ⟨fun x y h => ?_, ?_, ?_, ?_, ?_⟩
  · obtain ⟨s, hs, hy, hx, hk⟩ := (blackAt_iff _ _ _).1 h
    have := bk_lt hk
    have := h5 s hs
    omega
  · obtain ⟨s, hs, h⟩ := L
    exact ⟨s.y, by rw [h]; exact first s hs⟩
  · obtain ⟨s, hs, h⟩ := R
    exact ⟨s.y, by rw [h]; exact last s hs⟩
  · obtain ⟨s, hs, h⟩ := Bt
    exact ⟨s.x, by rw [h]; exact first s hs⟩
  · obtain ⟨s, hs, h⟩ := Tp
    exact ⟨s.x, by rw [h]; exact first s hs⟩

/-- a bitmap is told by its black pixels -/
theorem bmOf_canon {ss ss' : List Sp} (ht : ∀ s ∈ ss, Tight s) (ht' : ∀ s ∈ ss', Tight s) (h : ∀ x y, blackAt ss x y = true ↔ blackAt ss' x y = true) : bmOf ss = bmOf ss' := by
  have h0 : ∀ {ss : List Sp} {s : Sp}, s ∈ ss → Tight s → blackAt ss s.x s.y = true := fun {ss s} hs hq => (blackAt_iff _ _ _).2 ⟨s, hs, rfl, Int.le_refl _, by simpa using hq.left⟩
  cases ss with
  | nil =>
    cases ss' with
    | nil => rfl
    | cons s' ss' => exact absurd ((h _ _).2 (h0 (List.mem_cons_self ..) (ht' s' (by simp)))) (by simp [blackAt])
  | cons s ss =>
    cases ss' with
    | nil => exact absurd ((h _ _).1 (h0 (List.mem_cons_self ..) (ht s (by simp)))) (by simp [blackAt])
    | cons s' ss' =>
      have e : ∀ x y, blackAt (s :: ss) x y = blackAt (s' :: ss') x y := fun x y => Bool.eq_iff_iff.2 (h x y)
      have e1 := bxOf_isBox ht
      have e2 := bxOf_isBox ht'
      simp only [← e] at e2
      simp only [bmOf]
      rw [e1.eq e2]
      simp only [bmIn, e]

theorem ba_extract (s : ByteArray) (a b i : Nat) (hb : b ≤ s.size) (h : a + i < b) : bk (s.extract a b) i = bk s (a + i) := by
  have h1 : (s.extract a b).size = b - a := by rw [ByteArray.size_extract]; omega
  unfold bk
  have e1 : (s.extract a b)[i]? = some ((s.extract a b)[i]'(by omega)) := getElem?_pos ..
  have e2 : s[a + i]? = some (s[a + i]'(by omega)) := getElem?_pos ..
  rw [e1, e2, ByteArray.getElem_extract]
theorem trim_bk {s : ByteArray} {f : Nat} (hf : firstIdx s 35 = f) : Tight ⟨0, 0, trim s⟩ ∧ ∀ j, bk (trim s) j = bk s (f + j) := by
  rcases firstIdx_spec s with ⟨h, _⟩ | ⟨f', h1, h2, h3, h4⟩
  · omega
  obtain rfl : f' = f := by omega
  rcases lastTo_spec s s.size with ⟨h, h5⟩ | ⟨l, h5, h6, h7, h8⟩
  · rw [h5 f' h2] at h3; cases h3
  have hfl : f' ≤ l := by
    rcases Nat.lt_or_ge l f' with h9 | h9
    · rw [h4 l h9] at h7; cases h7
    · exact h9
  have et : trim s = s.extract f' (l + 1) := by
    unfold trim lastIdx
    rw [hf, h5]; simp
  have hsz : (trim s).size = l + 1 - f' := by rw [et, ByteArray.size_extract]; omega
  have key : ∀ j, bk (trim s) j = bk s (f' + j) := by
    intro j
    rcases Nat.lt_or_ge (f' + j) (l + 1) with h9 | h9
    · rw [et, ba_extract s _ _ _ (by omega) h9]
    · rw [bk_ge (by omega)]
      rcases Nat.lt_or_ge (f' + j) s.size with h10 | h10
      · rw [h8 _ (by omega) h10]
      · rw [bk_ge h10]
  refine ⟨⟨by show 1 ≤ (trim s).size; omega, by show bk (trim s) 0 = true; rw [key]; exact h3, ?_⟩, key⟩
  show bk (trim s) ((trim s).size - 1) = true
  rw [key, hsz, show f' + (l + 1 - f' - 1) = l by omega]
  exact h7
theorem rowB_bk (Wd : Nat) (p : Nat → Bool) (j : Nat) : bk (rowB Wd p) j = (decide (j < Wd) && p j) := by
  rcases Nat.lt_or_ge j Wd with h | h
  · have e : (rowB Wd p)[j]? = some (if p j then (35 : UInt8) else 46) := by
      have hs : j < (rowB Wd p).size := by rw [rowB_size]; exact h
      rw [getElem?_pos (rowB Wd p) j hs]
      simp [rowB, ByteArray.getElem_eq_getElem_data]
    unfold bk
    rw [e]
    cases p j <;> simp [h]
  · rw [bk_ge (by rw [rowB_size]; exact h)]
    have : ¬ j < Wd := by omega
    simp [this]
theorem rowSp_tight {left : Int} {wid : Nat} {r : Int × List Cr} : ∀ s ∈ rowSp left wid r, Tight s := by
  intro s hs
  unfold rowSp at hs
  split at hs
  · cases hs
  · rename_i h
    simp only [List.mem_singleton] at hs
    subst hs
    obtain ⟨t, _⟩ := trim_bk (s := rowB wid (pxOf left (strs r.2 0 (0, 0)))) (f := (firstIdx (rowB wid (pxOf left (strs r.2 0 (0, 0)))) 35).toNat) (by omega)
    exact ⟨t.pos, t.left, t.right⟩
theorem rowSp_black {left : Int} {wid : Nat} {r : Int × List Cr} (x y : Int) : blackAt (rowSp left wid r) x y = true ↔ r.1 = y ∧ left ≤ x ∧ x < left + wid ∧ pxOf left (strs r.2 0 (0, 0)) (x - left).toNat = true := by
  rw [blackAt_iff]
  unfold rowSp
  generalize pxOf left (strs r.2 0 (0, 0)) = p
  split
  · rename_i h
    rcases firstIdx_spec (rowB wid p) with ⟨_, h2⟩ | ⟨f, h1, _⟩
    · constructor
      · rintro ⟨s, hs, _⟩; cases hs
      · rintro ⟨h3, h4, h5, h6⟩
        have := h2 (x - left).toNat
        rw [rowB_bk, h6] at this
        simp at this
        omega
    · omega
  · rename_i h
    rcases firstIdx_spec (rowB wid p) with ⟨h1, _⟩ | ⟨f, h1, h2, h3, h4⟩
    · omega
    · obtain ⟨_, key⟩ := trim_bk h1
      simp only [List.mem_singleton, exists_eq_left, h1]
      constructor
      · rintro ⟨h5, h6, h7⟩
        rw [key, rowB_bk] at h7
        simp only [Bool.and_eq_true, decide_eq_true_eq] at h7
        refine ⟨h5, by omega, by omega, ?_⟩
        rw [show (x - left).toNat = f + (x - (left + f)).toNat by omega]
        exact h7.2
      · rintro ⟨h5, h6, h7, h8⟩
        have hf : f ≤ (x - left).toNat := by
          rcases Nat.lt_or_ge (x - left).toNat f with h9 | h9
          · have := h4 _ h9
            rw [rowB_bk, h8] at this
            simp at this
            omega
          · exact h9
        refine ⟨h5, by omega, ?_⟩
        rw [key, rowB_bk, show f + (x - (left + f)).toNat = (x - left).toNat by omega, h8]
        simp
        omega
theorem blackAt_flatMap {α : Type} (l : List α) (f : α → List Sp) (x y : Int) : blackAt (l.flatMap f) x y = true ↔ ∃ a ∈ l, blackAt (f a) x y = true := by
  simp only [blackAt_iff, List.mem_flatMap]
  constructor
  · rintro ⟨s, ⟨a, ha, hs⟩, h⟩; exact ⟨a, ha, s, hs, h⟩
  · rintro ⟨a, ha, s, hs, h⟩; exact ⟨s, ⟨a, ha, hs⟩, h⟩

end Go.Proofs.Ytbgolbkolcmldaa

/-
  Plain law: the black pixels of lines, told by the stretches of crossings, in whatever order.
-/
namespace Go.Proofs.Ytbgolbkolcmldaa

/-! ### places, up to how they are written -/
theorem cf_le_iff {n e c : Int} (he : 0 < e) : cf n e ≤ c ↔ n ≤ (64 * c + 32) * e := by
  unfold cf
  have h := Int.le_ediv_iff_mul_le (a := -c) (b := 32 * e - n) (c := 64 * e) (by omega)
  have e1 : (64 * c + 32) * e = 64 * (c * e) + 32 * e := by rw [Int.add_mul, Int.mul_assoc]
  have e2 : -c * (64 * e) = -(64 * (c * e)) := by rw [Int.neg_mul, Int.mul_left_comm]
  rw [e1]
  rw [e2] at h
  constructor
  · intro h1
    have := h.1 (by omega)
    omega
  · intro h1
    have := h.2 (by omega)
    omega
theorem cf_leP {p : Place} {c : Int} (he : 0 < p.2) : cf p.1 p.2 ≤ c ↔ leP p (64 * c + 32, 1) := by
  rw [cf_le_iff he]
  unfold leP
  simp
theorem int_eq_of_le {a b : Int} (h : ∀ c, a ≤ c ↔ b ≤ c) : a = b := by
  have h1 := (h b).2 (Int.le_refl _)
  have h2 := (h a).1 (Int.le_refl _)
  omega
theorem int_eq_of_ge {a b : Int} (h : ∀ c, c ≤ a ↔ c ≤ b) : a = b := by
  have h1 := (h b).2 (Int.le_refl _)
  have h2 := (h a).1 (Int.le_refl _)
  omega
theorem cf_eqP {p q : Place} (hp : 0 < p.2) (hq : 0 < q.2) (h : eqP p q) : cf p.1 p.2 = cf q.1 q.2 :=
  int_eq_of_le fun c => by
    rw [cf_leP hp, cf_leP hq]
    exact ⟨fun h1 => leP_trans hq hp (Int.one_pos) h.2 h1, fun h1 => leP_trans hp hq (Int.one_pos) h.1 h1⟩
theorem le_md_iff {n e m f c : Int} (he : 0 < e) (hf : 0 < f) : c ≤ md n e m f ↔ c * (128 * e * f) ≤ n * f + m * e := by
  unfold md
  exact Int.le_ediv_iff_mul_le (Int.mul_pos (by omega) hf)
theorem eqP_iff {p q : Place} : eqP p q ↔ p.1 * q.2 = q.1 * p.2 := by
  unfold eqP leP; omega
theorem md_eqP1 {n e n' e' m f : Int} (he : 0 < e) (he' : 0 < e') (hf : 0 < f) (h : n * e' = n' * e) : md n e m f = md n' e' m f :=
  int_eq_of_ge fun c => by
    rw [le_md_iff he hf, le_md_iff he' hf]
    have k1 : c * (128 * e * f) * e' = (c * (128 * e' * f)) * e := by
      rw [show c * (128 * e * f) * e' = 128 * c * f * (e * e') by simp only [Int.mul_assoc, Int.mul_comm, Int.mul_left_comm], show (c * (128 * e' * f)) * e = 128 * c * f * (e * e') by simp only [Int.mul_assoc, Int.mul_comm, Int.mul_left_comm]]
    have k2 : (n * f + m * e) * e' = (n' * f + m * e') * e := by
      rw [Int.add_mul, Int.add_mul, show n * f * e' = (n * e') * f by rw [Int.mul_assoc, Int.mul_comm f, ← Int.mul_assoc], h, show n' * e * f = n' * f * e by rw [Int.mul_assoc, Int.mul_comm e, ← Int.mul_assoc], show m * e * e' = m * e' * e by rw [Int.mul_assoc, Int.mul_comm e, ← Int.mul_assoc]]
    constructor
    · intro h1
      have := Int.mul_le_mul_of_nonneg_right h1 (Int.le_of_lt he')
      rw [k1, k2] at this
      exact Int.le_of_mul_le_mul_right this he
    · intro h1
      have := Int.mul_le_mul_of_nonneg_right h1 (Int.le_of_lt he)
      rw [← k1, ← k2] at this
      exact Int.le_of_mul_le_mul_right this he'
theorem md_comm (n e m f : Int) : md n e m f = md m f n e := by
  unfold md
  rw [Int.add_comm, Int.mul_assoc, Int.mul_assoc, Int.mul_comm e f]
theorem md_eqP {p p' q q' : Place} (hp : 0 < p.2) (hp' : 0 < p'.2) (hq : 0 < q.2) (hq' : 0 < q'.2) (h1 : eqP p p') (h2 : eqP q q') : md p.1 p.2 q.1 q.2 = md p'.1 p'.2 q'.1 q'.2 := by
  rw [md_eqP1 hp hp' hq (eqP_iff.1 h1), md_comm, md_eqP1 hq hq' hp' (eqP_iff.1 h2), md_comm]
theorem inS_eqP {p p' q q' : Place} (hp : 0 < p.2) (hp' : 0 < p'.2) (hq : 0 < q.2) (hq' : 0 < q'.2) (h1 : eqP p p') (h2 : eqP q q') (x : Int) : inS (p, q) x = inS (p', q') x := by
  simp only [inS, fillV]
  rw [cf_eqP hp hp' h1, cf_eqP hq hq' h2, md_eqP hp hp' hq hq' h1 h2]

/-! ### in whatever order -/
theorem sum_perm {l l' : List Int} (h : l.Perm l') : l.sum = l'.sum := by
  induction h with
  | nil => rfl
  | cons x _ ih => simp [ih]
  | swap x y l => simp; omega
  | trans _ _ h1 h2 => exact h1.trans h2
theorem W_perm {cs cs' : List Cr} (h : cs.Perm cs') (q : Place) : W cs q = W cs' q := sum_perm (h.map _)
theorem Wlt_perm {cs cs' : List Cr} (h : cs.Perm cs') (q : Place) : Wlt cs q = Wlt cs' q := sum_perm (h.map _)
theorem IsStr.perm {cs cs' : List Cr} (h : cs.Perm cs') {a b : Cr} (hi : IsStr cs a b) : IsStr cs' a b :=
  ⟨h.subset hi.ma, h.subset hi.mb, by rw [← Wlt_perm h]; exact hi.before, fun p hp h1 h2 => by rw [← W_perm h]; exact hi.within p (h.symm.subset hp) h1 h2, by rw [← W_perm h]; exact hi.behind, hi.apart⟩

theorem filter_two {α : Type} (p q r : α → Bool) : ∀ (l : List α), (∀ x ∈ l, r x = (p x || q x)) → (∀ x ∈ l, p x = true → q x = false) → (l.filter p ++ l.filter q).Perm (l.filter r)
  | [], _, _ => .nil
  | a :: l, h1, h2 => by
    have ih := filter_two p q r l (fun x hx => h1 x (by simp [hx])) (fun x hx => h2 x (by simp [hx]))
    have e1 := h1 a (by simp)
    have e2 := h2 a (by simp)
    cases hp : p a with
    | true =>
      rw [hp] at e1 e2
      rw [List.filter_cons_of_pos hp, List.filter_cons_of_neg (by simp [e2 rfl]), List.filter_cons_of_pos (by simpa using e1)]
      exact ih.cons _
    | false =>
      rw [hp] at e1
      cases hq : q a with
      | true =>
        rw [hq] at e1
        rw [List.filter_cons_of_neg (by simp [hp]), List.filter_cons_of_pos hq, List.filter_cons_of_pos (by simpa using e1)]
        exact List.perm_middle.trans (ih.cons _)
      | false =>
        rw [hq] at e1
        rw [List.filter_cons_of_neg (by simp [hp]), List.filter_cons_of_neg (by simp [hq]), List.filter_cons_of_neg (by simpa using e1)]
        exact ih

theorem crB_iff (y : Int) (e : Edg) : crB y e = true ↔ e.2.1 ≤ y ∧ y < e.2.2.2.1 := by simp [crB]
theorem begF_iff (first : Int) (i : Nat) (e : Edg) : begF first i e = true ↔ rowOf e.2.1 = first + i ∧ rowOf e.2.1 < rowOf e.2.2.2.1 := by simp [begF]
theorem act_perm {first : Int} {es : List Edg} (h : ∀ e ∈ es, first ≤ rowOf e.2.1) : ∀ i, (actE first es (i + 1)).Perm (es.filter (crB (rowY first i)))
  | 0 => by
    rw [actE, actE, keptE, List.filter_nil, List.nil_append, begE]
    refine List.Perm.of_eq (List.filter_congr fun e he => ?_)
    have := h e he
    rw [Bool.eq_iff_iff, crB_iff, begF_iff]
    simp only [rowOf, rowY] at this ⊢
    constructor
    · rintro ⟨h1, h2⟩; omega
    · rintro ⟨h1, h2⟩; omega
  | i + 1 => by
    rw [actE, keptE, begE]
    refine (((act_perm h i).filter _).append_right _).trans ?_
    rw [List.filter_filter]
    refine filter_two _ _ _ _ (fun e he => ?_) (fun e he hp => ?_)
    · have := h e he
      rw [Bool.eq_iff_iff, Bool.or_eq_true, Bool.and_eq_true, crB_iff, crB_iff, begF_iff]
      simp only [rowOf, rowY] at this ⊢
      constructor
      · rintro ⟨h1, h2⟩
        by_cases h3 : e.2.1 ≤ (first + i) * 64 + 32
        · exact .inl ⟨⟨h1, h2⟩, h3, by omega⟩
        · exact .inr ⟨by omega, by omega⟩
      · rintro (⟨⟨h1, h2⟩, h3, h4⟩ | ⟨h1, h2⟩)
        · exact ⟨h1, h2⟩
        · exact ⟨by omega, by omega⟩
    · rw [Bool.and_eq_true, crB_iff, crB_iff] at hp
      have := h e he
      rw [Bool.eq_false_iff]
      intro hq
      rw [begF_iff] at hq
      simp only [rowOf, rowY] at this hq hp
      omega

/-- the crossings of lines on a row of pixels -/
def crs (ls : List Pts) (k : Int) : List Cr := ((edgesAll ls).filter (crB (64 * k + 32))).map (crOf (64 * k + 32))
/-- a pixel is black -/
def Blk (ls : List Pts) (x k : Int) : Prop := ∃ a b, IsStr (crs ls k) a b ∧ inS (a.p, b.p) x = true

theorem crs_mem {ls : List Pts} {k : Int} {c : Cr} (h : c ∈ crs ls k) : ∃ e ∈ edgesAll ls, (e.2.1 ≤ 64 * k + 32 ∧ 64 * k + 32 < e.2.2.2.1) ∧ c = crOf (64 * k + 32) e := by
  obtain ⟨e, he, rfl⟩ := List.mem_map.1 h
  obtain ⟨h1, h2⟩ := List.mem_filter.1 he
  exact ⟨e, h1, (crB_iff _ _).1 h2, rfl⟩
theorem crs_pos (ls : List Pts) (k : Int) : Pos (crs ls k) := by
  intro c hc
  obtain ⟨e, he, h, rfl⟩ := crs_mem hc
  show 0 < e.2.2.2.1 - e.2.1
  omega

theorem row_perm {ls : List Pts} {i : Nat} : ((actE (rowOf (boxP ls).2.1) (edgesAll ls) (i + 1)).map (crOf (rowY (rowOf (boxP ls).2.1) i))).Perm (crs ls (rowOf (boxP ls).2.1 + i)) := by
  have e : rowY (rowOf (boxP ls).2.1) i = 64 * (rowOf (boxP ls).2.1 + i) + 32 := by unfold rowY; omega
  unfold crs
  rw [e]
  refine List.Perm.map _ ?_
  rw [← e]
  refine act_perm (fun e he => ?_) i
  have := edge_in he
  unfold rowOf
  omega

theorem sortCr_sorted {cs : List Cr} (h : ∀ c ∈ cs, CrOk c) : Sorted (sortCr cs) := by
  have hs := (sortCr_spec h).2
  unfold Sorted
  rw [List.pairwise_iff_getElem]
  intro i j hi hj hij
  exact hs i j _ _ hij (List.getElem?_eq_getElem hi) (List.getElem?_eq_getElem hj)

theorem fill_black {ls : List Pts} (hx : (boxP ls).2.2.1 - (boxP ls).1 ≤ 65536) (hy : (boxP ls).2.2.2.1 - (boxP ls).2.1 ≤ 65536) (x y : Int) : blackAt (fillS ls (boxP ls)) x y = true ↔ Blk ls x y := by
  have hrow : ∀ i : Nat, i < (rowOf (boxP ls).2.2.2.1 - rowOf (boxP ls).2.1).toNat → (∀ c ∈ (rowX (rowOf (boxP ls).2.1) (edgesAll ls) i).2, CrOk c ∧ PlIn (boxP ls).1 (boxP ls).2.2.1 c.p) ∧ Sorted (rowX (rowOf (boxP ls).2.1) (edgesAll ls) i).2 ∧ (rowX (rowOf (boxP ls).2.1) (edgesAll ls) i).2.Perm (crs ls (rowOf (boxP ls).2.1 + i)) := by
    intro i hi
    have h1 := rowsX_ok (r := rowX (rowOf (boxP ls).2.1) (edgesAll ls) i) hy (List.mem_map.2 ⟨i, List.mem_range.2 hi, rfl⟩)
    have hp0 : ∀ c ∈ (actE (rowOf (boxP ls).2.1) (edgesAll ls) (i + 1)).map (crOf (rowY (rowOf (boxP ls).2.1) i)), CrOk c := by
      intro c hc
      obtain ⟨e, he, rfl⟩ := List.mem_map.1 hc
      have hin := edge_in (actE_mem he)
      exact crOf_ok (edgesAll_ok (actE_mem he)) (actE_cross he) (by omega)
    exact ⟨h1.1, sortCr_sorted hp0, (sortCr_spec hp0).1.trans row_perm⟩
  rw [fillS, blackAt_flatMap]
  constructor
  · rintro ⟨r, hr, hb⟩
    obtain ⟨i, hi, rfl⟩ := List.mem_map.1 hr
    rw [List.mem_range] at hi
    obtain ⟨h1, h2, h3⟩ := hrow i hi
    obtain ⟨rfl, hb2, hb3, hb4⟩ := (rowSp_black _ _).1 hb
    simp only [pxOf, List.any_eq_true] at hb4
    obtain ⟨st, hst, hin⟩ := hb4
    obtain ⟨a, b, rfl, his⟩ := strs_is (fun c hc => (h1 c hc).1.p.e.1) h2 hst
    refine ⟨a, b, his.perm h3, ?_⟩
    rw [show (boxP ls).1 / 64 + ((x - (boxP ls).1 / 64).toNat : Int) = x by omega] at hin
    exact hin
  · rintro ⟨a, b, his, hin⟩
    obtain ⟨e, he, hce, hae⟩ := crs_mem his.ma
    have hei := edge_in he
    have h0 : rowOf (boxP ls).2.1 ≤ y ∧ y < rowOf (boxP ls).2.2.2.1 := by unfold rowOf; omega
    obtain ⟨i, hi⟩ : ∃ i : Nat, y = rowOf (boxP ls).2.1 + i := ⟨(y - rowOf (boxP ls).2.1).toNat, by omega⟩
    have hiN : i < (rowOf (boxP ls).2.2.2.1 - rowOf (boxP ls).2.1).toNat := by omega
    obtain ⟨h1, h2, h3⟩ := hrow i hiN
    rw [hi] at his
    have his2 := his.perm h3.symm
    have hpos : Pos (rowX (rowOf (boxP ls).2.1) (edgesAll ls) i).2 := fun c hc => (h1 c hc).1.p.e.1
    obtain ⟨a', b', hst, ha', hb', hea, heb⟩ := is_strs hpos h2 his2 (0, 0)
    have hin' : inS (a'.p, b'.p) x = true := by
      rw [inS_eqP (hpos a' ha') (hpos a his2.ma) (hpos b' hb') (hpos b his2.mb) hea heb]; exact hin
    have hf := fill_in (x := (a'.p, b'.p)) (h1 a' ha').2 (h1 b' hb').2
    dsimp only at hf
    have hin2 := hin'
    simp only [inS, Bool.and_eq_true, decide_eq_true_eq] at hin2
    refine ⟨_, List.mem_map.2 ⟨i, List.mem_range.2 hiN, rfl⟩, (rowSp_black _ _).2 ⟨hi.symm, by omega, by omega, ?_⟩⟩
    simp only [pxOf, List.any_eq_true]
    refine ⟨_, hst, ?_⟩
    rw [show (boxP ls).1 / 64 + ((x - (boxP ls).1 / 64).toNat : Int) = x by omega]
    exact hin'

theorem fillS_tight {ls : List Pts} {q : Int × Int × Int × Int × Bool} : ∀ s ∈ fillS ls q, Tight s := by
  intro s hs
  obtain ⟨r, _, hr⟩ := List.mem_flatMap.1 hs
  exact rowSp_tight s hr
/-- lines that reach no further than may be -/
def Small (ls : List Pts) : Prop := (boxP ls).2.2.2.2 = true ∧ (boxP ls).2.2.1 - (boxP ls).1 ≤ 65536 ∧ (boxP ls).2.2.2.1 - (boxP ls).2.1 ≤ 65536
theorem fillB_small {ls : List Pts} (h : Small ls) : fillB ls = bmOf (fillS ls (boxP ls)) := by
  unfold fillB
  rw [if_neg]
  rw [h.1]
  have := h.2
  simp; omega
theorem fill_canon {ls : List Pts} (h : Small ls) {ss : List Sp} (ht : ∀ s ∈ ss, Tight s) (hb : ∀ x y, Blk ls x y ↔ blackAt ss x y = true) : fillB ls = bmOf ss := by
  rw [fillB_small h]
  exact bmOf_canon fillS_tight ht fun x y => (fill_black h.2.1 h.2.2 x y).trans (hb x y)
theorem fill_same {ls ls' : List Pts} (h : Small ls) (h' : Small ls') (hb : ∀ x y, Blk ls x y ↔ Blk ls' x y) : fillB ls = fillB ls' := by
  rw [fill_canon h' fillS_tight fun x y => (fill_black h'.2.1 h'.2.2 x y).symm]
  exact fill_canon h fillS_tight fun x y => (hb x y).trans (fill_black h'.2.1 h'.2.2 x y).symm

end Go.Proofs.Ytbgolbkolcmldaa

/-
  Plain law: lines as their sides; which way round, where each begins, in which order.
-/
namespace Go.Proofs.Ytbgolbkolcmldaa

/-! ### boxes -/
def Within (q : Int × Int × Int × Int × Bool) (x0 x1 y0 y1 : Int) : Prop := q.2.2.2.2 = true → x0 ≤ q.1 ∧ q.2.2.1 ≤ x1 ∧ y0 ≤ q.2.1 ∧ q.2.2.2.1 ≤ y1
theorem bxS_within {q : Int × Int × Int × Int × Bool} {p : Int × Int} {x0 x1 y0 y1 : Int} (h : Within q x0 x1 y0 y1) (hp : x0 ≤ cut p.1 ∧ cut p.1 ≤ x1 ∧ y0 ≤ cut p.2 ∧ cut p.2 ≤ y1) : Within (bxS q p) x0 x1 y0 y1 := by
  intro _
  unfold bxS
  cases hq : q.2.2.2.2
  · simp only [Bool.false_eq_true, if_false]; omega
  · have := h hq
    simp only [if_true]; omega
theorem fold_within {x0 x1 y0 y1 : Int} : ∀ (l : Pts) {q : Int × Int × Int × Int × Bool}, Within q x0 x1 y0 y1 → (∀ p ∈ l, x0 ≤ cut p.1 ∧ cut p.1 ≤ x1 ∧ y0 ≤ cut p.2 ∧ cut p.2 ≤ y1) → Within (l.foldl bxS q) x0 x1 y0 y1
  | [], _, h, _ => h
  | a :: l, _, h, hp => fold_within l (bxS_within h (hp a (by simp))) fun p hp' => hp p (by simp [hp'])
theorem cut_id {n : Int} (h : -268435456 ≤ n ∧ n ≤ 268435456) : cut n = n := by unfold cut; omega
theorem small_of {ls : List Pts} (x0 x1 y0 y1 : Int) (hne : ls.flatten ≠ []) (h : ∀ p ∈ ls.flatten, x0 ≤ p.1 ∧ p.1 ≤ x1 ∧ y0 ≤ p.2 ∧ p.2 ≤ y1) (hx : -268435456 ≤ x0 ∧ x1 ≤ 268435456 ∧ x1 - x0 ≤ 65536) (hy : -268435456 ≤ y0 ∧ y1 ≤ 268435456 ∧ y1 - y0 ≤ 65536) : Small ls := by
  obtain ⟨p, hp⟩ := List.exists_mem_of_ne_nil _ hne
  have hin : InBox (boxP ls) p := fold_mem _ hp
  have hw : Within (boxP ls) x0 x1 y0 y1 := fold_within _ (fun h => by cases h) fun p hp => by
    have := h p hp
    rw [cut_id (by omega), cut_id (by omega)]
    exact this
  have := hw hin.1
  exact ⟨hin.1, by omega, by omega⟩
theorem fill_none {ls : List Pts} (h : ls.flatten = []) : fillB ls = Bm.nil := by
  unfold fillB boxP
  rw [h]
  simp

/-! ### sides -/
def steps {α : Type} : List α → List (α × α)
  | a :: b :: r => (a, b) :: steps (b :: r)
  | _ => []
def pairs {α : Type} : List α → List (α × α)
  | [] => []
  | h :: t => steps (h :: t ++ [h])
theorem steps_cut {α : Type} : ∀ (l : List α) (m : α) (r : List α), steps (l ++ m :: r) = steps (l ++ [m]) ++ steps (m :: r)
  | [], m, r => by simp [steps]
  | [a], m, r => by simp [steps]
  | a :: b :: l, m, r => by
    have := steps_cut (b :: l) m r
    simp only [List.cons_append, steps] at this ⊢
    rw [this]
theorem steps_reverse {α : Type} : ∀ (l : List α), steps l.reverse = ((steps l).map Prod.swap).reverse
  | [] => rfl
  | [a] => rfl
  | a :: b :: r => by
    have ih := steps_reverse (b :: r)
    rw [List.reverse_cons, List.reverse_cons, List.append_assoc, List.singleton_append, steps_cut, ← List.reverse_cons, ih]
    simp [steps]
theorem pairs_rot {α : Type} (a b : List α) : (pairs (a ++ b)).Perm (pairs (b ++ a)) := by
  cases a with
  | nil => simp
  | cons x a =>
    cases b with
    | nil => simp
    | cons y b =>
      have e1 : pairs (x :: a ++ y :: b) = steps (x :: a ++ [y]) ++ steps (y :: b ++ [x]) := by
        have := steps_cut (x :: a) y (b ++ [x])
        simp only [pairs, List.cons_append, List.append_assoc] at this ⊢
        exact this
      have e2 : pairs (y :: b ++ x :: a) = steps (y :: b ++ [x]) ++ steps (x :: a ++ [y]) := by
        have := steps_cut (y :: b) x (a ++ [y])
        simp only [pairs, List.cons_append, List.append_assoc] at this ⊢
        exact this
      rw [e1, e2]
      exact List.perm_append_comm
theorem pairs_reverse {α : Type} (l : List α) : (pairs l.reverse).Perm ((pairs l).map Prod.swap) := by
  cases l with
  | nil => exact .nil
  | cons h t =>
    rw [List.reverse_cons]
    refine (pairs_rot _ _).trans ?_
    have e : pairs ([h] ++ t.reverse) = steps ((h :: t ++ [h]).reverse) := by
      simp [pairs]
    rw [e, steps_reverse]
    exact List.reverse_perm _
theorem pairs_map {α β : Type} (f : α → β) (l : List α) : pairs (l.map f) = (pairs l).map fun x => (f x.1, f x.2) := by
  have hs : ∀ l : List α, steps (l.map f) = (steps l).map fun x => (f x.1, f x.2) := by
    intro l
    induction l with
    | nil => rfl
    | cons a l ih =>
      cases l with
      | nil => rfl
      | cons b l => simp only [List.map_cons, steps] at ih ⊢; rw [ih]
  cases l with
  | nil => rfl
  | cons h t =>
    have := hs (h :: t ++ [h])
    simpa [pairs] using this
theorem steps_mem {α : Type} : ∀ (l : List α) (x : α × α), x ∈ steps l → x.1 ∈ l ∧ x.2 ∈ l
  | [], x, h => by simp [steps] at h
  | [a], x, h => by simp [steps] at h
  | a :: b :: r, x, h => by
    simp only [steps, List.mem_cons] at h
    rcases h with rfl | h
    · simp
    · have := steps_mem (b :: r) x h
      exact ⟨List.mem_cons_of_mem _ this.1, List.mem_cons_of_mem _ this.2⟩
theorem pairs_mem {α : Type} {l : List α} {x : α × α} (h : x ∈ pairs l) : x.1 ∈ l ∧ x.2 ∈ l := by
  cases l with
  | nil => cases h
  | cons a t =>
    have := steps_mem _ _ h
    simp only [List.cons_append, List.mem_cons, List.mem_append, List.not_mem_nil, or_false] at this ⊢
    refine ⟨?_, ?_⟩
    · rcases this.1 with h | h | h
      · exact .inl h
      · exact .inr h
      · exact .inl h
    · rcases this.2 with h | h | h
      · exact .inl h
      · exact .inr h
      · exact .inl h

def edgeP (s : (Int × Int) × (Int × Int)) : List Edg := if (edgeV s.1.1 s.1.2 s.2.1 s.2.2).2.1 < (edgeV s.1.1 s.1.2 s.2.1 s.2.2).2.2.2.1 then [edgeV s.1.1 s.1.2 s.2.1 s.2.2] else []
def segs (ls : List Pts) : List ((Int × Int) × (Int × Int)) := ls.flatMap pairs

theorem steps_get {α : Type} : ∀ (l : List α) (i : Nat) (a b : α), l[i]? = some a → l[i + 1]? = some b → (steps l)[i]? = some (a, b)
  | [], i, a, b, h, _ => by simp at h
  | [x], i, a, b, h, h2 => by simp at h2
  | x :: y :: r, 0, a, b, h, h2 => by simp at h h2; subst h; subst h2; rfl
  | x :: y :: r, i + 1, a, b, h, h2 => by
    simp only [steps, List.getElem?_cons_succ] at h h2 ⊢
    exact steps_get (y :: r) i a b h (by simpa using h2)
theorem steps_len {α : Type} : ∀ (l : List α), (steps l).length = l.length - 1
  | [] => rfl
  | [_] => rfl
  | _ :: b :: r => by
    have := steps_len (b :: r)
    simp only [steps, List.length_cons] at this ⊢
    omega
theorem pairs_len {α : Type} (l : List α) : (pairs l).length = l.length := by
  cases l with
  | nil => rfl
  | cons h t => simp [pairs, steps_len]
theorem pairs_get {α : Type} {l : List α} {i : Nat} {a b : α} (h1 : l[i]? = some a) (h2 : l[(i + 1) % l.length]? = some b) : (pairs l)[i]? = some (a, b) := by
  have hi := (List.getElem?_eq_some_iff.1 h1).1
  cases l with
  | nil => simp at h1
  | cons h t =>
    refine steps_get (h :: t ++ [h]) i a b (by rw [List.getElem?_append_left hi]; exact h1) ?_
    by_cases hl : i + 1 < (h :: t).length
    · rw [Nat.mod_eq_of_lt hl] at h2
      rw [List.getElem?_append_left hl]; exact h2
    · have e : i + 1 = (h :: t).length := by omega
      rw [e, Nat.mod_self] at h2
      simp at h2
      subst h2
      rw [List.getElem?_append_right (by omega), e]
      simp
theorem flat_range {α β : Type} (f : α → List β) : ∀ l : List α, l.flatMap f = (List.range l.length).flatMap fun i => match l[i]? with | some a => f a | none => []
  | [] => rfl
  | a :: l => by
    rw [List.flatMap_cons, flat_range f l, List.length_cons, List.range_succ_eq_map, List.flatMap_cons, List.flatMap_map]
    rfl
theorem edgesOf_pairs (l : Pts) : edgesOf l = (pairs l).flatMap edgeP := by
  rw [flat_range, pairs_len]
  unfold edgesOf edgesTo
  refine flatMap_congr' fun i hi => ?_
  rw [List.mem_range] at hi
  have h1 : l[i]? = some l[i] := List.getElem?_eq_getElem hi
  have hm : (i + 1) % l.length < l.length := Nat.mod_lt _ (by omega)
  have h2 : l[(i + 1) % l.length]? = some (l[(i + 1) % l.length]'hm) := List.getElem?_eq_getElem hm
  rw [pairs_get h1 h2, edgeAt, h1, h2]
  rfl
theorem edgesAll_segs (ls : List Pts) : edgesAll ls = (segs ls).flatMap edgeP := by
  unfold edgesAll segs
  rw [List.flatMap_assoc]
  exact flatMap_congr' fun l _ => edgesOf_pairs l

/-- a side's crossing of a row of pixels -/
def crP (k : Int) (s : (Int × Int) × (Int × Int)) : List Cr := ((edgeP s).filter (crB (64 * k + 32))).map (crOf (64 * k + 32))
theorem crs_segs (ls : List Pts) (k : Int) : crs ls k = (segs ls).flatMap (crP k) := by
  unfold crs
  rw [edgesAll_segs, List.filter_flatMap, List.map_flatMap]
  rfl
def negC (c : Cr) : Cr := ⟨c.n, c.d, -c.t⟩
theorem edgeP_swap (s : (Int × Int) × (Int × Int)) : edgeP s.swap = (edgeP s).map fun e => (e.1, e.2.1, e.2.2.1, e.2.2.2.1, -e.2.2.2.2) := by
  obtain ⟨p, q⟩ := s
  unfold edgeP edgeV
  simp only [Prod.swap]
  rcases Int.lt_trichotomy (cut p.2) (cut q.2) with h | h | h
  · have h1 : ¬ cut q.2 < cut p.2 := by omega
    simp [h, h1]
  · have h1 : ¬ cut q.2 < cut p.2 := by omega
    have h2 : ¬ cut p.2 < cut q.2 := by omega
    simp [h1, h2]
  · have h1 : ¬ cut p.2 < cut q.2 := by omega
    simp [h, h1]
theorem crP_swap (k : Int) (s : (Int × Int) × (Int × Int)) : crP k s.swap = (crP k s).map negC := by
  unfold crP
  rw [edgeP_swap, List.filter_map, List.map_map, List.map_map]
  rfl
theorem crs_perm {ls ls' : List Pts} (h : (segs ls).Perm (segs ls')) (k : Int) : (crs ls k).Perm (crs ls' k) := by
  rw [crs_segs, crs_segs]
  exact h.flatMap_right _
theorem crs_swap {ls ls' : List Pts} (h : (segs ls').Perm ((segs ls).map Prod.swap)) (k : Int) : (crs ls' k).Perm ((crs ls k).map negC) := by
  rw [crs_segs, crs_segs]
  refine (h.flatMap_right _).trans (List.Perm.of_eq ?_)
  rw [List.flatMap_map, List.map_flatMap]
  exact flatMap_congr' fun s _ => crP_swap k s

/-! ### the other way round -/
theorem sum_neg {α : Type} (f : α → Int) : ∀ l : List α, (l.map fun x => -f x).sum = -(l.map f).sum
  | [] => rfl
  | a :: l => by rw [List.map_cons, List.sum_cons, sum_neg f l, List.map_cons, List.sum_cons]; omega
theorem W_neg (cs : List Cr) (q : Place) : W (cs.map negC) q = -W cs q := by
  unfold W
  rw [List.map_map, ← sum_neg]
  congr 1
  refine List.map_congr_left fun c _ => ?_
  show (if leP (c.n, c.d) q then -c.t else 0) = -(if leP (c.n, c.d) q then c.t else 0)
  by_cases h : leP (c.n, c.d) q
  · rw [if_pos h, if_pos h]
  · rw [if_neg h, if_neg h]; rfl
theorem Wlt_neg (cs : List Cr) (q : Place) : Wlt (cs.map negC) q = -Wlt cs q := by
  unfold Wlt
  rw [List.map_map, ← sum_neg]
  congr 1
  refine List.map_congr_left fun c _ => ?_
  show (if leP q (c.n, c.d) then 0 else -c.t) = -(if leP q (c.n, c.d) then 0 else c.t)
  by_cases h : leP q (c.n, c.d)
  · rw [if_pos h, if_pos h]; rfl
  · rw [if_neg h, if_neg h]
theorem IsStr.neg {cs : List Cr} {a b : Cr} (h : IsStr cs a b) : IsStr (cs.map negC) (negC a) (negC b) := by
  refine ⟨List.mem_map_of_mem h.ma, List.mem_map_of_mem h.mb, ?_, fun p hp h1 h2 => ?_, ?_, h.apart⟩
  · rw [Wlt_neg]; have := h.before; simp only [negC, Cr.p] at this ⊢; omega
  · obtain ⟨c, hc, rfl⟩ := List.mem_map.1 hp
    rw [W_neg]
    have := h.within c hc h1 h2
    simp only [negC, Cr.p] at this ⊢
    omega
  · rw [W_neg]; have := h.behind; simp only [negC, Cr.p] at this ⊢; omega
theorem negC_negC (cs : List Cr) : (cs.map negC).map negC = cs := by
  rw [List.map_map]
  refine (List.map_congr_left fun c _ => ?_).trans (List.map_id _)
  simp [negC]
theorem blk_perm {ls ls' : List Pts} (h : (segs ls).Perm (segs ls')) (x k : Int) : Blk ls x k → Blk ls' x k := by
  rintro ⟨a, b, hi, hin⟩
  exact ⟨a, b, hi.perm (crs_perm h k), hin⟩
theorem blk_swap {ls ls' : List Pts} (h : (segs ls').Perm ((segs ls).map Prod.swap)) (x k : Int) : Blk ls x k ↔ Blk ls' x k := by
  have hp := crs_swap h k
  constructor
  · rintro ⟨a, b, hi, hin⟩
    exact ⟨negC a, negC b, hi.neg.perm hp.symm, hin⟩
  · rintro ⟨a, b, hi, hin⟩
    have h2 := (hi.perm hp).neg
    rw [negC_negC] at h2
    exact ⟨negC a, negC b, h2, hin⟩
theorem segs_append (a b : List Pts) : segs (a ++ b) = segs a ++ segs b := by simp [segs]
theorem segs_reverse (ls : List Pts) : (segs (ls.map List.reverse)).Perm ((segs ls).map Prod.swap) := by
  unfold segs
  rw [List.flatMap_map, List.map_flatMap]
  induction ls with
  | nil => exact .nil
  | cons l ls ih => rw [List.flatMap_cons, List.flatMap_cons]; exact (pairs_reverse l).append ih
theorem blk_both {ls ls' : List Pts} (h : (segs ls').Perm ((segs ls).map Prod.swap)) (x k : Int) : ¬ Blk (ls ++ ls') x k := by
  rintro ⟨a, b, hi, _⟩
  have hp : (crs (ls ++ ls') k).Perm (crs ls k ++ (crs ls k).map negC) := by
    have e : crs (ls ++ ls') k = crs ls k ++ crs ls' k := by rw [crs_segs, segs_append, List.flatMap_append, ← crs_segs, ← crs_segs]
    rw [e]
    exact (crs_swap h k).append_left _
  have h0 : W (crs (ls ++ ls') k) a.p = 0 := by rw [W_perm hp, W_append, W_neg]; omega
  exact hi.within a hi.ma (leP_refl _) hi.apart h0

/-! ### how often lines go around a place -/
def windP (x y : Int) (s : (Int × Int) × (Int × Int)) : Int := windE x y (edgeP s)
theorem windE_flat {α : Type} (x y : Int) (f : α → List Edg) : ∀ l : List α, windE x y (l.flatMap f) = (l.map fun a => windE x y (f a)).sum
  | [] => rfl
  | a :: l => by
    rw [List.flatMap_cons, List.map_cons, List.sum_cons, ← windE_flat x y f l]
    simp [windE, List.sum_append]
theorem wind_segs (ls : List Pts) (x y : Int) : wind ls x y = ((segs ls).map (windP (cut x) (cut y))).sum := by
  unfold wind
  rw [edgesAll_segs, windE_flat]
  rfl
theorem windP_swap (x y : Int) (s : (Int × Int) × (Int × Int)) : windP x y s.swap = -windP x y s := by
  unfold windP windE
  rw [edgeP_swap, List.map_map, ← sum_neg]
  congr 1
  refine List.map_congr_left fun e _ => ?_
  show (if (decide (e.2.1 ≤ y) && decide (y < e.2.2.2.1)) = true ∧ cmpI (atN e y * 1) (x * atD e) ≤ 0 then -e.2.2.2.2 else 0) = -(if (decide (e.2.1 ≤ y) && decide (y < e.2.2.2.1)) = true ∧ cmpI (atN e y * 1) (x * atD e) ≤ 0 then e.2.2.2.2 else 0)
  by_cases h : (decide (e.2.1 ≤ y) && decide (y < e.2.2.2.1)) = true ∧ cmpI (atN e y * 1) (x * atD e) ≤ 0
  · rw [if_pos h, if_pos h]
  · rw [if_neg h, if_neg h]; rfl
theorem wind_perm {ls ls' : List Pts} (h : (segs ls).Perm (segs ls')) (x y : Int) : wind ls x y = wind ls' x y := by
  rw [wind_segs, wind_segs]; exact sum_perm (h.map _)
theorem wind_swap {ls ls' : List Pts} (h : (segs ls').Perm ((segs ls).map Prod.swap)) (x y : Int) : wind ls' x y = -wind ls x y := by
  rw [wind_segs, wind_segs, sum_perm (h.map _), List.map_map, ← sum_neg]
  congr 1
  exact List.map_congr_left fun s _ => windP_swap _ _ s
theorem wind_append (a b : List Pts) (x y : Int) : wind (a ++ b) x y = wind a x y + wind b x y := by
  rw [wind_segs, wind_segs, wind_segs, segs_append, List.map_append, List.sum_append]

end Go.Proofs.Ytbgolbkolcmldaa

/-
  Plain law: lines near by, the other way, and both.
-/
namespace Go.Proofs.Ytbgolbkolcmldaa

theorem near_in {ls : List Pts} {p : Int × Int} (h : p ∈ (nearL ls).flatten) : -2048 ≤ p.1 ∧ p.1 ≤ 2047 ∧ -2048 ≤ p.2 ∧ p.2 ≤ 2047 := by
  obtain ⟨l, hl, hp⟩ := List.mem_flatten.1 h
  obtain ⟨l0, _, rfl⟩ := List.mem_map.1 hl
  obtain ⟨q, _, rfl⟩ := List.mem_map.1 hp
  simp only [nrP]
  omega
theorem near_len (ls : List Pts) : (nearL ls).flatten.length ≤ 50 ∧ (nearL ls).length ≤ 5 ∧ ∀ l ∈ nearL ls, l.length ≤ 10 := by
  have : ∀ l : List Pts, (l.map nrL).flatten.length ≤ l.length * 10 := by
    intro l
    induction l with
    | nil => simp
    | cons a l ih => rw [List.map_cons, List.flatten_cons, List.length_append, nrL, List.length_map, List.length_take, List.length_cons]; omega
  have h := this (ls.take 5)
  rw [List.length_take] at h
  refine ⟨by unfold nearL; omega, by unfold nearL; rw [List.length_map, List.length_take]; omega, fun l hl => ?_⟩
  obtain ⟨l0, _, rfl⟩ := List.mem_map.1 hl
  rw [nrL, List.length_map, List.length_take]; omega
def revL (ls : List Pts) : List Pts := ls.map List.reverse
theorem revL_mem {ls : List Pts} {p : Int × Int} : p ∈ (revL ls).flatten ↔ p ∈ ls.flatten := by
  simp only [revL, List.mem_flatten, List.mem_map]
  constructor
  · rintro ⟨l, ⟨a, ha, rfl⟩, hp⟩; exact ⟨a, ha, List.mem_reverse.1 hp⟩
  · rintro ⟨l, hl, hp⟩; exact ⟨_, ⟨l, hl, rfl⟩, List.mem_reverse.2 hp⟩
theorem revL_flat {ls : List Pts} : (revL ls).flatten.length = ls.flatten.length := by
  simp [revL, List.length_flatten, Function.comp_def]
theorem flat_nil {ls ls' : List Pts} (h : ∀ p, p ∈ ls.flatten ↔ p ∈ ls'.flatten) : ls.flatten = [] ↔ ls'.flatten = [] := by
  rw [List.eq_nil_iff_forall_not_mem, List.eq_nil_iff_forall_not_mem]
  exact ⟨fun h1 p hp => h1 p ((h p).2 hp), fun h1 p hp => h1 p ((h p).1 hp)⟩
theorem near_small {ls : List Pts} (h : ∀ p ∈ ls.flatten, -2048 ≤ p.1 ∧ p.1 ≤ 2047 ∧ -2048 ≤ p.2 ∧ p.2 ≤ 2047) (hne : ls.flatten ≠ []) : Small ls :=
  small_of (-2048) 2047 (-2048) 2047 hne h (by omega) (by omega)
theorem against_fill (ls : List Pts) : fillB (revL (nearL ls)) = fillB (nearL ls) := by
  by_cases h : (nearL ls).flatten = []
  · rw [fill_none h, fill_none ((flat_nil fun p => revL_mem).2 h)]
  · have h2 : (revL (nearL ls)).flatten ≠ [] := fun h2 => h ((flat_nil fun p => revL_mem).1 h2)
    exact fill_same (near_small (fun p hp => near_in (revL_mem.1 hp)) h2) (near_small (fun p hp => near_in hp) h) fun x y => (blk_swap (segs_reverse _) x y).symm
theorem against_both (ls : List Pts) : fillB (nearL ls ++ revL (nearL ls)) = Bm.nil := by
  by_cases h : (nearL ls ++ revL (nearL ls)).flatten = []
  · exact fill_none h
  · have hs : Small (nearL ls ++ revL (nearL ls)) := near_small (fun p hp => by
      rw [List.flatten_append] at hp
      rcases List.mem_append.1 hp with hp | hp
      · exact near_in hp
      · exact near_in (revL_mem.1 hp)) h
    exact fill_canon hs (ss := []) (by simp) fun x y => ⟨fun hb => absurd hb (blk_both (segs_reverse _) x y), fun hb => by simp [blackAt] at hb⟩
theorem against_wind (ls : List Pts) (x y : Int) : wind (revL ls) x y = -wind ls x y := wind_swap (segs_reverse ls) x y
theorem against_none (ls : List Pts) (x y : Int) : wind (ls ++ revL ls) x y = 0 := by rw [wind_append, against_wind]; omega
theorem wind_bd (ls : List Pts) (x y : Int) : -(ls.flatten.length : Int) ≤ wind ls x y ∧ wind ls x y ≤ ls.flatten.length := by
  have h1 := windE_bd (cut x) (cut y) (edgesAll ls) fun e he => edgesAll_ok he
  have h2 := edgesAll_le ls
  unfold wind
  omega

end Go.Proofs.Ytbgolbkolcmldaa
