/-
  Plain law: the stretches of a row of crossings, told by sums of ways, whatever their order.
-/
import Derived.Test.YtbgolbkolcmldaaW14
namespace Go.Proofs.Ytbgolbkolcmldaa

/-- a place is not behind another one -/
def leP (p q : Place) : Prop := p.1 * q.2 ≤ q.1 * p.2
instance (p q : Place) : Decidable (leP p q) := by unfold leP; infer_instance
theorem leP_refl (p : Place) : leP p p := Int.le_refl _
theorem leP_total (p q : Place) : leP p q ∨ leP q p := Int.le_total _ _
theorem leP_trans {p q r : Place} (hp : 0 < p.2) (hq : 0 < q.2) (hr : 0 < r.2) (h1 : leP p q) (h2 : leP q r) : leP p r := by
  unfold leP at *
  have e1 : p.1 * q.2 * r.2 ≤ q.1 * p.2 * r.2 := Int.mul_le_mul_of_nonneg_right h1 (Int.le_of_lt hr)
  have e2 : q.1 * r.2 * p.2 ≤ r.1 * q.2 * p.2 := Int.mul_le_mul_of_nonneg_right h2 (Int.le_of_lt hp)
  have e3 : (p.1 * r.2) * q.2 ≤ (r.1 * p.2) * q.2 := by
    have a1 : p.1 * r.2 * q.2 = p.1 * q.2 * r.2 := by rw [Int.mul_assoc, Int.mul_comm r.2, ← Int.mul_assoc]
    have a2 : r.1 * p.2 * q.2 = r.1 * q.2 * p.2 := by rw [Int.mul_assoc, Int.mul_comm p.2, ← Int.mul_assoc]
    have a3 : q.1 * p.2 * r.2 = q.1 * r.2 * p.2 := by rw [Int.mul_assoc, Int.mul_comm p.2, ← Int.mul_assoc]
    omega
  exact Int.le_of_mul_le_mul_right e3 hq
def eqP (p q : Place) : Prop := leP p q ∧ leP q p

/-- all crossings have a place -/
def Pos (cs : List Cr) : Prop := ∀ c ∈ cs, 0 < c.d
/-- the ways up to a place, and ahead of it -/
def W (cs : List Cr) (q : Place) : Int := (cs.map fun c => if leP c.p q then c.t else 0).sum
def Wlt (cs : List Cr) (q : Place) : Int := (cs.map fun c => if leP q c.p then 0 else c.t).sum
def ways (cs : List Cr) : Int := (cs.map (·.t)).sum

theorem W_append (a b : List Cr) (q : Place) : W (a ++ b) q = W a q + W b q := by simp [W, List.sum_append]
theorem Wlt_append (a b : List Cr) (q : Place) : Wlt (a ++ b) q = Wlt a q + Wlt b q := by simp [Wlt, List.sum_append]
theorem ways_append (a b : List Cr) : ways (a ++ b) = ways a + ways b := by simp [ways, List.sum_append]
theorem W_all {cs : List Cr} {q : Place} (h : ∀ c ∈ cs, leP c.p q) : W cs q = ways cs := by
  unfold W ways
  congr 1
  exact List.map_congr_left fun c hc => by rw [if_pos (h c hc)]
theorem W_none {cs : List Cr} {q : Place} (h : ∀ c ∈ cs, ¬ leP c.p q) : W cs q = 0 := by
  induction cs with
  | nil => rfl
  | cons c cs ih =>
    have := ih fun c hc => h c (List.mem_cons_of_mem _ hc)
    simp only [W, List.map_cons, List.sum_cons] at this ⊢
    rw [if_neg (h c (List.mem_cons_self ..)), this]; rfl
theorem Wlt_all {cs : List Cr} {q : Place} (h : ∀ c ∈ cs, ¬ leP q c.p) : Wlt cs q = ways cs := by
  unfold Wlt ways
  congr 1
  exact List.map_congr_left fun c hc => by rw [if_neg (h c hc)]
theorem Wlt_none {cs : List Cr} {q : Place} (h : ∀ c ∈ cs, leP q c.p) : Wlt cs q = 0 := by
  induction cs with
  | nil => rfl
  | cons c cs ih =>
    have := ih fun c hc => h c (List.mem_cons_of_mem _ hc)
    simp only [Wlt, List.map_cons, List.sum_cons] at this ⊢
    rw [if_pos (h c (List.mem_cons_self ..)), this]; rfl
theorem W_congr {cs : List Cr} {p q : Place} (h : ∀ c ∈ cs, (leP c.p p ↔ leP c.p q)) : W cs p = W cs q := by
  unfold W
  congr 1
  exact List.map_congr_left fun c hc => by simp only [h c hc]
theorem Wlt_W {cs : List Cr} {p q : Place} (h : ∀ c ∈ cs, (¬ leP q c.p ↔ leP c.p p)) : Wlt cs q = W cs p := by
  unfold W Wlt
  congr 1
  refine List.map_congr_left fun c hc => ?_
  by_cases h1 : leP q c.p
  · rw [if_pos h1, if_neg fun h2 => (h c hc).2 h2 h1]
  · rw [if_neg h1, if_pos ((h c hc).1 h1)]

/-- a stretch from a crossing to another one -/
structure IsStr (cs : List Cr) (a b : Cr) : Prop where
  ma : a ∈ cs
  mb : b ∈ cs
  before : Wlt cs a.p = 0
  within : ∀ p ∈ cs, leP a.p p.p → ¬ leP b.p p.p → W cs p.p ≠ 0
  behind : W cs b.p = 0
  apart : ¬ leP b.p a.p

theorem eqAt_iff (a c : Cr) : eqAt a c = true ↔ eqP a.p c.p := by
  unfold eqAt eqP leP Cr.p cmpI
  simp only [decide_eq_true_eq]
  split
  · omega
  · split <;> omega

theorem takeRun_spec (c : Cr) : ∀ (r : List Cr) (t : Int), ∃ run, r = run ++ (takeRun c r t).2 ∧ (takeRun c r t).1 = t + ways run ∧ (∀ x ∈ run, eqP x.p c.p) ∧ ∀ x, (takeRun c r t).2.head? = some x → ¬ eqP x.p c.p
  | [], t => ⟨[], rfl, by simp [takeRun, ways], by simp, by simp [takeRun]⟩
  | a :: r, t => by
    unfold takeRun
    by_cases h : eqAt a c = true
    · rw [if_pos h]
      obtain ⟨run, h1, h2, h3, h4⟩ := takeRun_spec c r (t + a.t)
      refine ⟨a :: run, by rw [List.cons_append, ← h1], ?_, fun x hx => ?_, h4⟩
      · rw [h2]; simp [ways]; omega
      · rcases List.mem_cons.1 hx with rfl | hx
        · exact (eqAt_iff _ _).1 h
        · exact h3 x hx
    · rw [if_neg h]
      exact ⟨[], rfl, by simp [ways], by simp, fun x hx => by simp at hx; subst hx; exact fun h2 => h ((eqAt_iff _ _).2 h2)⟩

def Sorted (cs : List Cr) : Prop := cs.Pairwise fun a b => leP a.p b.p

/-- what is known between runs -/
structure Mid (cs pre rest : List Cr) (t : Int) (f : Place) : Prop where
  cut : cs = pre ++ rest
  sum : t = ways pre
  less : ∀ a ∈ pre, ∀ b ∈ rest, ¬ leP b.p a.p
  open_ : t ≠ 0 → ∃ a ∈ pre, f = a.p ∧ Wlt cs a.p = 0 ∧ ∀ p ∈ pre, leP a.p p.p → W cs p.p ≠ 0

theorem le_of_not {p q : Place} (h : ¬ leP p q) : leP q p := (leP_total q p).resolve_right h

theorem Mid.step {cs pre r : List Cr} {c : Cr} {t : Int} {f : Place} (hpos : Pos cs) (hs : Sorted cs) (h : Mid cs pre (c :: r) t f) :
    ∃ run, r = run ++ (takeRun c r (t + c.t)).2 ∧ (takeRun c r (t + c.t)).1 = W cs c.p ∧ Wlt cs c.p = t ∧ (∀ x ∈ c :: run, eqP x.p c.p) ∧
      Mid cs (pre ++ (c :: run)) (takeRun c r (t + c.t)).2 (takeRun c r (t + c.t)).1 (if t = 0 ∧ (takeRun c r (t + c.t)).1 ≠ 0 then c.p else f) := by
  obtain ⟨run, h1, h2, h3, h4⟩ := takeRun_spec c r (t + c.t)
  generalize takeRun c r (t + c.t) = z at h1 h2 h4 ⊢
  obtain ⟨t', r'⟩ := z
  dsimp only at h1 h2 h4 ⊢
  subst h1
  have hcut : cs = (pre ++ (c :: run)) ++ r' := by rw [h.cut]; simp
  have hrun : ∀ x ∈ c :: run, eqP x.p c.p := fun x hx => by
    rcases List.mem_cons.1 hx with rfl | hx
    · exact ⟨leP_refl _, leP_refl _⟩
    · exact h3 x hx
  have hmem : ∀ x, x ∈ pre ++ (c :: run) → x ∈ cs := fun x hx => by rw [hcut]; exact List.mem_append_left _ hx
  have hmr : ∀ x, x ∈ r' → x ∈ cs := fun x hx => by rw [hcut]; exact List.mem_append_right _ hx
  have hd : ∀ x ∈ cs, 0 < x.p.2 := fun x hx => hpos x hx
  have hcm : c ∈ cs := hmem c (by simp)
  -- behind the run all is greater
  have hsr : ∀ x ∈ r', ∀ y ∈ pre ++ (c :: run), leP y.p x.p := by
    intro x hx y hy
    have : (pre ++ (c :: run) ++ r').Pairwise fun a b => leP a.p b.p := by rw [← hcut]; exact hs
    exact (List.pairwise_append.1 this).2.2 y hy x hx
  have hgt : ∀ x ∈ r', ¬ leP x.p c.p := by
    intro x hx hle
    cases r' with
    | nil => cases hx
    | cons z r' =>
      have hz := h4 z rfl
      have hzx : leP z.p x.p := by
        rcases List.mem_cons.1 hx with rfl | hx
        · exact leP_refl _
        · have h5 : (z :: r').Pairwise fun a b => leP a.p b.p := by
            have : (pre ++ (c :: run) ++ (z :: r')).Pairwise fun a b => leP a.p b.p := by rw [← hcut]; exact hs
            exact (List.pairwise_append.1 this).2.1
          exact (List.pairwise_cons.1 h5).1 x hx
      refine hz ⟨leP_trans (hd z (hmr z (by simp))) (hd x (hmr x hx)) (hd c hcm) hzx hle, hsr z (by simp) c (by simp)⟩
  have hlt : ∀ x ∈ pre, ¬ leP c.p x.p := fun x hx => h.less x hx c (by simp)
  have hW : W cs c.p = t + c.t + ways run := by
    rw [hcut, W_append, W_append, W_none hgt, W_all (cs := pre) fun x hx => le_of_not (hlt x hx), W_all (cs := c :: run) fun x hx => (hrun x hx).1, ← h.sum]
    simp [ways]; omega
  have hWlt : Wlt cs c.p = t := by
    rw [hcut, Wlt_append, Wlt_append, Wlt_all (cs := pre) hlt, Wlt_none (cs := c :: run) fun x hx => (hrun x hx).2, Wlt_none (cs := r') fun x hx => le_of_not (hgt x hx), ← h.sum]
    omega
  have hWx : ∀ x ∈ c :: run, W cs x.p = W cs c.p := fun x hx => W_congr fun y hy =>
    ⟨fun h5 => leP_trans (hd y hy) (hd x (hmem x (List.mem_append_right _ hx))) (hd c hcm) h5 (hrun x hx).1, fun h5 => leP_trans (hd y hy) (hd c hcm) (hd x (hmem x (List.mem_append_right _ hx))) h5 (hrun x hx).2⟩
  refine ⟨run, rfl, by rw [h2, hW], hWlt, hrun, hcut, ?_, ?_, ?_⟩
  · rw [h2, ways_append, ← h.sum]; simp [ways]; omega
  · intro a ha b hb hle
    rcases List.mem_append.1 ha with ha | ha
    · exact h.less a ha b (by simp [hb]) hle
    · exact hgt b hb (leP_trans (hd b (hmr b hb)) (hd a (hmem a (List.mem_append_right _ ha))) (hd c hcm) hle (hrun a ha).1)
  · intro ht'
    by_cases ht : t = 0
    · rw [if_pos ⟨ht, ht'⟩]
      refine ⟨c, by simp, rfl, by rw [hWlt, ht], fun p hp hle => ?_⟩
      rcases List.mem_append.1 hp with hp | hp
      · exact absurd hle (hlt p hp)
      · rw [hWx p hp, hW, ← h2]; exact ht'
    · rw [if_neg fun h5 => ht h5.1]
      obtain ⟨a, ha, hf, ha1, ha2⟩ := h.open_ ht
      refine ⟨a, List.mem_append_left _ ha, hf, ha1, fun p hp hle => ?_⟩
      rcases List.mem_append.1 hp with hp | hp
      · exact ha2 p hp hle
      · rw [hWx p hp, hW, ← h2]; exact ht'

theorem exists_max : ∀ (l : List Cr), Pos l → l ≠ [] → ∃ m ∈ l, ∀ x ∈ l, leP x.p m.p
  | [], _, h => absurd rfl h
  | [a], _, _ => ⟨a, by simp, fun x hx => by simp at hx; subst hx; exact leP_refl _⟩
  | a :: b :: l, hp, _ => by
    obtain ⟨m, hm, hx⟩ := exists_max (b :: l) (fun c hc => hp c (List.mem_cons_of_mem _ hc)) (by simp)
    rcases leP_total a.p m.p with h | h
    · exact ⟨m, List.mem_cons_of_mem _ hm, fun x hx' => by
        rcases List.mem_cons.1 hx' with rfl | hx'
        · exact h
        · exact hx x hx'⟩
    · exact ⟨a, by simp, fun x hx' => by
        rcases List.mem_cons.1 hx' with rfl | hx'
        · exact leP_refl _
        · exact leP_trans (hp x (List.mem_cons_of_mem _ hx')) (hp m (List.mem_cons_of_mem _ hm)) (hp a (by simp)) (hx x hx') h⟩

/-- ahead of a place, behind another one: the last crossing there -/
theorem Wlt_last {cs : List Cr} (hpos : Pos cs) {a b : Cr} (ha : a ∈ cs) (hb : b ∈ cs) (hab : ¬ leP b.p a.p) : ∃ m ∈ cs, leP a.p m.p ∧ ¬ leP b.p m.p ∧ Wlt cs b.p = W cs m.p := by
  obtain ⟨m, hm, hx⟩ := exists_max (cs.filter fun x => decide (¬ leP b.p x.p)) (fun c hc => hpos c (List.mem_filter.1 hc).1) (List.ne_nil_of_mem (List.mem_filter.2 ⟨ha, by simpa using hab⟩))
  have hm' := List.mem_filter.1 hm
  have hbm : ¬ leP b.p m.p := by simpa using hm'.2
  refine ⟨m, hm'.1, hx a (List.mem_filter.2 ⟨ha, by simpa using hab⟩), hbm, Wlt_W fun c hc => ⟨fun h => hx c (List.mem_filter.2 ⟨hc, by simpa using h⟩), fun h h2 => hbm (leP_trans (hpos b hb) (hpos c hc) (hpos m hm'.1) h2 h)⟩⟩

theorem W_eq {cs : List Cr} (hpos : Pos cs) {p q : Place} (hp : 0 < p.2) (hq : 0 < q.2) (h : eqP p q) : W cs p = W cs q :=
  W_congr fun c hc => ⟨fun h1 => leP_trans (hpos c hc) hp hq h1 h.1, fun h1 => leP_trans (hpos c hc) hq hp h1 h.2⟩

/-- soundness: what is told is a stretch -/
theorem strs_sound {cs : List Cr} (hpos : Pos cs) (hs : Sorted cs) : ∀ (n : Nat) (pre rest : List Cr) (t : Int) (f : Place), rest.length ≤ n → Mid cs pre rest t f → ∀ st ∈ strs rest t f, ∃ a b, st = (a.p, b.p) ∧ IsStr cs a b
  | n, pre, [], t, f, _, _, st, hst => by rw [strs] at hst; cases hst
  | 0, pre, c :: r, t, f, hn, _, _, _ => by simp at hn
  | n + 1, pre, c :: r, t, f, hn, h, st, hst => by
    obtain ⟨run, h1, h2, h3, h4, h5⟩ := h.step hpos hs
    have hlen := takeRun_len c r (t + c.t)
    rw [strs] at hst
    rcases List.mem_append.1 hst with hst | hst
    · split at hst
      · rename_i hc
        rw [if_neg fun hx => hc.1 hx.1] at hst
        simp at hst
        obtain ⟨a, ha, hf, ha1, ha2⟩ := h.open_ hc.1
        have hcm : c ∈ cs := by rw [h.cut]; simp
        have ham : a ∈ cs := by rw [h.cut]; exact List.mem_append_left _ ha
        refine ⟨a, c, by rw [hst, hf], ham, hcm, ha1, fun p hp hle hnb => ?_, by rw [← h2]; exact hc.2, h.less a ha c (by simp)⟩
        rw [h.cut] at hp
        rcases List.mem_append.1 hp with hp | hp
        · exact ha2 p hp hle
        · exfalso
          have hss : (pre ++ (c :: r)).Pairwise fun a b => leP a.p b.p := by rw [← h.cut]; exact hs
          rcases List.mem_cons.1 hp with rfl | hp
          · exact hnb (leP_refl _)
          · exact hnb ((List.pairwise_cons.1 (List.pairwise_append.1 hss).2.1).1 p hp)
      · cases hst
    · exact strs_sound hpos hs n _ _ _ _ (by simp at hn; omega) h5 st hst

/-- completeness: each stretch is told -/
theorem strs_complete {cs : List Cr} (hpos : Pos cs) (hs : Sorted cs) {a b : Cr} (hi : IsStr cs a b) : ∀ (n : Nat) (pre rest : List Cr) (t : Int) (f : Place), rest.length ≤ n → Mid cs pre rest t f → b ∈ rest → ∃ a' b', (a'.p, b'.p) ∈ strs rest t f ∧ a' ∈ cs ∧ b' ∈ cs ∧ eqP a'.p a.p ∧ eqP b'.p b.p
  | n, pre, [], t, f, _, _, hb => by cases hb
  | 0, pre, c :: r, t, f, hn, _, _ => by simp at hn
  | n + 1, pre, c :: r, t, f, hn, h, hb => by
    obtain ⟨run, h1, h2, h3, h4, h5⟩ := h.step hpos hs
    have hlen := takeRun_len c r (t + c.t)
    have hd : ∀ x ∈ cs, 0 < x.p.2 := fun x hx => hpos x hx
    have hcm : c ∈ cs := by rw [h.cut]; simp
    rw [strs]
    by_cases hbr : b ∈ c :: run
    · have hbc := h4 b hbr
      have hW0 : W cs c.p = 0 := by rw [W_eq hpos (hd c hcm) (hd b hi.mb) ⟨hbc.2, hbc.1⟩]; exact hi.behind
      have hac : ¬ leP c.p a.p := fun hx => hi.apart (leP_trans (hd b hi.mb) (hd c hcm) (hd a hi.ma) hbc.1 hx)
      obtain ⟨m, hm, hm1, hm2, hm3⟩ := Wlt_last hpos hi.ma hcm hac
      have ht : t ≠ 0 := by
        rw [← h3, hm3]
        exact hi.within m hm hm1 fun hx => hm2 (leP_trans (hd c hcm) (hd b hi.mb) (hd m hm) hbc.2 hx)
      obtain ⟨a0, ha0, hf, hz, hnz⟩ := h.open_ ht
      have ha0m : a0 ∈ cs := by rw [h.cut]; exact List.mem_append_left _ ha0
      have ha0c : ¬ leP c.p a0.p := h.less a0 ha0 c (by simp)
      have hpre : ∀ x ∈ cs, ¬ leP c.p x.p → x ∈ pre := by
        intro x hx hn
        rw [h.cut] at hx
        rcases List.mem_append.1 hx with hx | hx
        · exact hx
        · exfalso
          have hss : (pre ++ (c :: r)).Pairwise fun a b => leP a.p b.p := by rw [← h.cut]; exact hs
          rcases List.mem_cons.1 hx with rfl | hx
          · exact hn (leP_refl _)
          · exact hn ((List.pairwise_cons.1 (List.pairwise_append.1 hss).2.1).1 x hx)
      refine ⟨a0, c, List.mem_append_left _ ?_, ha0m, hcm, ⟨?_, ?_⟩, ⟨hbc.2, hbc.1⟩⟩
      · rw [if_pos ⟨ht, by rw [h2, hW0]⟩, if_neg fun hx => ht hx.1, hf]
        exact List.mem_cons_self ..
      · refine Classical.byContradiction fun hx => ?_
        obtain ⟨m, hm, h6, h7, h8⟩ := Wlt_last hpos hi.ma ha0m hx
        rw [hz] at h8
        exact hi.within m hm h6 (fun hy => h7 (leP_trans (hd a0 ha0m) (hd b hi.mb) (hd m hm) (leP_trans (hd a0 ha0m) (hd c hcm) (hd b hi.mb) (le_of_not ha0c) hbc.2) hy)) h8.symm
      · refine Classical.byContradiction fun hx => ?_
        obtain ⟨m, hm, h6, h7, h8⟩ := Wlt_last hpos ha0m hi.ma hx
        rw [hi.before] at h8
        refine hnz m (hpre m hm fun hy => h7 (leP_trans (hd a hi.ma) (hd c hcm) (hd m hm) (le_of_not hac) hy)) h6 h8.symm
    · have hb' : b ∈ (takeRun c r (t + c.t)).2 := by
        have h6 : b ∈ (c :: run) ++ (takeRun c r (t + c.t)).2 := by
          rw [List.cons_append, ← h1]; exact hb
        rcases List.mem_append.1 h6 with h6 | h6
        · exact absurd h6 hbr
        · exact h6
      obtain ⟨a', b', h6, h7⟩ := strs_complete hpos hs hi n _ _ _ _ (by simp at hn; omega) h5 hb'
      exact ⟨a', b', List.mem_append_right _ h6, h7⟩

theorem Mid.init (cs : List Cr) (f : Place) : Mid cs [] cs 0 f := ⟨rfl, rfl, by simp, fun h => absurd rfl h⟩
theorem strs_is {cs : List Cr} (hpos : Pos cs) (hs : Sorted cs) {f : Place} {st : Place × Place} (h : st ∈ strs cs 0 f) : ∃ a b, st = (a.p, b.p) ∧ IsStr cs a b := strs_sound hpos hs _ _ _ _ _ (Nat.le_refl _) (Mid.init cs f) st h
theorem is_strs {cs : List Cr} (hpos : Pos cs) (hs : Sorted cs) {a b : Cr} (h : IsStr cs a b) (f : Place) : ∃ a' b', (a'.p, b'.p) ∈ strs cs 0 f ∧ a' ∈ cs ∧ b' ∈ cs ∧ eqP a'.p a.p ∧ eqP b'.p b.p := strs_complete hpos hs h _ _ _ _ _ (Nat.le_refl _) (Mid.init cs f) h.mb

end Go.Proofs.Ytbgolbkolcmldaa
