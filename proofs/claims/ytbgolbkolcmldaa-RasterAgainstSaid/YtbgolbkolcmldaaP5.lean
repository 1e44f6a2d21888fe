/-
  Plain law: the black pixels of lines, told by the stretches of crossings, in whatever order.
-/
import Derived.Test.YtbgolbkolcmldaaP4
namespace Go.Proofs.Ytbgolbkolcmldaa

/-! ### places, up to how they are written -/
theorem cf_le_iff {n e c : Int} (he : 0 < e) : cf n e ≤ c ↔ n ≤ (64 * c + 32) * e := by
  unfold cf
  have h := Int.le_ediv_iff_mul_le (a := -c) (b := 32 * e - n) (c := 64 * e) (by omega)
  have e1 : (64 * c + 32) * e = 64 * (c * e) + 32 * e := by rw [Int.add_mul, Int.mul_assoc]
  have e2 : -c * (64 * e) = -(64 * (c * e)) := by rw [Int.neg_mul, Int.mul_left_comm]
  rw [e1]
  rw [e2] at h
  constructor
  · intro h1
    have := h.1 (by omega)
    omega
  · intro h1
    have := h.2 (by omega)
    omega
theorem cf_leP {p : Place} {c : Int} (he : 0 < p.2) : cf p.1 p.2 ≤ c ↔ leP p (64 * c + 32, 1) := by
  rw [cf_le_iff he]
  unfold leP
  simp
theorem int_eq_of_le {a b : Int} (h : ∀ c, a ≤ c ↔ b ≤ c) : a = b := by
  have h1 := (h b).2 (Int.le_refl _)
  have h2 := (h a).1 (Int.le_refl _)
  omega
theorem int_eq_of_ge {a b : Int} (h : ∀ c, c ≤ a ↔ c ≤ b) : a = b := by
  have h1 := (h b).2 (Int.le_refl _)
  have h2 := (h a).1 (Int.le_refl _)
  omega
theorem cf_eqP {p q : Place} (hp : 0 < p.2) (hq : 0 < q.2) (h : eqP p q) : cf p.1 p.2 = cf q.1 q.2 :=
  int_eq_of_le fun c => by
    rw [cf_leP hp, cf_leP hq]
    exact ⟨fun h1 => leP_trans hq hp (Int.one_pos) h.2 h1, fun h1 => leP_trans hp hq (Int.one_pos) h.1 h1⟩
theorem le_md_iff {n e m f c : Int} (he : 0 < e) (hf : 0 < f) : c ≤ md n e m f ↔ c * (128 * e * f) ≤ n * f + m * e := by
  unfold md
  exact Int.le_ediv_iff_mul_le (Int.mul_pos (by omega) hf)
theorem eqP_iff {p q : Place} : eqP p q ↔ p.1 * q.2 = q.1 * p.2 := by
  unfold eqP leP; omega
theorem md_eqP1 {n e n' e' m f : Int} (he : 0 < e) (he' : 0 < e') (hf : 0 < f) (h : n * e' = n' * e) : md n e m f = md n' e' m f :=
  int_eq_of_ge fun c => by
    rw [le_md_iff he hf, le_md_iff he' hf]
    have k1 : c * (128 * e * f) * e' = (c * (128 * e' * f)) * e := by
      rw [show c * (128 * e * f) * e' = 128 * c * f * (e * e') by simp only [Int.mul_assoc, Int.mul_comm, Int.mul_left_comm], show (c * (128 * e' * f)) * e = 128 * c * f * (e * e') by simp only [Int.mul_assoc, Int.mul_comm, Int.mul_left_comm]]
    have k2 : (n * f + m * e) * e' = (n' * f + m * e') * e := by
      rw [Int.add_mul, Int.add_mul, show n * f * e' = (n * e') * f by rw [Int.mul_assoc, Int.mul_comm f, ← Int.mul_assoc], h, show n' * e * f = n' * f * e by rw [Int.mul_assoc, Int.mul_comm e, ← Int.mul_assoc], show m * e * e' = m * e' * e by rw [Int.mul_assoc, Int.mul_comm e, ← Int.mul_assoc]]
    constructor
    · intro h1
      have := Int.mul_le_mul_of_nonneg_right h1 (Int.le_of_lt he')
      rw [k1, k2] at this
      exact Int.le_of_mul_le_mul_right this he
    · intro h1
      have := Int.mul_le_mul_of_nonneg_right h1 (Int.le_of_lt he)
      rw [← k1, ← k2] at this
      exact Int.le_of_mul_le_mul_right this he'
theorem md_comm (n e m f : Int) : md n e m f = md m f n e := by
  unfold md
  rw [Int.add_comm, Int.mul_assoc, Int.mul_assoc, Int.mul_comm e f]
theorem md_eqP {p p' q q' : Place} (hp : 0 < p.2) (hp' : 0 < p'.2) (hq : 0 < q.2) (hq' : 0 < q'.2) (h1 : eqP p p') (h2 : eqP q q') : md p.1 p.2 q.1 q.2 = md p'.1 p'.2 q'.1 q'.2 := by
  rw [md_eqP1 hp hp' hq (eqP_iff.1 h1), md_comm, md_eqP1 hq hq' hp' (eqP_iff.1 h2), md_comm]
theorem inS_eqP {p p' q q' : Place} (hp : 0 < p.2) (hp' : 0 < p'.2) (hq : 0 < q.2) (hq' : 0 < q'.2) (h1 : eqP p p') (h2 : eqP q q') (x : Int) : inS (p, q) x = inS (p', q') x := by
  simp only [inS, fillV]
  rw [cf_eqP hp hp' h1, cf_eqP hq hq' h2, md_eqP hp hp' hq hq' h1 h2]

/-! ### in whatever order -/
theorem sum_perm {l l' : List Int} (h : l.Perm l') : l.sum = l'.sum := by
  induction h with
  | nil => rfl
  | cons x _ ih => simp [ih]
  | swap x y l => simp; omega
  | trans _ _ h1 h2 => exact h1.trans h2
theorem W_perm {cs cs' : List Cr} (h : cs.Perm cs') (q : Place) : W cs q = W cs' q := sum_perm (h.map _)
theorem Wlt_perm {cs cs' : List Cr} (h : cs.Perm cs') (q : Place) : Wlt cs q = Wlt cs' q := sum_perm (h.map _)
theorem IsStr.perm {cs cs' : List Cr} (h : cs.Perm cs') {a b : Cr} (hi : IsStr cs a b) : IsStr cs' a b :=
  ⟨h.subset hi.ma, h.subset hi.mb, by rw [← Wlt_perm h]; exact hi.before, fun p hp h1 h2 => by rw [← W_perm h]; exact hi.within p (h.symm.subset hp) h1 h2, by rw [← W_perm h]; exact hi.behind, hi.apart⟩

theorem filter_two {α : Type} (p q r : α → Bool) : ∀ (l : List α), (∀ x ∈ l, r x = (p x || q x)) → (∀ x ∈ l, p x = true → q x = false) → (l.filter p ++ l.filter q).Perm (l.filter r)
  | [], _, _ => .nil
  | a :: l, h1, h2 => by
    have ih := filter_two p q r l (fun x hx => h1 x (by simp [hx])) (fun x hx => h2 x (by simp [hx]))
    have e1 := h1 a (by simp)
    have e2 := h2 a (by simp)
    cases hp : p a with
    | true =>
      rw [hp] at e1 e2
      rw [List.filter_cons_of_pos hp, List.filter_cons_of_neg (by simp [e2 rfl]), List.filter_cons_of_pos (by simpa using e1)]
      exact ih.cons _
    | false =>
      rw [hp] at e1
      cases hq : q a with
      | true =>
        rw [hq] at e1
        rw [List.filter_cons_of_neg (by simp [hp]), List.filter_cons_of_pos hq, List.filter_cons_of_pos (by simpa using e1)]
        exact List.perm_middle.trans (ih.cons _)
      | false =>
        rw [hq] at e1
        rw [List.filter_cons_of_neg (by simp [hp]), List.filter_cons_of_neg (by simp [hq]), List.filter_cons_of_neg (by simpa using e1)]
        exact ih

theorem crB_iff (y : Int) (e : Edg) : crB y e = true ↔ e.2.1 ≤ y ∧ y < e.2.2.2.1 := by simp [crB]
theorem begF_iff (first : Int) (i : Nat) (e : Edg) : begF first i e = true ↔ rowOf e.2.1 = first + i ∧ rowOf e.2.1 < rowOf e.2.2.2.1 := by simp [begF]
theorem act_perm {first : Int} {es : List Edg} (h : ∀ e ∈ es, first ≤ rowOf e.2.1) : ∀ i, (actE first es (i + 1)).Perm (es.filter (crB (rowY first i)))
  | 0 => by
    rw [actE, actE, keptE, List.filter_nil, List.nil_append, begE]
    refine List.Perm.of_eq (List.filter_congr fun e he => ?_)
    have := h e he
    rw [Bool.eq_iff_iff, crB_iff, begF_iff]
    simp only [rowOf, rowY] at this ⊢
    constructor
    · rintro ⟨h1, h2⟩; omega
    · rintro ⟨h1, h2⟩; omega
  | i + 1 => by
    rw [actE, keptE, begE]
    refine (((act_perm h i).filter _).append_right _).trans ?_
    rw [List.filter_filter]
    refine filter_two _ _ _ _ (fun e he => ?_) (fun e he hp => ?_)
    · have := h e he
      rw [Bool.eq_iff_iff, Bool.or_eq_true, Bool.and_eq_true, crB_iff, crB_iff, begF_iff]
      simp only [rowOf, rowY] at this ⊢
      constructor
      · rintro ⟨h1, h2⟩
        by_cases h3 : e.2.1 ≤ (first + i) * 64 + 32
        · exact .inl ⟨⟨h1, h2⟩, h3, by omega⟩
        · exact .inr ⟨by omega, by omega⟩
      · rintro (⟨⟨h1, h2⟩, h3, h4⟩ | ⟨h1, h2⟩)
        · exact ⟨h1, h2⟩
        · exact ⟨by omega, by omega⟩
    · rw [Bool.and_eq_true, crB_iff, crB_iff] at hp
      have := h e he
      rw [Bool.eq_false_iff]
      intro hq
      rw [begF_iff] at hq
      simp only [rowOf, rowY] at this hq hp
      omega

/-- the crossings of lines on a row of pixels -/
def crs (ls : List Pts) (k : Int) : List Cr := ((edgesAll ls).filter (crB (64 * k + 32))).map (crOf (64 * k + 32))
/-- a pixel is black -/
def Blk (ls : List Pts) (x k : Int) : Prop := ∃ a b, IsStr (crs ls k) a b ∧ inS (a.p, b.p) x = true

theorem crs_mem {ls : List Pts} {k : Int} {c : Cr} (h : c ∈ crs ls k) : ∃ e ∈ edgesAll ls, (e.2.1 ≤ 64 * k + 32 ∧ 64 * k + 32 < e.2.2.2.1) ∧ c = crOf (64 * k + 32) e := by
  obtain ⟨e, he, rfl⟩ := List.mem_map.1 h
  obtain ⟨h1, h2⟩ := List.mem_filter.1 he
  exact ⟨e, h1, (crB_iff _ _).1 h2, rfl⟩
theorem crs_pos (ls : List Pts) (k : Int) : Pos (crs ls k) := by
  intro c hc
  obtain ⟨e, he, h, rfl⟩ := crs_mem hc
  show 0 < e.2.2.2.1 - e.2.1
  omega

theorem row_perm {ls : List Pts} {i : Nat} : ((actE (rowOf (boxP ls).2.1) (edgesAll ls) (i + 1)).map (crOf (rowY (rowOf (boxP ls).2.1) i))).Perm (crs ls (rowOf (boxP ls).2.1 + i)) := by
  have e : rowY (rowOf (boxP ls).2.1) i = 64 * (rowOf (boxP ls).2.1 + i) + 32 := by unfold rowY; omega
  unfold crs
  rw [e]
  refine List.Perm.map _ ?_
  rw [← e]
  refine act_perm (fun e he => ?_) i
  have := edge_in he
  unfold rowOf
  omega

theorem sortCr_sorted {cs : List Cr} (h : ∀ c ∈ cs, CrOk c) : Sorted (sortCr cs) := by
  have hs := (sortCr_spec h).2
  unfold Sorted
  rw [List.pairwise_iff_getElem]
  intro i j hi hj hij
  exact hs i j _ _ hij (List.getElem?_eq_getElem hi) (List.getElem?_eq_getElem hj)

theorem fill_black {ls : List Pts} (hx : (boxP ls).2.2.1 - (boxP ls).1 ≤ 65536) (hy : (boxP ls).2.2.2.1 - (boxP ls).2.1 ≤ 65536) (x y : Int) : blackAt (fillS ls (boxP ls)) x y = true ↔ Blk ls x y := by
  have hrow : ∀ i : Nat, i < (rowOf (boxP ls).2.2.2.1 - rowOf (boxP ls).2.1).toNat → (∀ c ∈ (rowX (rowOf (boxP ls).2.1) (edgesAll ls) i).2, CrOk c ∧ PlIn (boxP ls).1 (boxP ls).2.2.1 c.p) ∧ Sorted (rowX (rowOf (boxP ls).2.1) (edgesAll ls) i).2 ∧ (rowX (rowOf (boxP ls).2.1) (edgesAll ls) i).2.Perm (crs ls (rowOf (boxP ls).2.1 + i)) := by
    intro i hi
    have h1 := rowsX_ok (r := rowX (rowOf (boxP ls).2.1) (edgesAll ls) i) hy (List.mem_map.2 ⟨i, List.mem_range.2 hi, rfl⟩)
    have hp0 : ∀ c ∈ (actE (rowOf (boxP ls).2.1) (edgesAll ls) (i + 1)).map (crOf (rowY (rowOf (boxP ls).2.1) i)), CrOk c := by
      intro c hc
      obtain ⟨e, he, rfl⟩ := List.mem_map.1 hc
      have hin := edge_in (actE_mem he)
      exact crOf_ok (edgesAll_ok (actE_mem he)) (actE_cross he) (by omega)
    exact ⟨h1.1, sortCr_sorted hp0, (sortCr_spec hp0).1.trans row_perm⟩
  rw [fillS, blackAt_flatMap]
  constructor
  · rintro ⟨r, hr, hb⟩
    obtain ⟨i, hi, rfl⟩ := List.mem_map.1 hr
    rw [List.mem_range] at hi
    obtain ⟨h1, h2, h3⟩ := hrow i hi
    obtain ⟨rfl, hb2, hb3, hb4⟩ := (rowSp_black _ _).1 hb
    simp only [pxOf, List.any_eq_true] at hb4
    obtain ⟨st, hst, hin⟩ := hb4
    obtain ⟨a, b, rfl, his⟩ := strs_is (fun c hc => (h1 c hc).1.p.e.1) h2 hst
    refine ⟨a, b, his.perm h3, ?_⟩
    rw [show (boxP ls).1 / 64 + ((x - (boxP ls).1 / 64).toNat : Int) = x by omega] at hin
    exact hin
  · rintro ⟨a, b, his, hin⟩
    obtain ⟨e, he, hce, hae⟩ := crs_mem his.ma
    have hei := edge_in he
    have h0 : rowOf (boxP ls).2.1 ≤ y ∧ y < rowOf (boxP ls).2.2.2.1 := by unfold rowOf; omega
    obtain ⟨i, hi⟩ : ∃ i : Nat, y = rowOf (boxP ls).2.1 + i := ⟨(y - rowOf (boxP ls).2.1).toNat, by omega⟩
    have hiN : i < (rowOf (boxP ls).2.2.2.1 - rowOf (boxP ls).2.1).toNat := by omega
    obtain ⟨h1, h2, h3⟩ := hrow i hiN
    rw [hi] at his
    have his2 := his.perm h3.symm
    have hpos : Pos (rowX (rowOf (boxP ls).2.1) (edgesAll ls) i).2 := fun c hc => (h1 c hc).1.p.e.1
    obtain ⟨a', b', hst, ha', hb', hea, heb⟩ := is_strs hpos h2 his2 (0, 0)
    have hin' : inS (a'.p, b'.p) x = true := by
      rw [inS_eqP (hpos a' ha') (hpos a his2.ma) (hpos b' hb') (hpos b his2.mb) hea heb]; exact hin
    have hf := fill_in (x := (a'.p, b'.p)) (h1 a' ha').2 (h1 b' hb').2
    dsimp only at hf
    have hin2 := hin'
    simp only [inS, Bool.and_eq_true, decide_eq_true_eq] at hin2
    refine ⟨_, List.mem_map.2 ⟨i, List.mem_range.2 hiN, rfl⟩, (rowSp_black _ _).2 ⟨hi.symm, by omega, by omega, ?_⟩⟩
    simp only [pxOf, List.any_eq_true]
    refine ⟨_, hst, ?_⟩
    rw [show (boxP ls).1 / 64 + ((x - (boxP ls).1 / 64).toNat : Int) = x by omega]
    exact hin'

theorem fillS_tight {ls : List Pts} {q : Int × Int × Int × Int × Bool} : ∀ s ∈ fillS ls q, Tight s := by
  intro s hs
  obtain ⟨r, _, hr⟩ := List.mem_flatMap.1 hs
  exact rowSp_tight s hr
/-- lines that reach no further than may be -/
def Small (ls : List Pts) : Prop := (boxP ls).2.2.2.2 = true ∧ (boxP ls).2.2.1 - (boxP ls).1 ≤ 65536 ∧ (boxP ls).2.2.2.1 - (boxP ls).2.1 ≤ 65536
theorem fillB_small {ls : List Pts} (h : Small ls) : fillB ls = bmOf (fillS ls (boxP ls)) := by
  unfold fillB
  rw [if_neg]
  rw [h.1]
  have := h.2
  simp; omega
theorem fill_canon {ls : List Pts} (h : Small ls) {ss : List Sp} (ht : ∀ s ∈ ss, Tight s) (hb : ∀ x y, Blk ls x y ↔ blackAt ss x y = true) : fillB ls = bmOf ss := by
  rw [fillB_small h]
  exact bmOf_canon fillS_tight ht fun x y => (fill_black h.2.1 h.2.2 x y).trans (hb x y)
theorem fill_same {ls ls' : List Pts} (h : Small ls) (h' : Small ls') (hb : ∀ x y, Blk ls x y ↔ Blk ls' x y) : fillB ls = fillB ls' := by
  rw [fill_canon h' fillS_tight fun x y => (fill_black h'.2.1 h'.2.2 x y).symm]
  exact fill_canon h fillS_tight fun x y => (hb x y).trans (fill_black h'.2.1 h'.2.2 x y).symm

end Go.Proofs.Ytbgolbkolcmldaa
