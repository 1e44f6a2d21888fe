/-
  Plain law: a bitmap is told by its black pixels alone; the black pixels of lines, told by stretches.
-/
import Derived.Test.YtbgolbkolcmldaaP2
import Derived.Test.YtbgolbkolcmldaaW18
namespace Go.Proofs.Ytbgolbkolcmldaa

/-- a strip that begins and ends black -/
structure Tight (s : Sp) : Prop where
  pos : 1 ≤ s.t.size
  left : bk s.t 0 = true
  right : bk s.t (s.t.size - 1) = true

theorem bx_att : ∀ (ss : List Sp) (q : Int × Int × Int × Int), ((ss.foldl bxStep q).1 = q.1 ∨ ∃ s ∈ ss, (ss.foldl bxStep q).1 = s.x) ∧ ((ss.foldl bxStep q).2.1 = q.2.1 ∨ ∃ s ∈ ss, (ss.foldl bxStep q).2.1 = s.x + s.t.size - 1) ∧ ((ss.foldl bxStep q).2.2.1 = q.2.2.1 ∨ ∃ s ∈ ss, (ss.foldl bxStep q).2.2.1 = s.y) ∧ ((ss.foldl bxStep q).2.2.2 = q.2.2.2 ∨ ∃ s ∈ ss, (ss.foldl bxStep q).2.2.2 = s.y)
  | [], q => ⟨.inl rfl, .inl rfl, .inl rfl, .inl rfl⟩
  | a :: ss, q => by
    obtain ⟨h1, h2, h3, h4⟩ := bx_att ss (bxStep q a)
    simp only [List.foldl_cons]
    have e1 : (bxStep q a).1 = min q.1 a.x := rfl
    have e2 : (bxStep q a).2.1 = max q.2.1 (a.x + a.t.size - 1) := rfl
    have e3 : (bxStep q a).2.2.1 = min q.2.2.1 a.y := rfl
    have e4 : (bxStep q a).2.2.2 = max q.2.2.2 a.y := rfl
    refine ⟨?_, ?_, ?_, ?_⟩
    · rcases h1 with h | ⟨s, hs, h⟩
      · rcases Int.le_total q.1 a.x with h5 | h5
        · exact .inl (by omega)
        · exact .inr ⟨a, by simp, by omega⟩
      · exact .inr ⟨s, by simp [hs], h⟩
    · rcases h2 with h | ⟨s, hs, h⟩
      · rcases Int.le_total q.2.1 (a.x + a.t.size - 1) with h5 | h5
        · exact .inr ⟨a, by simp, by omega⟩
        · exact .inl (by omega)
      · exact .inr ⟨s, by simp [hs], h⟩
    · rcases h3 with h | ⟨s, hs, h⟩
      · rcases Int.le_total q.2.2.1 a.y with h5 | h5
        · exact .inl (by omega)
        · exact .inr ⟨a, by simp, by omega⟩
      · exact .inr ⟨s, by simp [hs], h⟩
    · rcases h4 with h | ⟨s, hs, h⟩
      · rcases Int.le_total q.2.2.2 a.y with h5 | h5
        · exact .inr ⟨a, by simp, by omega⟩
        · exact .inl (by omega)
      · exact .inr ⟨s, by simp [hs], h⟩

theorem blackAt_iff (ss : List Sp) (x y : Int) : blackAt ss x y = true ↔ ∃ s ∈ ss, s.y = y ∧ s.x ≤ x ∧ bk s.t (x - s.x).toNat = true := by
  simp [blackAt, List.any_eq_true, and_assoc]

/-- the box of black pixels -/
structure IsBox (B : Int → Int → Prop) (q : Int × Int × Int × Int) : Prop where
  inn : ∀ x y, B x y → q.1 ≤ x ∧ x ≤ q.2.1 ∧ q.2.2.1 ≤ y ∧ y ≤ q.2.2.2
  l : ∃ y, B q.1 y
  r : ∃ y, B q.2.1 y
  b : ∃ x, B x q.2.2.1
  t : ∃ x, B x q.2.2.2
theorem IsBox.eq {B : Int → Int → Prop} {q q' : Int × Int × Int × Int} (h : IsBox B q) (h' : IsBox B q') : q = q' := by
  obtain ⟨a, b, c, d⟩ := q
  obtain ⟨a', b', c', d'⟩ := q'
  obtain ⟨y1, l⟩ := h.l; obtain ⟨y2, r⟩ := h.r; obtain ⟨x3, bb⟩ := h.b; obtain ⟨x4, t⟩ := h.t
  obtain ⟨y1', l'⟩ := h'.l; obtain ⟨y2', r'⟩ := h'.r; obtain ⟨x3', bb'⟩ := h'.b; obtain ⟨x4', t'⟩ := h'.t
  have := h.inn _ _ l'; have := h.inn _ _ r'; have := h.inn _ _ bb'; have := h.inn _ _ t'
  have := h'.inn _ _ l; have := h'.inn _ _ r; have := h'.inn _ _ bb; have := h'.inn _ _ t
  simp only at *
  simp only [Prod.mk.injEq]
  omega

theorem bxOf_isBox {s0 : Sp} {ss : List Sp} (ht : ∀ s ∈ s0 :: ss, Tight s) : IsBox (fun x y => blackAt (s0 :: ss) x y = true) (bxOf s0 (s0 :: ss)) := by
  obtain ⟨h1, h2, h3, h4, h5⟩ := bx_bounds (s0 :: ss) (s0.x, s0.x, s0.y, s0.y)
  obtain ⟨a1, a2, a3, a4⟩ := bx_att (s0 :: ss) (s0.x, s0.x, s0.y, s0.y)
  have hb0 := h5 s0 (by simp)
  have hp0 := (ht s0 (by simp)).pos
  change IsBox _ ((s0 :: ss).foldl bxStep (s0.x, s0.x, s0.y, s0.y))
  generalize (s0 :: ss).foldl bxStep (s0.x, s0.x, s0.y, s0.y) = q at *
  have L : ∃ s ∈ s0 :: ss, q.1 = s.x := by
    rcases a1 with h | h
    · exact ⟨s0, by simp, h⟩
    · exact h
  have R : ∃ s ∈ s0 :: ss, q.2.1 = s.x + s.t.size - 1 := by
    rcases a2 with h | h
    · exact ⟨s0, by simp, by simp only at h; omega⟩
    · exact h
  have Bt : ∃ s ∈ s0 :: ss, q.2.2.1 = s.y := by
    rcases a3 with h | h
    · exact ⟨s0, by simp, h⟩
    · exact h
  have Tp : ∃ s ∈ s0 :: ss, q.2.2.2 = s.y := by
    rcases a4 with h | h
    · exact ⟨s0, by simp, h⟩
    · exact h
  have first : ∀ s ∈ s0 :: ss, blackAt (s0 :: ss) s.x s.y = true := fun s hs => (blackAt_iff _ _ _).2 ⟨s, hs, rfl, Int.le_refl _, by simpa using (ht s hs).left⟩
  have last : ∀ s ∈ s0 :: ss, blackAt (s0 :: ss) (s.x + s.t.size - 1) s.y = true := fun s hs => (blackAt_iff _ _ _).2 ⟨s, hs, rfl, by have := (ht s hs).pos; omega, by
    have := (ht s hs).right
    rwa [show (s.x + s.t.size - 1 - s.x).toNat = s.t.size - 1 by omega]⟩
  refine ⟨fun x y h => ?_, ?_, ?_, ?_, ?_⟩
  · obtain ⟨s, hs, hy, hx, hk⟩ := (blackAt_iff _ _ _).1 h
    have := bk_lt hk
    have := h5 s hs
    omega
  · obtain ⟨s, hs, h⟩ := L
    exact ⟨s.y, by rw [h]; exact first s hs⟩
  · obtain ⟨s, hs, h⟩ := R
    exact ⟨s.y, by rw [h]; exact last s hs⟩
  · obtain ⟨s, hs, h⟩ := Bt
    exact ⟨s.x, by rw [h]; exact first s hs⟩
  · obtain ⟨s, hs, h⟩ := Tp
    exact ⟨s.x, by rw [h]; exact first s hs⟩

/-- a bitmap is told by its black pixels -/
theorem bmOf_canon {ss ss' : List Sp} (ht : ∀ s ∈ ss, Tight s) (ht' : ∀ s ∈ ss', Tight s) (h : ∀ x y, blackAt ss x y = true ↔ blackAt ss' x y = true) : bmOf ss = bmOf ss' := by
  have h0 : ∀ {ss : List Sp} {s : Sp}, s ∈ ss → Tight s → blackAt ss s.x s.y = true := fun {ss s} hs hq => (blackAt_iff _ _ _).2 ⟨s, hs, rfl, Int.le_refl _, by simpa using hq.left⟩
  cases ss with
  | nil =>
    cases ss' with
    | nil => rfl
    | cons s' ss' => exact absurd ((h _ _).2 (h0 (List.mem_cons_self ..) (ht' s' (by simp)))) (by simp [blackAt])
  | cons s ss =>
    cases ss' with
    | nil => exact absurd ((h _ _).1 (h0 (List.mem_cons_self ..) (ht s (by simp)))) (by simp [blackAt])
    | cons s' ss' =>
      have e : ∀ x y, blackAt (s :: ss) x y = blackAt (s' :: ss') x y := fun x y => Bool.eq_iff_iff.2 (h x y)
      have e1 := bxOf_isBox ht
      have e2 := bxOf_isBox ht'
      simp only [← e] at e2
      simp only [bmOf]
      rw [e1.eq e2]
      simp only [bmIn, e]

theorem ba_extract (s : ByteArray) (a b i : Nat) (hb : b ≤ s.size) (h : a + i < b) : bk (s.extract a b) i = bk s (a + i) := by
  have h1 : (s.extract a b).size = b - a := by rw [ByteArray.size_extract]; omega
  unfold bk
  have e1 : (s.extract a b)[i]? = some ((s.extract a b)[i]'(by omega)) := getElem?_pos ..
  have e2 : s[a + i]? = some (s[a + i]'(by omega)) := getElem?_pos ..
  rw [e1, e2, ByteArray.getElem_extract]
theorem trim_bk {s : ByteArray} {f : Nat} (hf : firstIdx s 35 = f) : Tight ⟨0, 0, trim s⟩ ∧ ∀ j, bk (trim s) j = bk s (f + j) := by
  rcases firstIdx_spec s with ⟨h, _⟩ | ⟨f', h1, h2, h3, h4⟩
  · omega
  obtain rfl : f' = f := by omega
  rcases lastTo_spec s s.size with ⟨h, h5⟩ | ⟨l, h5, h6, h7, h8⟩
  · rw [h5 f' h2] at h3; cases h3
  have hfl : f' ≤ l := by
    rcases Nat.lt_or_ge l f' with h9 | h9
    · rw [h4 l h9] at h7; cases h7
    · exact h9
  have et : trim s = s.extract f' (l + 1) := by
    unfold trim lastIdx
    rw [hf, h5]; simp
  have hsz : (trim s).size = l + 1 - f' := by rw [et, ByteArray.size_extract]; omega
  have key : ∀ j, bk (trim s) j = bk s (f' + j) := by
    intro j
    rcases Nat.lt_or_ge (f' + j) (l + 1) with h9 | h9
    · rw [et, ba_extract s _ _ _ (by omega) h9]
    · rw [bk_ge (by omega)]
      rcases Nat.lt_or_ge (f' + j) s.size with h10 | h10
      · rw [h8 _ (by omega) h10]
      · rw [bk_ge h10]
  refine ⟨⟨by show 1 ≤ (trim s).size; omega, by show bk (trim s) 0 = true; rw [key]; exact h3, ?_⟩, key⟩
  show bk (trim s) ((trim s).size - 1) = true
  rw [key, hsz, show f' + (l + 1 - f' - 1) = l by omega]
  exact h7
theorem rowB_bk (Wd : Nat) (p : Nat → Bool) (j : Nat) : bk (rowB Wd p) j = (decide (j < Wd) && p j) := by
  rcases Nat.lt_or_ge j Wd with h | h
  · have e : (rowB Wd p)[j]? = some (if p j then (35 : UInt8) else 46) := by
      have hs : j < (rowB Wd p).size := by rw [rowB_size]; exact h
      rw [getElem?_pos (rowB Wd p) j hs]
      simp [rowB, ByteArray.getElem_eq_getElem_data]
    unfold bk
    rw [e]
    cases p j <;> simp [h]
  · rw [bk_ge (by rw [rowB_size]; exact h)]
    have : ¬ j < Wd := by omega
    simp [this]
theorem rowSp_tight {left : Int} {wid : Nat} {r : Int × List Cr} : ∀ s ∈ rowSp left wid r, Tight s := by
  intro s hs
  unfold rowSp at hs
  split at hs
  · cases hs
  · rename_i h
    simp only [List.mem_singleton] at hs
    subst hs
    obtain ⟨t, _⟩ := trim_bk (s := rowB wid (pxOf left (strs r.2 0 (0, 0)))) (f := (firstIdx (rowB wid (pxOf left (strs r.2 0 (0, 0)))) 35).toNat) (by omega)
    exact ⟨t.pos, t.left, t.right⟩
theorem rowSp_black {left : Int} {wid : Nat} {r : Int × List Cr} (x y : Int) : blackAt (rowSp left wid r) x y = true ↔ r.1 = y ∧ left ≤ x ∧ x < left + wid ∧ pxOf left (strs r.2 0 (0, 0)) (x - left).toNat = true := by
  rw [blackAt_iff]
  unfold rowSp
  generalize pxOf left (strs r.2 0 (0, 0)) = p
  split
  · rename_i h
    rcases firstIdx_spec (rowB wid p) with ⟨_, h2⟩ | ⟨f, h1, _⟩
    · constructor
      · rintro ⟨s, hs, _⟩; cases hs
      · rintro ⟨h3, h4, h5, h6⟩
        have := h2 (x - left).toNat
        rw [rowB_bk, h6] at this
        simp at this
        omega
    · omega
  · rename_i h
    rcases firstIdx_spec (rowB wid p) with ⟨h1, _⟩ | ⟨f, h1, h2, h3, h4⟩
    · omega
    · obtain ⟨_, key⟩ := trim_bk h1
      simp only [List.mem_singleton, exists_eq_left, h1]
      constructor
      · rintro ⟨h5, h6, h7⟩
        rw [key, rowB_bk] at h7
        simp only [Bool.and_eq_true, decide_eq_true_eq] at h7
        refine ⟨h5, by omega, by omega, ?_⟩
        rw [show (x - left).toNat = f + (x - (left + f)).toNat by omega]
        exact h7.2
      · rintro ⟨h5, h6, h7, h8⟩
        have hf : f ≤ (x - left).toNat := by
          rcases Nat.lt_or_ge (x - left).toNat f with h9 | h9
          · have := h4 _ h9
            rw [rowB_bk, h8] at this
            simp at this
            omega
          · exact h9
        refine ⟨h5, by omega, ?_⟩
        rw [key, rowB_bk, show f + (x - (left + f)).toNat = (x - left).toNat by omega, h8]
        simp
        omega
theorem blackAt_flatMap {α : Type} (l : List α) (f : α → List Sp) (x y : Int) : blackAt (l.flatMap f) x y = true ↔ ∃ a ∈ l, blackAt (f a) x y = true := by
  simp only [blackAt_iff, List.mem_flatMap]
  constructor
  · rintro ⟨s, ⟨a, ha, hs⟩, h⟩; exact ⟨a, ha, s, hs, h⟩
  · rintro ⟨a, ha, s, hs, h⟩; exact ⟨s, ⟨a, ha, hs⟩, h⟩

end Go.Proofs.Ytbgolbkolcmldaa
