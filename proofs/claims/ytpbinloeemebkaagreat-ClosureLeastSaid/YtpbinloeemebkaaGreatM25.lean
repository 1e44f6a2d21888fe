/-
  Fonts of plain numbers may be: what is wrong with them is nothing.
-/
import Derived.Test.YtpbinloeemebkaaGreatM22
import Derived.Test.YtpbinloeemebkaaGreatM24
import Derived.Test.YtpbinloeemebkaaGreatM20
import Derived.Test.YtpbinloeemebkaaGreatM06
namespace Go.Proofs.YtpbinloeemebkaaGreat
theorem nodup_at {α : Type} {l : List α} (h : l.Nodup) {i j : Nat} {a : α} (hi : l[i]? = some a) (hj : l[j]? = some a) : i = j := by
  obtain ⟨i1, i2⟩ := List.getElem?_eq_some_iff.1 hi
  obtain ⟨j1, j2⟩ := List.getElem?_eq_some_iff.1 hj
  have hp := List.pairwise_iff_getElem.1 (List.nodup_iff_pairwise_ne.1 h)
  rcases Nat.lt_trichotomy i j with hlt | hlt | hlt
  · exact absurd (i2.trans j2.symm) (hp i j i1 j1 hlt)
  · exact hlt
  · exact absurd (j2.trans i2.symm) (hp j i j1 i1 hlt)
theorem taken_no {names : List ByteArray} (hn : names.Nodup) {i : Nat} {s : ByteArray} (h : names[i]? = some s) : takenN names i s = false := by
  have hf : firstAt names s = some i := by
    unfold firstAt
    obtain ⟨h1, h2⟩ := List.getElem?_eq_some_iff.1 h
    rw [List.findIdx?_eq_some_iff_getElem]
    refine ⟨h1, by simpa using h2, fun j hj => ?_⟩
    have : names[j] ≠ s := fun e => by
      have := nodup_at hn h (show names[j]? = some s by rw [← e]; exact List.getElem?_eq_getElem (by omega))
      omega
    simpa using this
  unfold takenN
  rw [hf]
  simp
theorem sum_bd {α : Type} {g : α → Nat} {l : List α} {k : Nat} (h : ∀ a ∈ l, g a ≤ k) : (l.map g).sum ≤ l.length * k := by
  induction l with
  | nil => simp
  | cons b l ih =>
    rw [List.map_cons, List.sum_cons, List.length_cons, Nat.succ_mul]
    have := ih fun a ha => h a (List.mem_cons_of_mem _ ha)
    have := h b (List.mem_cons_self ..)
    omega
theorem may_of {z : Int} (h : -16384 ≤ z ∧ z ≤ 16384) : mayN z = true := decide_eq_true h
theorem isG_of {f : FFont} {z : Int} (h : 0 ≤ z ∧ z < f.Glyphs.length) : isG f z = true := decide_eq_true h
theorem when_no {b : Bool} {e : Int} (h : b = false) : whenE b e = 0 := by rw [h]; rfl
section
variable {f : FFont}
theorem gnames_nodup : ((List.range 10).map glyphName).Nodup := by decide
theorem gname_ok : ∀ n < 10, isNameB (glyphName n) = true ∧ (glyphName n).size ≤ 16 := by decide
theorem GlyG.shape {R n : Nat} {g : FGlyph} (h : GlyG R n g) : shapeE g = 0 := by
  obtain ⟨k, hk, ho⟩ := h.out
  have ha := h.adv
  have hl := ho.len
  have he := ho.endl
  dsimp only at hl he
  have hp : ∀ p ∈ g.Points, ptMay p = true := fun p hp => by
    have := ho.pts p hp
    unfold ptOk at this
    unfold ptMay
    rw [may_of (by omega), may_of (by omega)]
    rfl
  unfold shapeE
  rw [if_neg (by omega), if_neg (by omega), if_neg, when_no]
  · have : outRight g.Points g.Ends = true := by
      unfold outRight
      rw [Bool.and_eq_true, Bool.and_eq_true]
      exact ⟨decide_eq_true (by omega), List.all_eq_true.2 hp, ho.ends⟩
    rw [this]
    rfl
  · rw [eachL_all fun i p hi => ?_]
    · simp
    · have := hp p (List.mem_of_getElem? hi)
      unfold ptMay at this
      rw [Bool.and_eq_true] at this
      unfold ptE
      exact when_no (by simp [this.1, this.2])
theorem codeOk.prog {k : Nat} {l : List FIns} (h : codeOk k l) (hk : k ≤ 200) : progE l = 0 := by
  unfold progE
  rw [someL_all (by have := h.1; omega) fun i x hi => ?_]
  have := h.2 x (List.mem_of_getElem? hi)
  unfold insOk at this
  unfold insE
  rw [if_neg (by omega), if_neg (by omega)]
theorem AncG.right {cl : Int} (hcl : 0 ≤ cl ∧ cl < 2) {g : FGlyph} (h : AncG cl g.Mark g.Anchors) : someL 16 g.Anchors (ancE g) = (0, 0) := by
  have hlen := h.sub.length_le
  simp only [List.length_map, anchL, List.length_cons, List.length_nil] at hlen
  have hnd : (g.Anchors.map pairA).Nodup := h.sub.nodup (by simp [anchL])
  refine someL_all (by omega) fun i a hi => ?_
  have ham := List.mem_of_getElem? hi
  obtain ⟨h1, h2, h3⟩ := h.at' a ham
  have hp : pairA a ∈ anchL cl := h.sub.subset (List.mem_map_of_mem ham)
  have hpc : (a.Kind, a.Class) = (1, 0) ∨ (a.Kind, a.Class) = (1, 1) ∨ (a.Kind, a.Class) = (3, 0) ∨ (a.Kind, a.Class) = (4, 0) ∨ (a.Kind, a.Class) = (2, cl) := by
    simpa [pairA, anchL] using hp
  simp only [Prod.mk.injEq] at hpc
  unfold ancE
  rw [if_neg]
  rintro (h4 | h4 | h4 | h4 | h4 | ⟨b, hb, h5, h6⟩)
  · omega
  · omega
  · omega
  · simp [may_of (show -16384 ≤ a.X ∧ a.X ≤ 16384 by omega), may_of (show -16384 ≤ a.Y ∧ a.Y ≤ 16384 by omega)] at h4
  · rw [h3 h4.1] at h4
    exact absurd h4.2 (by simp)
  · obtain ⟨j, hj⟩ := List.mem_iff_getElem?.1 hb
    rw [List.getElem?_take] at hj
    split at hj
    · rename_i hji
      have e1 : (g.Anchors.map pairA)[j]? = some (pairA a) := by rw [List.getElem?_map, hj]; simp [pairA, h5, h6]
      have e2 : (g.Anchors.map pairA)[i]? = some (pairA a) := by rw [List.getElem?_map, hi]; rfl
      have := nodup_at hnd e1 e2
      omega
    · cases hj
theorem DelG.right {g : FGlyph} (h : DelG f.Regions.length g.Points.length g.Deltas) (hl : g.Deltas.length ≤ 400) : someL 400 g.Deltas (delE f g) = (0, 0) := by
  refine someL_all (by omega) fun i d hi => ?_
  obtain ⟨h1, h2, h3, h4, h5⟩ := h.dom d (List.mem_of_getElem? hi)
  unfold delE
  rw [if_neg (by omega), if_neg, if_neg]
  · cases i with
    | zero => simp
    | succ j =>
      dsimp only
      cases hj : g.Deltas[j]? with
      | none => simp
      | some b =>
        dsimp only
        obtain ⟨k1, k2⟩ := List.getElem?_eq_some_iff.1 hj
        obtain ⟨k3, k4⟩ := List.getElem?_eq_some_iff.1 hi
        have := List.pairwise_iff_getElem.1 h.up j (j + 1) k1 k3 (by omega)
        rw [k2, k4] at this
        unfold ltD at this
        simp only [decide_eq_true_eq]
        omega
  · rintro (h6 | h6 | h6)
    · omega
    · simp [may_of (show -16384 ≤ d.X ∧ d.X ≤ 16384 by omega), may_of (show -16384 ≤ d.Y ∧ d.Y ≤ 16384 by omega)] at h6
    · exact h6.2 (h5 h6.1)
end
variable {f : FFont} (h : MadeG f)
include h
theorem MadeG.names : gNames f = (List.range f.Glyphs.length).map glyphName := by
  apply List.ext_getElem?
  intro i
  unfold gNames
  rw [List.getElem?_map, List.getElem?_map]
  cases hi : f.Glyphs[i]? with
  | none => rw [List.getElem?_eq_none (by rw [List.length_range]; exact List.getElem?_eq_none_iff.1 hi)]; rfl
  | some g =>
    rw [List.getElem?_range (List.getElem?_eq_some_iff.1 hi).1]
    simp [(h.gly i g hi).name]
theorem MadeG.del {i : Nat} {g : FGlyph} (hi : f.Glyphs[i]? = some g) : g.Points.length ≤ 10 ∧ g.Deltas.length ≤ 33 := by
  have hg := h.gly i g hi
  obtain ⟨k, hk, ho⟩ := hg.out
  have h1 := ho.len
  have h2 := hg.dels.len
  have h3 := h.regs
  dsimp only at h1
  refine ⟨by omega, Nat.le_trans h2 ?_⟩
  exact Nat.le_trans (Nat.mul_le_mul h3 (show g.Points.length + 1 ≤ 11 by omega)) (by omega)
theorem MadeG.glyph {i : Nat} {g : FGlyph} (hi : f.Glyphs[i]? = some g) : glyphAtE f i g = 0 := by
  have hg := h.gly i g hi
  have hil := (List.getElem?_eq_some_iff.1 hi).1
  have hn := h.glyN
  have hd := h.del hi
  have hfa : faultE (isNameB g.Name) (takenN (gNames f) i g.Name) = 0 := by
    rw [hg.name, (gname_ok i (by omega)).1, h.names, taken_no]
    · rfl
    · refine List.Nodup.sublist ?_ gnames_nodup
      exact (List.range_sublist.2 hn.2).map _
    · rw [List.getElem?_map, List.getElem?_range hil]; rfl
  unfold glyphAtE
  rw [hfa]
  unfold glyphE
  rw [firstE_zero_iff]
  obtain ⟨cl, hcl, han⟩ := hg.anch
  have hpa : someL 8 g.Parts (partE f) = (0, 0) := by
    rcases hg.parts with e | ⟨h1, x, y, e, hx, hy⟩
    · rw [e]; exact someL_all (by simp) fun i x hx => by simp at hx
    · rw [e]
      refine someL_all (by simp) fun j p hp => ?_
      cases j with
      | zero =>
        simp at hp
        subst hp
        unfold partE
        rw [if_neg (by rw [isG_of (by dsimp only; omega)]; simp)]
        exact when_no (by simp [may_of (show -16384 ≤ x ∧ x ≤ 16384 by omega), may_of (show -16384 ≤ y ∧ y ≤ 16384 by omega)])
      | succ j => simp at hp
  intro x hx
  simp only [List.mem_cons, List.not_mem_nil, or_false] at hx
  rcases hx with rfl | rfl | rfl | rfl | rfl | rfl
  · rfl
  · exact hg.shape
  · rw [hpa]
  · rw [han.right hcl]
  · rw [hg.dels.right (by omega)]
  · exact hg.hint.prog (by omega)
theorem MadeG.glyphs : someL 400 f.Glyphs (glyphAtE f) = (0, 0) := someL_all (by have := h.glyN; omega) fun _ _ hi => h.glyph hi
theorem MadeG.prt {z : Int} {p : Int} (hp : p ∈ prt f z) : ∃ g, f.Glyphs[z.toNat]? = some g ∧ p = 1 ∧ 1 < z.toNat ∧ g.Parts.length = 1 := by
  unfold Go.Proofs.YtpbinloeemebkaaGreat.prt at hp
  cases hg : f.Glyphs[z.toNat]? with
  | none => rw [hg] at hp; cases hp
  | some g =>
    rw [hg] at hp
    have hp := (List.mem_filter.1 hp).1
    rcases (h.gly _ g hg).parts with e | ⟨h1, x, y, e, _⟩
    · rw [e] at hp; cases hp
    · rw [e] at hp
      exact ⟨g, rfl, by simpa using hp, h1, by rw [e]; rfl⟩
def partN (f : FFont) (z : Int) : Nat := match f.Glyphs[z.toNat]? with | some g => g.Parts.length | none => 0
def pointN (f : FFont) (z : Int) : Nat := match f.Glyphs[z.toNat]? with | some g => g.Points.length | none => 0
theorem MadeG.one : partN f 1 = 0 := by
  unfold partN
  cases hg : f.Glyphs[(1 : Int).toNat]? with
  | none => rfl
  | some g =>
    dsimp only
    rcases (h.gly _ g hg).parts with e | ⟨h1, _⟩
    · rw [e]; rfl
    · exact absurd h1 (by decide)
theorem MadeG.acyc : Acyc f.Glyphs.length (Go.Proofs.YtpbinloeemebkaaGreat.prt f) := by
  refine ⟨partN f, fun z h0 h1 p hp => ?_⟩
  obtain ⟨g, hg, rfl, _, h2⟩ := h.prt hp
  rw [h.one]
  unfold partN
  rw [hg]
  dsimp only
  omega
theorem MadeG.points (z : Int) : pointN f z ≤ 10 := by
  unfold pointN
  cases hg : f.Glyphs[z.toNat]? with
  | none => exact Nat.zero_le _
  | some g => exact (h.del hg).1
theorem MadeG.comp : compV f = (0, 0) := by
  have hall : (someL 400 f.Glyphs (glyphAtE f)).1 = 0 := by rw [h.glyphs]
  have hd : DeepOk f (fun z => (partN f z : Int)) (fun z => (pointN f z + (if partN f z = 0 then 0 else pointN f 1) : Nat)) := by
    intro z h0 h1 gl hg
    have hone := h.one
    have hp1 := h.points 1
    have hpz := h.points z
    have e1 : partN f z = gl.Parts.length := by unfold partN; rw [hg]
    have e2 : pointN f z = gl.Points.length := by unfold pointN; rw [hg]
    rcases (h.gly _ gl hg).parts with e | ⟨_, x, y, e, _⟩
    · rw [e] at e1
      dsimp only
      rw [e1, e2, e]
      exact ⟨rfl, rfl⟩
    · rw [e] at e1
      have e1 : partN f z = 1 := e1
      dsimp only
      rw [e1, e2, e]
      simp only [dF, pF, List.foldl_cons, List.foldl_nil, hone]
      refine ⟨by decide, ?_⟩
      simp
      omega
  rw [compV_eq (few_of_glyphs hall) h.acyc hd]
  unfold compE
  refine firstE_all fun x hx => ?_
  simp only [List.mem_cons, List.not_mem_nil, or_false] at hx
  rcases hx with rfl | rfl
  · rw [eachL_all fun i n hn => ?_]
    obtain ⟨z, hz, rfl⟩ := List.mem_map.1 (List.mem_of_getElem? hn)
    unfold deepE
    refine when_no (decide_eq_false ?_)
    have : partN f z ≤ 1 := by
      unfold partN
      split
      · rename_i g hg
        rcases (h.gly _ g hg).parts with e | ⟨_, x, y, e, _⟩
        · rw [e]; simp
        · rw [e]; simp
      · omega
    omega
  · rw [eachL_all fun i n hn => ?_]
    obtain ⟨z, hz, rfl⟩ := List.mem_map.1 (List.mem_of_getElem? hn)
    unfold manyE
    refine when_no (decide_eq_false ?_)
    have h1 := h.points z
    have h2 := h.points 1
    split <;> omega
omit h in
theorem SetG.right {n : Int} (hn : n = f.Glyphs.length) {l : List Int} (h : SetG n l) : isSetB f l = true := by
  have hpos := List.length_pos_iff.2 h.ne
  have hat : ∀ i, i < l.length → isG f (l.getD i 0) = true := fun i hi => isG_of (by rw [← hn]; exact h.dom _ (getD_mem hi 0))
  unfold isSetB
  rw [Bool.and_eq_true, Bool.and_eq_true, Bool.and_eq_true]
  refine ⟨decide_eq_true hpos, decide_eq_true fun i hi => ?_, hat 0 hpos, hat _ (by omega)⟩
  have := List.pairwise_iff_getElem.1 h.up i (i + 1) (by omega) (by omega) (by omega)
  rw [List.getD_eq_getElem?_getD, List.getD_eq_getElem?_getD, List.getElem?_eq_getElem (show i < l.length by omega), List.getElem?_eq_getElem (show i + 1 < l.length by omega)]
  exact this
omit h in
theorem RuleG.right {kind : Int} {calls : List Int} {r : FRule} (h : RuleG f.Glyphs.length kind calls r) (hc : ∀ c ∈ calls, ∃ (i : Nat) (x : FLookup), c = i ∧ f.Lookups[i]? = some x ∧ 1 ≤ x.Kind ∧ x.Kind ≤ 4) : ruleE f kind r = 0 := by
  unfold ruleE
  rw [firstE_zero_iff]
  intro x hx
  simp only [List.mem_cons, List.not_mem_nil, or_false] at hx
  rcases hx with rfl | rfl | rfl | rfl | rfl | rfl | rfl
  · have h1 := h.back.1
    have h2 := h.ahead.1
    have h3 := h.ins.1
    show rowsE kind r = 0
    unfold rowsE
    rw [if_neg (by omega)]
    exact when_no h.rows
  · rw [eachL_all fun i q hq => ?_]
    have hq := List.mem_of_getElem? hq
    have hs : SetG f.Glyphs.length q := by
      rcases List.mem_append.1 hq with hq | hq
      · exact h.back.2 q hq
      · rcases List.mem_append.1 hq with hq | hq
        · exact h.ins.2 q hq
        · exact h.ahead.2 q hq
    exact when_no (by rw [hs.right rfl]; rfl)
  · exact when_no (by rw [h.out]; rfl)
  · rw [eachL_all fun i q hq => ?_]
    exact when_no (by rw [isG_of (h.outs.2 q (List.mem_of_getElem? hq))]; rfl)
  · show callsE f kind r = 0
    have h1 := h.callsN
    unfold callsE
    rw [if_neg (by omega), if_neg, eachL_all fun i c hi => ?_]
    · have hcm := List.mem_of_getElem? hi
      obtain ⟨h2, h3⟩ := h.callsIn c hcm
      obtain ⟨j, x, h4, h5, h6, h7⟩ := hc _ h3
      have hj := (List.getElem?_eq_some_iff.1 h5).1
      unfold callE
      rw [if_neg (by omega), if_neg (by omega)]
      refine when_no (decide_eq_false ?_)
      unfold kindAt
      rw [h4, show ((j : Int)).toNat = j by omega, h5]
      dsimp only
      omega
    · rintro ⟨h2, h3⟩
      rw [h.callsK h3] at h2
      simp at h2
  · have := h.x
    exact when_no (by simp [may_of (show -16384 ≤ r.X ∧ r.X ≤ 16384 by omega)])
  · exact when_no (decide_eq_false fun hh => hh.1 (h.x0 hh.2))
theorem MadeG.lookups : someL 40 f.Lookups (lookAtE f) = (0, 0) := by
  have hl := h.looks
  refine someL_all (by have := hl.len; omega) fun i l hi => ?_
  have hm := List.mem_of_getElem? hi
  have hk := hl.kinds l hm
  unfold lookAtE lookupE
  rw [if_neg (by omega), firstE_zero_iff]
  intro x hx
  simp only [List.mem_cons, List.not_mem_nil, or_false] at hx
  rcases hx with rfl | rfl | rfl
  · exact when_no (decide_eq_false (by have := hl.few l hm; omega))
  · show anchE l = 0
    unfold anchE
    by_cases h7 : 7 ≤ l.Kind
    · rw [hl.none l hm h7]; exact when_no (by simp)
    · exact when_no (by simp; omega)
  · rw [eachL_all fun j r hr => ?_]
    obtain ⟨calls, h1, h2⟩ := hl.rule l hm r (List.mem_of_getElem? hr)
    refine h1.right fun c hc => ?_
    obtain ⟨i, x, h3, h4, h5⟩ := h2 c hc
    exact ⟨i, x, h3, h4, (hl.kinds x (List.mem_of_getElem? h4)).1, h5⟩
omit h in
theorem names_right : ∀ s ∈ namesL, isLettersB s = true ∧ s.size ≤ 8 := by decide
omit h in
theorem names_nodup : namesL.Nodup := by decide
theorem MadeG.features : someL 20 f.Features (featAtE f) = (0, 0) := by
  have hlen := h.featN.length_le
  simp only [List.length_map, namesL, List.length_cons, List.length_nil] at hlen
  refine someL_all (by omega) fun i t hi => ?_
  have hm := List.mem_of_getElem? hi
  obtain ⟨h1, h2, h3⟩ := h.featL t hm
  have hn : t.Name ∈ namesL := h.featN.subset (List.mem_map_of_mem hm)
  have hfa : faultE (isLettersB t.Name) (takenN (tNames f) i t.Name) = 0 := by
    rw [(names_right _ hn).1, show takenN (tNames f) i t.Name = false from taken_no (h.featN.nodup names_nodup) (by rw [List.getElem?_map, hi]; rfl)]
    rfl
  unfold featAtE
  rw [hfa]
  unfold featE
  rw [if_neg (by simp), eachL_all fun j z hj => ?_]
  have hz := h3 z (List.mem_of_getElem? hj)
  refine when_no ?_
  rw [Bool.or_eq_false_iff]
  refine ⟨decide_eq_false (by omega), ?_⟩
  unfold lateF
  cases j with
  | zero => rfl
  | succ j =>
    dsimp only
    cases hb : t.Lookups[j]? with
    | none => rfl
    | some b =>
      dsimp only
      obtain ⟨k1, k2⟩ := List.getElem?_eq_some_iff.1 hb
      obtain ⟨k3, k4⟩ := List.getElem?_eq_some_iff.1 hj
      have := List.pairwise_iff_getElem.1 h1 j (j + 1) k1 k3 (by omega)
      rw [k2, k4] at this
      exact decide_eq_false (by omega)
omit h in
theorem axnames_ok : ((List.range 2).map (letter axNm)).Nodup ∧ ∀ n < 2, isNameB (letter axNm n) = true := by decide
theorem MadeG.axesR : someL 3 f.Axes (axisAtE f) = (0, 0) := by
  have hlen := h.axes
  refine someL_all (by omega) fun i a hi => ?_
  have hil := (List.getElem?_eq_some_iff.1 hi).1
  obtain ⟨h1, h2, h3, h4⟩ := h.axis a (List.mem_of_getElem? hi)
  have hn : (aNames f)[i]? = some a.Name := by unfold aNames; rw [List.getElem?_map, hi]; rfl
  have hn2 : a.Name = letter axNm i := by
    have := hn
    unfold aNames at this
    rw [h.axisN, List.getElem?_map, List.getElem?_range hil] at this
    exact (Option.some.inj this).symm
  have hfa : faultE (isNameB a.Name) (takenN (aNames f) i a.Name) = 0 := by
    rw [taken_no ?_ hn, hn2, axnames_ok.2 i (by omega)]
    · rfl
    · unfold aNames
      rw [h.axisN]
      refine List.Nodup.sublist ?_ axnames_ok.1
      exact (List.range_sublist.2 hlen).map _
  unfold axisAtE
  rw [hfa]
  unfold axisE
  rw [if_neg (by simp)]
  refine when_no ?_
  have : [a.Min, a.Def, a.Max].all mayN = true := by
    simp [may_of (show -16384 ≤ a.Min ∧ a.Min ≤ 16384 by omega), may_of (show -16384 ≤ a.Def ∧ a.Def ≤ 16384 by omega), may_of (show -16384 ≤ a.Max ∧ a.Max ≤ 16384 by omega)]
  rw [decide_eq_true (⟨this, by omega, by omega⟩ : _ ∧ _ ∧ _)]
  rfl
theorem MadeG.regions : someL 16 f.Regions (regAtE f) = (0, 0) := by
  refine someL_all (by have := h.regs; omega) fun i r hi => ?_
  obtain ⟨h1, h2⟩ := h.reg r (List.mem_of_getElem? hi)
  unfold regAtE regE
  rw [if_neg (by omega), eachL_all fun j t ht => ?_]
  exact h2 t (List.mem_of_getElem? ht)
omit h in
theorem runes_ok : runesL.Pairwise (· < ·) ∧ ∀ z ∈ runesL, 0 ≤ z ∧ z ≤ 1114111 := by decide
theorem MadeG.charsR : someL 1000 f.Chars (charAtE f) = (0, 0) := by
  refine someL_all (by have := h.chars; omega) fun i c hi => ?_
  have hm := List.mem_of_getElem? hi
  have hr := runes_ok.2 _ (h.charR.subset (List.mem_map_of_mem hm))
  unfold charAtE charE
  rw [if_neg (by omega), if_neg (by rw [isG_of (h.charG c hm)]; simp)]
  refine when_no ?_
  unfold lateC
  cases i with
  | zero => rfl
  | succ j =>
    dsimp only
    cases hb : f.Chars[j]? with
    | none => rfl
    | some b =>
      dsimp only
      have hp := List.Pairwise.sublist h.charR runes_ok.1
      rw [List.pairwise_map] at hp
      obtain ⟨k1, k2⟩ := List.getElem?_eq_some_iff.1 hb
      obtain ⟨k3, k4⟩ := List.getElem?_eq_some_iff.1 hi
      have := List.pairwise_iff_getElem.1 hp j (j + 1) k1 k3 (by omega)
      rw [k2, k4] at this
      exact decide_eq_false (by omega)
theorem MadeG.right : (fontE f).1 = 0 := by
  have hu := h.unit
  have hn := h.glyN
  unfold fontE
  rw [firstE_zero_iff]
  intro x hx
  simp only [fontL, List.mem_cons, List.not_mem_nil, or_false] at hx
  rcases hx with rfl | rfl | rfl | rfl | rfl | rfl | rfl | rfl | rfl | rfl
  · show headE f = 0
    unfold headE
    rw [if_neg (by omega), if_neg (by omega)]
  · rw [h.glyphs]
  · rw [h.comp]
  · rw [h.charsR]
  · rw [h.lookups]
  · rw [h.features]
  · rw [h.axesR]
  · rw [h.regions]
  · rw [someL_all (by have := h.funcs; omega) fun i c hi => ?_]
    exact (h.func c (List.mem_of_getElem? hi)).prog (by omega)
  · rw [someL_all (by have := h.cvt; omega) fun i z hi => ?_]
    have := h.cvtM z (List.mem_of_getElem? hi)
    exact when_no (by simp [may_of (show -16384 ≤ z ∧ z ≤ 16384 by omega)])
omit h in
theorem rowOk.sets {n : Int} {k : Nat} {l : List (List Int)} (h : rowOk n k l) : setsN l ≤ k * 5 := by
  unfold setsN
  refine Nat.le_trans (sum_bd (k := 5) fun q hq => ?_) (Nat.mul_le_mul_right _ h.1)
  have := (h.2 q hq).few
  omega
theorem MadeG.small : Small f := by
  have hg : (f.Glyphs.map glyphN).sum ≤ 10 * 95 := by
    refine Nat.le_trans (sum_bd (k := 95) fun g hg => ?_) (Nat.mul_le_mul_right _ h.glyN.2)
    obtain ⟨i, hi⟩ := List.mem_iff_getElem?.1 hg
    have h1 := h.del hi
    have h2 := h.gly i g hi
    have h3 := h2.hint.1
    have h4 : g.Parts.length ≤ 1 := by
      rcases h2.parts with e | ⟨_, x, y, e, _⟩
      · rw [e]; simp
      · rw [e]; simp
    obtain ⟨cl, _, han⟩ := h2.anch
    have h5 := han.sub.length_le
    simp only [List.length_map, anchL, List.length_cons, List.length_nil] at h5
    have h6 : g.Name.size ≤ 16 := by rw [h2.name]; exact (gname_ok i (by have := (List.getElem?_eq_some_iff.1 hi).1; have := h.glyN; omega)).2
    unfold glyphN
    omega
  have hl : (f.Lookups.map fun l => rulesN l.Rules).sum ≤ 6 * 126 := by
    refine Nat.le_trans (sum_bd (k := 126) fun l hl => ?_) (Nat.mul_le_mul_right _ h.looks.len)
    have h1 := h.looks.few l hl
    have : (l.Rules.map ruleN).sum ≤ 3 * 41 := by
      refine Nat.le_trans (sum_bd (k := 41) fun r hr => ?_) (Nat.mul_le_mul_right _ h1)
      obtain ⟨calls, h2, _⟩ := h.looks.rule l hl r hr
      have h3 := h2.back.sets
      have h4 := h2.ahead.sets
      have h5 := h2.ins.sets
      have h6 := h2.outs.1
      have h7 := h2.callsN
      unfold ruleN
      omega
    unfold rulesN
    omega
  have hf : (f.Funcs.map (·.length)).sum ≤ 2 * 45 := Nat.le_trans (sum_bd (k := 45) fun c hc => (h.func c hc).1) (Nat.mul_le_mul_right _ h.funcs)
  have hfl := h.featN.length_le
  simp only [List.length_map, namesL, List.length_cons, List.length_nil] at hfl
  have ht : (f.Features.map Go.Proofs.YtpbinloeemebkaaGreat.featN).sum ≤ 8 * 6 := by
    refine Nat.le_trans (sum_bd (k := 6) fun t ht => ?_) (Nat.mul_le_mul_right _ hfl)
    have h1 := (h.featL t ht).2.1
    have h2 := (names_right _ (h.featN.subset (List.mem_map_of_mem ht))).2
    unfold Go.Proofs.YtpbinloeemebkaaGreat.featN
    omega
  have hr : (f.Regions.map (·.length)).sum ≤ 3 * 2 := Nat.le_trans (sum_bd (k := 2) fun r hr => by rw [(h.reg r hr).1]; exact h.axes) (Nat.mul_le_mul_right _ h.regs)
  have := h.glyN
  have := h.chars
  have := h.looks.len
  have := h.axes
  have := h.regs
  have := h.funcs
  have := h.cvt
  unfold Small fontN
  omega
end Go.Proofs.YtpbinloeemebkaaGreat

namespace Go.Proofs.YtpbinloeemebkaaGreat
open Go.RowKit
attribute [local irreducible] AT ATL AX AO Av Kt ALoopK OkA DA DA1
theorem runes_vec : AVec Tryz.prog 65 [] 3 1 (ints runesL) := by
  refine ac_of Tryz.func65 rfl Tryz.ntmps65 rfl fun B => ?_
  (repeat' (first|refine at_seq ?_|refine at_region ?_|refine at_ret ?_|refine ax_then ?_|refine atl_nil ?_|refine n_run ttok rfl rfl ?_|refine n_lit (d := 1) ttok fun _=>?_|fail))
  exact ax_ret1 rfl rfl ⟨_, rfl, rfl⟩
section
variable {P : Program} {tt : TT} {r : Option Nat} {ops : Array Oper} {Q : Exit → Act → World → Prop} {nt : Nat} {D : List Deferred} {fr : AFr} {B : Bs} {L : AL} {rest : List Oper} {d : Nat} {ty t : TypeId} {pos : String} {af : Array Edge} {x y : Operand} {u : AV}
theorem n_cutH (ok : TOk P tt) (hi : Nat) {e sz by_ s : Nat} {l1 : List (List AV)} {q : IntKind} {a : Int} (ht : slI tt t = some (e, sz, by_)) (hx : aev fr x = some u) (hu : immO u = some (s, l1)) (hs : Nat.beq s sz = true) (hy : aev fr y = some (.sc (.int q a))) (ha : a = (hi : Int)) (h1 : hi ≤ l1.length) (hd : Nat.ble nt d = false) (h : ATL P r ops Q nt D rest ((d, .imm s (l1.take hi)) :: fr) B L) : ATL P r ops Q nt D (⟨some d, .slice t x none (some y) none, ty, pos, af, none⟩ :: rest) fr B L := atl_val (a_cutH (slI_spec ok ht).1 hx (immO_spec hu) hs hy ha h1) hd rfl h
end
theorem ints_take (l : List Int) (k : Nat) : (ints l).take k = ints (l.take k) := by simp [ints]
def textG (z : Int) : Int := textL.getD (z % 17).toNat 0
set_option maxHeartbeats 4000000 in
theorem text_det (l : List Int) : ADet Tryz.prog 45 [.imm 1 (ints l)] (.imm 1 (ints (textF l))) := by
  refine ac_of Tryz.func45 rfl Tryz.ntmps45 rfl fun B => ?_
  refine at_len 0 rfl rfl fun hlen => ?_
  rw [ints_len] at hlen
  have hll := ints_len l
  (repeat' (first|refine at_seq ?_|refine at_region ?_|refine ax_then ?_|refine atl_nil ?_|refine n_run ttok rfl rfl ?_|fail))
  refine n_callV runes_vec rfl rfl rfl fun k => ?_
  (repeat' (first|refine n_litI ttok ?_|fail))
  refine n_append ttok _ rfl rfl rfl rfl (List.Perm.refl _) (by simp [ints_len, runesL]) (by simp [ints_len, runesL]) rfl fun k' => ?_
  refine atl_turn (turn_val (t := 8) (c' := .imm 1 (ints textL)) rfl fun σ v h => VR.im h) ?_
  refine atl_turn (turn_sub (L' := []) (List.nil_sublist _)) ?_
  have h17 : (ints textL).length = 17 := rfl
  (repeat' (first|refine at_seq ?_|refine at_region ?_|refine at_block ?_|refine ax_then ?_|refine atl_nil ?_|refine n_run ttok rfl rfl ?_|fail))
  refine at_turn (turn_val (t := 4) (c' := .vec none 1 []) rfl fun σ v h => vr_nil 1 h) ?_
  refine at_loopK [0, 3] (α := Nat × Option (Nat × Nat)) (fun x => [(5, I64 x.1), (4, .vec x.2 1 (ints ((l.take x.1).map textG)))]) (fun x => x.1 ≤ l.length ∧ x.1 ≤ 20) (fun x => tok x.2 3 1 (ints ((l.take x.1).map textG)).length) (fun x => 20 - x.1) (0, none) rfl ⟨rfl, rfl, trivial⟩ ⟨Nat.zero_le _, Nat.zero_le _⟩ (fun _ _ h => h) ?_
  rintro ⟨i, q⟩ ⟨hi, hi20⟩
  dsimp only at hi hi20 ⊢
  have htl : (ints ((l.take i).map textG)).length = i := by rw [ints_len, List.length_map, List.length_take]; omega
  have hfin : (i = l.length ∨ i = 20) → (l.take i).map textG = textF l := fun h => by
    show (l.take i).map textG = (l.take 20).map textG
    rcases h with h | h
    · rw [h, List.take_of_length_le (Nat.le_refl _), List.take_of_length_le (by omega)]
    · rw [h]
  try dsimp only [List.cons_append, List.nil_append, List.map_cons, List.map_nil]
  (repeat' (first|refine at_seq ?_|refine at_region ?_|refine n_run ttok rfl rfl ?_|fail))
  by_cases hl : i < l.length
  · rw [decide_eq_true (show (i : Int) < (((ints l).length : Nat) : Int) by omega)]
    (repeat' (first|refine ax_then ?_|refine atl_nil ?_|refine n_run ttok rfl rfl ?_|refine atl_guard_yes rfl rfl ?_|fail))
    refine at_cond rfl (fun h => ?_) (fun h => ?_)
    · have h20 : i < 20 := by have := of_decide_eq_true h; omega
      obtain ⟨z, hz⟩ : ∃ z, l[i]? = some z := ⟨_, List.getElem?_eq_getElem hl⟩
      have hzg := ints_get hz
      have hmz : 0 ≤ z % 17 ∧ z % 17 < 17 := ⟨Int.emod_nonneg z (by omega), Int.emod_lt_of_pos z (by omega)⟩
      have htg : (ints textL)[(z % 17).toNat]? = some [I64 (textG z)] := ints_get (getD_at (by simp only [textL, runesL, List.length_append, List.length_cons, List.length_nil]; omega) 0)
      have hb := Int.lt_tmod_of_pos z (show (0 : Int) < ((17 : Nat) : Int) by omega)
      have hb2 := Int.tmod_lt_of_pos z (show (0 : Int) < ((17 : Nat) : Int) by omega)
      (repeat' (first|refine at_seq ?_|refine at_region ?_|refine at_block ?_|refine at_skip ?_|refine ax_then ?_|refine n_run ttok rfl rfl ?_|(apply s_index; first|refine n_index ttok ?_|refine n_indexP ttok ?_)|fail))
      rw [h17]
      refine n_rem ?_
      (repeat' (first|refine n_run ttok rfl rfl ?_|(apply s_bin; refine n_bin ?_)|fail))
      rw [h17]
      refine n_rem ?_
      rw [show (z.tmod ((17 : Nat) : Int) + ((17 : Nat) : Int)).tmod ((17 : Nat) : Int) = z % 17 from rem_rem (by omega)]
      (repeat' (first|refine n_run ttok rfl rfl ?_|(apply s_index; first|refine n_index ttok ?_|refine n_indexP ttok ?_)|refine n_litI ttok ?_|fail))
      refine n_append ttok [] rfl rfl rfl rfl (by rw [List.append_nil]) (by rw [htl]; simp; omega) (by rw [htl]; simp; omega) rfl fun q' => ?_
      rw [List.append_nil]
      (repeat' (first|refine at_region ?_|refine ax_then ?_|refine ax_blk ?_|refine atl_nil ?_|refine n_run ttok rfl rfl ?_|(apply s_bin; refine n_bin ?_)|fail))
      have hst : (l.take (i + 1)).map textG = (l.take i).map textG ++ [textG z] := by rw [List.take_add_one, hz, List.map_append]; rfl
      exact ax_roundK (i + 1, q') rfl ⟨by rw [Int.natCast_add]; rfl, by rw [hst]; dsimp only; rw [show ints ((l.take i).map textG ++ [textG z]) = ints ((l.take i).map textG) ++ [[I64 (textG z)]] from List.map_append ..]; rfl, trivial⟩ ⟨by dsimp only; omega, by dsimp only; omega⟩ (by dsimp only; omega) (fun _ _ h => by dsimp only; rw [hst]; rw [show ints ((l.take i).map textG ++ [textG z]) = ints ((l.take i).map textG) ++ [[I64 (textG z)]] from List.map_append ..]; exact h)
    · have h20 : i = 20 := by have := of_decide_eq_false h; omega
      rw [hfin (.inr h20)]
      (repeat' (first|refine at_seq ?_|refine at_region ?_|refine at_ret ?_|refine at_exit ?_|refine ax_then ?_|refine ax_then_exit ?_|refine ax_blk_exit ?_|refine ax_loop_exit ?_|refine atl_nil ?_|refine n_run ttok rfl rfl ?_|fail))
      exact ax_turn (turn_val (t := 2) (c' := .imm 1 (ints (textF l))) rfl fun σ v h => VR.im h) (ax_ret1 rfl rfl rfl)
  · rw [decide_eq_false (show ¬ (i : Int) < (((ints l).length : Nat) : Int) by omega)]
    rw [hfin (.inl (by omega))]
    (repeat' (first|refine at_seq ?_|refine at_region ?_|refine at_ret ?_|refine at_exit ?_|refine ax_then ?_|refine ax_then_exit ?_|refine ax_blk_exit ?_|refine ax_loop_exit ?_|refine atl_nil ?_|refine n_run ttok rfl rfl ?_|refine atl_guard_no rfl rfl rfl rfl ?_|refine n_condF rfl ?_|fail))
    exact ax_turn (turn_val (t := 2) (c' := .imm 1 (ints (textF l))) rfl fun σ v h => VR.im h) (ax_ret1 rfl rfl rfl)
def pickN (f : FFont) (l : List Int) : Nat → List ByteArray
  | 0 => []
  | k + 1 => pickN f l k ++ (match f.Features[k]?, l[k]? with | some t, some z => if z.tmod 3 ≠ 0 then [t.Name] else [] | _, _ => [])
def reqRs (bs : List Int) : List Int := textF (bs.take 40)
def reqFs (f : FFont) (bs : List Int) : List ByteArray := pickN f bs f.Features.length
def lawMade (ns : List Int) : FFont := madeF (ns.take 300)
theorem lawMade_ok (ns : List Int) : MadeG (lawMade ns) := made_ok _
theorem strs_app (a : List ByteArray) (x : ByteArray) : strs (a ++ [x]) = strs a ++ [[Str x]] := by simp [strs]
theorem pickN_len (f : FFont) (l : List Int) (k : Nat) : (pickN f l k).length ≤ k := by
  induction k with
  | zero => exact Nat.le_refl _
  | succ k ih =>
    rw [pickN, List.length_append]
    split
    · split
      · simp; omega
      · simp; omega
    · simp; omega
set_option maxHeartbeats 8000000 in
theorem lawMade_det (ns bs : List Int) : ADet Tryz.prog 17 [.imm 1 (ints ns), .imm 1 (ints bs)] (.tup [aFont (lawMade ns), aReq (reqRs bs) (reqFs (lawMade ns) bs)]) := by
  refine ac_of Tryz.func17 rfl Tryz.ntmps17 rfl fun B => ?_
  have hnl := ints_len ns
  have hbl := ints_len bs
  (repeat' (first|refine at_seq ?_|refine at_region ?_|refine ax_then ?_|refine atl_nil ?_|refine n_run ttok rfl rfl ?_|refine n_alloc ttok fun _=>?_|fail))
  refine n_cutH ttok (min ns.length 300) rfl rfl rfl rfl rfl (by omega) (by omega) rfl ?_
  rw [ints_take, show ns.take (min ns.length 300) = ns.take 300 by
    rcases Nat.le_total ns.length 300 with h | h
    · rw [Nat.min_eq_left h, List.take_of_length_le (Nat.le_refl _), List.take_of_length_le h]
    · rw [Nat.min_eq_right h]]
  (repeat' (first|fail))
  refine n_call (hc := ⟨made_det (ns.take 300) (by rw [List.length_take]; omega)⟩) ?_
  rw [show madeF (ns.take 300) = lawMade ns from rfl]
  have hG := lawMade_ok ns
  generalize lawMade ns = f at hG ⊢
  have hfl := hG.featN.length_le
  simp only [List.length_map, namesL, List.length_cons, List.length_nil] at hfl
  (repeat' (first|refine at_seq ?_|refine at_region ?_|refine ax_then ?_|refine atl_nil ?_|refine n_run ttok rfl rfl ?_|(apply s_store; first|refine n_storeF 6 ttok 0 rfl rfl rfl rfl rfl rfl rfl rfl ?_|refine n_storeF 6 ttok 1 rfl rfl rfl rfl rfl rfl rfl rfl ?_|refine n_storeF 6 ttok 2 rfl rfl rfl rfl rfl rfl rfl rfl ?_|refine n_store ttok 0 rfl rfl rfl rfl rfl rfl rfl ?_|refine n_store ttok 1 rfl rfl rfl rfl rfl rfl rfl ?_|refine n_store ttok 2 rfl rfl rfl rfl rfl rfl rfl ?_|refine n_store ttok 3 rfl rfl rfl rfl rfl rfl rfl ?_|fail)|refine n_alloc ttok fun _=>?_|fail))
  refine n_cutH ttok (min bs.length 40) rfl rfl rfl rfl rfl (by omega) (by omega) rfl ?_
  rw [ints_take, show bs.take (min bs.length 40) = bs.take 40 by
    rcases Nat.le_total bs.length 40 with h | h
    · rw [Nat.min_eq_left h, List.take_of_length_le (Nat.le_refl _), List.take_of_length_le h]
    · rw [Nat.min_eq_right h]]
  (repeat' (first|fail))
  refine n_call (hc := ⟨text_det (bs.take 40)⟩) ?_
  rw [show textF (bs.take 40) = reqRs bs from rfl]
  (repeat' (first|refine at_seq ?_|refine at_region ?_|refine at_block ?_|refine ax_then ?_|refine atl_nil ?_|refine n_run ttok rfl rfl ?_|(apply s_store; first|refine n_storeF 6 ttok 0 rfl rfl rfl rfl rfl rfl rfl rfl ?_|refine n_storeF 6 ttok 1 rfl rfl rfl rfl rfl rfl rfl rfl ?_|refine n_storeF 6 ttok 2 rfl rfl rfl rfl rfl rfl rfl rfl ?_|refine n_store ttok 0 rfl rfl rfl rfl rfl rfl rfl ?_|refine n_store ttok 1 rfl rfl rfl rfl rfl rfl rfl ?_|refine n_store ttok 2 rfl rfl rfl rfl rfl rfl rfl ?_|refine n_store ttok 3 rfl rfl rfl rfl rfl rfl rfl ?_|fail)|refine n_alloc ttok fun _=>?_|fail))
  rename_i t4 t5 fb rb
  refine at_turn (turn_cells 0 rfl fun σ vs h => vrs_set (k := 1) (c' := .vec none 1 []) h rfl fun v hv => vr_nil 1 hv) ?_
  have hfm : (f.Features.map cFeature).length = f.Features.length := List.length_map ..
  refine at_loopK [1, 4, 5, 6, 7] (α := Nat × Option (Nat × Nat)) (fun x => [(8, I64 x.1)]) (fun x => x.1 ≤ f.Features.length) (fun x => [(rb, .box [.imm 1 (ints (reqRs bs)), .vec x.2 1 (strs (pickN f bs x.1))] 39), (t5, .box [nilV, nilV] 39), tB t4] ++ tok x.2 9 1 (strs (pickN f bs x.1)).length) (fun x => f.Features.length - x.1) (0, none) rfl ⟨rfl, trivial⟩ (Nat.zero_le _) (fun _ _ h => h) ?_
  rintro ⟨i, q⟩ hi
  dsimp only at hi ⊢
  have hpl := pickN_len f bs i
  have hsl := strs_len (pickN f bs i)
  try dsimp only [List.cons_append, List.nil_append, List.map_cons, List.map_nil]
  (repeat' (first|refine at_seq ?_|refine at_region ?_|refine ax_then ?_|refine atl_nil ?_|refine n_run ttok rfl rfl ?_|fail))
  refine at_cond rfl (fun h => ?_) (fun h => ?_)
  · have hil : i < f.Features.length := by have := of_decide_eq_true h; rw [hfm] at this; omega
    obtain ⟨t, ht⟩ : ∃ t, f.Features[i]? = some t := ⟨_, List.getElem?_eq_getElem hil⟩
    have htg := map_get (c := cFeature) ht
    (repeat' (first|refine at_seq ?_|refine at_region ?_|refine at_block ?_|refine at_skip ?_|refine ax_then ?_|refine n_run ttok rfl rfl ?_|fail))
    refine atl_cut (t := 40) [1, 4, 5, 6, 7, 8] (∃ z, bs[i]? = some z ∧ z.tmod 3 ≠ 0) rfl (fun Q' K => ?_) ?_
    · by_cases hb : i < bs.length
      · obtain ⟨z, hz⟩ : ∃ z, bs[i]? = some z := ⟨_, List.getElem?_eq_getElem hb⟩
        have hzg := ints_get hz
        rw [decide_eq_true (show (i : Int) < (((ints bs).length : Nat) : Int) by omega)]
        (repeat' (first|refine n_run ttok rfl rfl ?_|refine atl_guard_yes rfl rfl ?_|(apply s_index; first|refine n_index ttok ?_|refine n_indexP ttok ?_)|fail))
        refine n_rem ?_
        (repeat' (first|refine atl_nil ?_|refine n_run ttok rfl rfl ?_|refine atl_guard_yes rfl rfl ?_|fail))
        exact K _ _ rfl rfl (by simp [hz])
      · rw [decide_eq_false (show ¬ (i : Int) < (((ints bs).length : Nat) : Int) by omega)]
        (repeat' (first|refine atl_nil ?_|refine n_run ttok rfl rfl ?_|refine atl_guard_no rfl rfl rfl rfl ?_|fail))
        exact K _ _ rfl rfl (by simp; intro z hz; have := (List.getElem?_eq_some_iff.1 hz).1; omega)
    (repeat' (first|refine ax_then ?_|fail))
    refine at_cond rfl (fun h => ?_) (fun h => ?_)
    · obtain ⟨z, hz, hz3⟩ := of_decide_eq_true h
      have hst : pickN f bs (i + 1) = pickN f bs i ++ [t.Name] := by rw [pickN, ht, hz]; simp [hz3]
      (repeat' (first|fail))
      refine at_draw 9 [(0, .v), (1, .l), (2, .v), (3, .v), (4, .v), (5, .v), (6, .v), (7, .v), (8, .v)] none ?_ trivial rfl (by kernel_rfl) (by kernel_rfl) (by kernel_rfl) mixed (by kernel_rfl) rfl
      (repeat' (first|refine da_open ?_|refine d_run ttok ?_|(apply ds_index;refine d_index ttok ?_)|refine d_lit ttok ?_|refine d_load ttok 0 rfl rfl rfl rfl (by first|trivial|rfl) ?_|fail))
      refine da_end [1, 4, 5, 6, 7, 8, 42, 49] rfl rfl ?_
      (repeat' (first|fail))
      refine n_append ttok _ rfl rfl rfl rfl (List.perm_append_comm (l₁ := [_, _, _])) (by simp [strs_len]; omega) (by simp [strs_len]; omega) rfl fun q' => ?_
      refine atl_turn (turn_perm (List.perm_append_comm (l₂ := [_, _, _]))) ?_
      (repeat' (first|refine at_region ?_|refine ax_then ?_|refine ax_blk ?_|refine atl_nil ?_|refine n_run ttok rfl rfl ?_|(apply s_bin; refine n_bin ?_)|(apply s_store; first|refine n_storeF 6 ttok 0 rfl rfl rfl rfl rfl rfl rfl rfl ?_|refine n_storeF 6 ttok 1 rfl rfl rfl rfl rfl rfl rfl rfl ?_|refine n_storeF 6 ttok 2 rfl rfl rfl rfl rfl rfl rfl rfl ?_|refine n_store ttok 0 rfl rfl rfl rfl rfl rfl rfl ?_|refine n_store ttok 1 rfl rfl rfl rfl rfl rfl rfl ?_|refine n_store ttok 2 rfl rfl rfl rfl rfl rfl rfl ?_|refine n_store ttok 3 rfl rfl rfl rfl rfl rfl rfl ?_|fail)|fail))
      exact ax_roundK (i + 1, q') rfl ⟨by rw [Int.natCast_add]; rfl, trivial⟩ (by dsimp only; omega) (by dsimp only; omega) (fun _ _ h => by dsimp only; rw [hst, strs_app]; exact h)
    · have hno := of_decide_eq_false h
      have hst : pickN f bs (i + 1) = pickN f bs i := by
        rw [pickN, ht]
        cases hz : bs[i]? with
        | none => simp
        | some z =>
          have : ¬ z.tmod 3 ≠ 0 := fun h3 => hno ⟨z, hz, h3⟩
          simp only [this, if_false, List.append_nil]
      (repeat' (first|refine at_region ?_|refine at_skip ?_|refine ax_then ?_|refine ax_blk ?_|refine atl_nil ?_|refine n_run ttok rfl rfl ?_|(apply s_bin; refine n_bin ?_)|fail))
      exact ax_roundK (i + 1, q) rfl ⟨by rw [Int.natCast_add]; rfl, trivial⟩ (by dsimp only; omega) (by dsimp only; omega) (fun _ _ h => by dsimp only; rw [hst]; exact h)
  have hil : i = f.Features.length := by have := of_decide_eq_false h; rw [hfm] at this; omega
  subst hil
  rw [show pickN f bs f.Features.length = reqFs f bs from rfl]
  (repeat' (first|refine at_seq ?_|refine at_exit ?_|refine ax_then ?_|refine ax_then_exit ?_|refine ax_blk_exit ?_|refine ax_loop_exit ?_|fail))
  refine at_turn (turn_cells 0 rfl fun σ vs h => vrs_set (k := 1) (c' := .imm 1 (strs (reqFs f bs))) h rfl fun v hv => VR.im hv) ?_
  refine at_turn (turn_ptr (t := 7) 0 rfl rfl rfl) ?_
  refine at_draw 3 [(0, .v), (1, .v), (2, .e)] none ?_ trivial rfl (by kernel_rfl) (by kernel_rfl) (by kernel_rfl) mixed (by kernel_rfl) rfl
  (repeat' (first|refine da_open ?_|refine d_run ttok ?_|fail))
  refine d_storeB ttok 1 rfl rfl rfl rfl rfl rfl rfl (by first | trivial | rfl) fun c => ?_
  (repeat' (first|fail))
  refine da_end [4, 5, 53] rfl rfl ?_
  (repeat' (first|refine at_ret ?_|refine ax_then ?_|refine atl_nil ?_|(apply s_store; first|refine n_storeF 6 ttok 0 rfl rfl rfl rfl rfl rfl rfl rfl ?_|refine n_storeF 6 ttok 1 rfl rfl rfl rfl rfl rfl rfl rfl ?_|refine n_storeF 6 ttok 2 rfl rfl rfl rfl rfl rfl rfl rfl ?_|refine n_store ttok 0 rfl rfl rfl rfl rfl rfl rfl ?_|refine n_store ttok 1 rfl rfl rfl rfl rfl rfl rfl ?_|refine n_store ttok 2 rfl rfl rfl rfl rfl rfl rfl ?_|refine n_store ttok 3 rfl rfl rfl rfl rfl rfl rfl ?_|fail)|fail))
  exact ax_retR (cs := [aFont f, aReq (reqRs bs) (reqFs f bs)]) ⟨⟨t4, 1, _, _, rfl, rfl, .inr ⟨agI_spec ttok rfl, rfl⟩⟩, ⟨t5, 0, _, _, rfl, rfl, .inr ⟨agI_spec ttok rfl, rfl⟩⟩, trivial⟩ rfl
end Go.Proofs.YtpbinloeemebkaaGreat

namespace Go.Proofs.YtpbinloeemebkaaGreat
open Go.RowKit
attribute [local irreducible] AT ATL AX AO Av Kt ALoopK OkA DA DA1
def nmLiga : ByteArray := ⟨#[108, 105, 103, 97]⟩
def nmCalt : ByteArray := ⟨#[99, 97, 108, 116]⟩
def nmNone : ByteArray := ⟨#[110, 111, 110, 101]⟩
def lawReach (fs : List ByteArray) : List Int := (if hasS fs nmLiga || hasS fs nmCalt then [0] else []) ++ (if hasS fs nmCalt then [1] else [])
theorem lawReach_mem (fs : List ByteArray) (z : Int) : z ∈ lawReach fs ↔ (z = 0 ∧ (hasS fs nmLiga = true ∨ hasS fs nmCalt = true)) ∨ (z = 1 ∧ hasS fs nmCalt = true) := by
  unfold lawReach
  cases hasS fs nmLiga <;> cases hasS fs nmCalt <;> simp
theorem lawReach_iff (fs : List ByteArray) (z : Int) : z ∈ lawReach fs ↔ Reach lawFont fs z := by
  rw [lawReach_mem]
  have b1 : hasS fs nmLiga = true → Reach lawFont fs 0 := fun h => .base (t := ⟨nmLiga, [0]⟩) (by simp [lawFont, nmLiga]) h (by simp) (by decide) (by decide)
  have b2 : hasS fs nmCalt = true → Reach lawFont fs 1 := fun h => .base (t := ⟨nmCalt, [1]⟩) (by simp [lawFont, nmCalt]) h (by simp) (by decide) (by decide)
  constructor
  · rintro (⟨rfl, h | h⟩ | ⟨rfl, h⟩)
    · exact b1 h
    · exact .call (c := ⟨0, 0⟩) (r := ⟨[], [[1]], [], [], [⟨0, 0⟩], 0⟩) (l := ⟨4, false, [⟨[], [[1]], [], [], [⟨0, 0⟩], 0⟩]⟩) (b2 h) rfl rfl (List.mem_singleton.2 rfl) (List.mem_singleton.2 rfl) (by decide)
    · exact b2 h
  · intro h
    induction h with
    | base ht hn hm h0 h1 =>
      rename_i t n
      have ht : t ∈ [(⟨nmLiga, [0]⟩ : FFeature), ⟨nmCalt, [1]⟩] := ht
      simp only [List.mem_cons, List.not_mem_nil, or_false] at ht
      rcases ht with rfl | rfl
      · exact .inl ⟨List.mem_singleton.1 hm, .inl hn⟩
      · exact .inr ⟨List.mem_singleton.1 hm, hn⟩
    | call h hl hk hr hc hn ih =>
      rename_i m l r c
      rcases ih with ⟨rfl, _⟩ | ⟨rfl, hx⟩
      · have hl : some (⟨3, false, [⟨[], [[1], [2]], [], [3], [], 0⟩]⟩ : FLookup) = some l := hl
        injection hl with hl
        subst hl
        exact absurd hk (by decide)
      · have hl : some (⟨4, false, [⟨[], [[1]], [], [], [⟨0, 0⟩], 0⟩]⟩ : FLookup) = some l := hl
        injection hl with hl
        subst hl
        have hr := List.mem_singleton.1 hr
        subst hr
        have hc := List.mem_singleton.1 hc
        subst hc
        exact .inl ⟨rfl, .inr hx⟩
theorem lawReachN (fs : List ByteArray) : reachN lawFont fs = setN (lawReach fs) 2 := (setN_reach fun z _ _ => lawReach_iff fs z).symm
def lawKept (rs : List Int) (fs : List ByteArray) : List Int := glyphRun lawFont 6 (startG lawFont rs) (hopsOf lawFont (addN 2 [] (setN (lawReach fs) 2)))
theorem glyphRun_ok (f : FFont) : ∀ (k : Nat) (S : List Int) (hs : List Hop), SetOk f.Glyphs.length S → SetOk f.Glyphs.length (glyphRun f k S hs)
  | 0, _, _, h => h
  | k + 1, S, hs, h => by
    unfold glyphRun
    split
    · exact h
    · exact glyphRun_ok f k _ _ (stepN_ok f S hs)
theorem lawKept_eq (rs : List Int) (fs : List ByteArray) : keptN lawFont rs fs = lawKept rs fs := by
  unfold keptN lawKept
  rw [lawReachN]
  rfl
theorem lawV (rs : List Int) (fs : List ByteArray) : glyphsV lawFont rs fs = if rs.any badR = true then .tup [nilA, I64 80] else .tup [.imm 1 (ints (setN (lawKept rs fs) 5)), I64 0] := by
  unfold glyphsV
  rw [if_pos lawFontE, lawKept_eq, sorted_set (n := 5) (by
    unfold lawKept
    exact glyphRun_ok lawFont 6 _ _ (SetOk.nil.add _))]
theorem glyphs_law (rs : List Int) (fs : List ByteArray) : ADet Tryz.prog 15 [aFont lawFont, aReq rs fs] (glyphsV lawFont rs fs) := Glyphs_ac lawFont lawSmall (fun _ => lawAcyc) rs fs
set_option maxHeartbeats 1000000 in
theorem kept_law (rs : List Int) (fs : List ByteArray) (hr : rs.any badR = false) : ADet Tryz.prog 25 [.imm 1 (ints rs), .imm 1 (strs fs), .imm 1 (ints (setN (lawKept rs fs) 5))] (Bol true) := by
  refine ac_of Tryz.func25 rfl Tryz.ntmps25 rfl fun B => ?_
  have hg := glyphs_law rs fs
  rw [lawV, hr, if_neg (fun e => by cases e)] at hg
  unfold aReq at hg
  (repeat' (first|refine at_seq ?_|refine at_region ?_|refine ax_then ?_|refine atl_nil ?_|refine n_run ttok rfl rfl ?_|(apply s_call;refine n_call ?_)|fail))
  refine n_call (hc := ⟨hg⟩) ?_
  (repeat' (first|refine at_seq ?_|refine at_region ?_|refine at_ret ?_|refine ax_then ?_|refine atl_nil ?_|refine n_run ttok rfl rfl ?_|refine atl_guard_yes rfl rfl ?_|(apply s_call;refine n_call ?_)|fail))
  exact ax_ret1 rfl rfl (by simp)
def noFont : FFont := ⟨0, [], [], [], [], [], [], [], []⟩
theorem noV (rs : List Int) (fs : List ByteArray) : glyphsV noFont rs fs = .tup [nilA, I64 1] := by
  unfold glyphsV
  rw [if_neg]
  intro h
  have := firstE_zero_iff.1 h (headE noFont, 0) (by simp [fontL])
  exact absurd this (by decide)
theorem kept1 : setN (lawKept [1] [nmLiga]) 5 = [0, 1] := by decide
theorem kept2 : setN (lawKept [1, 2] [nmLiga]) 5 = [0, 1, 2, 3] := by decide
theorem kept3 : setN (lawKept [1, 2] []) 5 = [0, 1, 2] := by decide
theorem kept4 : setN (lawKept [3] []) 5 = [0, 1, 3] := by decide
theorem kept5 : setN (lawKept [1, 2, 9] [nmCalt, nmNone]) 5 = [0, 1, 2, 3] := by decide
theorem reach5 : setN (lawReach [nmCalt]) 2 = [0, 1] := by decide
theorem isClosed : progClosed lawFont [0] [1, 2, 3] = true := by decide
theorem notClosed : progClosed lawFont [0] [1, 2] = false := by decide
theorem sortedS (S : List Int) (fs : List ByteArray) (rs : List Int) (hS : setN (lawKept rs fs) 5 = S) (hr : rs.any badR = false) : ADet Tryz.prog 25 [.imm 1 (ints rs), .imm 1 (strs fs), .imm 1 (ints S)] (Bol true) := hS ▸ kept_law rs fs hr
theorem sorted_nil (rs : List Int) (S : List Int) (hS : setN (lawKept rs []) 5 = S) (hr : rs.any badR = false) : ADet Tryz.prog 25 [.imm 1 (ints rs), .sc (.slice none 0 0), .imm 1 (ints S)] (Bol true) :=
  AC.args (sortedS S [] rs hS hr) ⟨.refl _, .nil 1, .refl _, trivial⟩
set_option maxHeartbeats 2000000 in
theorem closed_ac : ADet Tryz.prog 11 [] (Bol true) := by
  refine ac_of Tryz.func11 rfl Tryz.ntmps11 rfl fun B => ?_
  have g1 : ADet Tryz.prog 15 [aFont lawFont, .agg [.imm 1 (ints [-1]), .sc (.slice none 0 0)]] (.tup [nilA, I64 80]) := by
    have h := glyphs_law [-1] []
    rw [lawV, if_pos (by decide)] at h
    exact AC.args h ⟨.refl _, .agg ⟨.refl _, .nil 1, trivial⟩, trivial⟩
  have g2 : ADet Tryz.prog 15 [.agg [I64 0, .sc (.slice none 0 0), .sc (.slice none 0 0), .sc (.slice none 0 0), .sc (.slice none 0 0), .sc (.slice none 0 0), .sc (.slice none 0 0), .sc (.slice none 0 0), .sc (.slice none 0 0)], .agg [.sc (.slice none 0 0), .sc (.slice none 0 0)]] (.tup [nilA, I64 1]) := by
    have h := Glyphs_ac noFont (by unfold Small; decide) (fun _ => ⟨fun _ => 0, fun g h0 h1 => by have h1 : g < 0 := h1; omega⟩) [] []
    rw [noV] at h
    exact AC.args h ⟨.agg ⟨.refl _, .nil 9, .nil 2, .nil 3, .nil 2, .nil 4, .nil 1, .nil 1, .nil 1, trivial⟩, .agg ⟨.nil 1, .nil 1, trivial⟩, trivial⟩
  have g3 : ADet Tryz.prog 13 [aFont lawFont, .imm 1 (strs [nmCalt])] (.imm 1 (ints [0, 1])) := by
    have h := lookupsP_det lawFont [nmCalt] lawSmall
    rw [lawReachN, reach5] at h
    exact h
  have g4 : ADet Tryz.prog 19 [aFont lawFont, .imm 1 (ints [0]), .imm 1 (ints [1, 2])] (Bol false) := by
    have h := Closed_ac lawFont lawSmall [0] [1, 2]
    rw [notClosed] at h
    exact h
  have g6 : ADet Tryz.prog 19 [aFont lawFont, .imm 1 (ints [0]), .imm 1 (ints [1, 2, 3])] (Bol true) := by
    have h := Closed_ac lawFont lawSmall [0] [1, 2, 3]
    rw [isClosed] at h
    exact h
  have g5 : ADet Tryz.prog 12 [.imm 1 (ints [0, 1]), .imm 1 (ints [0, 1])] (Bol true) := same_det [0, 1] [0, 1]
  have k1 := sortedS [0, 1] [nmLiga] [1] kept1 (by decide)
  have k2 := sortedS [0, 1, 2, 3] [nmLiga] [1, 2] kept2 (by decide)
  have k3 := sorted_nil [1, 2] [0, 1, 2] kept3 (by decide)
  have k4 := sorted_nil [3] [0, 1, 3] kept4 (by decide)
  have k5 := sortedS [0, 1, 2, 3] [nmCalt, nmNone] [1, 2, 9] kept5 (by decide)
  (repeat' (first|refine at_seq ?_|refine at_region ?_|refine ax_then ?_|refine atl_nil ?_|refine n_run ttok rfl rfl ?_|refine n_litI ttok ?_|(apply s_call;refine n_call ?_)|fail))
  refine n_call (hc := ⟨g1⟩) ?_
  (repeat' (first|refine at_seq ?_|refine at_region ?_|refine ax_then ?_|refine atl_nil ?_|refine n_run ttok rfl rfl ?_|fail))
  refine n_call (hc := ⟨g2⟩) ?_
  (repeat' (first|refine at_seq ?_|refine at_region ?_|refine ax_then ?_|refine atl_nil ?_|refine n_run ttok rfl rfl ?_|refine n_litI ttok ?_|fail))
  refine n_call (hc := ⟨k1⟩) ?_
  (repeat' (first|refine n_run ttok rfl rfl ?_|refine atl_guard_yes rfl rfl ?_|refine n_litI ttok ?_|fail))
  refine n_call (hc := ⟨k2⟩) ?_
  (repeat' (first|refine n_run ttok rfl rfl ?_|refine atl_guard_yes rfl rfl ?_|refine n_litI ttok ?_|fail))
  refine n_call (hc := ⟨k3⟩) ?_
  (repeat' (first|refine n_run ttok rfl rfl ?_|refine atl_guard_yes rfl rfl ?_|refine n_litI ttok ?_|fail))
  refine n_call (hc := ⟨k4⟩) ?_
  (repeat' (first|refine n_run ttok rfl rfl ?_|refine atl_guard_yes rfl rfl ?_|refine n_litI ttok ?_|fail))
  refine n_call (hc := ⟨k5⟩) ?_
  (repeat' (first|refine n_run ttok rfl rfl ?_|refine atl_guard_yes rfl rfl ?_|refine n_litI ttok ?_|(apply s_call;refine n_call ?_)|fail))
  refine n_call (hc := ⟨g3⟩) ?_
  (repeat' (first|refine atl_guard_yes rfl rfl ?_|refine n_litI ttok ?_|fail))
  refine n_call (hc := ⟨g5⟩) ?_
  (repeat' (first|refine n_run ttok rfl rfl ?_|refine atl_guard_yes rfl rfl ?_|refine n_litI ttok ?_|(apply s_call;refine n_call ?_)|fail))
  refine n_call (hc := ⟨g4⟩) ?_
  (repeat' (first|refine n_run ttok rfl rfl ?_|refine atl_guard_yes rfl rfl ?_|refine n_litI ttok ?_|(apply s_call;refine n_call ?_)|fail))
  refine n_call (hc := ⟨g6⟩) ?_
  (repeat' (first|refine at_ret ?_|refine ax_then ?_|refine atl_nil ?_|refine n_run ttok rfl rfl ?_|fail))
  exact ax_ret1 rfl rfl rfl
end Go.Proofs.YtpbinloeemebkaaGreat

namespace Go.Proofs.YtpbinloeemebkaaGreat
open Go.RowKit
attribute [local irreducible] AT ATL AX AO Av Kt ALoopK OkA DA DA1
set_option maxHeartbeats 1000000 in
theorem in_det (l : List Int) (n : Int) : ADet Tryz.prog 20 [.imm 1 (ints l), I64 n] (Bol (l.contains n)) := by
  refine ac_of Tryz.func20 rfl Tryz.ntmps20 rfl fun B => ?_
  refine at_len 0 rfl rfl fun hlen => ?_
  rw [ints_len] at hlen
  (repeat' (first|refine at_seq ?_|refine at_region ?_|refine at_block ?_|refine ax_then ?_|refine atl_nil ?_|refine n_run ttok rfl rfl ?_|fail))
  refine at_loopK [0, 1] (α := Nat) (fun i => [(5, I64 i)]) (fun i => i ≤ l.length ∧ (l.take i).contains n = false) (fun _ => []) (fun i => l.length - i) 0 rfl ⟨rfl, trivial⟩ ⟨Nat.zero_le _, rfl⟩ (fun _ _ h => h) ?_
  rintro i ⟨hi, ha⟩
  try dsimp only [List.cons_append, List.nil_append, List.map_cons, List.map_nil]
  (repeat' (first|refine at_seq ?_|refine at_region ?_|refine ax_then ?_|refine atl_nil ?_|refine n_run ttok rfl rfl ?_|fail))
  refine at_cond rfl (fun h => ?_) (fun h => ?_)
  · have hil : i < l.length := by have := of_decide_eq_true h; simp [ints_len] at this; omega
    obtain ⟨z, hz⟩ : ∃ z, l[i]? = some z := ⟨_, List.getElem?_eq_getElem hil⟩
    have hzg := ints_get hz
    (repeat' (first|refine at_seq ?_|refine at_region ?_|refine at_block ?_|refine at_skip ?_|refine ax_then ?_|refine atl_nil ?_|refine n_run ttok rfl rfl ?_|(apply s_index; first|refine n_index ttok ?_|refine n_indexP ttok ?_)|fail))
    refine at_cond rfl (fun h2 => ?_) (fun h2 => ?_)
    · have h2 : z = n := of_decide_eq_true h2
      subst h2
      (repeat' (first|refine at_seq ?_|refine at_region ?_|refine at_ret ?_|refine ax_then ?_|refine ax_then_ret ?_|refine ax_blk_ret ?_|refine ax_loop_ret ?_|refine atl_nil ?_|refine n_run ttok rfl rfl ?_|fail))
      refine ax_ret1 rfl rfl ?_
      have : l.contains z = true := List.contains_iff_mem.2 (List.mem_of_getElem? hz)
      rw [this]
    · have h2 : ¬ z = n := of_decide_eq_false h2
      (repeat' (first|refine at_region ?_|refine at_skip ?_|refine ax_then ?_|refine ax_blk ?_|refine atl_nil ?_|refine n_run ttok rfl rfl ?_|(apply s_bin; refine n_bin ?_)|fail))
      refine ax_roundK (i + 1) rfl ⟨by rw [Int.natCast_add]; rfl, trivial⟩ ⟨by omega, ?_⟩ (by omega) (fun _ _ h => h)
      rw [Bool.eq_false_iff] at ha ⊢
      intro hc
      refine ha ?_
      rw [List.contains_iff_mem] at hc ⊢
      rw [List.take_add_one, hz, List.mem_append] at hc
      rcases hc with hc | hc
      · exact hc
      · exact absurd (List.mem_singleton.1 hc).symm h2
  have hil : i = l.length := by have := of_decide_eq_false h; simp [ints_len] at this; omega
  subst hil
  rw [List.take_length] at ha
  (repeat' (first|refine at_seq ?_|refine at_region ?_|refine at_ret ?_|refine at_exit ?_|refine ax_then ?_|refine ax_then_exit ?_|refine ax_blk_exit ?_|refine ax_loop_exit ?_|refine atl_nil ?_|refine n_run ttok rfl rfl ?_|fail))
  refine ax_ret1 rfl rfl ?_
  rw [ha]
instance (l : List Int) (n : Int) : AD Tryz.prog 20 [.imm 1 (ints l), I64 n] (Bol (l.contains n)) := ⟨in_det l n⟩
set_option maxHeartbeats 1000000 in
theorem inside_det (a b : List Int) : ADet Tryz.prog 18 [.imm 1 (ints a), .imm 1 (ints b)] (Bol (a.all fun z => b.contains z)) := by
  refine ac_of Tryz.func18 rfl Tryz.ntmps18 rfl fun B => ?_
  refine at_len 0 rfl rfl fun hlen => ?_
  rw [ints_len] at hlen
  (repeat' (first|refine at_seq ?_|refine at_region ?_|refine at_block ?_|refine ax_then ?_|refine atl_nil ?_|refine n_run ttok rfl rfl ?_|fail))
  refine at_loopK [0, 1] (α := Nat) (fun i => [(5, I64 i)]) (fun i => i ≤ a.length ∧ (a.take i).all (fun z => b.contains z) = true) (fun _ => []) (fun i => a.length - i) 0 rfl ⟨rfl, trivial⟩ ⟨Nat.zero_le _, rfl⟩ (fun _ _ h => h) ?_
  rintro i ⟨hi, ha⟩
  try dsimp only [List.cons_append, List.nil_append, List.map_cons, List.map_nil]
  (repeat' (first|refine at_seq ?_|refine at_region ?_|refine ax_then ?_|refine atl_nil ?_|refine n_run ttok rfl rfl ?_|fail))
  refine at_cond rfl (fun h => ?_) (fun h => ?_)
  · have hil : i < a.length := by have := of_decide_eq_true h; simp [ints_len] at this; omega
    obtain ⟨z, hz⟩ : ∃ z, a[i]? = some z := ⟨_, List.getElem?_eq_getElem hil⟩
    have hzg := ints_get hz
    have hzm := List.mem_of_getElem? hz
    (repeat' (first|refine at_seq ?_|refine at_region ?_|refine at_block ?_|refine at_skip ?_|refine ax_then ?_|refine atl_nil ?_|refine n_run ttok rfl rfl ?_|(apply s_index; first|refine n_index ttok ?_|refine n_indexP ttok ?_)|(apply s_call;refine n_call ?_)|fail))
    refine at_cond rfl (fun h2 => ?_) (fun h2 => ?_)
    · have h2 : b.contains z = false := by simpa using h2
      (repeat' (first|refine at_seq ?_|refine at_region ?_|refine at_ret ?_|refine ax_then ?_|refine ax_then_ret ?_|refine ax_blk_ret ?_|refine ax_loop_ret ?_|refine atl_nil ?_|refine n_run ttok rfl rfl ?_|fail))
      refine ax_ret1 rfl rfl ?_
      have : (a.all fun z => b.contains z) = false := by
        rw [Bool.eq_false_iff]
        intro e
        rw [List.all_eq_true] at e
        rw [e z hzm] at h2
        cases h2
      rw [this]
    · have h2 : b.contains z = true := by simpa using h2
      (repeat' (first|refine at_region ?_|refine at_skip ?_|refine ax_then ?_|refine ax_blk ?_|refine atl_nil ?_|refine n_run ttok rfl rfl ?_|(apply s_bin; refine n_bin ?_)|fail))
      refine ax_roundK (i + 1) rfl ⟨by rw [Int.natCast_add]; rfl, trivial⟩ ⟨by omega, ?_⟩ (by omega) (fun _ _ h => h)
      rw [List.take_add_one, hz, List.all_append, ha]
      simpa using h2
  have hil : i = a.length := by have := of_decide_eq_false h; simp [ints_len] at this; omega
  subst hil
  rw [List.take_length] at ha
  (repeat' (first|refine at_seq ?_|refine at_region ?_|refine at_ret ?_|refine at_exit ?_|refine ax_then ?_|refine ax_then_exit ?_|refine ax_blk_exit ?_|refine ax_loop_exit ?_|refine atl_nil ?_|refine n_run ttok rfl rfl ?_|fail))
  refine ax_ret1 rfl rfl ?_
  rw [ha]
instance (a b : List Int) : AD Tryz.prog 18 [.imm 1 (ints a), .imm 1 (ints b)] (Bol (a.all fun z => b.contains z)) := ⟨inside_det a b⟩
theorem inB_iff {n : Nat} {l : List Int} {z : Int} : inB n l z = true ↔ (0 ≤ z ∧ z < n) ∧ z ∈ l := by
  unfold inB
  rw [Bool.and_eq_true, decide_eq_true_iff, List.contains_iff_mem]
theorem seenB_mono {f : FFont} {S T : List Int} (h : ∀ z ∈ S, z ∈ T) {ign : Bool} {z : Int} (hs : seenB f S ign z = true) : seenB f T ign z = true := by
  unfold seenB at hs ⊢
  rw [Bool.and_eq_true] at hs ⊢
  exact ⟨inB_iff.2 ⟨(inB_iff.1 hs.1).1, h _ (inB_iff.1 hs.1).2⟩, hs.2⟩
theorem tellN_mono {h : Hop} {p q : Int → Bool} (hpq : ∀ z, p z = true → q z = true) {z : Int} (hz : z ∈ tellN h p) : z ∈ tellN h q := by
  unfold tellN at hz ⊢
  split
  · rename_i hk
    rw [if_pos hk] at hz
    obtain ⟨x, hx, rfl⟩ := List.mem_map.1 hz
    rw [List.mem_filter] at hx
    exact List.mem_map.2 ⟨x, List.mem_filter.2 ⟨hx.1, hpq _ hx.2⟩, rfl⟩
  · rename_i hk
    rw [if_neg hk] at hz
    exact hz
theorem tellAdds_mono {f : FFont} {S T : List Int} (h : ∀ z ∈ S, z ∈ T) {x : Hop} {z : Int} (hz : z ∈ tellAdds f S x) : z ∈ tellAdds f T x := by
  unfold tellAdds at hz ⊢
  split at hz
  · rename_i hc
    rw [if_pos]
    · exact tellN_mono (fun _ => seenB_mono h) hz
    · rw [List.all_eq_true] at hc ⊢
      intro s hs
      have := hc s hs
      rw [List.any_eq_true] at this ⊢
      obtain ⟨y, hy, hp⟩ := this
      exact ⟨y, hy, seenB_mono h hp⟩
  · cases hz
theorem progStep_mem {f : FFont} {ks gs : List Int} {z : Int} : z ∈ progStep f ks gs ↔ (z ∈ selfAdds f (addN f.Glyphs.length [] gs) ∨ ∃ h ∈ hopsOf f (addN f.Lookups.length [] ks), z ∈ tellAdds f (addN f.Glyphs.length [] gs) h) ∧ 0 ≤ z ∧ z < f.Glyphs.length := by
  unfold progStep stepN
  rw [addN_mem, List.mem_append, List.mem_flatMap]
  constructor
  · rintro (h | h)
    · cases h
    · exact h
  · exact Or.inr
theorem addN_sub {n : Nat} {a b : List Int} (h : ∀ z ∈ a, z ∈ b) : ∀ z ∈ addN n [] a, z ∈ addN n [] b := by
  intro z hz
  rcases addN_mem.1 hz with k | ⟨k, k2⟩
  · cases k
  · exact addN_mem.2 (Or.inr ⟨h z k, k2⟩)
theorem progStep_mono {f : FFont} {ks ks' gs gs' : List Int} (hk : ∀ z ∈ ks, z ∈ ks') (hg : ∀ z ∈ gs, z ∈ gs') : ∀ z ∈ progStep f ks gs, z ∈ progStep f ks' gs' := by
  intro z hz
  rw [progStep_mem] at hz ⊢
  refine ⟨?_, hz.2⟩
  rcases hz.1 with h | ⟨x, hx, h⟩
  · refine Or.inl ?_
    unfold selfAdds at h ⊢
    obtain ⟨y, hy, h⟩ := List.mem_flatMap.1 h
    exact List.mem_flatMap.2 ⟨y, addN_sub hg y hy, h⟩
  · refine Or.inr ⟨x, ?_, tellAdds_mono (addN_sub hg) h⟩
    unfold hopsOf at hx ⊢
    obtain ⟨y, hy, h⟩ := List.mem_flatMap.1 hx
    exact List.mem_flatMap.2 ⟨y, addN_sub hk y hy, h⟩
theorem progStep_self {f : FFont} {ks gs : List Int} {z : Int} (hz : z ∈ gs) (h0 : 0 ≤ z) (h1 : z < f.Glyphs.length) : z ∈ progStep f ks gs := by
  rw [progStep_mem]
  refine ⟨Or.inl ?_, h0, h1⟩
  unfold selfAdds
  exact List.mem_flatMap.2 ⟨z, addN_mem.2 (Or.inr ⟨hz, h0, h1⟩), List.mem_cons_self ..⟩
theorem within_sorted {a b : List Int} (h : ∀ z ∈ a, z ∈ b) : ((sorted a).all fun z => (sorted b).contains z) = true := by
  rw [List.all_eq_true]
  intro z hz
  rw [List.contains_iff_mem]
  exact (sorted_perm b).mem_iff.2 (h z ((sorted_perm a).mem_iff.1 hz))
end Go.Proofs.YtpbinloeemebkaaGreat
