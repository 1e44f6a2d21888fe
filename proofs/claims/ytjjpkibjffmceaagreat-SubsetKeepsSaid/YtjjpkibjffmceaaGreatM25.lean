/-
  Fonts of plain numbers may be: what is wrong with them is nothing.
-/
import Derived.Test.YtjjpkibjffmceaaGreatM24
import Derived.Test.YtjjpkibjffmceaaGreatM13
import Derived.Test.YtjjpkibjffmceaaGreatM23
import Derived.Test.YtjjpkibjffmceaaGreatM20
namespace Go.Proofs.YtjjpkibjffmceaaGreat
theorem sK {α : Type} {l : List α} (h : l.Nodup) {i j : Nat} {a : α} (hi : l[i]? = some a) (hj : l[j]? = some a) : i = j := by
 obtain ⟨i1, i2⟩ := Gn hi
 obtain ⟨j1, j2⟩ := Gn hj
 have hp := List.pairwise_iff_getElem.1 (List.nodup_iff_pairwise_ne.1 h)
 rcases Nat.lt_trichotomy i j with hlt | hlt | hlt
 ·exact absurd (i2.trans j2.symm) (hp i j i1 j1 hlt)
 ·exact hlt
 ·exact absurd (j2.trans i2.symm) (hp j i j1 i1 hlt)
theorem pp {names : List ByteArray} (hn : names.Nodup) {i : Nat} {s : ByteArray} (h : names[i]? = some s) : jp names i s = false := by
 have hf : d9 names s = some i := by
  unfold d9
  obtain ⟨h1, h2⟩ := Gn h
  rw [List.findIdx?_eq_some_iff_getElem]
  refine ⟨h1, by simpa using h2, fun j hj => ?_⟩
  have : names[j] ≠ s := fun e => by
   have := sK hn h (show names[j]? = some s by rw [← e]; exact Ds (by omega))
   omega
  simpa using this
 unfold jp
 rw [hf]
 simp
theorem lf {α : Type} {g : α → Nat} {l : List α} {k : Nat} (h : ∀ a ∈ l, g a ≤ k) : (l.map g).sum ≤ l.length * k := by
 induction l with
 | nil => simp
 | cons b l ih =>
  rw [Gp, List.sum_cons, List.length_cons, Nat.succ_mul]
  have := ih fun a ha => h a (Gt _ ha)
  have := h b (List.mem_cons_self ..)
  omega
theorem ge {z : Int} (h : -16384 ≤ z ∧ z ≤ 16384) : fN z = true := decide_eq_true h
theorem r4 {f : aJ} {z : Int} (h : 0 ≤ z ∧ z < f.Glyphs.length) : jS f z = true := decide_eq_true h
theorem dN {b : Bool} {e : Int} (h : b = false) : dX b e = 0 := by rw [h]; rfl
section
variable {f : aJ}
theorem r2 : ((List.range 10).map cE).Nodup := by decide
theorem oC : ∀ n < 10, fM (cE n) = true ∧ (cE n).size ≤ 16 := by decide
theorem vF.shape {R n : Nat} {g : bf} (h : vF R n g) : ii g = 0 := by
 obtain ⟨k, hk, ho⟩ := h.out
 have ha := h.adv
 have hl := ho.len
 have he := ho.endl
 dsimp only at hl he
 have hp : ∀ p ∈ g.Points, nr p = true := fun p hp => by
  have := ho.pts p hp
  unfold sT at this
  unfold nr
  rw [ge (by omega), ge (by omega)]
  rfl
 unfold ii
 rw [if_neg (by omega), if_neg (by omega), if_neg, dN]
 ·have : gx g.Points g.Ends = true := by
   unfold gx
   rw [Bool.and_eq_true, Bool.and_eq_true]
   exact ⟨decide_eq_true (by omega), List.all_eq_true.2 hp, ho.ends⟩
  rw [this]
  rfl
 ·rw [fc fun i p hi => ?_]
  ·simp
  ·have := hp p (Gx hi)
   unfold nr at this
   rw [Bool.and_eq_true] at this
   unfold Em
   exact dN (by simp [this.1, this.2])
theorem fZ.prog {k : Nat} {l : List eb} (h : fZ k l) (hk : k ≤ 200) : lY l = 0 := by
 unfold lY
 rw [dR (by have := h.1; omega) fun i x hi => ?_]
 have := h.2 x (Gx hi)
 unfold ir at this
 unfold yo
 rw [if_neg (by omega), if_neg (by omega)]
theorem zQ.right {cl : Int} (hcl : 0 ≤ cl ∧ cl < 2) {g : bf} (h : zQ cl g.Mark g.Anchors) : ck 16 g.Anchors (kT g) = (0, 0) := by
 have hlen := h.sub.length_le
 simp only [Gu, eS, List.length_cons, List.length_nil] at hlen
 have hnd : (g.Anchors.map jx).Nodup := h.sub.nodup (by simp [eS])
 refine dR (by omega) fun i a hi => ?_
 have ham := Gx hi
 obtain ⟨h1, h2, h3⟩ := h.at' a ham
 have hp : jx a ∈ eS cl := h.sub.subset (List.mem_map_of_mem ham)
 have hpc : (a.Kind, a.Class) = (1, 0) ∨ (a.Kind, a.Class) = (1, 1) ∨ (a.Kind, a.Class) = (3, 0) ∨ (a.Kind, a.Class) = (4, 0) ∨ (a.Kind, a.Class) = (2, cl) := by
  simpa [jx, eS] using hp
 simp only [Prod.mk.injEq] at hpc
 unfold kT
 rw [if_neg]
 rintro (h4 | h4 | h4 | h4 | h4 | ⟨b, hb, h5, h6⟩)
 ·omega
 ·omega
 ·omega
 ·simp [ge (show -16384 ≤ a.X ∧ a.X ≤ 16384 by omega), ge (show -16384 ≤ a.Y ∧ a.Y ≤ 16384 by omega)] at h4
 ·rw [h3 h4.1] at h4
  exact absurd h4.2 (by simp)
 ·obtain ⟨j, hj⟩ := List.mem_iff_getElem?.1 hb
  rw [List.getElem?_take] at hj
  split at hj
  ·rename_i hji
   have e1 : (g.Anchors.map jx)[j]? = some (jx a) := by rw [List.getElem?_map, hj]; simp [jx, h5, h6]
   have e2 : (g.Anchors.map jx)[i]? = some (jx a) := by rw [List.getElem?_map, hi]; rfl
   have := sK hnd e1 e2
   omega
  ·cases hj
theorem zT.right {g : bf} (h : zT f.Regions.length g.Points.length g.Deltas) (hl : g.Deltas.length ≤ 400) : ck 400 g.Deltas (pD f g) = (0, 0) := by
 refine dR (by omega) fun i d hi => ?_
 obtain ⟨h1, h2, h3, h4, h5⟩ := h.dom d (Gx hi)
 unfold pD
 rw [if_neg (by omega), if_neg, if_neg]
 ·cases i with
  | zero => simp
  | succ j =>
   dsimp only
   cases hj : g.Deltas[j]? with
   | none => simp
   | some b =>
    dsimp only
    obtain ⟨k1, k2⟩ := Gn hj
    obtain ⟨k3, k4⟩ := Gn hi
    have := List.pairwise_iff_getElem.1 h.up j (j + 1) k1 k3 (by omega)
    rw [k2, k4] at this
    unfold EG at this
    simp only [decide_eq_true_eq]
    omega
 ·rintro (h6 | h6 | h6)
  ·omega
  ·simp [ge (show -16384 ≤ d.X ∧ d.X ≤ 16384 by omega), ge (show -16384 ≤ d.Y ∧ d.Y ≤ 16384 by omega)] at h6
  ·exact h6.2 (h5 h6.1)
end
variable {f : aJ} (h : eH f)
include h
theorem eH.names : ji f = (List.range f.Glyphs.length).map cE := by
 apply List.ext_getElem?
 intro i
 unfold ji
 rw [List.getElem?_map, List.getElem?_map]
 cases hi : f.Glyphs[i]? with
 | none => rw [List.getElem?_eq_none (by rw [List.length_range]; exact List.getElem?_eq_none_iff.1 hi)]; rfl
 | some g =>
  rw [List.getElem?_range (Gn hi).1]
  simp [(h.gly i g hi).name]
theorem eH.del {i : Nat} {g : bf} (hi : f.Glyphs[i]? = some g) : g.Points.length ≤ 10 ∧ g.Deltas.length ≤ 33 := by
 have hg := h.gly i g hi
 obtain ⟨k, hk, ho⟩ := hg.out
 have h1 := ho.len
 have h2 := hg.dels.len
 have h3 := h.regs
 dsimp only at h1
 refine ⟨by omega, Nat.le_trans h2 ?_⟩
 exact Nat.le_trans (Nat.mul_le_mul h3 (show g.Points.length + 1 ≤ 11 by omega)) (by omega)
theorem eH.glyph {i : Nat} {g : bf} (hi : f.Glyphs[i]? = some g) : dU f i g = 0 := by
 have hg := h.gly i g hi
 have hil := (Gn hi).1
 have hn := h.glyN
 have hd := h.del hi
 have hfa : jH (fM g.Name) (jp (ji f) i g.Name) = 0 := by
  rw [hg.name, (oC i (by omega)).1, h.names, pp]
  ·rfl
  ·refine List.Nodup.sublist ?_ r2
   exact (List.range_sublist.2 hn.2).map _
  ·rw [List.getElem?_map, List.getElem?_range hil]; rfl
 unfold dU
 rw [hfa]
 unfold mF
 rw [dI]
 obtain ⟨cl, hcl, han⟩ := hg.anch
 have hpa : ck 8 g.Parts (kI f) = (0, 0) := by
  rcases hg.parts with e | ⟨h1, x, y, e, hx, hy⟩
  ·rw [e]; exact dR (by simp) fun i x hx => by simp at hx
  ·rw [e]
   refine dR (by simp) fun j p hp => ?_
   cases j with
   | zero =>
    simp at hp
    subst hp
    unfold kI
    rw [if_neg (by rw [r4 (by dsimp only; omega)]; simp)]
    exact dN (by simp [ge (show -16384 ≤ x ∧ x ≤ 16384 by omega), ge (show -16384 ≤ y ∧ y ≤ 16384 by omega)])
   | succ j => simp at hp
 intro x hx
 simp only [List.mem_cons, List.not_mem_nil, or_false] at hx
 rcases hx with rfl | rfl | rfl | rfl | rfl | rfl
 ·rfl
 ·exact hg.shape
 ·rw [hpa]
 ·rw [han.right hcl]
 ·rw [hg.dels.right (by omega)]
 ·exact hg.hint.prog (by omega)
theorem eH.glyphs : ck 400 f.Glyphs (dU f) = (0, 0) := dR (by have := h.glyN; omega) fun _ _ hi => h.glyph hi
theorem eH.prt {z : Int} {p : Int} (hp : p ∈ prt f z) : ∃ g, f.Glyphs[z.toNat]? = some g ∧ p = 1 ∧ 1 < z.toNat ∧ g.Parts.length = 1 := by
 unfold Go.Proofs.YtjjpkibjffmceaaGreat.prt at hp
 cases hg : f.Glyphs[z.toNat]? with
 | none => rw [hg] at hp; cases hp
 | some g =>
  rw [hg] at hp
  have hp := (List.mem_filter.1 hp).1
  rcases (h.gly _ g hg).parts with e | ⟨h1, x, y, e, _⟩
  ·rw [e] at hp; cases hp
  ·rw [e] at hp
   exact ⟨g, rfl, by simpa using hp, h1, by rw [e]; rfl⟩
def jZ (f : aJ) (z : Int) : Nat := match f.Glyphs[z.toNat]? with | some g => g.Parts.length | none => 0
def mN (f : aJ) (z : Int) : Nat := match f.Glyphs[z.toNat]? with | some g => g.Points.length | none => 0
theorem eH.one : jZ f 1 = 0 := by
 unfold jZ
 cases hg : f.Glyphs[(1 : Int).toNat]? with
 | none => rfl
 | some g =>
  dsimp only
  rcases (h.gly _ g hg).parts with e | ⟨h1, _⟩
  ·rw [e]; rfl
  ·exact absurd h1 (by decide)
theorem eH.acyc : jA f.Glyphs.length (Go.Proofs.YtjjpkibjffmceaaGreat.prt f) := by
 refine ⟨jZ f, fun z h0 h1 p hp => ?_⟩
 obtain ⟨g, hg, rfl, _, h2⟩ := h.prt hp
 rw [h.one]
 unfold jZ
 rw [hg]
 dsimp only
 omega
theorem eH.points (z : Int) : mN f z ≤ 10 := by
 unfold mN
 cases hg : f.Glyphs[z.toNat]? with
 | none => exact Nat.zero_le _
 | some g => exact (h.del hg).1
theorem eH.comp : lC f = (0, 0) := by
 have hall : (ck 400 f.Glyphs (dU f)).1 = 0 := by rw [h.glyphs]
 have hd : iW f (fun z => (jZ f z : Int)) (fun z => (mN f z + (if jZ f z = 0 then 0 else mN f 1) : Nat)) := by
  intro z h0 h1 gl hg
  have hone := h.one
  have hp1 := h.points 1
  have hpz := h.points z
  have e1 : jZ f z = gl.Parts.length := by unfold jZ; rw [hg]
  have e2 : mN f z = gl.Points.length := by unfold mN; rw [hg]
  rcases (h.gly _ gl hg).parts with e | ⟨_, x, y, e, _⟩
  ·rw [e] at e1
   dsimp only
   rw [e1, e2, e]
   exact ⟨rfl, rfl⟩
  ·rw [e] at e1
   have e1 : jZ f z = 1 := e1
   dsimp only
   rw [e1, e2, e]
   simp only [dF, pF, List.foldl_cons, List.foldl_nil, hone]
   refine ⟨by decide, ?_⟩
   simp
   omega
 rw [oh (iy hall) h.acyc hd]
 unfold nc
 refine oz fun x hx => ?_
 simp only [List.mem_cons, List.not_mem_nil, or_false] at hx
 rcases hx with rfl | rfl
 ·rw [fc fun i n hn => ?_]
  obtain ⟨z, hz, rfl⟩ := List.mem_map.1 (Gx hn)
  unfold ou
  refine dN (decide_eq_false ?_)
  have : jZ f z ≤ 1 := by
   unfold jZ
   split
   ·rename_i g hg
    rcases (h.gly _ g hg).parts with e | ⟨_, x, y, e, _⟩
    ·rw [e]; simp
    ·rw [e]; simp
   ·omega
  omega
 ·rw [fc fun i n hn => ?_]
  obtain ⟨z, hz, rfl⟩ := List.mem_map.1 (Gx hn)
  unfold oO
  refine dN (decide_eq_false ?_)
  have h1 := h.points z
  have h2 := h.points 1
  split <;> omega
omit h in
theorem qG.right {n : Int} (hn : n = f.Glyphs.length) {l : List Int} (h : qG n l) : l5 f l = true := by
 have hpos := List.length_pos_iff.2 h.ne
 have hat : ∀ i, i < l.length → jS f (l.getD i 0) = true := fun i hi => r4 (by rw [← hn]; exact h.dom _ (sn hi 0))
 unfold l5
 rw [Bool.and_eq_true, Bool.and_eq_true, Bool.and_eq_true]
 refine ⟨decide_eq_true hpos, decide_eq_true fun i hi => ?_, hat 0 hpos, hat _ (by omega)⟩
 have := List.pairwise_iff_getElem.1 h.up i (i + 1) (by omega) (by omega) (by omega)
 rw [List.getD_eq_getElem?_getD, List.getD_eq_getElem?_getD, Ds (show i < l.length by omega), Ds (show i + 1 < l.length by omega)]
 exact this
omit h in
theorem lq.right {kind : Int} {calls : List Int} {r : bV} (h : lq f.Glyphs.length kind calls r) (hc : ∀ c ∈ calls, ∃ (i : Nat) (x : b9), c = i ∧ f.Lookups[i]? = some x ∧ 1 ≤ x.Kind ∧ x.Kind ≤ 4) : iS f kind r = 0 := by
 unfold iS
 rw [dI]
 intro x hx
 simp only [List.mem_cons, List.not_mem_nil, or_false] at hx
 rcases hx with rfl | rfl | rfl | rfl | rfl | rfl | rfl
 ·have h1 := h.back.1
  have h2 := h.ahead.1
  have h3 := h.ins.1
  show kJ kind r = 0
  unfold kJ
  rw [if_neg (by omega)]
  exact dN h.rows
 ·rw [fc fun i q hq => ?_]
  have hq := Gx hq
  have hs : qG f.Glyphs.length q := by
   rcases Gl hq with hq | hq
   ·exact h.back.2 q hq
   ·rcases Gl hq with hq | hq
    ·exact h.ins.2 q hq
    ·exact h.ahead.2 q hq
  exact dN (by rw [hs.right rfl]; rfl)
 ·exact dN (by rw [h.out]; rfl)
 ·rw [fc fun i q hq => ?_]
  exact dN (by rw [r4 (h.outs.2 q (Gx hq))]; rfl)
 ·show jG f kind r = 0
  have h1 := h.callsN
  unfold jG
  rw [if_neg (by omega), if_neg, fc fun i c hi => ?_]
  ·have hcm := Gx hi
   obtain ⟨h2, h3⟩ := h.callsIn c hcm
   obtain ⟨j, x, h4, h5, h6, h7⟩ := hc _ h3
   have hj := (Gn h5).1
   unfold rZ
   rw [if_neg (by omega), if_neg (by omega)]
   refine dN (decide_eq_false ?_)
   unfold oH
   rw [h4, show ((j : Int)).toNat = j by omega, h5]
   dsimp only
   omega
  ·rintro ⟨h2, h3⟩
   rw [h.callsK h3] at h2
   simp at h2
 ·have := h.x
  exact dN (by simp [ge (show -16384 ≤ r.X ∧ r.X ≤ 16384 by omega)])
 ·exact dN (decide_eq_false fun hh => hh.1 (h.x0 hh.2))
theorem eH.lookups : ck 40 f.Lookups (kr f) = (0, 0) := by
 have hl := h.looks
 refine dR (by have := hl.len; omega) fun i l hi => ?_
 have hm := Gx hi
 have hk := hl.kinds l hm
 unfold kr ku
 rw [if_neg (by omega), dI]
 intro x hx
 simp only [List.mem_cons, List.not_mem_nil, or_false] at hx
 rcases hx with rfl | rfl | rfl
 ·exact dN (decide_eq_false (by have := hl.few l hm; omega))
 ·show o4 l = 0
  unfold o4
  by_cases h7 : 7 ≤ l.Kind
  ·rw [hl.none l hm h7]; exact dN (by simp)
  ·exact dN (by simp; omega)
 ·rw [fc fun j r hr => ?_]
  obtain ⟨calls, h1, h2⟩ := hl.rule l hm r (Gx hr)
  refine h1.right fun c hc => ?_
  obtain ⟨i, x, h3, h4, h5⟩ := h2 c hc
  exact ⟨i, x, h3, h4, (hl.kinds x (Gx h4)).1, h5⟩
omit h in
theorem jV : ∀ s ∈ dW, f6 s = true ∧ s.size ≤ 8 := by decide
omit h in
theorem sJ : dW.Nodup := by decide
theorem eH.features : ck 20 f.Features (jb f) = (0, 0) := by
 have hlen := h.featN.length_le
 simp only [Gu, dW, List.length_cons, List.length_nil] at hlen
 refine dR (by omega) fun i t hi => ?_
 have hm := Gx hi
 obtain ⟨h1, h2, h3⟩ := h.featL t hm
 have hn : t.Name ∈ dW := h.featN.subset (List.mem_map_of_mem hm)
 have hfa : jH (f6 t.Name) (jp (k7 f) i t.Name) = 0 := by
  rw [(jV _ hn).1, show jp (k7 f) i t.Name = false from pp (h.featN.nodup sJ) (by rw [List.getElem?_map, hi]; rfl)]
  rfl
 unfold jb
 rw [hfa]
 unfold sg
 rw [if_neg (by simp), fc fun j z hj => ?_]
 have hz := h3 z (Gx hj)
 refine dN ?_
 rw [Bool.or_eq_false_iff]
 refine ⟨decide_eq_false (by omega), ?_⟩
 unfold sx
 cases j with
 | zero => rfl
 | succ j =>
  dsimp only
  cases hb : t.Lookups[j]? with
  | none => rfl
  | some b =>
   dsimp only
   obtain ⟨k1, k2⟩ := Gn hb
   obtain ⟨k3, k4⟩ := Gn hj
   have := List.pairwise_iff_getElem.1 h1 j (j + 1) k1 k3 (by omega)
   rw [k2, k4] at this
   exact decide_eq_false (by omega)
omit h in
theorem od : ((List.range 2).map (i7 qM)).Nodup ∧ ∀ n < 2, fM (i7 qM n) = true := by decide
theorem eH.axesR : ck 3 f.Axes (j7 f) = (0, 0) := by
 have hlen := h.axes
 refine dR (by omega) fun i a hi => ?_
 have hil := (Gn hi).1
 obtain ⟨h1, h2, h3, h4⟩ := h.axis a (Gx hi)
 have hn : (gW f)[i]? = some a.Name := by unfold gW; rw [List.getElem?_map, hi]; rfl
 have hn2 : a.Name = i7 qM i := by
  have := hn
  unfold gW at this
  rw [h.axisN, List.getElem?_map, List.getElem?_range hil] at this
  exact (Option.some.inj this).symm
 have hfa : jH (fM a.Name) (jp (gW f) i a.Name) = 0 := by
  rw [pp ?_ hn, hn2, od.2 i (by omega)]
  ·rfl
  ·unfold gW
   rw [h.axisN]
   refine List.Nodup.sublist ?_ od.1
   exact (List.range_sublist.2 hlen).map _
 unfold j7
 rw [hfa]
 unfold rU
 rw [if_neg (by simp)]
 refine dN ?_
 have : [a.Min, a.Def, a.Max].all fN = true := by
  simp [ge (show -16384 ≤ a.Min ∧ a.Min ≤ 16384 by omega), ge (show -16384 ≤ a.Def ∧ a.Def ≤ 16384 by omega), ge (show -16384 ≤ a.Max ∧ a.Max ≤ 16384 by omega)]
 rw [decide_eq_true (⟨this, by omega, by omega⟩ : _ ∧ _ ∧ _)]
 rfl
theorem eH.regions : ck 16 f.Regions (mP f) = (0, 0) := by
 refine dR (by have := h.regs; omega) fun i r hi => ?_
 obtain ⟨h1, h2⟩ := h.reg r (Gx hi)
 unfold mP wT
 rw [if_neg (by omega), fc fun j t ht => ?_]
 exact h2 t (Gx ht)
omit h in
theorem pa : eR.Pairwise (· < ·) ∧ ∀ z ∈ eR, 0 ≤ z ∧ z ≤ 1114111 := by decide
theorem eH.charsR : ck 1000 f.Chars (gN f) = (0, 0) := by
 refine dR (by have := h.chars; omega) fun i c hi => ?_
 have hm := Gx hi
 have hr := pa.2 _ (h.charR.subset (List.mem_map_of_mem hm))
 unfold gN s6
 rw [if_neg (by omega), if_neg (by rw [r4 (h.charG c hm)]; simp)]
 refine dN ?_
 unfold vd
 cases i with
 | zero => rfl
 | succ j =>
  dsimp only
  cases hb : f.Chars[j]? with
  | none => rfl
  | some b =>
   dsimp only
   have hp := List.Pairwise.sublist h.charR pa.1
   rw [List.pairwise_map] at hp
   obtain ⟨k1, k2⟩ := Gn hb
   obtain ⟨k3, k4⟩ := Gn hi
   have := List.pairwise_iff_getElem.1 hp j (j + 1) k1 k3 (by omega)
   rw [k2, k4] at this
   exact decide_eq_false (by omega)
theorem eH.right : (kE f).1 = 0 := by
 have hu := h.unit
 have hn := h.glyN
 unfold kE
 rw [dI]
 intro x hx
 simp only [yh, List.mem_cons, List.not_mem_nil, or_false] at hx
 rcases hx with rfl | rfl | rfl | rfl | rfl | rfl | rfl | rfl | rfl | rfl
 ·show lJ f = 0
  unfold lJ
  rw [if_neg (by omega), if_neg (by omega)]
 ·rw [h.glyphs]
 ·rw [h.comp]
 ·rw [h.charsR]
 ·rw [h.lookups]
 ·rw [h.features]
 ·rw [h.axesR]
 ·rw [h.regions]
 ·rw [dR (by have := h.funcs; omega) fun i c hi => ?_]
  exact (h.func c (Gx hi)).prog (by omega)
 ·rw [dR (by have := h.cvt; omega) fun i z hi => ?_]
  have := h.cvtM z (Gx hi)
  exact dN (by simp [ge (show -16384 ≤ z ∧ z ≤ 16384 by omega)])
omit h in
theorem eB.sets {n : Int} {k : Nat} {l : List (List Int)} (h : eB n k l) : pe l ≤ k * 5 := by
 unfold pe
 refine Nat.le_trans (lf (k := 5) fun q hq => ?_) (Nat.mul_le_mul_right _ h.1)
 have := (h.2 q hq).few
 omega
theorem eH.size : kF f ≤ 1950 := by
 have hg : (f.Glyphs.map mG).sum ≤ 10 * 95 := by
  refine Nat.le_trans (lf (k := 95) fun g hg => ?_) (Nat.mul_le_mul_right _ h.glyN.2)
  obtain ⟨i, hi⟩ := List.mem_iff_getElem?.1 hg
  have h1 := h.del hi
  have h2 := h.gly i g hi
  have h3 := h2.hint.1
  have h4 : g.Parts.length ≤ 1 := by
   rcases h2.parts with e | ⟨_, x, y, e, _⟩
   ·rw [e]; simp
   ·rw [e]; simp
  obtain ⟨cl, _, han⟩ := h2.anch
  have h5 := han.sub.length_le
  simp only [Gu, eS, List.length_cons, List.length_nil] at h5
  have h6 : g.Name.size ≤ 16 := by rw [h2.name]; exact (oC i (by have := (Gn hi).1; have := h.glyN; omega)).2
  unfold mG
  omega
 have hl : (f.Lookups.map fun l => l9 l.Rules).sum ≤ 6 * 126 := by
  refine Nat.le_trans (lf (k := 126) fun l hl => ?_) (Nat.mul_le_mul_right _ h.looks.len)
  have h1 := h.looks.few l hl
  have : (l.Rules.map nu).sum ≤ 3 * 41 := by
   refine Nat.le_trans (lf (k := 41) fun r hr => ?_) (Nat.mul_le_mul_right _ h1)
   obtain ⟨calls, h2, _⟩ := h.looks.rule l hl r hr
   have h3 := h2.back.sets
   have h4 := h2.ahead.sets
   have h5 := h2.ins.sets
   have h6 := h2.outs.1
   have h7 := h2.callsN
   unfold nu
   omega
  unfold l9
  omega
 have hf : (f.Funcs.map (·.length)).sum ≤ 2 * 45 := Nat.le_trans (lf (k := 45) fun c hc => (h.func c hc).1) (Nat.mul_le_mul_right _ h.funcs)
 have hfl := h.featN.length_le
 simp only [Gu, dW, List.length_cons, List.length_nil] at hfl
 have ht : (f.Features.map Go.Proofs.YtjjpkibjffmceaaGreat.featN).sum ≤ 8 * 6 := by
  refine Nat.le_trans (lf (k := 6) fun t ht => ?_) (Nat.mul_le_mul_right _ hfl)
  have h1 := (h.featL t ht).2.1
  have h2 := (jV _ (h.featN.subset (List.mem_map_of_mem ht))).2
  unfold Go.Proofs.YtjjpkibjffmceaaGreat.featN
  omega
 have hr : (f.Regions.map (·.length)).sum ≤ 3 * 2 := Nat.le_trans (lf (k := 2) fun r hr => by rw [(h.reg r hr).1]; exact h.axes) (Nat.mul_le_mul_right _ h.regs)
 have := h.glyN
 have := h.chars
 have := h.looks.len
 have := h.axes
 have := h.regs
 have := h.funcs
 have := h.cvt
 unfold kF
 omega
theorem eH.small : dZ f := Nat.le_trans h.size (by decide)
end Go.Proofs.YtjjpkibjffmceaaGreat
namespace Go.Proofs.YtjjpkibjffmceaaGreat
open Go.RowKit
attribute [local irreducible] AT bT AX AO Av Kt bk ej DA cX
theorem ky {l : List Int} {z n : Int} (hl : l.length ≤ 1000) (h : ec l z = some n) : NB n := by
 unfold ec at h
 split at h
 ·rename_i hz
  cases h
  have := List.idxOf_lt_length_of_mem hz
  exact ⟨by omega, by omega⟩
 ·cases h
theorem qG.rpr {n : Int} {l : List Int} (h : qG n l) (hn : n ≤ 1000) : zO l := ⟨by have := h.few; omega, fun z hz => by have := h.dom z hz; exact ⟨by omega, by omega⟩⟩
theorem eB.rspr {n : Int} {k : Nat} {l : List (List Int)} (h : eB n k l) (hn : n ≤ 1000) (hk : k ≤ 16) : qF l := ⟨by have := h.1; omega, fun q hq => (h.2 q hq).rpr hn⟩
theorem lq.rupr {n kind : Int} {calls : List Int} {r : bV} (h : lq n kind calls r) (hn : n ≤ 1000) (hc : ∀ c ∈ calls, NB c) : vH r where
 back := h.back.rspr hn (by omega)
 ins := h.ins.rspr hn (by omega)
 ahead := h.ahead.rspr hn (by omega)
 out := ⟨by have := h.outs.1; omega, fun z hz => by have := h.outs.2 z hz; exact ⟨by omega, by omega⟩⟩
 calls := ⟨by have := h.callsN; omega, fun c hcm => ⟨by have := (h.callsIn c hcm).1; have := h.ins.1; exact ⟨by omega, by omega⟩, hc _ (h.callsIn c hcm).2⟩⟩
 x := by have := h.x; exact ⟨by omega, by omega⟩
theorem fZ.cpr {k : Nat} {l : List eb} (h : fZ k l) (hk : k ≤ 50) : Dr l := ⟨by have := h.1; omega, fun x hx => by
 have := h.2 x hx
 unfold ir at this
 exact ⟨⟨by omega, by omega⟩, ⟨by omega, by omega⟩⟩⟩
theorem ub {n : Nat} (h : n < 10) : (cE n).size ≤ 50 := by have := (oC n h).2; omega
theorem rV : ∀ n < 2, (i7 qM n).size ≤ 50 := by decide
theorem q9 (n : Int) (hn : n ≤ 1000) : ∀ (l : List Int) (last : Int), -1 ≤ last → f3 n last l = true → ∀ z ∈ l, NB z
 | [], _, _, _, z, hz => by cases hz
 | e :: r, last, hl, h, z, hz => by
  rw [f3] at h
  split at h
  ·cases h
  ·rename_i hc
   rcases List.mem_cons.1 hz with rfl | hz
   ·exact ⟨by omega, by omega⟩
   ·exact q9 n hn r e (by omega) h z hz
section
variable {f : aJ} (h : eH f)
include h
theorem eH.gpr {g : bf} (hg : g ∈ f.Glyphs) : rE g := by
 obtain ⟨i, hi⟩ := List.mem_iff_getElem?.1 hg
 have k := h.gly i g hi
 have hd := h.del hi
 have hN := h.glyN
 have hil : i < f.Glyphs.length := (Gn hi).1
 obtain ⟨c, hc, ho⟩ := k.out
 obtain ⟨cl, hcl, ha⟩ := k.anch
 refine ⟨by rw [k.name]; exact ub (by omega), by have := k.adv; exact ⟨by omega, by omega⟩, ⟨by omega, fun p hp => ?_⟩, ?_, ?_, ⟨?_, fun p hp => ?_⟩, ⟨by omega, fun p hp => ?_⟩, k.hint.cpr (by omega)⟩
 ·have := ho.pts p hp
  unfold sT at this
  exact ⟨⟨by omega, by omega⟩, ⟨by omega, by omega⟩⟩
 ·have he := ho.endl
  dsimp only at he
  have hk := q9 (g.Points.length) (by omega) g.Ends (-1) (by omega) ho.ends
  exact ⟨by omega, hk⟩
 ·rcases k.parts with e | ⟨_, x, y, e, hx, hy⟩
  ·rw [e]; exact ⟨Nat.zero_le _, fun p hp => by cases hp⟩
  ·rw [e]
   exact ⟨by simp, fun p hp => by rw [Gk hp]; exact ⟨⟨by dsimp only; omega, by dsimp only; omega⟩, ⟨by dsimp only; omega, by dsimp only; omega⟩, ⟨by dsimp only; omega, by dsimp only; omega⟩⟩⟩
 ·have := ha.sub.length_le
  simp [eS] at this
  omega
 ·have hp' := ha.at' p hp
  have hm : jx p ∈ eS cl := ha.sub.subset (List.mem_map_of_mem hp)
  have hb : ∀ q ∈ eS cl, (0 ≤ q.1 ∧ q.1 ≤ 4) ∧ 0 ≤ q.2 ∧ q.2 ≤ 1 := by
   intro q hq
   simp only [eS, List.mem_cons, List.not_mem_nil, or_false] at hq
   rcases hq with rfl | rfl | rfl | rfl | rfl <;> simp <;> omega
  have := hb _ hm
  unfold jx at this
  dsimp only at this
  exact ⟨⟨by omega, by omega⟩, ⟨by omega, by omega⟩, ⟨by omega, by omega⟩, ⟨by omega, by omega⟩⟩
 ·have := k.dels.dom p hp
  have := h.regs
  exact ⟨⟨by omega, by omega⟩, ⟨by omega, by omega⟩, ⟨by omega, by omega⟩, ⟨by omega, by omega⟩⟩
theorem eH.fpr : zN f := by
 have hN := h.glyN
 refine ⟨by have := h.unit; exact ⟨by omega, by omega⟩, ⟨by omega, fun g hg => h.gpr hg⟩, ⟨by have := h.chars; omega, fun c hc => ⟨?_, by have := h.charG c hc; exact ⟨by omega, by omega⟩⟩⟩, ⟨by have := h.looks.len; omega, fun l hl => ⟨by have := h.looks.kinds l hl; exact ⟨by omega, by omega⟩, by have := h.looks.few l hl; omega, fun r hr => ?_⟩⟩, ⟨?_, fun t ht => ⟨?_, ?_⟩⟩, ⟨by have := h.axes; omega, fun a ha => ⟨?_, ?_⟩⟩, ⟨by have := h.regs; omega, fun r hr => ⟨by have := (h.reg r hr).1; have := h.axes; omega, fun t ht => ?_⟩⟩, ⟨by have := h.funcs; omega, fun c hc => (h.func c hc).cpr (by omega)⟩, ⟨by have := h.cvt; omega, fun z hz => by have := h.cvtM z hz; exact ⟨by omega, by omega⟩⟩⟩
 ·have := pa.2 _ (h.charR.subset (List.mem_map_of_mem hc))
  exact ⟨by omega, by omega⟩
 ·obtain ⟨calls, hr', hc⟩ := h.looks.rule l hl r hr
  refine hr'.rupr (by omega) fun c hcm => ?_
  obtain ⟨i, x, rfl, hx, _⟩ := hc c hcm
  have := (Gn hx).1
  have := h.looks.len
  exact ⟨by omega, by omega⟩
 ·have := h.featN.length_le
  simp [dW] at this
  omega
 ·have := (jV _ (h.featN.subset (List.mem_map_of_mem ht))).2
  omega
 ·obtain ⟨_, h2, h3⟩ := h.featL t ht
  exact ⟨by omega, fun z hz => by have := h3 z hz; have := h.looks.len; exact ⟨by omega, by omega⟩⟩
 ·have hm : a.Name ∈ f.Axes.map dY.Name := List.mem_map_of_mem ha
  rw [h.axisN] at hm
  obtain ⟨i, hi, e⟩ := List.mem_map.1 hm
  rw [← e]
  exact rV i (by have := h.axes; have := List.mem_range.1 hi; omega)
 ·obtain ⟨h1, h2, h3⟩ := h.axis a ha
  exact ⟨⟨by omega, by omega⟩, ⟨by omega, by omega⟩, ⟨by omega, by omega⟩⟩
 ·have ht' := (h.reg r hr).2 t ht
  unfold lh pq dX at ht'
  have : -64 ≤ t.Start ∧ t.Start ≤ t.Peak ∧ t.Peak ≤ t.End ∧ t.End ≤ 64 := by
   by_cases hc : -64 ≤ t.Start ∧ t.Start ≤ t.Peak ∧ t.Peak ≤ t.End ∧ t.End ≤ 64
   ·exact hc
   ·rw [decide_eq_true (.inl hc)] at ht'
    cases ht'
  exact ⟨⟨by omega, by omega⟩, ⟨by omega, by omega⟩, ⟨by omega, by omega⟩⟩
end
theorem jL {α β : Type} {w : α → Option β} {l : List α} {y : β} (h : y ∈ l.filterMap w) : ∃ x ∈ l, w x = some y := List.mem_filterMap.1 h
theorem tY {l G : List Int} {w : Int → Option Int} (hl : l.length ≤ 16) (hw : ∀ z n, w z = some n → NB n) : zO (l.filterMap w) := ⟨Nat.le_trans (List.length_filterMap_le ..) hl, fun z hz => by
 obtain ⟨x, _, hx⟩ := jL hz
 exact hw x z hx⟩
theorem sa {f : aJ} {G : List Int} {ig : Bool} {z n : Int} (h : dL f G ig z = some n) : ec G z = some n := by
 unfold dL at h
 split at h
 ·cases h
 ·exact h
theorem kV {f : aJ} {G : List Int} {ig : Bool} {l : List (List Int)} (h : qF l) (hG : G.length ≤ 1000) : qF (cR f G ig l) := ⟨by unfold cR; rw [Gu]; exact h.1, fun q hq => by
 obtain ⟨s, hs, rfl⟩ := List.mem_map.1 hq
 exact tY (G := G) (h.2 s hs).1 fun z n hz => ky hG (sa hz)⟩
theorem tQ {f : aJ} {G K : List Int} {l : b9} {r q : bV} (hr : vH r) (hG : G.length ≤ 1000) (hK : K.length ≤ 1000) (h : fI f G K l r = some q) : vH q := by
 unfold fI at h
 split at h
 ·cases h
 ·cases h
  refine ⟨kV hr.back hG, kV hr.ins hG, kV hr.ahead hG, tY (G := G) ?_ fun z n hz => ky hG hz, ⟨Nat.le_trans (List.length_filterMap_le ..) hr.calls.1, fun c hc => ?_⟩, hr.x⟩
  ·unfold fq
   split
   ·rw [Gu]
    refine Nat.le_trans (List.length_filter_le ..) ?_
    rw [List.length_zip]
    have := hr.out.1
    omega
   ·exact hr.out.1
  ·obtain ⟨x, hx, e⟩ := jL hc
   unfold ki at e
   obtain ⟨n, hn, rfl⟩ := Option.map_eq_some_iff.1 e
   exact ⟨(hr.calls.2 x hx).1, ky hK hn⟩
theorem Ap {f : aJ} {rs : List Int} {fs : List ByteArray} {G K : List Int} (h : zN f) (hG : G.length ≤ f.Glyphs.length) (hK : K.length ≤ f.Lookups.length) : zN (pC f rs fs G K) := by
 have hg := h.glyphs.1
 have hl := h.looks.1
 refine ⟨h.unit, ⟨Nat.le_trans (List.length_filterMap_le ..) (by omega), fun g hgm => ?_⟩, ⟨Nat.le_trans (List.length_filterMap_le ..) h.chars.1, fun c hc => ?_⟩, ⟨Nat.le_trans (List.length_filterMap_le ..) (by omega), fun l hlm => ?_⟩, ⟨Nat.le_trans (List.length_filterMap_le ..) h.feats.1, fun t ht => ?_⟩, h.axes, h.regs, h.funcs, h.cvt⟩
 ·obtain ⟨n, _, e⟩ := jL hgm
  obtain ⟨x, hx, rfl⟩ := Option.map_eq_some_iff.1 e
  have k := h.glyphs.2 x (Gx hx)
  refine ⟨k.name, k.adv, k.pts, k.ends, ⟨Nat.le_trans (List.length_filterMap_le ..) k.parts.1, fun p hp => ?_⟩, k.anchors, k.deltas, k.hint⟩
  obtain ⟨y, hy, e⟩ := jL hp
  unfold iq at e
  obtain ⟨n, hn, rfl⟩ := Option.map_eq_some_iff.1 e
  have := k.parts.2 y hy
  exact ⟨ky (by omega) hn, this.2⟩
 ·obtain ⟨y, hy, e⟩ := jL hc
  unfold dG at e
  split at e
  ·obtain ⟨n, hn, rfl⟩ := Option.map_eq_some_iff.1 e
   exact ⟨(h.chars.2 y hy).1, ky (by omega) hn⟩
  ·cases e
 ·obtain ⟨n, _, e⟩ := jL hlm
  obtain ⟨x, hx, rfl⟩ := Option.map_eq_some_iff.1 e
  have k := h.looks.2 x (Gx hx)
  refine ⟨k.kind, Nat.le_trans (List.length_filterMap_le ..) k.rules.1, fun r hr => ?_⟩
  obtain ⟨y, hy, e⟩ := jL hr
  exact tQ (k.rules.2 y hy) (by omega) (by omega) e
 ·obtain ⟨y, hy, e⟩ := jL ht
  unfold g7 at e
  split at e
  ·cases e
   have k := h.feats.2 y hy
   exact ⟨k.1, tY (G := K) k.2.1 fun z n hz => ky (by omega) hz⟩
  ·cases e
end Go.Proofs.YtjjpkibjffmceaaGreat
namespace Go.Proofs.YtjjpkibjffmceaaGreat
open Go.RowKit
attribute [local irreducible] AT bT AX AO Av Kt bk ej DA cX
variable (s : List Int) (hs : s.length ≤ 1000000) (F : MF)
include hs
theorem cf (a : Nat) {n : Int} (hn : 0 < n) : 0 ≤ qU s a n ∧ qU s a n < n := by
 have _ := hs
 clear hs
 unfold qU
 split
 ·rename_i x _
  exact ⟨Int.emod_nonneg x (by omega), Int.emod_lt_of_pos x hn⟩
 ·omega
def Ei (o : List ei × List Int) : AV := .agg [.imm 3 (o.1.map cP), .imm 1 (aU o.2)]
def iJ (l : List eb) : AV := .imm 2 (l.map dH)
set_option maxHeartbeats 8000000 in
theorem ux (n fn : Int) (hn : 0 ≤ n ∧ n ≤ 10000) (hf : fn ≤ 10000) : pz 95 [aM n, aM fn] s F (cG s n fn) iJ := by
 intro b m
 refine aP Tryz.func95 rfl Tryz.ntmps95 rfl fun B => ?_
 repeat' (first|refine ah ?_|refine a7 ?_|refine a8 ?_|refine aa ?_|refine ae a6 rfl rfl ?_|(apply aW; refine aV ?_)|fail)
 refine cD ?_
 repeat' (first|refine ah ?_|refine a7 ?_|refine a8 ?_|refine aa ?_|refine ae a6 rfl rfl ?_|(apply aW; refine aV ?_)|fail)
 refine cD ?_
 repeat' (first|refine ah ?_|refine a7 ?_|refine a8 ?_|refine aa ?_|refine ae a6 rfl rfl ?_)
 refine cD ?_
 repeat' (first|refine ah ?_|refine a7 ?_|refine a8 ?_|refine aa ?_|refine ae a6 rfl rfl ?_)
 refine cD ?_
 generalize e1 : dr s (n + 1) m = p1
 generalize e2 : dr s (n + 1) p1.2 = p2
 generalize e3 : dr s 2 p2.2 = p3
 have hk := cf s hs p3.2.a (n := 12) (by omega)
 have hk : 0 ≤ (dr s 12 p3.2).1 ∧ (dr s 12 p3.2).1 < 12 := hk
 generalize e4 : dr s 12 p3.2 = p4 at hk ⊢
 repeat' (first|refine ah ?_|refine a7 ?_|refine aq ?_|refine a8 ?_|refine aa ?_|refine ae a6 rfl rfl ?_)
 refine aw rfl (fun h => ?_) (fun h => ?_)
 ·have h := Gz h
  repeat' (first|refine ah ?_|refine a7 ?_|refine ar ?_|refine a8 ?_|refine aF ?_|refine aT ?_|refine aa ?_|refine ae a6 rfl rfl ?_|refine bz a6 ?_|fail)
  exact aA rfl rfl ⟨by simp [cG, c9, cA, e1, e2, e3, e4, iJ, dH, h], by simp [cG, c9, cA, e1, e2, e3, e4, h]⟩
 have h0 := Gy h
 clear h
 repeat' (first|refine ah ?_|refine a7 ?_|refine a8 ?_|refine aa ?_|refine ae a6 rfl rfl ?_)
 refine aw rfl (fun h => ?_) (fun h => ?_)
 ·have h := Gz h
  repeat' (first|refine ah ?_|refine a7 ?_|refine ae a6 rfl rfl ?_)
  refine cD ?_
  repeat' (first|refine ar ?_|refine a8 ?_|refine aF ?_|refine aT ?_|refine aa ?_|refine ae a6 rfl rfl ?_|refine bz a6 ?_|fail)
  exact aA rfl rfl ⟨by simp [cG, c9, cA, e1, e2, e3, e4, iJ, dH, h], by simp [cG, c9, cA, e1, e2, e3, e4, h]⟩
 have h1 := Gy h
 clear h
 repeat' (first|refine ah ?_|refine a7 ?_|refine a8 ?_|refine aa ?_|refine ae a6 rfl rfl ?_)
 refine aw rfl (fun h => ?_) (fun h => ?_)
 ·have h := Gz h
  rw [decide_eq_true h]
  repeat' (first|refine ah ?_|refine a7 ?_|refine au ?_|refine ar ?_|refine a8 ?_|refine aF ?_|refine aT ?_|refine aa ?_|refine ae a6 rfl rfl ?_|refine bz a6 ?_|refine bQ rfl ?_)
  exact aA rfl rfl ⟨by simp [cG, c9, cA, e1, e2, e3, e4, iJ, dH, h], by simp [cG, c9, cA, e1, e2, e3, e4, h]⟩
 have h2 := Gy h
 clear h
 repeat' (first|refine a7 ?_|refine a8 ?_|refine aa ?_|refine ae a6 rfl rfl ?_)
 refine aw rfl (fun h => ?_) (fun h => ?_)
 ·have h := Gz h
  repeat' (first|refine ah ?_|refine a7 ?_|refine ar ?_|refine a8 ?_|refine aF ?_|refine aT ?_|refine aa ?_|refine ae a6 rfl rfl ?_|refine bz a6 ?_|fail)
  exact aA rfl rfl ⟨by simp [cG, c9, cA, e1, e2, e3, e4, iJ, dH, h], by simp [cG, c9, cA, e1, e2, e3, e4, h]⟩
 have h3 := Gy h
 clear h
 repeat' (first|refine ah ?_|refine a7 ?_|refine a8 ?_|refine aa ?_|refine ae a6 rfl rfl ?_)
 refine aw rfl (fun h => ?_) (fun h => ?_)
 ·have h := Gz h
  repeat' (first|refine ah ?_|refine a7 ?_|refine ae a6 rfl rfl ?_)
  refine cD ?_
  have hz := cf s hs p4.2.a (n := 200) (by omega)
  have hz : 0 ≤ (dr s 200 p4.2).1 ∧ (dr s 200 p4.2).1 < 200 := hz
  repeat' (first|refine ar ?_|refine a8 ?_|refine aF ?_|refine aT ?_|refine aa ?_|refine ae a6 rfl rfl ?_|(apply aW; refine aV ?_)|refine bz a6 ?_|fail)
  exact aA rfl rfl ⟨by simp [cG, c9, cA, e1, e2, e3, e4, iJ, dH, h], by simp [cG, c9, cA, e1, e2, e3, e4, h]⟩
 have h4 := Gy h
 clear h
 repeat' (first|refine ah ?_|refine a7 ?_|refine a8 ?_|refine aa ?_|refine ae a6 rfl rfl ?_)
 refine aw rfl (fun h => ?_) (fun h => ?_)
 ·have h := Gz h
  repeat' (first|refine ah ?_|refine a7 ?_|refine ar ?_|refine a8 ?_|refine aF ?_|refine aT ?_|refine aa ?_|refine ae a6 rfl rfl ?_|refine bz a6 ?_|fail)
  exact aA rfl rfl ⟨by simp [cG, c9, cA, e1, e2, e3, e4, iJ, dH, h], by simp [cG, c9, cA, e1, e2, e3, e4, h]⟩
 have h5 := Gy h
 clear h
 repeat' (first|refine ah ?_|refine a7 ?_|refine a8 ?_|refine aa ?_|refine ae a6 rfl rfl ?_)
 refine aw rfl (fun h => ?_) (fun h => ?_)
 ·have h := Gz h
  repeat' (first|refine ah ?_|refine a7 ?_|refine ar ?_|refine a8 ?_|refine aF ?_|refine aT ?_|refine aa ?_|refine ae a6 rfl rfl ?_|refine bz a6 ?_|fail)
  exact aA rfl rfl ⟨by simp [cG, c9, cA, e1, e2, e3, e4, iJ, dH, h], by simp [cG, c9, cA, e1, e2, e3, e4, h]⟩
 have h6 := Gy h
 clear h
 repeat' (first|refine ah ?_|refine a7 ?_|refine a8 ?_|refine aa ?_|refine ae a6 rfl rfl ?_)
 refine aw rfl (fun h => ?_) (fun h => ?_)
 ·have h := Gz h
  repeat' (first|refine ah ?_|refine a7 ?_|refine ar ?_|refine a8 ?_|refine aF ?_|refine aT ?_|refine aa ?_|refine ae a6 rfl rfl ?_|refine bz a6 ?_|fail)
  exact aA rfl rfl ⟨by simp [cG, c9, cA, e1, e2, e3, e4, iJ, dH, h], by simp [cG, c9, cA, e1, e2, e3, e4, h]⟩
 have h7 := Gy h
 clear h
 repeat' (first|refine ah ?_|refine a7 ?_|refine a8 ?_|refine aa ?_|refine ae a6 rfl rfl ?_)
 refine aw rfl (fun h => ?_) (fun h => ?_)
 ·have h := Gz h
  repeat' (first|refine ah ?_|refine a7 ?_|refine a8 ?_|refine aa ?_|refine ae a6 rfl rfl ?_)
  refine aw rfl (fun hf0 => ?_) (fun hf0 => ?_)
  ·have hf0 := Gz hf0
   repeat' (first|refine ah ?_|refine a7 ?_|refine ae a6 rfl rfl ?_)
   refine cD ?_
   repeat' (first|refine ar ?_|refine a8 ?_|refine aF ?_|refine aT ?_|refine aa ?_|refine ae a6 rfl rfl ?_|refine bz a6 ?_|fail)
   exact aA rfl rfl ⟨by simp [cG, c9, cA, e1, e2, e3, e4, iJ, dH, h, hf0], by simp [cG, c9, cA, e1, e2, e3, e4, h, hf0]⟩
  ·have hf0 := Gy hf0
   repeat' (first|refine ah ?_|refine a7 ?_|refine au ?_|refine ar ?_|refine a8 ?_|refine aI ?_|refine aa ?_|refine ae a6 rfl rfl ?_|refine bz a6 ?_|fail)
   exact aA rfl rfl ⟨by simp [cG, c9, cA, e1, e2, e3, e4, iJ, dH, gh, h, hf0], by simp [cG, c9, cA, e1, e2, e3, e4, gh, h, hf0]⟩
 have h8 := Gy h
 clear h
 repeat' (first|refine ah ?_|refine a7 ?_|refine a8 ?_|refine aa ?_|refine ae a6 rfl rfl ?_)
 refine aw rfl (fun h => ?_) (fun h => ?_)
 ·have h := Gz h
  by_cases hf0 : 0 < fn
  ·repeat' (first|refine ah ?_|refine a7 ?_|refine ae a6 rfl rfl ?_)
   rw [decide_eq_true hf0]
   repeat' (first|refine a8 ?_|refine aa ?_|refine ae a6 rfl rfl ?_|refine aG rfl rfl ?_|(apply bB; first|refine ak a6 0 rfl rfl rfl rfl rfl ?_|refine ak a6 1 rfl rfl rfl rfl rfl ?_|refine ak a6 2 rfl rfl rfl rfl rfl ?_|refine ak a6 3 rfl rfl rfl rfl rfl ?_|refine aD a6 0 rfl rfl rfl rfl rfl ?_|refine aD a6 1 rfl rfl rfl rfl rfl ?_|refine aD a6 2 rfl rfl rfl rfl rfl ?_|refine ak a6 1 rfl rfl rfl (by assumption) rfl ?_|refine ak a6 0 rfl rfl rfl (by assumption) rfl ?_|fail)|fail)
   refine aw rfl (fun hl => ?_) (fun hl => ?_)
   ·have hl := Gz hl
    repeat' (first|refine ah ?_|refine a7 ?_|refine a8 ?_|refine aa ?_|refine ae a6 rfl rfl ?_|(apply bB; first|refine ak a6 0 rfl rfl rfl rfl rfl ?_|refine ak a6 1 rfl rfl rfl rfl rfl ?_|refine ak a6 2 rfl rfl rfl rfl rfl ?_|refine ak a6 3 rfl rfl rfl rfl rfl ?_|refine aD a6 0 rfl rfl rfl rfl rfl ?_|refine aD a6 1 rfl rfl rfl rfl rfl ?_|refine aD a6 2 rfl rfl rfl rfl rfl ?_|refine ak a6 1 rfl rfl rfl (by assumption) rfl ?_|refine ak a6 0 rfl rfl rfl (by assumption) rfl ?_|fail)|(apply aW; refine aV ?_)|(apply aH; first|refine aj a6 0 rfl rfl rfl rfl rfl rfl rfl ?_|refine aj a6 1 rfl rfl rfl rfl rfl rfl rfl ?_|refine aj a6 2 rfl rfl rfl rfl rfl rfl rfl ?_|refine aj a6 3 rfl rfl rfl rfl rfl rfl rfl ?_|fail))
    have hlt := p4.2.lo.isLt
    have hlz : 0 < p4.2.lo.val := by omega
    have hcell : ((p4.2.lo.val : Nat) : Int) - 1 = ((p4.2.lo.val - 1 : Nat) : Int) := by omega
    rw [hcell]
    change bT _ _ _ _ _ _ _ _ _ [dV b s F (E6 p4.2).2]
    repeat' (first|fail)
    refine cD ?_
    repeat' (first|refine ae a6 rfl rfl ?_)
    refine cD ?_
    repeat' (first|refine ar ?_|refine a8 ?_|refine aF ?_|refine aT ?_|refine aa ?_|refine ae a6 rfl rfl ?_|refine bz a6 ?_|fail)
    exact aA rfl rfl ⟨by simp [cG, c9, cA, e1, e2, e3, e4, iJ, dH, h, hf0, oJ, hlz], by simp [cG, c9, cA, e1, e2, e3, e4, h, hf0, oJ, hlz]⟩
   ·have hl := Gy hl
    have hl0 : p4.2.lo.val = 0 := by omega
    repeat' (first|refine ah ?_|refine a7 ?_|refine au ?_|refine ar ?_|refine a8 ?_|refine aI ?_|refine aa ?_|refine ae a6 rfl rfl ?_|refine bz a6 ?_|fail)
    exact aA rfl rfl ⟨by simp [cG, c9, cA, e1, e2, e3, e4, iJ, dH, gh, h, hf0, oJ, hl0], by simp [cG, c9, cA, e1, e2, e3, e4, gh, h, hf0, oJ, hl0]⟩
  ·repeat' (first|refine ah ?_|refine a7 ?_|refine ae a6 rfl rfl ?_)
   rw [decide_eq_false hf0]
   repeat' (first|refine ah ?_|refine a7 ?_|refine au ?_|refine ar ?_|refine a8 ?_|refine aI ?_|refine aa ?_|refine ae a6 rfl rfl ?_|refine aL rfl rfl rfl rfl ?_|refine bz a6 ?_|refine bv rfl ?_)
   exact aA rfl rfl ⟨by simp [cG, c9, cA, e1, e2, e3, e4, iJ, dH, gh, h, hf0], by simp [cG, c9, cA, e1, e2, e3, e4, gh, h, hf0]⟩
 have h9 := Gy h
 clear h
 repeat' (first|refine ah ?_|refine a7 ?_|refine a8 ?_|refine aa ?_|refine ae a6 rfl rfl ?_)
 refine aw rfl (fun h => ?_) (fun h => ?_)
 ·have h := Gz h
  repeat' (first|refine ah ?_|refine a7 ?_|refine ar ?_|refine a8 ?_|refine aF ?_|refine aT ?_|refine aa ?_|refine ae a6 rfl rfl ?_|refine bz a6 ?_|fail)
  exact aA rfl rfl ⟨by simp [cG, c9, cA, e1, e2, e3, e4, iJ, dH, h], by simp [cG, c9, cA, e1, e2, e3, e4, h]⟩
 have h10 := Gy h
 clear h
 repeat' (first|refine ah ?_|refine a7 ?_|refine au ?_|refine ar ?_|refine a8 ?_|refine aI ?_|refine aa ?_|refine ae a6 rfl rfl ?_|refine bz a6 ?_|fail)
 exact aA rfl rfl ⟨by simp [cG, c9, cA, e1, e2, e3, e4, iJ, dH, gh, h0, h1, h2, h3, h4, h5, h6, h7, h8, h9, h10], by simp [cG, c9, cA, e1, e2, e3, e4, gh, h0, h1, h2, h3, h4, h5, h6, h7, h8, h9, h10]⟩
end Go.Proofs.YtjjpkibjffmceaaGreat
namespace Go.Proofs.YtjjpkibjffmceaaGreat
open Go.RowKit
attribute [local irreducible] AT bT AX AO Av Kt bk ej DA cX
variable (s : List Int) (hs : s.length ≤ 1000000) (F : MF)
include hs
set_option maxHeartbeats 2000000 in
theorem qj (n fn most : Int) (hn : 0 ≤ n ∧ n ≤ 1000) (hf : fn ≤ 1000) (hm : 0 < most ∧ most ≤ 6) : pz 64 [aM n, aM fn, aM most] s F (lL s n fn most) iJ := by
 intro b m
 refine aP Tryz.func64 rfl Tryz.ntmps64 rfl fun B => ?_
 repeat' (first|refine ah ?_|refine a7 ?_|refine a8 ?_|refine aa ?_|refine ae a6 rfl rfl ?_)
 refine cD ?_
 have hk := cf s hs m.a (n := most) (by omega)
 have hk : 0 ≤ (dr s most m).1 ∧ (dr s most m).1 < most := hk
 generalize e1 : dr s most m = p1 at hk ⊢
 obtain ⟨k, hkk⟩ : ∃ k : Nat, p1.1 = k := ⟨p1.1.toNat, by omega⟩
 have hlen : ∀ i, (fh s n fn i p1.2).1.length ≤ 9 * i := fun i => (bS.runs (fun i l => fZ (9 * i) l) i ⟨Nat.le_refl _, fun i hi => by cases hi⟩ (fun i l _ h => (qn s hn hf).bnd fun p hp => bS.ret ⟨by rw [List.length_append]; have := h.1; have := hp.1; omega, fun x hx => by
  rcases Gl hx with hx | hx
  ·exact h.2 x hx
  ·exact hp.2 x hx⟩) p1.2).1
 rw [hkk]
 repeat' (first|refine ah ?_|refine a7 ?_|refine aq ?_|refine a8 ?_|refine aa ?_|refine ae a6 rfl rfl ?_)
 refine bK (bg (t := 9) (c' := .vec none 2 []) rfl fun σ v h => co 2 h) ?_
 refine aN [0, 1, 2, 10] (α := Nat × Option (Nat × Nat)) (fun x => [(11, aM x.1), (9, .vec x.2 2 ((fh s n fn x.1 p1.2).1.map dH))]) (fun x => x.1 ≤ k) (fun x => dV b s F (fh s n fn x.1 p1.2).2 :: tok x.2 74 2 ((fh s n fn x.1 p1.2).1.map dH).length) (fun x => k - x.1) (0, none) rfl ⟨rfl, rfl, trivial⟩ (Nat.zero_le _) (fun _ _ h => h) ?_
 rintro ⟨i, q⟩ hi
 dsimp only at hi ⊢
 try dsimp only [Gr, Gq, Gp, Gj]
 repeat' (first|refine ah ?_|refine a7 ?_|refine a8 ?_|refine aa ?_|refine ae a6 rfl rfl ?_)
 refine aw rfl (fun h => ?_) (fun h => ?_)
 ·have hil : i < k := by have := Gz h; omega
  have hstep : fh s n fn (i + 1) p1.2 = ((fh s n fn i p1.2).1 ++ (cG s n fn (fh s n fn i p1.2).2).1, (cG s n fn (fh s n fn i p1.2).2).2) := rfl
  have hl1 := hlen i
  have hl2 := hlen (i + 1)
  rw [hstep] at hl2
  rw [List.length_append] at hl2
  generalize fh s n fn i p1.2 = st at hl1 hl2 hstep ⊢
  repeat' (first|refine ah ?_|refine a7 ?_|refine aq ?_|refine au ?_|refine a8 ?_|refine ae a6 rfl rfl ?_)
  refine sG (ux s hs F n fn (by omega) (by omega)) ?_
  generalize cG s n fn st.2 = pc at hl2 hstep ⊢
  unfold iJ
  refine bF a6 [dV b s F pc.2] rfl rfl rfl rfl (List.perm_append_comm (l₁ := [dV b s F pc.2])) (by simp; omega) (by simp; omega) rfl fun q' => ?_
  refine aO (aK List.perm_append_comm) ?_
  rw [← List.map_append]
  repeat' (first|refine a7 ?_|refine a8 ?_|refine aI ?_|refine aa ?_|refine ae a6 rfl rfl ?_|(apply aW; refine aV ?_)|fail)
  exact aC (i + 1, q') rfl ⟨by rw [Gw]; rfl, by rw [hstep]; rfl, trivial⟩ (by dsimp only; omega) (by dsimp only; omega) (fun _ _ h => by dsimp only; rw [hstep]; exact h)
 have hil : i = k := by have := Gy h; omega
 subst hil
 repeat' (first|refine ah ?_|refine a7 ?_|refine ar ?_|refine aR ?_|refine a8 ?_|refine av ?_|refine aB ?_|refine ay ?_|refine aa ?_|refine ae a6 rfl rfl ?_)
 refine ba (bY (L' := [dV b s F (fh s n fn i p1.2).2]) (List.Sublist.cons_cons _ (List.nil_sublist _))) ?_
 refine ba (bg (t := 8) (c' := .imm 2 ((fh s n fn i p1.2).1.map dH)) rfl fun σ v h => VR.im h) (aA rfl rfl ?_)
 have hv : lL s n fn most m = fh s n fn i p1.2 := by
  unfold lL c9
  rw [e1]
  dsimp only
  rw [hkk]
  rfl
 rw [hv]
 exact ⟨rfl, rfl⟩
end Go.Proofs.YtjjpkibjffmceaaGreat
