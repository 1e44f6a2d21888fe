/-
  The program: how deep glyphs are, and how many points they have.
-/
import Derived.Test.YtpbinloeemebkaaGreatM19
namespace Go.Proofs.YtpbinloeemebkaaGreat
open Go.RowKit
attribute [local irreducible] AT ATL AX AO Av Kt ALoopK OkA DA DA1
def dF (D : Int → Int) (ps : List FPart) : Int := ps.foldl (fun a p => max a (D p.Glyph + 1)) 0
def pF (P : Int → Int) (ps : List FPart) (k : Int) : Int := ps.foldl (fun a p => min (a + P p.Glyph) 1001) k
def cellsF (n : Nat) (D : Int → Int) : List AV := (upTo n).map fun z => I64 (D z)
def updF (D : Int → Int) (z v : Int) : Int → Int := fun q => if q = z then v else D q
theorem updF_self {D : Int → Int} {z v : Int} : updF D z v z = v := by simp [updF]
theorem updF_ne {D : Int → Int} {z v q : Int} (h : q ≠ z) : updF D z v q = D q := by simp [updF, h]
theorem updF_updF (D : Int → Int) (z v w : Int) : updF (updF D z v) z w = updF D z w := by
  funext q
  unfold updF
  by_cases e : q = z
  · rw [if_pos e, if_pos e]
  · rw [if_neg e, if_neg e, if_neg e]
theorem cellsF_len (n : Nat) (D : Int → Int) : (cellsF n D).length = n := by simp [cellsF, upTo]
theorem cellsF_get {n : Nat} {D : Int → Int} {z : Int} (h0 : 0 ≤ z) (h1 : z < n) : (cellsF n D)[0 + z.toNat * 1]? = some (I64 (D z)) := by
  rw [Nat.zero_add, Nat.mul_one]
  unfold cellsF
  rw [List.getElem?_map, upTo_get (by omega), Option.map_some, show ((z.toNat : Nat) : Int) = z by omega]
theorem cellsF_set {n : Nat} {D : Int → Int} {z v : Int} (h0 : 0 ≤ z) (h1 : z < n) : (cellsF n D).set (0 + z.toNat * 1) (I64 v) = cellsF n (updF D z v) := by
  rw [Nat.zero_add, Nat.mul_one]
  apply List.ext_getElem?
  intro i
  rw [List.getElem?_set, cellsF_len]
  unfold cellsF updF
  by_cases hi : z.toNat = i
  · subst hi
    rw [if_pos rfl, if_pos (by omega), List.getElem?_map, upTo_get (by omega), Option.map_some, if_pos (by omega)]
  · rw [if_neg hi, List.getElem?_map, List.getElem?_map]
    by_cases hn : i < n
    · rw [upTo_get hn, Option.map_some, Option.map_some, if_neg (by omega)]
    · rw [List.getElem?_eq_none (by rw [upTo_len]; omega)]; rfl
theorem cellsF_zero (n : Nat) : (List.replicate n [I64 0]).flatten = cellsF n fun _ => 0 := by
  rw [fillNil (upTo n) n (upTo_len n).symm]
  unfold filled cellsF
  rw [List.take_zero, List.nil_append, Nat.sub_zero, upTo_len, List.map_replicate]
  apply List.ext_getElem?
  intro i
  rw [List.getElem?_replicate, List.getElem?_map]
  by_cases h : i < n
  · rw [if_pos h, upTo_get h]; rfl
  · rw [if_neg h, List.getElem?_eq_none (by rw [upTo_len]; omega)]; rfl
theorem dF_take {D : Int → Int} {ps : List FPart} {j : Nat} {p : FPart} (h : ps[j]? = some p) : dF D (ps.take (j + 1)) = max (dF D (ps.take j)) (D p.Glyph + 1) := by
  unfold dF
  rw [List.take_add_one, h, Option.toList_some, List.foldl_append]
  rfl
theorem pF_take {P : Int → Int} {ps : List FPart} {k : Int} {j : Nat} {p : FPart} (h : ps[j]? = some p) : pF P (ps.take (j + 1)) k = min (pF P (ps.take j) k + P p.Glyph) 1001 := by
  unfold pF
  rw [List.take_add_one, h, Option.toList_some, List.foldl_append]
  rfl
theorem foldl_same {α β : Type} {F G : α → β → α} : ∀ (l : List β) (a : α), (∀ b ∈ l, ∀ a, F a b = G a b) → l.foldl F a = l.foldl G a
  | [], _, _ => rfl
  | b :: l, a, h => by rw [List.foldl_cons, List.foldl_cons, h b (List.mem_cons_self ..)]; exact foldl_same l _ fun c hc => h c (List.mem_cons_of_mem _ hc)
theorem dF_congr {D D' : Int → Int} {ps : List FPart} (h : ∀ p ∈ ps, D p.Glyph = D' p.Glyph) : dF D ps = dF D' ps := foldl_same ps 0 fun p hp a => by rw [h p hp]
theorem pF_congr {P P' : Int → Int} {ps : List FPart} {k : Int} (h : ∀ p ∈ ps, P p.Glyph = P' p.Glyph) : pF P ps k = pF P' ps k := foldl_same ps k fun p hp a => by rw [h p hp]
theorem dF_bd {D : Int → Int} {m : Int} (h : ∀ z, 0 ≤ D z ∧ D z ≤ m) : ∀ (ps : List FPart), 0 ≤ dF D ps ∧ dF D ps ≤ m + 1 := by
  intro ps
  have hm : 0 ≤ m := by have := h 0; omega
  have : ∀ (ps : List FPart) (a : Int), 0 ≤ a → a ≤ m + 1 → 0 ≤ ps.foldl (fun a p => max a (D p.Glyph + 1)) a ∧ ps.foldl (fun a p => max a (D p.Glyph + 1)) a ≤ m + 1 := by
    intro ps
    induction ps with
    | nil => intro a h0 h1; exact ⟨h0, h1⟩
    | cons p ps ih => intro a h0 h1; have := h p.Glyph; exact ih (max a (D p.Glyph + 1)) (by omega) (by omega)
  exact this ps 0 (by omega) (by omega)
theorem pF_bd {P : Int → Int} {k : Int} (h : ∀ z, 0 ≤ P z ∧ P z ≤ 1000000) (hk : 0 ≤ k ∧ k ≤ 1000000) (ps : List FPart) : 0 ≤ pF P ps k ∧ pF P ps k ≤ 1000000 := by
  unfold pF
  induction ps generalizing k with
  | nil => exact hk
  | cons p ps ih => have := h p.Glyph; exact ih (k := min (k + P p.Glyph) 1001) (by omega)
/-- what is known of all glyphs in the end -/
def DeepOk (f : FFont) (D P : Int → Int) : Prop := ∀ z : Int, 0 ≤ z → z < f.Glyphs.length → ∀ gl, f.Glyphs[z.toNat]? = some gl → D z = dF D gl.Parts ∧ P z = pF P gl.Parts gl.Points.length
structure Few2 (f : FFont) : Prop extends Few f where
  points : ∀ gl ∈ f.Glyphs, gl.Points.length ≤ 1000000
  there : ∀ gl ∈ f.Glyphs, ∀ p ∈ gl.Parts, isG f p.Glyph = true
theorem prt_all {f : FFont} (hf : Few2 f) {z : Int} {gl : FGlyph} (h : f.Glyphs[z.toNat]? = some gl) : prt f z = gl.Parts.map FPart.Glyph := by
  unfold prt
  rw [h]
  refine List.filter_eq_self.2 fun y hy => ?_
  obtain ⟨p, hp, rfl⟩ := List.mem_map.1 hy
  exact hf.there gl (List.mem_of_getElem? h) p hp
def deepE (_ : Nat) (levels : Int) : Int := whenE (decide (levels > 4)) 34
def manyE (_ : Nat) (all : Int) : Int := whenE (decide (all ≥ 1001)) 2
theorem comp11_det (i : Nat) (n : Int) : ADet Tryz.prog 165 [I64 i, I64 n] (I64 (deepE i n)) := by
  refine ac_of Tryz.func165 rfl Tryz.ntmps165 rfl fun B => ?_
  (repeat' (first|refine at_seq ?_|refine at_region ?_|refine at_ret ?_|refine ax_then ?_|refine atl_nil ?_|refine n_run ttok rfl rfl ?_|(apply s_call;refine n_call ?_)|fail))
  exact ax_ret1 rfl rfl rfl
theorem comp21_det (i : Nat) (n : Int) : ADet Tryz.prog 167 [I64 i, I64 n] (I64 (manyE i n)) := by
  refine ac_of Tryz.func167 rfl Tryz.ntmps167 rfl fun B => ?_
  (repeat' (first|refine at_seq ?_|refine at_region ?_|refine at_ret ?_|refine ax_then ?_|refine atl_nil ?_|refine n_run ttok rfl rfl ?_|(apply s_call;refine n_call ?_)|fail))
  exact ax_ret1 rfl rfl rfl
theorem comp1_det (l : List Int) : ADet Tryz.prog 163 [.iptr [.imm 1 (ints l)]] (tup2 (eachL l deepE)) := by
  refine ac_of Tryz.func163 rfl Tryz.ntmps163 rfl fun B => ?_
  (repeat' (first|refine at_seq ?_|refine at_region ?_|refine ax_then ?_|refine atl_nil ?_|refine n_run ttok rfl rfl ?_|fail))
  refine n_callA [] [] (each164 (u := .sc (.func (.func 165) #[] #[])) (g := 165) (caps := []) rfl l _ (fun _ _ => True) [] trivial (wrong_det (fun i x _ => comp11_det i x))) rfl rfl (List.Perm.refl _) rfl fun c L1 hc => ?_
  have hc : c = tup2 (eachL l deepE) := hc
  subst hc
  unfold tup2
  (repeat' (first|refine at_ret ?_|refine ax_then ?_|refine atl_nil ?_|refine n_run ttok rfl rfl ?_|fail))
  exact ax_ret2 rfl rfl rfl rfl
theorem comp2_det (l : List Int) : ADet Tryz.prog 166 [.iptr [.imm 1 (ints l)]] (tup2 (eachL l manyE)) := by
  refine ac_of Tryz.func166 rfl Tryz.ntmps166 rfl fun B => ?_
  (repeat' (first|refine at_seq ?_|refine at_region ?_|refine ax_then ?_|refine atl_nil ?_|refine n_run ttok rfl rfl ?_|fail))
  refine n_callA [] [] (each164 (u := .sc (.func (.func 167) #[] #[])) (g := 167) (caps := []) rfl l _ (fun _ _ => True) [] trivial (wrong_det (fun i x _ => comp21_det i x))) rfl rfl (List.Perm.refl _) rfl fun c L1 hc => ?_
  have hc : c = tup2 (eachL l manyE) := hc
  subst hc
  unfold tup2
  (repeat' (first|refine at_ret ?_|refine ax_then ?_|refine atl_nil ?_|refine n_run ttok rfl rfl ?_|fail))
  exact ax_ret2 rfl rfl rfl rfl
/-- the glyphs so far -/
structure CInv (f : FFont) (T : List Int) (i : Nat) (D P : Int → Int) : Prop where
  deep : ∀ z, 0 ≤ D z ∧ D z ≤ i
  many : ∀ z, 0 ≤ P z ∧ P z ≤ 1000000
  done : ∀ (j : Nat) (z : Int), j < i → T[j]? = some z → ∀ gl, f.Glyphs[z.toNat]? = some gl → D z = dF D gl.Parts ∧ P z = pF P gl.Parts gl.Points.length
  rest : ∀ z, z ∉ T.take i → D z = 0
theorem CInv.start {f : FFont} {T : List Int} : CInv f T 0 (fun _ => 0) (fun _ => 0) := ⟨fun _ => by simp, fun _ => by simp, fun j _ h => absurd h (Nat.not_lt_zero _), fun _ _ => rfl⟩
theorem CInv.next {f : FFont} {T : List Int} (hf : Few2 f) (hT : KDone f.Glyphs.length (prt f) T) {i : Nat} {D P : Int → Int} (h : CInv f T i D P) {x : Int} {gl : FGlyph} (hx : T[i]? = some x) (hgl : f.Glyphs[x.toNat]? = some gl) : CInv f T (i + 1) (updF D x (dF D gl.Parts)) (updF P x (pF P gl.Parts gl.Points.length)) := by
  have hgm := List.mem_of_getElem? hgl
  have hnot : ∀ (j : Nat) (z : Int), j ≤ i → T[j]? = some z → ∀ g, f.Glyphs[z.toNat]? = some g → ∀ p ∈ g.Parts, p.Glyph ≠ x := by
    intro j z hj hz g hg p hp e
    have h1 := hT.topo j z hz p.Glyph (by rw [prt_all hf hg]; exact List.mem_map_of_mem hp)
    rw [e] at h1
    obtain ⟨k, hk⟩ := List.mem_iff_getElem?.1 h1
    rw [List.getElem?_take] at hk
    split at hk
    · rename_i hlt
      obtain ⟨k1, k2⟩ := List.getElem?_eq_some_iff.1 hk
      obtain ⟨i1, i2⟩ := List.getElem?_eq_some_iff.1 hx
      have e1 := hT.nodup.idxOf_getElem k k1
      have e2 := hT.nodup.idxOf_getElem i i1
      rw [k2] at e1
      rw [i2] at e2
      omega
    · cases hk
  have hd := dF_bd h.deep gl.Parts
  have hp := pF_bd (k := (gl.Points.length : Int)) h.many (by have := hf.points gl hgm; omega) gl.Parts
  refine ⟨fun z => ?_, fun z => ?_, fun j z hj hz g hg => ?_, fun z hz => ?_⟩
  · unfold updF
    split
    · omega
    · have := h.deep z; omega
  · unfold updF
    split
    · exact hp
    · exact h.many z
  · rw [dF_congr (D := updF D x (dF D gl.Parts)) (D' := D) fun p hp => updF_ne (hnot j z (by omega) hz g hg p hp), pF_congr (P := updF P x (pF P gl.Parts gl.Points.length)) (P' := P) fun p hp => updF_ne (hnot j z (by omega) hz g hg p hp)]
    by_cases e : z = x
    · subst e
      rw [hgl] at hg
      cases hg
      rw [updF_self, updF_self]
      exact ⟨rfl, rfl⟩
    · rw [updF_ne e, updF_ne e]
      have hji : j < i := by
        rcases Nat.lt_or_ge j i with h1 | h1
        · exact h1
        · have : j = i := by omega
          subst this
          rw [hx] at hz
          cases hz
          exact absurd rfl e
      exact h.done j z hji hz g hg
  · rw [List.take_add_one, hx, Option.toList_some, List.mem_append, List.mem_singleton] at hz
    rw [updF_ne (fun e => hz (.inr e))]
    exact h.rest z fun hm => hz (.inl hm)
def compE (n : Nat) (D P : Int → Int) : Int × Int := firstE [eachL ((upTo n).map D) deepE, eachL ((upTo n).map P) manyE]
set_option maxHeartbeats 8000000 in
theorem composed_ac (f : FFont) (hf : Few2 f) (hr : Acyc f.Glyphs.length (prt f) ∨ AC Tryz.prog 235 [aFont f] [] fun c _ => ∃ z : Int, c = I64 z) : AC Tryz.prog 89 [aFont f] [] fun c _ => (∃ D P, DeepOk f D P ∧ Acyc f.Glyphs.length (prt f) ∧ c = tup2 (compE f.Glyphs.length D P)) ∨ (¬ Acyc f.Glyphs.length (prt f) ∧ ∃ z : Int, c = tup2 (33, z)) := by
  refine ac_of Tryz.func89 rfl Tryz.ntmps89 rfl fun B => ?_
  have hn := hf.n
  have hml : (f.Glyphs.map cGlyph).length = f.Glyphs.length := List.length_map ..
  (repeat' (first|refine at_seq ?_|refine at_region ?_|refine ax_then ?_|refine atl_nil ?_|refine n_run ttok rfl rfl ?_|refine n_boxI ?_|fail))
  refine n_callA [] [] (order_ac f hf.toFew hr) rfl rfl (List.Perm.refl _) rfl fun c L1 hc => ?_
  refine atl_turn (turn_sub (List.nil_sublist _)) ?_
  rcases hc with ⟨T, hc, hT, hTl⟩ | ⟨hna, z, hc⟩
  rotate_left
  · subst hc
    (repeat' (first|refine at_seq ?_|refine at_region ?_|refine at_ret ?_|refine ax_then ?_|refine ax_then_ret ?_|refine atl_nil ?_|refine n_run ttok rfl rfl ?_|refine n_condT rfl ?_|fail))
    exact ax_ret2 rfl rfl rfl (.inr ⟨hna, z, rfl⟩)
  subst hc
  have hall := hT.all_of_len hTl
  have hacy := hT.acyc hall
  have hTi := ints_len T
  (repeat' (first|refine at_seq ?_|refine at_region ?_|refine at_skip ?_|refine ax_then ?_|refine atl_nil ?_|refine n_run ttok rfl rfl ?_|refine n_condF rfl ?_|fail))
  rw [hml]
  refine n_make ttok f.Glyphs.length rfl rfl rfl rfl rfl rfl rfl (by omega) (by omega) rfl fun bd => ?_
  rw [show (List.replicate f.Glyphs.length (List.map AV.sc [Value.int .i64 0])).flatten = cellsF f.Glyphs.length fun _ => 0 from cellsF_zero _]
  (repeat' (first|refine at_seq ?_|refine at_region ?_|refine ax_then ?_|refine atl_nil ?_|refine n_run ttok rfl rfl ?_|(apply s_store; first|refine n_storeF 7 ttok 0 rfl rfl rfl rfl rfl rfl rfl rfl ?_|refine n_storeF 7 ttok 1 rfl rfl rfl rfl rfl rfl rfl rfl ?_|refine n_storeF 7 ttok 2 rfl rfl rfl rfl rfl rfl rfl rfl ?_|refine n_storeF 8 ttok 0 rfl rfl rfl rfl rfl rfl rfl rfl ?_|refine n_storeF 8 ttok 1 rfl rfl rfl rfl rfl rfl rfl rfl ?_|refine n_storeF 8 ttok 2 rfl rfl rfl rfl rfl rfl rfl rfl ?_|refine n_storeF 12 ttok 0 rfl rfl rfl rfl rfl rfl rfl rfl ?_|refine n_storeF 12 ttok 1 rfl rfl rfl rfl rfl rfl rfl rfl ?_|refine n_storeF 12 ttok 2 rfl rfl rfl rfl rfl rfl rfl rfl ?_|refine n_store ttok 0 rfl rfl rfl rfl rfl rfl rfl ?_|refine n_store ttok 1 rfl rfl rfl rfl rfl rfl rfl ?_|refine n_store ttok 2 rfl rfl rfl rfl rfl rfl rfl ?_|refine n_store ttok 3 rfl rfl rfl rfl rfl rfl rfl ?_|fail)|refine n_alloc ttok fun _=>?_|fail))
  rw [hml]
  refine n_make ttok f.Glyphs.length rfl rfl rfl rfl rfl rfl rfl (by omega) (by omega) rfl fun bp => ?_
  rw [show (List.replicate f.Glyphs.length (List.map AV.sc [Value.int .i64 0])).flatten = cellsF f.Glyphs.length fun _ => 0 from cellsF_zero _]
  (repeat' (first|refine at_seq ?_|refine at_region ?_|refine at_block ?_|refine ax_then ?_|refine atl_nil ?_|refine n_run ttok rfl rfl ?_|(apply s_store; first|refine n_storeF 7 ttok 0 rfl rfl rfl rfl rfl rfl rfl rfl ?_|refine n_storeF 7 ttok 1 rfl rfl rfl rfl rfl rfl rfl rfl ?_|refine n_storeF 7 ttok 2 rfl rfl rfl rfl rfl rfl rfl rfl ?_|refine n_storeF 8 ttok 0 rfl rfl rfl rfl rfl rfl rfl rfl ?_|refine n_storeF 8 ttok 1 rfl rfl rfl rfl rfl rfl rfl rfl ?_|refine n_storeF 8 ttok 2 rfl rfl rfl rfl rfl rfl rfl rfl ?_|refine n_storeF 12 ttok 0 rfl rfl rfl rfl rfl rfl rfl rfl ?_|refine n_storeF 12 ttok 1 rfl rfl rfl rfl rfl rfl rfl rfl ?_|refine n_storeF 12 ttok 2 rfl rfl rfl rfl rfl rfl rfl rfl ?_|refine n_store ttok 0 rfl rfl rfl rfl rfl rfl rfl ?_|refine n_store ttok 1 rfl rfl rfl rfl rfl rfl rfl ?_|refine n_store ttok 2 rfl rfl rfl rfl rfl rfl rfl ?_|refine n_store ttok 3 rfl rfl rfl rfl rfl rfl rfl ?_|fail)|refine n_alloc ttok fun _=>?_|fail))
  refine at_loopK [1, 7, 8, 31, 32] (α := Nat × (Int → Int) × (Int → Int)) (fun x => [(33, I64 x.1)]) (fun x => x.1 ≤ f.Glyphs.length ∧ CInv f T x.1 x.2.1 x.2.2) (fun x => [(bp, .box (cellsF f.Glyphs.length x.2.2) 3), (bd, .box (cellsF f.Glyphs.length x.2.1) 3)]) (fun x => f.Glyphs.length - x.1) (0, (fun _ => 0), (fun _ => 0)) rfl ⟨rfl, trivial⟩ ⟨Nat.zero_le _, CInv.start⟩ (fun _ _ h => h) ?_
  rintro ⟨i, D, P⟩ ⟨hi, hC⟩
  dsimp only at hi hC ⊢
  try dsimp only [List.cons_append, List.nil_append, List.map_cons, List.map_nil]
  (repeat' (first|refine at_seq ?_|refine at_region ?_|refine ax_then ?_|refine atl_nil ?_|refine n_run ttok rfl rfl ?_|fail))
  refine at_cond rfl (fun h => ?_) (fun h => ?_)
  · have hil : i < T.length := by have := of_decide_eq_true h; rw [hTi] at this; omega
    obtain ⟨x, hx⟩ : ∃ x, T[i]? = some x := ⟨_, List.getElem?_eq_getElem hil⟩
    have hxi := ints_get hx
    have hxr := hT.dom x (List.mem_of_getElem? hx)
    obtain ⟨gl, hgl⟩ : ∃ z, f.Glyphs[x.toNat]? = some z := ⟨_, List.getElem?_eq_getElem (by omega)⟩
    have hgm := List.mem_of_getElem? hgl
    have hgg := map_get (c := cGlyph) hgl
    have hpm : (gl.Points.map cPoint).length = gl.Points.length := List.length_map ..
    have hpl := hf.points gl hgm
    clear h
    (repeat' (first|refine at_seq ?_|refine at_region ?_|refine at_block ?_|refine at_skip ?_|refine ax_then ?_|refine atl_nil ?_|refine n_run ttok rfl rfl ?_|(apply s_index; first|refine n_index ttok ?_|refine n_indexP ttok ?_)|fail))
    refine at_draw 10 [(0, .v), (1, .v), (2, .v), (3, .v), (4, .v), (5, .v), (6, .v), (7, .v), (8, .v), (9, .v)] none ?_ trivial rfl (by kernel_rfl) (by kernel_rfl) (by kernel_rfl) mixed (by kernel_rfl) rfl
    (repeat' (first|refine da_open ?_|refine d_run ttok ?_|(apply ds_index;refine d_index ttok ?_)|fail))
    refine da_end [1, 7, 8, 10, 31, 32, 33, 37, 38, 46] rfl rfl ?_
    (repeat' (first|(apply s_index; first|refine n_index ttok ?_|refine n_indexP ttok ?_)|fail))
    refine n_store ttok 0 rfl rfl rfl rfl rfl rfl (by rw [Nat.ble_eq, cellsF_len]; show _ + 1 ≤ _; omega) ?_
    rw [putA_one, cellsF_set hxr.1 hxr.2, hpm]
    (repeat' (first|refine at_seq ?_|refine at_region ?_|refine at_block ?_|refine ax_then ?_|refine atl_nil ?_|refine n_run ttok rfl rfl ?_|(apply s_index; first|refine n_index ttok ?_|refine n_indexP ttok ?_)|fail))
    have hTx : x ∉ T.take i := fun hm => by
      obtain ⟨k, hk⟩ := List.mem_iff_getElem?.1 hm
      rw [List.getElem?_take] at hk
      split at hk
      · obtain ⟨k1, k2⟩ := List.getElem?_eq_some_iff.1 hk
        obtain ⟨i1, i2⟩ := List.getElem?_eq_some_iff.1 hx
        have e1 := hT.nodup.idxOf_getElem k k1
        have e2 := hT.nodup.idxOf_getElem i i1
        rw [k2] at e1
        rw [i2] at e2
        omega
      · cases hk
    have hD0 : updF D x 0 = D := by
      funext q
      unfold updF
      split
      · rename_i e; rw [e, hC.rest x hTx]
      · rfl
    have hql : (gl.Parts.map cPart).length = gl.Parts.length := List.length_map ..
    have hqn := hf.parts gl hgm
    refine at_loopK [1, 7, 8, 10, 31, 32, 33, 53, 54] (α := Nat) (fun j => [(55, I64 j)]) (fun j => j ≤ gl.Parts.length) (fun j => [(bp, .box (cellsF f.Glyphs.length (updF P x (pF P (gl.Parts.take j) gl.Points.length))) 3), (bd, .box (cellsF f.Glyphs.length (updF D x (dF D (gl.Parts.take j)))) 3)]) (fun j => gl.Parts.length - j) 0 rfl ⟨rfl, trivial⟩ (Nat.zero_le _) (fun _ _ h => by rw [List.take_zero, show dF D [] = 0 from rfl, hD0]; exact h) fun j hj => ?_
    try dsimp only [List.cons_append, List.nil_append, List.map_cons, List.map_nil]
    (repeat' (first|refine at_seq ?_|refine at_region ?_|refine ax_then ?_|refine atl_nil ?_|refine n_run ttok rfl rfl ?_|fail))
    refine at_cond rfl (fun h => ?_) (fun h => ?_)
    · have hjl : j < gl.Parts.length := by have := of_decide_eq_true h; omega
      obtain ⟨q, hq⟩ : ∃ q, gl.Parts[j]? = some q := ⟨_, List.getElem?_eq_getElem hjl⟩
      have hqg := map_get (c := cPart) hq
      have hqr := isG_iff.1 (hf.there gl hgm q (List.mem_of_getElem? hq))
      have hne : q.Glyph ≠ x := fun e => by
        have h1 := hT.topo i x hx q.Glyph (by rw [prt_all hf hgl]; exact List.mem_map_of_mem (List.mem_of_getElem? hq))
        rw [e] at h1
        exact hTx h1
      have hc1 : (cellsF f.Glyphs.length (updF D x (dF D (gl.Parts.take j))))[0 + x.toNat * 1]? = some (I64 (dF D (gl.Parts.take j))) := by rw [cellsF_get hxr.1 hxr.2, updF_self]
      have hc2 : (cellsF f.Glyphs.length (updF D x (dF D (gl.Parts.take j))))[0 + q.Glyph.toNat * 1]? = some (I64 (D q.Glyph)) := by rw [cellsF_get hqr.1 hqr.2, updF_ne hne]
      have hc3 : (cellsF f.Glyphs.length (updF P x (pF P (gl.Parts.take j) gl.Points.length)))[0 + x.toNat * 1]? = some (I64 (pF P (gl.Parts.take j) gl.Points.length)) := by rw [cellsF_get hxr.1 hxr.2, updF_self]
      have hc4 : (cellsF f.Glyphs.length (updF P x (pF P (gl.Parts.take j) gl.Points.length)))[0 + q.Glyph.toNat * 1]? = some (I64 (P q.Glyph)) := by rw [cellsF_get hqr.1 hqr.2, updF_ne hne]
      have hDq := hC.deep q.Glyph
      have hPq := hC.many q.Glyph
      have hPj := pF_bd (k := (gl.Points.length : Int)) hC.many (by omega) (gl.Parts.take j)
      clear h
      (repeat' (first|refine at_seq ?_|refine at_region ?_|refine at_block ?_|refine at_skip ?_|refine ax_then ?_|refine atl_nil ?_|refine n_run ttok rfl rfl ?_|(apply s_index; first|refine n_index ttok ?_|refine n_indexP ttok ?_)|(apply s_store; first|refine n_storeF 7 ttok 0 rfl rfl rfl rfl rfl rfl rfl rfl ?_|refine n_storeF 7 ttok 1 rfl rfl rfl rfl rfl rfl rfl rfl ?_|refine n_storeF 7 ttok 2 rfl rfl rfl rfl rfl rfl rfl rfl ?_|refine n_storeF 8 ttok 0 rfl rfl rfl rfl rfl rfl rfl rfl ?_|refine n_storeF 8 ttok 1 rfl rfl rfl rfl rfl rfl rfl rfl ?_|refine n_storeF 8 ttok 2 rfl rfl rfl rfl rfl rfl rfl rfl ?_|refine n_storeF 12 ttok 0 rfl rfl rfl rfl rfl rfl rfl rfl ?_|refine n_storeF 12 ttok 1 rfl rfl rfl rfl rfl rfl rfl rfl ?_|refine n_storeF 12 ttok 2 rfl rfl rfl rfl rfl rfl rfl rfl ?_|refine n_store ttok 0 rfl rfl rfl rfl rfl rfl rfl ?_|refine n_store ttok 1 rfl rfl rfl rfl rfl rfl rfl ?_|refine n_store ttok 2 rfl rfl rfl rfl rfl rfl rfl ?_|refine n_store ttok 3 rfl rfl rfl rfl rfl rfl rfl ?_|fail)|refine n_alloc ttok fun _=>?_|fail))
      refine at_draw 13 [(0, .v), (1, .v), (2, .v), (3, .v), (4, .v), (5, .l), (6, .v), (7, .v), (8, .v), (9, .v), (10, .l), (11, .v), (12, .v)] none ?_ trivial rfl (by kernel_rfl) (by kernel_rfl) (by kernel_rfl) mixed (by kernel_rfl) rfl
      (repeat' (first|refine da_open ?_|refine d_run ttok ?_|fail))
      refine d_indexP ttok rfl rfl rfl hxr trivial ?_
      (repeat' (first|refine da_open ?_|fail))
      refine d_load ttok 1 rfl rfl rfl hc1 trivial ?_
      (repeat' (first|refine da_open ?_|refine d_run ttok ?_|fail))
      refine d_indexP ttok rfl rfl rfl hqr trivial ?_
      (repeat' (first|refine da_open ?_|fail))
      refine d_load ttok 1 rfl rfl rfl hc2 trivial ?_
      (repeat' (first|refine da_open ?_|refine d_run ttok ?_|(apply ds_bin;refine d_bin ?_)|fail))
      refine da_end [1, 7, 8, 10, 12, 31, 32, 33, 53, 54, 55, 59, 60, 71] rfl rfl ?_
      (repeat' (first|(apply s_index; first|refine n_index ttok ?_|refine n_indexP ttok ?_)|fail))
      refine n_store ttok 1 rfl rfl rfl rfl rfl rfl (by rw [Nat.ble_eq, cellsF_len]; show _ + 1 ≤ _; omega) ?_
      rw [putA_one, cellsF_set hxr.1 hxr.2, updF_updF, ← dF_take hq]
      (repeat' (first|refine ax_then ?_|refine atl_nil ?_|fail))
      refine at_draw 13 [(0, .v), (1, .v), (2, .v), (3, .v), (4, .v), (5, .l), (6, .v), (7, .v), (8, .v), (9, .v), (10, .l), (11, .v), (12, .v)] none ?_ trivial rfl (by kernel_rfl) (by kernel_rfl) (by kernel_rfl) mixed (by kernel_rfl) rfl
      (repeat' (first|refine da_open ?_|refine d_run ttok ?_|fail))
      refine d_indexP ttok rfl rfl rfl hxr trivial ?_
      (repeat' (first|refine da_open ?_|fail))
      refine d_load ttok 0 rfl rfl rfl hc3 trivial ?_
      (repeat' (first|refine da_open ?_|refine d_run ttok ?_|fail))
      refine d_indexP ttok rfl rfl rfl hqr trivial ?_
      (repeat' (first|refine da_open ?_|fail))
      refine d_load ttok 0 rfl rfl rfl hc4 trivial ?_
      (repeat' (first|refine da_open ?_|refine d_run ttok ?_|(apply ds_bin;refine d_bin ?_)|fail))
      refine da_end [1, 7, 8, 10, 31, 32, 33, 53, 54, 55, 73, 74, 85] rfl rfl ?_
      (repeat' (first|(apply s_index; first|refine n_index ttok ?_|refine n_indexP ttok ?_)|fail))
      refine n_store ttok 0 rfl rfl rfl rfl rfl rfl (by rw [Nat.ble_eq, cellsF_len]; show _ + 1 ≤ _; omega) ?_
      rw [putA_one, cellsF_set hxr.1 hxr.2, updF_updF, ← pF_take hq]
      (repeat' (first|refine at_region ?_|refine ax_then ?_|refine ax_blk ?_|refine atl_nil ?_|refine n_run ttok rfl rfl ?_|(apply s_bin; refine n_bin ?_)|fail))
      exact ax_roundK (j + 1) rfl ⟨by rw [Int.natCast_add]; rfl, trivial⟩ (by omega) (by omega) (fun _ _ h => h)
    · have hjl : j = gl.Parts.length := by have := of_decide_eq_false h; omega
      subst hjl
      rw [List.take_length]
      (repeat' (first|refine at_region ?_|refine at_exit ?_|refine ax_then ?_|refine ax_then_exit ?_|refine ax_blk ?_|refine ax_blk_exit ?_|refine ax_loop_exit ?_|refine atl_nil ?_|refine n_run ttok rfl rfl ?_|(apply s_bin; refine n_bin ?_)|fail))
      exact ax_roundK (i + 1, _, _) rfl ⟨by rw [Int.natCast_add]; rfl, trivial⟩ ⟨by dsimp only; omega, hC.next hf hT hx hgl⟩ (by dsimp only; omega) (fun _ _ h => h)
  · have hil : i = f.Glyphs.length := by have := of_decide_eq_false h; rw [hTi] at this; omega
    subst hil
    clear h
    have hdeep : DeepOk f D P := by
      intro z h0 h1 gl hgl
      obtain ⟨j, hj⟩ := List.mem_iff_getElem?.1 (hall z h0 h1)
      exact hC.done j z (by have := (List.getElem?_eq_some_iff.1 hj).1; omega) hj gl hgl
    have hcd : ∀ F : Int → Int, cellsF f.Glyphs.length F = (ints ((upTo f.Glyphs.length).map F)).flatten := fun F => by rw [ints_flat]; unfold cellsF; rw [List.map_map]; rfl
    have hcl : ∀ F : Int → Int, (ints ((upTo f.Glyphs.length).map F)).length = f.Glyphs.length := fun F => by rw [ints_len, List.length_map, upTo_len]
    refine at_turn (turn_boxP (t := 7) (sz := 1) (l := ints ((upTo f.Glyphs.length).map D)) 1 rfl rfl (hcd D) (by simp [ints]) (hcl D) (by omega)) ?_
    refine at_turn (turn_boxP (t := 8) (sz := 1) (l := ints ((upTo f.Glyphs.length).map P)) 1 rfl rfl (hcd P) (by simp [ints]) (hcl P) (by omega)) ?_
    (repeat' (first|refine at_seq ?_|refine at_region ?_|refine at_exit ?_|refine ax_then ?_|refine ax_then_exit ?_|refine ax_blk_exit ?_|refine ax_loop_exit ?_|refine n_run ttok rfl rfl ?_|refine n_litI ttok ?_|fail))
    refine n_callA [] _ (first_ac [⟨163, [.iptr [.imm 1 (ints ((upTo f.Glyphs.length).map D))]], [], (eachL ((upTo f.Glyphs.length).map D) deepE).1, (eachL ((upTo f.Glyphs.length).map D) deepE).2⟩, ⟨166, [.iptr [.imm 1 (ints ((upTo f.Glyphs.length).map P))]], [], (eachL ((upTo f.Glyphs.length).map P) manyE).1, (eachL ((upTo f.Glyphs.length).map P) manyE).2⟩] ⟨⟨inferInstance, comp1_det _⟩, fun _ => ⟨⟨inferInstance, comp2_det _⟩, fun _ => trivial⟩⟩) rfl rfl (List.Perm.refl _) rfl fun c L1 hc => ?_
    rw [lkE_map] at hc
    have hc : c = tup2 (compE f.Glyphs.length D P) := hc
    subst hc
    unfold tup2
    (repeat' (first|refine at_ret ?_|refine ax_then ?_|refine atl_nil ?_|refine n_run ttok rfl rfl ?_|fail))
    exact ax_ret2 rfl rfl rfl (.inl ⟨D, P, hdeep, hacy, rfl⟩)
end Go.Proofs.YtpbinloeemebkaaGreat

namespace Go.Proofs.YtpbinloeemebkaaGreat
open Go.RowKit
attribute [local irreducible] AT ATL AX AO Av Kt ALoopK OkA DA DA1
theorem eachGo_zero_iff {err : Nat → Int} : ∀ (k i : Nat), (eachGo err k i).1 = 0 ↔ ∀ j, i ≤ j → j < i + k → err j = 0
  | 0, i => by simp only [eachGo, true_iff]; intro j h1 h2; omega
  | k + 1, i => by
    simp only [eachGo]
    by_cases h : err i = 0
    · rw [if_pos h, eachGo_zero_iff k (i + 1)]
      constructor
      · intro hh j h1 h2
        by_cases e : j = i
        · subst e; exact h
        · exact hh j (by omega) (by omega)
      · intro hh j h1 h2; exact hh j (by omega) (by omega)
    · rw [if_neg h]
      constructor
      · intro hh; exact absurd hh h
      · intro hh; exact hh i (Nat.le_refl _) (by omega)
theorem eachL_zero_iff {α : Type} {l : List α} {w : Nat → α → Int} : (eachL l w).1 = 0 ↔ ∀ i x, l[i]? = some x → w i x = 0 := by
  unfold eachL eachE
  rw [eachGo_zero_iff]
  constructor
  · intro h i x hx
    have := h i (Nat.zero_le _) (by have := (List.getElem?_eq_some_iff.1 hx).1; omega)
    rwa [errAt_get hx] at this
  · intro h j _ hj
    obtain ⟨x, hx⟩ : ∃ x, l[j]? = some x := ⟨_, List.getElem?_eq_getElem (by omega)⟩
    rw [errAt_get hx]
    exact h j x hx
theorem someL_zero_iff {α : Type} {most : Int} {l : List α} {w : Nat → α → Int} : (someL most l w).1 = 0 ↔ (l.length : Int) ≤ most ∧ ∀ i x, l[i]? = some x → w i x = 0 := by
  have h := eachL_zero_iff (l := l) (w := w)
  unfold eachL at h
  unfold someL someE
  by_cases hm : (l.length : Int) > most
  · rw [if_pos hm]
    constructor
    · intro hh; cases hh
    · intro hh; omega
  · rw [if_neg hm, h]
    exact ⟨fun hh => ⟨by omega, hh⟩, fun hh => hh.2⟩
theorem firstE_zero_iff : ∀ {l : List (Int × Int)}, (firstE l).1 = 0 ↔ ∀ x ∈ l, x.1 = 0
  | [] => by simp [firstE]
  | x :: r => by
    unfold firstE
    by_cases h : x.1 = 0
    · rw [if_pos h, firstE_zero_iff]
      constructor
      · intro hh y hy
        rcases List.mem_cons.1 hy with rfl | hy
        · exact h
        · exact hh y hy
      · intro hh y hy; exact hh y (List.mem_cons_of_mem _ hy)
    · rw [if_neg h]
      constructor
      · intro hh; exact absurd hh h
      · intro hh; exact hh x (List.mem_cons_self ..)
theorem whenE_zero {b : Bool} {e : Int} (he : e ≠ 0) : whenE b e = 0 ↔ b = false := by
  unfold whenE
  cases b with
  | true => simp [he]
  | false => simp
/-- glyphs in which nothing is wrong -/
theorem few_of_glyphs {f : FFont} (h : (someL 400 f.Glyphs (glyphAtE f)).1 = 0) : Few2 f := by
  obtain ⟨h1, h2⟩ := someL_zero_iff.1 h
  have hg : ∀ gl ∈ f.Glyphs, ∃ name, glyphE f gl name = 0 := fun gl hgl => by
    obtain ⟨i, hi⟩ := List.mem_iff_getElem?.1 hgl
    exact ⟨_, h2 i gl hi⟩
  have hgl : ∀ gl ∈ f.Glyphs, shapeE gl = 0 ∧ (someL 8 gl.Parts (partE f)).1 = 0 := fun gl hm => by
    obtain ⟨name, hn⟩ := hg gl hm
    unfold glyphE at hn
    rw [firstE_zero_iff] at hn
    exact ⟨hn (shapeE gl, 0) (by simp), hn (someL 8 gl.Parts (partE f)) (by simp)⟩
  refine ⟨⟨by omega, fun gl hm => ?_⟩, fun gl hm => ?_, fun gl hm p hp => ?_⟩
  · have := (someL_zero_iff.1 (hgl gl hm).2).1; omega
  · have h3 := (hgl gl hm).1
    unfold shapeE at h3
    split at h3
    · cases h3
    · split at h3
      · cases h3
      · omega
  · obtain ⟨i, hi⟩ := List.mem_iff_getElem?.1 hp
    have h3 := (someL_zero_iff.1 (hgl gl hm).2).2 i p hi
    unfold partE at h3
    split at h3
    · cases h3
    · rename_i hh
      simpa using hh
theorem deep_same {f : FFont} (hf : Few2 f) (ha : Acyc f.Glyphs.length (prt f)) {D P D' P' : Int → Int} (h : DeepOk f D P) (h' : DeepOk f D' P') : ∀ z : Int, 0 ≤ z → z < f.Glyphs.length → D z = D' z ∧ P z = P' z := by
  obtain ⟨r, hr⟩ := ha
  have : ∀ (k : Nat) (z : Int), r z < k → 0 ≤ z → z < f.Glyphs.length → D z = D' z ∧ P z = P' z := by
    intro k
    induction k with
    | zero => intro z hk; exact absurd hk (Nat.not_lt_zero _)
    | succ k ih =>
      intro z hk h0 h1
      obtain ⟨gl, hgl⟩ : ∃ g, f.Glyphs[z.toNat]? = some g := ⟨_, List.getElem?_eq_getElem (by omega)⟩
      have hsm : ∀ p ∈ gl.Parts, D p.Glyph = D' p.Glyph ∧ P p.Glyph = P' p.Glyph := fun p hp => by
        have hin := isG_iff.1 (hf.there gl (List.mem_of_getElem? hgl) p hp)
        have := hr z h0 h1 p.Glyph (by rw [prt_all hf hgl]; exact List.mem_map_of_mem hp)
        exact ih p.Glyph (by omega) hin.1 hin.2
      obtain ⟨h2, h3⟩ := h z h0 h1 gl hgl
      obtain ⟨h4, h5⟩ := h' z h0 h1 gl hgl
      rw [h2, h3, h4, h5]
      exact ⟨dF_congr fun p hp => (hsm p hp).1, pF_congr fun p hp => (hsm p hp).2⟩
  intro z h0 h1
  exact this (r z + 1) z (by omega) h0 h1
theorem compE_same {n : Nat} {D P D' P' : Int → Int} (h : ∀ z : Int, 0 ≤ z → z < n → D z = D' z ∧ P z = P' z) : compE n D P = compE n D' P' := by
  unfold compE
  rw [List.map_congr_left (f := D) (g := D') fun z hz => (h z (mem_upTo.1 hz).1 (mem_upTo.1 hz).2).1, List.map_congr_left (f := P) (g := P') fun z hz => (h z (mem_upTo.1 hz).1 (mem_upTo.1 hz).2).2]
open Classical in
noncomputable def compV (f : FFont) : Int × Int := if h : ∃ q : (Int → Int) × (Int → Int), DeepOk f q.1 q.2 then compE f.Glyphs.length h.choose.1 h.choose.2 else (0, 0)
theorem compV_eq {f : FFont} (hf : Few2 f) (ha : Acyc f.Glyphs.length (prt f)) {D P : Int → Int} (h : DeepOk f D P) : compV f = compE f.Glyphs.length D P := by
  unfold compV
  have hex : ∃ q : (Int → Int) × (Int → Int), DeepOk f q.1 q.2 := ⟨(D, P), h⟩
  rw [dif_pos hex]
  exact compE_same (deep_same hf ha hex.choose_spec h)
theorem comp_ac (f : FFont) (hf : Few2 f) (ha : Acyc f.Glyphs.length (prt f)) : AC Tryz.prog 88 [.iptr (cFont f)] [] fun c _ => c = tup2 ((compV f).1, (compV f).2) := by
  refine ac_of Tryz.func88 rfl Tryz.ntmps88 rfl fun B => ?_
  (repeat' (first|refine at_seq ?_|refine at_region ?_|refine ax_then ?_|refine atl_nil ?_|refine n_run ttok rfl rfl ?_|fail))
  refine n_callA [] [] (composed_ac f hf (.inl ha)) rfl rfl (List.Perm.refl _) rfl fun c L1 hc => ?_
  rcases hc with ⟨D, P, h1, h2, hc⟩ | ⟨hna, _⟩
  · rw [← compV_eq hf ha h1] at hc
    subst hc
    unfold tup2
    (repeat' (first|refine at_ret ?_|refine ax_then ?_|refine atl_nil ?_|refine n_run ttok rfl rfl ?_|fail))
    exact ax_ret2 rfl rfl rfl rfl
  · exact absurd ha hna
def funcE (_ : Nat) (l : List FIns) : Int := progE l
def regAtE (f : FFont) (_ : Nat) (r : List FTent) : Int := regE f.Axes.length r
def lookAtE (f : FFont) (_ : Nat) (l : FLookup) : Int := lookupE f l
noncomputable def fontL (f : FFont) : List (Int × Int) := [(headE f, 0), someL 400 f.Glyphs (glyphAtE f), compV f, someL 1000 f.Chars (charAtE f), someL 40 f.Lookups (lookAtE f), someL 20 f.Features (featAtE f), someL 3 f.Axes (axisAtE f), someL 16 f.Regions (regAtE f), someL 20 f.Funcs funcE, someL 64 f.Cvt cvtE]
noncomputable def fontE (f : FFont) : Int × Int := firstE (fontL f)
noncomputable def fontLks (f : FFont) (m1 m2 m3 : Nat) : List Lk := [⟨81, [.iptr (cFont f)], [], headE f, 0⟩,
  ⟨148, [.iptr [.imm 9 (f.Glyphs.map cGlyph)], .iptr [I64 400], .iptr [.fn 84 [.iptr (cFont f), .iptr [.sc (.map (some m1))]]]], [(m1, mapB .string (firstM (gNames f)))], (someL 400 f.Glyphs (glyphAtE f)).1, (someL 400 f.Glyphs (glyphAtE f)).2⟩,
  ⟨88, [.iptr (cFont f)], [], (compV f).1, (compV f).2⟩,
  ⟨168, [.iptr [.imm 2 (f.Chars.map cChar)], .iptr [I64 1000], .iptr [.fn 91 [.iptr (cFont f)]]], [], (someL 1000 f.Chars (charAtE f)).1, (someL 1000 f.Chars (charAtE f)).2⟩,
  ⟨170, [.iptr [.imm 3 (f.Lookups.map cLookup)], .iptr [I64 40], .iptr [.fn 94 [.iptr (cFont f)]]], [], (someL 40 f.Lookups (lookAtE f)).1, (someL 40 f.Lookups (lookAtE f)).2⟩,
  ⟨178, [.iptr [.imm 2 (f.Features.map cFeature)], .iptr [I64 20], .iptr [.fn 97 [.iptr (cFont f), .iptr [.sc (.map (some m2))]]]], [(m2, mapB .string (firstM (tNames f)))], (someL 20 f.Features (featAtE f)).1, (someL 20 f.Features (featAtE f)).2⟩,
  ⟨181, [.iptr [.imm 4 (f.Axes.map cAxis)], .iptr [I64 3], .iptr [.fn 101 [.iptr [.sc (.map (some m3))]]]], [(m3, mapB .string (firstM (aNames f)))], (someL 3 f.Axes (axisAtE f)).1, (someL 3 f.Axes (axisAtE f)).2⟩,
  ⟨183, [.iptr [.imm 1 (f.Regions.map cRegion)], .iptr [I64 16], .iptr [.fn 104 [.iptr (cFont f)]]], [], (someL 16 f.Regions (regAtE f)).1, (someL 16 f.Regions (regAtE f)).2⟩,
  ⟨187, [.iptr [.imm 1 (f.Funcs.map cCode)], .iptr [I64 20], .iptr [.sc (.func (.func 107) #[] #[])]], [], (someL 20 f.Funcs funcE).1, (someL 20 f.Funcs funcE).2⟩,
  ⟨191, [.iptr [.imm 1 (f.Cvt.map cInt)], .iptr [I64 64], .iptr [.sc (.func (.func 110) #[] #[])]], [], (someL 64 f.Cvt cvtE).1, (someL 64 f.Cvt cvtE).2⟩]
theorem fontLks_ok (f : FFont) (m1 m2 m3 : Nat) (hA : (someL 400 f.Glyphs (glyphAtE f)).1 = 0 → Acyc f.Glyphs.length (prt f)) : lkOk (fontLks f m1 m2 m3) := by
  refine ⟨⟨inferInstance, head1_det f⟩, fun _ => ⟨⟨inferInstance, ?_⟩, fun h1 => ⟨⟨inferInstance, comp_ac f (few_of_glyphs h1) (hA h1)⟩, fun _ => ⟨⟨inferInstance, ?_⟩, fun _ => ⟨⟨inferInstance, ?_⟩, fun _ => ⟨⟨inferInstance, ?_⟩, fun _ => ⟨⟨inferInstance, ?_⟩, fun _ => ⟨⟨inferInstance, ?_⟩, fun _ => ⟨⟨inferInstance, ?_⟩, fun _ => ⟨⟨inferInstance, ?_⟩, fun _ => trivial⟩⟩⟩⟩⟩⟩⟩⟩⟩⟩
  · exact some148 (u := .fn 84 [.iptr (cFont f), .iptr [.sc (.map (some m1))]]) rfl f.Glyphs 400 (errAt f.Glyphs (glyphAtE f)) (fun _ L => L = [(m1, mapB .string (firstM (gNames f)))]) _ rfl fun _ => wrong_st fun i x _ => glyphAt_ac f i x m1
  · exact some168 (u := .fn 91 [.iptr (cFont f)]) rfl f.Chars 1000 (errAt f.Chars (charAtE f)) (fun _ _ => True) [] trivial fun hm => wrong_det fun i x hx => char1_det f i x hx hm
  · exact some170 (u := .fn 94 [.iptr (cFont f)]) rfl f.Lookups 40 (errAt f.Lookups (lookAtE f)) (fun _ _ => True) [] trivial fun _ => wrong_det fun i x _ => lookupAt_det f i x
  · exact some178 (u := .fn 97 [.iptr (cFont f), .iptr [.sc (.map (some m2))]]) rfl f.Features 20 (errAt f.Features (featAtE f)) (fun _ L => L = [(m2, mapB .string (firstM (tNames f)))]) _ rfl fun _ => wrong_st fun i x _ => featAt_ac f i x m2
  · exact some181 (u := .fn 101 [.iptr [.sc (.map (some m3))]]) rfl f.Axes 3 (errAt f.Axes (axisAtE f)) (fun _ L => L = [(m3, mapB .string (firstM (aNames f)))]) _ rfl fun _ => wrong_st fun i x _ => axisAt_ac f i x m3
  · exact some183 (u := .fn 104 [.iptr (cFont f)]) rfl f.Regions 16 (errAt f.Regions (regAtE f)) (fun _ _ => True) [] trivial fun _ => wrong_det fun i x _ => region1_det f i x
  · exact some187 (u := .sc (.func (.func 107) #[] #[])) (g := 107) (caps := []) rfl f.Funcs 20 (errAt f.Funcs funcE) (fun _ _ => True) [] trivial fun _ => wrong_det fun i x _ => code1_det i x
  · exact some191 (u := .sc (.func (.func 110) #[] #[])) (g := 110) (caps := []) rfl f.Cvt 64 (errAt f.Cvt cvtE) (fun _ _ => True) [] trivial fun _ => wrong_det fun i x _ => cvt1_det i x
set_option maxHeartbeats 4000000 in
theorem font_ac (f : FFont) (hA : (someL 400 f.Glyphs (glyphAtE f)).1 = 0 → Acyc f.Glyphs.length (prt f)) : AC Tryz.prog 53 [aFont f] [] fun c _ => c = tup2 (fontE f) := by
  refine ac_of Tryz.func53 rfl Tryz.ntmps53 rfl fun B => ?_
  (repeat' (first|refine at_seq ?_|refine at_region ?_|refine ax_then ?_|refine atl_nil ?_|refine n_run ttok rfl rfl ?_|refine n_boxI ?_|fail))
  refine n_callA [] _ (firsts74 f.Glyphs) rfl rfl (List.Perm.refl _) rfl fun c L1 ⟨m1, hc, hL⟩ => ?_
  subst hc; subst hL
  (repeat' (first|refine at_seq ?_|refine at_region ?_|refine ax_then ?_|refine atl_nil ?_|refine n_run ttok rfl rfl ?_|(apply s_store; first|refine n_storeF 4 ttok 0 rfl rfl rfl rfl rfl rfl rfl rfl ?_|refine n_storeF 4 ttok 1 rfl rfl rfl rfl rfl rfl rfl rfl ?_|refine n_storeF 4 ttok 2 rfl rfl rfl rfl rfl rfl rfl rfl ?_|refine n_storeF 5 ttok 0 rfl rfl rfl rfl rfl rfl rfl rfl ?_|refine n_storeF 5 ttok 1 rfl rfl rfl rfl rfl rfl rfl rfl ?_|refine n_storeF 5 ttok 2 rfl rfl rfl rfl rfl rfl rfl rfl ?_|refine n_storeF 6 ttok 0 rfl rfl rfl rfl rfl rfl rfl rfl ?_|refine n_storeF 6 ttok 1 rfl rfl rfl rfl rfl rfl rfl rfl ?_|refine n_storeF 6 ttok 2 rfl rfl rfl rfl rfl rfl rfl rfl ?_|refine n_store ttok 0 rfl rfl rfl rfl rfl rfl rfl ?_|refine n_store ttok 1 rfl rfl rfl rfl rfl rfl rfl ?_|refine n_store ttok 2 rfl rfl rfl rfl rfl rfl rfl ?_|refine n_store ttok 3 rfl rfl rfl rfl rfl rfl rfl ?_|fail)|refine n_alloc ttok fun _=>?_|fail))
  refine n_callA [] _ (firsts76 f.Features) rfl rfl (List.Perm.refl _) rfl fun c L1 ⟨m2, hc, hL⟩ => ?_
  subst hc; subst hL
  (repeat' (first|refine at_seq ?_|refine at_region ?_|refine ax_then ?_|refine atl_nil ?_|refine n_run ttok rfl rfl ?_|(apply s_store; first|refine n_storeF 4 ttok 0 rfl rfl rfl rfl rfl rfl rfl rfl ?_|refine n_storeF 4 ttok 1 rfl rfl rfl rfl rfl rfl rfl rfl ?_|refine n_storeF 4 ttok 2 rfl rfl rfl rfl rfl rfl rfl rfl ?_|refine n_storeF 5 ttok 0 rfl rfl rfl rfl rfl rfl rfl rfl ?_|refine n_storeF 5 ttok 1 rfl rfl rfl rfl rfl rfl rfl rfl ?_|refine n_storeF 5 ttok 2 rfl rfl rfl rfl rfl rfl rfl rfl ?_|refine n_storeF 6 ttok 0 rfl rfl rfl rfl rfl rfl rfl rfl ?_|refine n_storeF 6 ttok 1 rfl rfl rfl rfl rfl rfl rfl rfl ?_|refine n_storeF 6 ttok 2 rfl rfl rfl rfl rfl rfl rfl rfl ?_|refine n_store ttok 0 rfl rfl rfl rfl rfl rfl rfl ?_|refine n_store ttok 1 rfl rfl rfl rfl rfl rfl rfl ?_|refine n_store ttok 2 rfl rfl rfl rfl rfl rfl rfl ?_|refine n_store ttok 3 rfl rfl rfl rfl rfl rfl rfl ?_|fail)|refine n_alloc ttok fun _=>?_|fail))
  refine n_callA [] _ (firsts78 f.Axes) rfl rfl (List.Perm.refl _) rfl fun c L1 ⟨m3, hc, hL⟩ => ?_
  subst hc; subst hL
  (repeat' (first|refine at_seq ?_|refine ax_then ?_|refine atl_nil ?_|(apply s_store; first|refine n_storeF 4 ttok 0 rfl rfl rfl rfl rfl rfl rfl rfl ?_|refine n_storeF 4 ttok 1 rfl rfl rfl rfl rfl rfl rfl rfl ?_|refine n_storeF 4 ttok 2 rfl rfl rfl rfl rfl rfl rfl rfl ?_|refine n_storeF 5 ttok 0 rfl rfl rfl rfl rfl rfl rfl rfl ?_|refine n_storeF 5 ttok 1 rfl rfl rfl rfl rfl rfl rfl rfl ?_|refine n_storeF 5 ttok 2 rfl rfl rfl rfl rfl rfl rfl rfl ?_|refine n_storeF 6 ttok 0 rfl rfl rfl rfl rfl rfl rfl rfl ?_|refine n_storeF 6 ttok 1 rfl rfl rfl rfl rfl rfl rfl rfl ?_|refine n_storeF 6 ttok 2 rfl rfl rfl rfl rfl rfl rfl rfl ?_|refine n_store ttok 0 rfl rfl rfl rfl rfl rfl rfl ?_|refine n_store ttok 1 rfl rfl rfl rfl rfl rfl rfl ?_|refine n_store ttok 2 rfl rfl rfl rfl rfl rfl rfl ?_|refine n_store ttok 3 rfl rfl rfl rfl rfl rfl rfl ?_|fail)|refine n_alloc ttok fun _=>?_|fail))
  refine at_draw 36 [(0, .v), (1, .v), (2, .v), (3, .v), (4, .v), (5, .v), (6, .v), (7, .v), (8, .v), (9, .v), (10, .v), (11, .v), (12, .v), (13, .v), (14, .v), (15, .v), (16, .v), (17, .v), (18, .v), (19, .v), (20, .v), (21, .v), (22, .v), (23, .v), (24, .v), (25, .v), (26, .v), (27, .v), (28, .v), (29, .v), (30, .v), (31, .v), (32, .v), (33, .e), (34, .v), (35, .v)] none ?_ trivial rfl (by kernel_rfl) (by kernel_rfl) (by kernel_rfl) mixed (by kernel_rfl) rfl
  (repeat' (first|refine da_open ?_|refine d_run ttok ?_|(apply ds_call;refine d_call ?_)|fail))
  refine d_call (hc := ⟨mkF109 f.Cvt 64⟩) ?_
  (repeat' (first|refine da_open ?_|refine d_lit ttok ?_|fail))
  refine d_callA (L := [(m3, mapB .string (firstM (aNames f))), (m2, mapB .string (firstM (tNames f))), (m1, mapB .string (firstM (gNames f)))]) _ [] (first_ac (fontLks f m1 m2 m3) (fontLks_ok f m1 m2 m3 hA)) rfl rfl (by rw [List.append_nil]; exact (List.reverse_perm _).symm) trivial fun c L1 hc => ?_
  rw [lkE_map] at hc
  have hc : c = tup2 (fontE f) := hc
  subst hc
  unfold tup2
  (repeat' (first|refine da_open ?_|refine d_run ttok ?_|fail))
  refine da_end [50, 51] rfl rfl ?_
  (repeat' (first|refine at_ret ?_|refine ax_then ?_|refine atl_nil ?_|refine n_run ttok rfl rfl ?_|fail))
  exact ax_ret2 rfl rfl rfl rfl
theorem right_ac (f : FFont) (hA : (someL 400 f.Glyphs (glyphAtE f)).1 = 0 → Acyc f.Glyphs.length (prt f)) : ADet Tryz.prog 34 [aFont f] (Bol (decide ((fontE f).1 = 0))) := by
  refine ac_of Tryz.func34 rfl Tryz.ntmps34 rfl fun B => ?_
  (repeat' (first|refine at_seq ?_|refine at_region ?_|refine ax_then ?_|refine atl_nil ?_|refine n_run ttok rfl rfl ?_|refine n_boxI ?_|fail))
  refine n_callA [] [] (font_ac f hA) rfl rfl (List.Perm.refl _) rfl fun c L1 hc => ?_
  subst hc
  unfold tup2
  (repeat' (first|refine at_seq ?_|refine at_region ?_|refine at_ret ?_|refine ax_then ?_|refine atl_nil ?_|refine n_run ttok rfl rfl ?_|fail))
  exact ax_ret1 rfl rfl rfl
end Go.Proofs.YtpbinloeemebkaaGreat

namespace Go.Proofs.YtpbinloeemebkaaGreat
open Go.RowKit
attribute [local irreducible] AT ATL AX AO Av Kt ALoopK OkA DA DA1
theorem pendLk {α : Type} {σ0 : Mem} {l p b n : Nat} (S : α → List Int) (K : α → Option (Nat × Nat)) (E : α → AL) (J : Nat → α → Prop) (hn : n ≤ 1000000) (hJ : ∀ i x, J i x → i ≤ (S x).length ∧ (S x).length ≤ n)
    (hy : ∀ i x z, J i x → (S x)[i]? = some z → AY Tryz.prog σ0 l [I64 z] (setLk p b n (K x) (S x) ++ E x) fun c L => c = Bol true ∧ ∃ x', J (i + 1) x' ∧ L = setLk p b n (K x') (S x') ++ E x') (x0 : α) (h0 : J 0 x0) :
    ACs Tryz.prog σ0 51 [.sc (.func (.yield l) #[] #[]), .iptr [Ptr p]] (setLk p b n (K x0) (S x0) ++ E x0) fun _ L => ∃ x, J (S x).length x ∧ L = setLk p b n (K x) (S x) ++ E x := by
  refine acs_of Tryz.func51 rfl Tryz.ntmps51 rfl fun B hB => ?_
  (repeat' (first|refine at_seq ?_|refine at_region ?_|refine at_block ?_|refine ax_then ?_|refine atl_nil ?_|refine n_run ttok rfl rfl ?_|fail))
  refine at_loopK [0, 1] (α := Nat × α) (fun y => [(3, I64 y.1)]) (fun y => J y.1 y.2) (fun y => setLk p b n (K y.2) (S y.2) ++ E y.2) (fun y => n - y.1) (0, x0) rfl ⟨rfl, trivial⟩ h0 (fun _ _ h => h) ?_
  rintro ⟨i, x⟩ hj
  dsimp only at hj ⊢
  obtain ⟨hi, hl⟩ := hJ i x hj
  try dsimp only [List.cons_append, List.nil_append, List.map_cons, List.map_nil]
  (repeat' (first|refine at_seq ?_|refine at_region ?_|refine ax_then ?_|refine atl_nil ?_|refine n_run ttok rfl rfl ?_|(apply s_load; first|refine n_load ttok 0 rfl rfl rfl rfl rfl ?_|refine n_load ttok 1 rfl rfl rfl rfl rfl ?_|refine n_load ttok 2 rfl rfl rfl rfl rfl ?_|refine n_load ttok 3 rfl rfl rfl rfl rfl ?_|refine n_loadA ttok 0 rfl rfl rfl rfl rfl ?_|refine n_loadA ttok 1 rfl rfl rfl rfl rfl ?_|refine n_loadA ttok 2 rfl rfl rfl rfl rfl ?_|refine n_load ttok 1 rfl rfl rfl (by assumption) rfl ?_|refine n_load ttok 0 rfl rfl rfl (by assumption) rfl ?_|fail)|fail))
  refine at_cond rfl (fun h => ?_) (fun h => ?_)
  · have hil : i < (S x).length := by have := of_decide_eq_true h; simp [ints_len] at this; omega
    obtain ⟨z, hz⟩ : ∃ z, (S x)[i]? = some z := ⟨_, List.getElem?_eq_getElem hil⟩
    have hzg := ints_get hz
    (repeat' (first|refine at_seq ?_|refine at_region ?_|refine at_block ?_|refine at_skip ?_|refine ax_then ?_|refine n_run ttok rfl rfl ?_|(apply s_load; first|refine n_load ttok 0 rfl rfl rfl rfl rfl ?_|refine n_load ttok 1 rfl rfl rfl rfl rfl ?_|refine n_load ttok 2 rfl rfl rfl rfl rfl ?_|refine n_load ttok 3 rfl rfl rfl rfl rfl ?_|refine n_loadA ttok 0 rfl rfl rfl rfl rfl ?_|refine n_loadA ttok 1 rfl rfl rfl rfl rfl ?_|refine n_loadA ttok 2 rfl rfl rfl rfl rfl ?_|refine n_load ttok 1 rfl rfl rfl (by assumption) rfl ?_|refine n_load ttok 0 rfl rfl rfl (by assumption) rfl ?_|fail)|(apply s_index; first|refine n_index ttok ?_|refine n_indexP ttok ?_)|fail))
    refine n_yield (setLk p b n (K x) (S x) ++ E x) [] hB (hy i x z hj hz) rfl rfl rfl (by rw [List.append_nil]) rfl rfl fun c L1 ⟨hc, x', hj', hL⟩ => ?_
    subst hc; subst hL
    rw [List.append_nil]
    (repeat' (first|refine at_region ?_|refine at_skip ?_|refine ax_then ?_|refine ax_blk ?_|refine atl_nil ?_|refine n_run ttok rfl rfl ?_|(apply s_bin; refine n_bin ?_)|refine n_condF rfl ?_|fail))
    have := hJ _ _ hj'
    exact ax_roundK (i + 1, x') rfl ⟨by rw [Int.natCast_add]; rfl, trivial⟩ hj' (by dsimp only; omega) (fun _ _ h => h)
  · have hil : i = (S x).length := by have := of_decide_eq_false h; simp [ints_len] at this; omega
    subst hil
    (repeat' (first|refine at_exit ?_|refine ax_then_exit ?_|refine ax_blk_exit ?_|refine ax_loop_exit ?_|fail))
    exact ax_end0 rfl ⟨x, hj, rfl⟩
theorem pendingLk (p : Nat) : ADet Tryz.prog 28 [Ptr p] (.fn 51 [.iptr [Ptr p]]) := by
  refine ac_of Tryz.func28 rfl Tryz.ntmps28 rfl fun B => ?_
  (repeat' (first|refine at_seq ?_|refine at_region ?_|refine at_ret ?_|refine ax_then ?_|refine atl_nil ?_|refine n_run ttok rfl rfl ?_|refine n_boxI ?_|fail))
  exact ax_ret1 rfl rfl rfl
instance (p : Nat) : AD Tryz.prog 28 [Ptr p] (.fn 51 [.iptr [Ptr p]]) := ⟨pendingLk p⟩
end Go.Proofs.YtpbinloeemebkaaGreat
