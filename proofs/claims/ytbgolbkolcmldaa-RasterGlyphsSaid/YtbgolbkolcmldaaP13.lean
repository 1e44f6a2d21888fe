/-
  Plain law: where the winding is not 0 there is a stretch; a pixel whose centre has a winding is black.
-/
import Derived.Test.YtbgolbkolcmldaaP9
namespace Go.Proofs.Ytbgolbkolcmldaa

theorem exists_min : ∀ (l : List Cr), Pos l → l ≠ [] → ∃ m ∈ l, ∀ x ∈ l, leP m.p x.p
  | [], _, h => absurd rfl h
  | [a], _, _ => ⟨a, by simp, fun x hx => by simp at hx; subst hx; exact leP_refl _⟩
  | a :: b :: l, hp, _ => by
    obtain ⟨m, hm, hx⟩ := exists_min (b :: l) (fun c hc => hp c (List.mem_cons_of_mem _ hc)) (by simp)
    rcases leP_total m.p a.p with h | h
    · exact ⟨m, List.mem_cons_of_mem _ hm, fun x hx' => by
        rcases List.mem_cons.1 hx' with rfl | hx'
        · exact h
        · exact hx x hx'⟩
    · exact ⟨a, by simp, fun x hx' => by
        rcases List.mem_cons.1 hx' with rfl | hx'
        · exact leP_refl _
        · exact leP_trans (hp a (by simp)) (hp m (List.mem_cons_of_mem _ hm)) (hp x (List.mem_cons_of_mem _ hx')) h (hx x hx')⟩
theorem max_of {cs : List Cr} (hpos : Pos cs) (p : Cr → Prop) [DecidablePred p] {c : Cr} (hc : c ∈ cs) (hp : p c) : ∃ m ∈ cs, p m ∧ ∀ x ∈ cs, p x → leP x.p m.p := by
  obtain ⟨m, hm, hx⟩ := exists_max (cs.filter fun x => decide (p x)) (fun c hc => hpos c (List.mem_filter.1 hc).1) (List.ne_nil_of_mem (List.mem_filter.2 ⟨hc, by simpa using hp⟩))
  have hm' := List.mem_filter.1 hm
  exact ⟨m, hm'.1, by simpa using hm'.2, fun x hx1 hx2 => hx x (List.mem_filter.2 ⟨hx1, by simpa using hx2⟩)⟩
theorem min_of {cs : List Cr} (hpos : Pos cs) (p : Cr → Prop) [DecidablePred p] {c : Cr} (hc : c ∈ cs) (hp : p c) : ∃ m ∈ cs, p m ∧ ∀ x ∈ cs, p x → leP m.p x.p := by
  obtain ⟨m, hm, hx⟩ := exists_min (cs.filter fun x => decide (p x)) (fun c hc => hpos c (List.mem_filter.1 hc).1) (List.ne_nil_of_mem (List.mem_filter.2 ⟨hc, by simpa using hp⟩))
  have hm' := List.mem_filter.1 hm
  exact ⟨m, hm'.1, by simpa using hm'.2, fun x hx1 hx2 => hx x (List.mem_filter.2 ⟨hx1, by simpa using hx2⟩)⟩

theorem W_max {cs : List Cr} {m : Cr} (h : ∀ x ∈ cs, leP x.p m.p) : W cs m.p = ways cs := W_all h
/-- a winding that is not 0 lies in a stretch -/
theorem stretch_at {cs : List Cr} (hpos : Pos cs) (h0 : ways cs = 0) {q : Place} (hq : 0 < q.2) (hW : W cs q ≠ 0) : ∃ a b, IsStr cs a b ∧ leP a.p q ∧ ¬ leP b.p q := by
  have hd : ∀ x ∈ cs, 0 < x.p.2 := fun x hx => hpos x hx
  have hne : ∃ c ∈ cs, leP c.p q := by
    refine Classical.byContradiction fun h => hW (W_none fun c hc hle => h ⟨c, hc, hle⟩)
  obtain ⟨c0, hc0, hc0q⟩ := hne
  obtain ⟨m, hm, hmq, hmx⟩ := max_of hpos (fun c => leP c.p q) hc0 hc0q
  have hWm : W cs m.p = W cs q := W_congr fun c hc => ⟨fun h => leP_trans (hd c hc) (hd m hm) hq h hmq, fun h => hmx c hc h⟩
  have hWm0 : W cs m.p ≠ 0 := by rw [hWm]; exact hW
  -- where the stretch begins
  have ha : ∃ a ∈ cs, leP a.p m.p ∧ Wlt cs a.p = 0 ∧ ∀ p ∈ cs, leP a.p p.p → leP p.p m.p → W cs p.p ≠ 0 := by
    by_cases hz : ∃ z ∈ cs, leP z.p m.p ∧ W cs z.p = 0
    · obtain ⟨z0, hz0, hz1⟩ := hz
      obtain ⟨z, hz, ⟨hzm, hzW⟩, hzx⟩ := max_of hpos (fun c => leP c.p m.p ∧ W cs c.p = 0) hz0 hz1
      have hmz : ¬ leP m.p z.p := fun h => hWm0 (by rw [W_eq hpos (hd m hm) (hd z hz) ⟨h, hzm⟩]; exact hzW)
      obtain ⟨a, ha, haz, hax⟩ := min_of hpos (fun c => ¬ leP c.p z.p) hm hmz
      refine ⟨a, ha, hax m hm hmz, ?_, fun p hp h1 h2 h3 => ?_⟩
      · rw [← hzW]
        refine Wlt_W fun c hc => ⟨fun h => ?_, fun h h2 => haz (leP_trans (hd a ha) (hd c hc) (hd z hz) h2 h)⟩
        exact Classical.byContradiction fun h2 => h (hax c hc h2)
      · exact haz (leP_trans (hd a ha) (hd p hp) (hd z hz) h1 (hzx p hp ⟨h2, h3⟩))
    · obtain ⟨a, ha, _, hax⟩ := min_of hpos (fun _ => True) hm trivial
      exact ⟨a, ha, hax m hm trivial, Wlt_none fun c hc => hax c hc trivial, fun p hp _ h2 h3 => hz ⟨p, hp, h2, h3⟩⟩
  obtain ⟨a, ha, ham, ha0, haW⟩ := ha
  -- where it ends
  obtain ⟨M, hM, _, hMx⟩ := max_of hpos (fun _ => True) hm trivial
  have hMW : W cs M.p = 0 := by rw [W_max fun x hx => hMx x hx trivial]; exact h0
  have hMm : ¬ leP M.p m.p := fun h => hWm0 (by rw [W_eq hpos (hd m hm) (hd M hM) ⟨hMx m hm trivial, h⟩]; exact hMW)
  obtain ⟨b, hb, ⟨hbm, hbW⟩, hbx⟩ := min_of hpos (fun c => ¬ leP c.p m.p ∧ W cs c.p = 0) hM ⟨hMm, hMW⟩
  refine ⟨a, b, ⟨ha, hb, ha0, fun p hp h1 h2 h3 => ?_, hbW, fun h => hbm (leP_trans (hd b hb) (hd a ha) (hd m hm) h ham)⟩, leP_trans (hd a ha) (hd m hm) hq ham hmq, fun h => hbm (hmx b hb h)⟩
  by_cases hpm : leP p.p m.p
  · exact haW p hp h1 hpm h3
  · exact h2 (hbx p hp ⟨hpm, h3⟩)

/-! ### as many ways up as down -/
def below (y : Int) (p : Int × Int) : Int := if cut p.2 ≤ y then 1 else 0
theorem ways_side (k : Int) (s : (Int × Int) × (Int × Int)) : ways (crP k s) = below (64 * k + 32) s.1 - below (64 * k + 32) s.2 := by
  obtain ⟨p, q⟩ := s
  unfold crP edgeP edgeV below
  dsimp only
  by_cases h : cut q.2 < cut p.2
  · simp only [h, if_true]
    by_cases hc : crB (64 * k + 32) (cut q.1, cut q.2, cut p.1, cut p.2, -1) = true
    · rw [List.filter_cons_of_pos hc]
      have := (crB_iff _ _).1 hc
      dsimp only at this
      rw [if_neg (by omega), if_pos (by omega)]
      simp [ways, crOf]
    · rw [List.filter_cons_of_neg hc]
      rw [crB_iff] at hc
      dsimp only at hc
      by_cases h1 : cut p.2 ≤ 64 * k + 32
      · rw [if_pos h1, if_pos (by omega)]; rfl
      · rw [if_neg h1, if_neg (by omega)]; rfl
  · simp only [h, if_false]
    by_cases h2 : cut p.2 < cut q.2
    · simp only [h2, if_true]
      by_cases hc : crB (64 * k + 32) (cut p.1, cut p.2, cut q.1, cut q.2, 1) = true
      · rw [List.filter_cons_of_pos hc]
        have := (crB_iff _ _).1 hc
        dsimp only at this
        rw [if_pos (by omega), if_neg (by omega)]
        simp [ways, crOf]
      · rw [List.filter_cons_of_neg hc]
        rw [crB_iff] at hc
        dsimp only at hc
        by_cases h1 : cut q.2 ≤ 64 * k + 32
        · rw [if_pos (by omega), if_pos h1]; rfl
        · rw [if_neg (by omega), if_neg h1]; rfl
    · simp only [h2, if_false]
      have e : cut p.2 = cut q.2 := by omega
      rw [e]
      simp [ways]
theorem ways_flat {α : Type} (f : α → List Cr) : ∀ l : List α, ways (l.flatMap f) = (l.map fun a => ways (f a)).sum
  | [] => rfl
  | a :: l => by rw [List.flatMap_cons, ways_append, ways_flat f l]; rfl
theorem steps_tele (g : (Int × Int) → Int) : ∀ (l : Pts) (a b : Int × Int), ((steps (a :: l ++ [b])).map fun s => g s.1 - g s.2).sum = g a - g b
  | [], a, b => by simp [steps]
  | c :: l, a, b => by
    have := steps_tele g l c b
    simp only [List.cons_append, steps, List.map_cons, List.sum_cons] at this ⊢
    rw [this]; omega
theorem ways_zero (ls : List Pts) (k : Int) : ways (crs ls k) = 0 := by
  rw [crs_segs, ways_flat]
  simp only [ways_side]
  induction ls with
  | nil => rfl
  | cons l ls ih =>
    have e : segs (l :: ls) = pairs l ++ segs ls := by simp [segs]
    rw [e, List.map_append, List.sum_append, ih]
    cases l with
    | nil => rfl
    | cons h t => rw [pairs, steps_tele]; omega

/-! ### the winding of a pixel's centre -/
theorem sum_flat {α : Type} (g : Edg → Int) : ∀ l : List Edg, (l.map g).sum = (l.map g).sum := fun _ => rfl
theorem wind_W (ls : List Pts) (i k : Int) (hi : -1000000 ≤ i ∧ i ≤ 1000000) (hk : -1000000 ≤ k ∧ k ≤ 1000000) : wind ls (64 * i + 32) (64 * k + 32) = W (crs ls k) (64 * i + 32, 1) := by
  unfold wind crs
  rw [cut_id (by omega), cut_id (by omega)]
  generalize edgesAll ls = es
  induction es with
  | nil => rfl
  | cons e es ih =>
    unfold windE at ih ⊢
    rw [List.map_cons, List.sum_cons, ih]
    by_cases hc : crB (64 * k + 32) e = true
    · rw [List.filter_cons_of_pos hc]
      simp only [W, List.map_cons, List.sum_cons]
      congr 1
      have hc' : (decide (e.2.1 ≤ 64 * k + 32) && decide (64 * k + 32 < e.2.2.2.1)) = true := hc
      unfold windOne
      by_cases hl : leP (crOf (64 * k + 32) e).p (64 * i + 32, 1)
      · rw [if_pos hl, if_pos ⟨hc', by rw [cmpI_le]; exact hl⟩]; rfl
      · rw [if_neg hl, if_neg fun h => hl (by have := h.2; rw [cmpI_le] at this; exact this)]
    · rw [List.filter_cons_of_neg hc]
      unfold windOne
      rw [if_neg fun h => hc h.1]
      omega
theorem blk_of_wind {ls : List Pts} {i k : Int} (hi : -1000000 ≤ i ∧ i ≤ 1000000) (hk : -1000000 ≤ k ∧ k ≤ 1000000) (h : wind ls (64 * i + 32) (64 * k + 32) ≠ 0) : Blk ls i k := by
  rw [wind_W ls i k hi hk] at h
  obtain ⟨a, b, hs, h1, h2⟩ := stretch_at (crs_pos ls k) (ways_zero ls k) (q := (64 * i + 32, 1)) Int.one_pos h
  refine ⟨a, b, hs, ?_⟩
  have e1 := (cf_leP (p := a.p) (c := i) (crs_pos _ _ a hs.ma)).2 h1
  have e2 : ¬ cf b.p.1 b.p.2 ≤ i := fun h3 => h2 ((cf_leP (p := b.p) (c := i) (crs_pos _ _ b hs.mb)).1 h3)
  simp only [inS, fillV]
  rw [if_neg (by omega)]
  simp
  omega
theorem blk_two {ls : List Pts} {i k : Int} (h : Blk ls i k) : 2 ≤ (crs ls k).length := by
  obtain ⟨a, b, hs, _⟩ := h
  have ha := hs.ma
  have hb := hs.mb
  have hap := hs.apart
  generalize crs ls k = cs at *
  match cs, ha, hb with
  | [c], ha, hb =>
    simp at ha hb
    subst ha; subst hb
    exact absurd (leP_refl _) hap
  | c :: d :: r, _, _ => simp

end Go.Proofs.Ytbgolbkolcmldaa
