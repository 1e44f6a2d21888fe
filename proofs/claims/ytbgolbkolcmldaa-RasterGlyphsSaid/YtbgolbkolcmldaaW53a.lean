/-
  'RasterGlyphs': the region that makes a zone, whatever its order.
-/
import Derived.Test.YtbgolbkolcmldaaW52
namespace Go.Proofs.Ytbgolbkolcmldaa
open Go.RowKit
section
variable {P : Program} {r : Option Nat} {Q : Exit → Act → World → Prop} {nt : Nat} {D : List Deferred} {fr : Fr} {I : World → Prop}
variable {w0 : World} {X : List Nat} {L : HL} {dd : Option Tmp} {ty t : TypeId} {pos : String} {af : Array Edge} {g : Option (Nat × Bool)} {x y : Operand}
theorem o_make {n : Nat} {e sz by_ : Nat} {k k' : IntKind} {z : List Value} [hc : CSl P t e sz by_] [hz : CZ P e z] (hsz : Nat.blt 0 sz = true) (hx : fev fr x = some (.int k (n : Int))) (hy : fev fr y = some (.int k' (n : Int))) (hby : by_ * n ≤ 281474976710656) (h63 : n ≤ 9223372036854775807) :
    O P ⟨dd, .makeSlice t x y, ty, pos, af, g⟩ fr (St w0 X L) (fun v' w' => ∃ b, v' = .slice (some ⟨b, 0, none⟩) n n ∧ St w0 X ((b, bx ((List.replicate n z).flatten) e) :: L) w') := by
  refine o_of fun ρ w hρ hw => ?_
  obtain ⟨i, zv, hi, hs1, hs2, hzv, hzs⟩ := hc.info
  obtain ⟨zv', hz1, hz2⟩ := hz.run
  have hzz : zv = zv' := by
    have := hz2 w
    simp [zeroValue, typeInfo, hi, hzv] at this
    exact this
  subst hzz
  have hb : (i.bytes : Int) * (n : Int) ≤ 281474976710656 := by
    rw [hs2]
    have h : ((by_ * n : Nat) : Int) ≤ 281474976710656 := by omega
    rwa [Int.natCast_mul] at h
  have hr := run_make (P := P) w t e i zv hc.under hi hzv k k' n n (by omega) (by omega) hb (by omega)
  simp only [Int.toNat_natCast] at hr
  refine ⟨_, _, ?_, w.heap.size, rfl, hw.alloc (.cells (madeCells zv.cells (n * i.size)) e) ?_⟩
  · simp [execOp, hρ _ _ hx, hρ _ _ hy, hr]
  · have hsz' : 0 < sz := by simpa [Nat.blt_eq] using hsz
    have := madeCells_flat zv.cells n (by omega)
    rw [hzs] at this
    have hl : zv.cells.toList = z := by rw [hz1]
    rw [hl] at this
    simp only [bx]
    rw [hs1, ← this]
end
/-- what is known of the region that makes a zone, when the operations in S are done -/
def JG (w3 : World) (vals : Fr) (m kk : Nat) (xs Z : List Value) (a : Value) (S : Nat → Bool) (ε : Nat → Value) (w : World) : Prop :=
  (∀ p ∈ vals, S p.1 = true → ε p.1 = p.2) ∧ (S 12 = true → ε 12 = .agg #[a, a, ε 4, ε 11]) ∧ (S 4 = true → ∃ b, ε 4 = .slice (some ⟨b, 0, none⟩) kk kk) ∧ ∃ b5 b13 Lv, (S 5 = true → ε 5 = .slice (some ⟨b5, 0, none⟩) 0 0) ∧ (S 13 = true → ε 13 = .pointer (some ⟨b13, 0, none⟩)) ∧ (S 11 = true → ∃ A c, ε 11 = .slice A m c ∧ OwnsV (.slice A m c) 3 1 m xs Lv) ∧ St w3 [] ((if S 13 then [(b13, bx Z 52)] else []) ++ ((if S 11 then Lv else []) ++ (if S 5 && !S 11 then [(b5, row 3 1 0 0 [])] else []))) w
section
variable {P : Program} {fr : Fr} {w3 : World} {vals : Fr} {m kk : Nat} {xs Z : List Value} {a : Value} {S : Nat → Bool} {ε : Nat → Value} {o : Oper} {l : List Oper}
theorem JG.known {w : World} (h : JG w3 vals m kk xs Z a S ε w) {j : Nat} (hj : (j, flook vals j) ∈ vals.map fun p => (p.1, some p.2)) (hS : S j = true) : ε j = lv vals j := by
  obtain ⟨p, hp, he⟩ := List.mem_map.1 hj
  injection he with h1 h2
  have := h.1 p hp (by rw [h1]; exact hS)
  rw [h1] at this
  rw [this, lv, ← h2]
  rfl
/-- a value that is known -/
theorem jg_val (k : Nat) (u : Value) (hu : lv vals k = u) (hn : (Nat.beq k 4 || Nat.beq k 5 || Nat.beq k 11 || Nat.beq k 12 || Nat.beq k 13) = false) (hvk : ∀ p ∈ vals, p.1 = k → p.2 = u) (hv : ∀ I : World → Prop, Pv P o (frkN l.toArray vals fr o.after.toList) I u) (hd : ∀ e ∈ o.after.toList, Region.binds .any e = true → S e.on = true) (hin : ∀ e ∈ o.after.toList, (e.on, flook vals e.on) ∈ vals.map fun p => (p.1, some p.2)) :
    O P o (frk l.toArray ε fr o.after.toList) (JG w3 vals m kk xs Z a S ε) (fun v w => JG w3 vals m kk xs Z a (mark S k) (upd ε k v) w) := by
  intro ρ w hρ hJ
  have hfr : frk l.toArray ε fr o.after.toList = frkN l.toArray vals fr o.after.toList := by
    rw [frkN_eq]
    exact frk_congr _ fun e he hb => hJ.known (hin e he) (hd e he hb)
  rw [hfr] at hρ
  refine (hv _ ρ w hρ hJ).mono fun v w' ⟨hvu, hJ'⟩ => ?_
  subst hvu
  simp only [Bool.or_eq_false_iff] at hn
  obtain ⟨⟨⟨⟨n4, n5⟩, n11⟩, n12⟩, n13⟩ := hn
  have e4 := Nat.ne_of_beq_eq_false n4
  have e5 := Nat.ne_of_beq_eq_false n5
  have e11 := Nat.ne_of_beq_eq_false n11
  have e12 := Nat.ne_of_beq_eq_false n12
  have e13 := Nat.ne_of_beq_eq_false n13
  obtain ⟨h1, h2, h3, b5, b13, Lv, h4, h5, h6, h7⟩ := hJ'
  have m4 : mark S k 4 = S 4 := by simp [mark, Ne.symm e4]
  have m5 : mark S k 5 = S 5 := by simp [mark, Ne.symm e5]
  have m11 : mark S k 11 = S 11 := by simp [mark, Ne.symm e11]
  have m12 : mark S k 12 = S 12 := by simp [mark, Ne.symm e12]
  have m13 : mark S k 13 = S 13 := by simp [mark, Ne.symm e13]
  have u4 : upd ε k v 4 = ε 4 := by simp [upd, Ne.symm e4]
  have u5 : upd ε k v 5 = ε 5 := by simp [upd, Ne.symm e5]
  have u11 : upd ε k v 11 = ε 11 := by simp [upd, Ne.symm e11]
  have u12 : upd ε k v 12 = ε 12 := by simp [upd, Ne.symm e12]
  have u13 : upd ε k v 13 = ε 13 := by simp [upd, Ne.symm e13]
  refine ⟨fun p hp hS => ?_, ?_, ?_, b5, b13, Lv, ?_, ?_, ?_, ?_⟩
  · by_cases e : p.1 = k
    · rw [hvk p hp e, e]; simp [upd]
    · simp only [mark, e, decide_false, Bool.false_or] at hS
      rw [upd, if_neg e]
      exact h1 p hp hS
  · rw [m12, u12, u4, u11]; exact h2
  · rw [m4, u4]; exact h3
  · rw [m5, u5]; exact h4
  · rw [m13, u13]; exact h5
  · rw [m11, u11]; exact h6
  · rw [m13, m11, m5]; exact h7

theorem st_tail {w0 w : World} {X : List Nat} {L : HL} {p : Nat × (Obj → Prop)} (h : St w0 X (p :: L) w) : St w0 X L w := h.sublist (.cons _ (List.Sublist.refl _))
theorem jg_frk {w : World} (vals' : Fr) (hJ : JG w3 vals m kk xs Z a S ε w) (hv : ∀ j v, flook vals j = some v → flook vals' j = some v) (hd : ∀ e ∈ o.after.toList, Region.binds .any e = true → S e.on = true) (hin : ∀ e ∈ o.after.toList, ((e.on, flook vals e.on) ∈ vals.map fun p => (p.1, some p.2)) ∨ ε e.on = lv vals' e.on) : frk l.toArray ε fr o.after.toList = frkN l.toArray vals' fr o.after.toList := by
  rw [frkN_eq]
  refine frk_congr _ fun e he hb => ?_
  rcases hin e he with h | h
  · rw [hJ.known h (hd e he hb)]
    obtain ⟨p, hp, he⟩ := List.mem_map.1 h
    injection he with h1 h2
    rw [lv, lv, ← h2, hv _ _ h2.symm]
  · exact h
variable (hd : ∀ e ∈ o.after.toList, Region.binds .any e = true → S e.on = true)
include hd
theorem jg_make (h12 : S 12 = false) (hvk : ∀ p ∈ vals, p.1 ≠ 4) (hop : ∀ L, O P o (frkN l.toArray vals fr o.after.toList) (St w3 [] L) (fun v w => ∃ b q, v = .slice (some ⟨b, 0, none⟩) kk kk ∧ St w3 [] ((b, q) :: L) w)) (hin : ∀ e ∈ o.after.toList, (e.on, flook vals e.on) ∈ vals.map fun p => (p.1, some p.2)) :
    O P o (frk l.toArray ε fr o.after.toList) (JG w3 vals m kk xs Z a S ε) (fun v w => JG w3 vals m kk xs Z a (mark S 4) (upd ε 4 v) w) := by
  intro ρ w hρ hJ
  rw [jg_frk vals hJ (fun _ _ h => h) hd (fun e he => .inl (hin e he))] at hρ
  obtain ⟨h1, h2, h3, b5, b13, Lv, h4, h5, h6, h7⟩ := hJ
  refine (hop _ ρ w hρ h7).mono fun v w' ⟨b, q, hv, hst⟩ => ?_
  subst hv
  refine ⟨fun p hp hS => ?_, fun h => ?_, fun _ => ⟨b, by simp [upd]⟩, b5, b13, Lv, ?_, ?_, ?_, ?_⟩
  · simp only [mark, hvk p hp, decide_false, Bool.false_or] at hS
    rw [upd, if_neg (hvk p hp)]
    exact h1 p hp hS
  · simp [mark, h12] at h
  · simpa [mark, upd] using h4
  · simpa [mark, upd] using h5
  · simpa [mark, upd] using h6
  · simpa [mark] using st_tail hst
theorem jg_lit (h11 : S 11 = false) (h12 : S 12 = false) (hS5 : S 5 = false) (hvk : ∀ p ∈ vals, p.1 ≠ 5) (hop : ∀ L, O P o (frkN l.toArray vals fr o.after.toList) (St w3 [] L) (fun v w => ∃ b, v = .slice (some ⟨b, 0, none⟩) 0 0 ∧ St w3 [] ((b, row 3 1 0 0 []) :: L) w)) (hin : ∀ e ∈ o.after.toList, (e.on, flook vals e.on) ∈ vals.map fun p => (p.1, some p.2)) :
    O P o (frk l.toArray ε fr o.after.toList) (JG w3 vals m kk xs Z a S ε) (fun v w => JG w3 vals m kk xs Z a (mark S 5) (upd ε 5 v) w) := by
  intro ρ w hρ hJ
  rw [jg_frk vals hJ (fun _ _ h => h) hd (fun e he => .inl (hin e he))] at hρ
  obtain ⟨h1, h2, h3, b5, b13, Lv, h4, h5, h6, h7⟩ := hJ
  refine (hop _ ρ w hρ h7).mono fun v w' ⟨b, hv, hst⟩ => ?_
  subst hv
  refine ⟨fun p hp hS => ?_, fun h => ?_, ?_, b, b13, Lv, ?_, ?_, ?_, ?_⟩
  · simp only [mark, hvk p hp, decide_false, Bool.false_or] at hS
    rw [upd, if_neg (hvk p hp)]
    exact h1 p hp hS
  · simp [mark, h12] at h
  · simpa [mark, upd] using h3
  · simp [upd]
  · simpa [mark, upd] using h5
  · simpa [mark, upd] using h6
  · simp only [mark, h11, hS5] at hst ⊢
    simp at hst ⊢
    exact hst.perm (List.perm_append_comm (l₁ := [_]))
theorem jg_app (hS5 : S 5 = true) (h12 : S 12 = false) (hS11 : S 11 = false) (hvk : ∀ p ∈ vals, p.1 ≠ 11 ∧ p.1 ≠ 5) (hop : ∀ b5 L, O P o (frkN l.toArray ((5, .slice (some ⟨b5, 0, none⟩) 0 0) :: vals) fr o.after.toList) (St w3 [] (L ++ [(b5, row 3 1 0 0 [])])) (fun v w => ∃ A c Lv, v = .slice A m c ∧ OwnsV (.slice A m c) 3 1 m xs Lv ∧ St w3 [] (L ++ Lv) w)) (hin : ∀ e ∈ o.after.toList, (e.on, flook vals e.on) ∈ (vals.map fun p => (p.1, some p.2)) ∨ e.on = 5) :
    O P o (frk l.toArray ε fr o.after.toList) (JG w3 vals m kk xs Z a S ε) (fun v w => JG w3 vals m kk xs Z a (mark S 11) (upd ε 11 v) w) := by
  intro ρ w hρ hJ
  obtain ⟨h1, h2, h3, b5, b13, Lv, h4, h5, h6, h7⟩ := id hJ
  rw [jg_frk ((5, .slice (some ⟨b5, 0, none⟩) 0 0) :: vals) hJ (fun j v h => by
    rw [flook_cons]
    by_cases e : 5 = j
    · subst e
      have : ∀ (vs : Fr), (∀ p ∈ vs, p.1 ≠ 5) → flook vs 5 = none := by
        intro vs
        induction vs with
        | nil => intro _; rfl
        | cons q t ih =>
          intro hq
          obtain ⟨i, x⟩ := q
          rw [flook_cons, if_neg (hq (i, x) (List.mem_cons_self ..))]
          exact ih fun p hp => hq p (List.mem_cons_of_mem _ hp)
      rw [this vals fun p hp => (hvk p hp).2] at h
      cases h
    · rw [if_neg e]; exact h) hd (fun e he => by
    rcases hin e he with h | h
    · exact .inl h
    · right
      rw [h, h4 hS5]
      rfl)] at hρ
  rw [hS5, hS11] at h7
  simp only [Bool.false_eq_true, if_false, List.nil_append, Bool.not_false, Bool.and_self, if_true] at h7
  refine (hop _ _ ρ w hρ h7).mono fun v w' ⟨A, c, Lv', hv, ho, hst⟩ => ?_
  subst hv
  refine ⟨fun p hp hS => ?_, fun h => ?_, ?_, b5, b13, Lv', ?_, ?_, ?_, ?_⟩
  · simp only [mark, (hvk p hp).1, decide_false, Bool.false_or] at hS
    rw [upd, if_neg (hvk p hp).1]
    exact h1 p hp hS
  · simp [mark, h12] at h
  · simpa [mark, upd] using h3
  · simpa [mark, upd] using h4
  · simpa [mark, upd] using h5
  · exact fun _ => ⟨A, c, by simp [upd], ho⟩
  · simp only [mark]
    simp
    exact hst
theorem jg_bld (h4S : S 4 = true) (h11S : S 11 = true) (hvk : ∀ p ∈ vals, p.1 ≠ 12 ∧ p.1 ≠ 4 ∧ p.1 ≠ 11) (hop : ∀ b4 A c I, Pv P o (frkN l.toArray ((4, .slice (some ⟨b4, 0, none⟩) kk kk) :: (11, .slice A m c) :: vals) fr o.after.toList) I (.agg #[a, a, .slice (some ⟨b4, 0, none⟩) kk kk, .slice A m c])) (hin : ∀ e ∈ o.after.toList, (e.on, flook vals e.on) ∈ (vals.map fun p => (p.1, some p.2)) ∨ e.on = 4 ∨ e.on = 11) :
    O P o (frk l.toArray ε fr o.after.toList) (JG w3 vals m kk xs Z a S ε) (fun v w => JG w3 vals m kk xs Z a (mark S 12) (upd ε 12 v) w) := by
  intro ρ w hρ hJ
  obtain ⟨h1, h2, h3, b5, b13, Lv, h4, h5, h6, h7⟩ := id hJ
  obtain ⟨b4, hb4⟩ := h3 h4S
  obtain ⟨A, c, h11, ho⟩ := h6 h11S
  have hno : ∀ (j : Nat) (vs : Fr), (∀ p ∈ vs, p.1 ≠ j) → flook vs j = none := by
    intro j vs
    induction vs with
    | nil => intro _; rfl
    | cons q t ih =>
      intro hq
      obtain ⟨i, x⟩ := q
      rw [flook_cons, if_neg (hq (i, x) (List.mem_cons_self ..))]
      exact ih fun p hp => hq p (List.mem_cons_of_mem _ hp)
  rw [jg_frk ((4, .slice (some ⟨b4, 0, none⟩) kk kk) :: (11, .slice A m c) :: vals) hJ (fun j v h => by
    rw [flook_cons, flook_cons]
    by_cases e : 4 = j
    · subst e
      rw [hno 4 vals fun p hp => (hvk p hp).2.1] at h
      cases h
    · rw [if_neg e]
      by_cases e : 11 = j
      · subst e
        rw [hno 11 vals fun p hp => (hvk p hp).2.2] at h
        cases h
      · rw [if_neg e]; exact h) hd (fun e he => by
    rcases hin e he with h | h | h
    · exact .inl h
    · right
      rw [h, hb4]
      rfl
    · right
      rw [h, h11]
      rfl)] at hρ
  refine (hop b4 A c _ ρ w hρ hJ).mono fun v w' ⟨hv, hJ'⟩ => ?_
  subst hv
  obtain ⟨h1, h2, h3, b5', b13', Lv', h4', h5', h6', h7'⟩ := hJ'
  refine ⟨fun p hp hS => ?_, fun h => ?_, ?_, b5', b13', Lv', ?_, ?_, ?_, ?_⟩
  · simp only [mark, (hvk p hp).1, decide_false, Bool.false_or] at hS
    rw [upd, if_neg (hvk p hp).1]
    exact h1 p hp hS
  · simp [upd, hb4, h11]
  · simpa [mark, upd] using h3
  · simpa [mark, upd] using h4'
  · simpa [mark, upd] using h5'
  · simpa [mark, upd] using h6'
  · simpa [mark] using h7'
theorem jg_alo (hS13 : S 13 = false) (hvk : ∀ p ∈ vals, p.1 ≠ 13) (hop : ∀ L, O P o (frkN l.toArray vals fr o.after.toList) (St w3 [] L) (PtrTo w3 [] L (bx Z 52))) (hin : ∀ e ∈ o.after.toList, (e.on, flook vals e.on) ∈ vals.map fun p => (p.1, some p.2)) :
    O P o (frk l.toArray ε fr o.after.toList) (JG w3 vals m kk xs Z a S ε) (fun v w => JG w3 vals m kk xs Z a (mark S 13) (upd ε 13 v) w) := by
  intro ρ w hρ hJ
  rw [jg_frk vals hJ (fun _ _ h => h) hd (fun e he => .inl (hin e he))] at hρ
  obtain ⟨h1, h2, h3, b5, b13, Lv, h4, h5, h6, h7⟩ := hJ
  refine (hop _ ρ w hρ h7).mono fun v w' ⟨b, hv, hst⟩ => ?_
  subst hv
  refine ⟨fun p hp hS => ?_, ?_, ?_, b5, b, Lv, ?_, ?_, ?_, ?_⟩
  · simp only [mark, hvk p hp, decide_false, Bool.false_or] at hS
    rw [upd, if_neg (hvk p hp)]
    exact h1 p hp hS
  · simpa [mark, upd] using h2
  · simpa [mark, upd] using h3
  · simpa [mark, upd] using h4
  · simp [upd]
  · simpa [mark, upd] using h6
  · simp only [mark, hS13] at hst ⊢
    simp at hst ⊢
    exact hst
end
theorem tl_jg {P : Program} {r : Option Nat} {Q : Exit → Act → World → Prop} {nt : Nat} {D : List Deferred} {fr : Fr} {ops : Array Oper} {rest : List Oper} {w3 : World} {vals : Fr} {m kk : Nat} {xs Z : List Value} {a : Value} {ε : Nat → Value} (fr' : Nat → Nat → Option Addr → Nat → Fr) (hfr : ∀ b4 b13 A c, ε 13 = .pointer (some ⟨b13, 0, none⟩) → ε 12 = .agg #[a, a, .slice (some ⟨b4, 0, none⟩) kk kk, .slice A m c] → fle (fr' b4 b13 A c) fr)
    (h : ∀ b4 b13 A c Lv, OwnsV (.slice A m c) 3 1 m xs Lv → TL P r ops Q nt D rest (fr' b4 b13 A c) (St w3 [] ((b13, bx Z 52) :: Lv))) : TL P r ops Q nt D rest fr (JG w3 vals m kk xs Z a (fun i => decide (i < 14)) ε) := by
  intro ac w4 ha hJ
  obtain ⟨h1, h2, h3, b5, b13, Lv, h4, h5, h6, h7⟩ := hJ
  obtain ⟨b4, hb4⟩ := h3 rfl
  obtain ⟨A9, c9, h11, ho9⟩ := h6 rfl
  have e12 := h2 rfl
  rw [hb4, h11] at e12
  refine h b4 b13 A9 c9 Lv ho9 ac w4 (ha.weak (hfr b4 b13 A9 c9 (h5 rfl) e12)) ?_
  simpa using h7
end Go.Proofs.Ytbgolbkolcmldaa
