/-
  'fleuronlaw23.ClosureGlyphs' returns true, whatever font and request come in, and leaves them as they were. No conditions.
-/
import Derived.Test.YtpbinloeemebkaaGreatM19
import Derived.Test.YtpbinloeemebkaaGreatM26
namespace Go.Proofs.YtpbinloeemebkaaGreat
open Go.ChangeShapes Go.WideShapes Go.ChangeAt Go.RowKit Go.Deep Go.Joins
set_option maxRecDepth 100000 in
theorem oo (os : Os) (started : os.Started) (H : Type) (enc : TypeId × Value → H) :
    ReturnsInHanded {} Tryz.checked os 4 .any (Rows.closureGlyphsSpec.pre6 enc Tryz.prog Tryz.f4 Rows.closureGlyphsRow.domain false) (Rows.closureGlyphsSpec.post enc Tryz.prog Tryz.f4 false true false false) := by
  refine returnsInHanded_of_change_sized (C := Tryz.checked) Tryz.own started (by kernel_rfl) Tryz.func4
    (ChangeSpec.witness6 (enc := enc) (C := Tryz.checked) false ⟨#[], #[.agg #[.int .i64 0, .slice none 0 0, .slice none 0 0, .slice none 0 0, .slice none 0 0, .slice none 0 0, .slice none 0 0, .slice none 0 0, .slice none 0 0], .agg #[.slice none 0 0, .slice none 0 0]], []⟩ 8 (by kernel_rfl) (by kernel_rfl) (by kernel_rfl) (by kernel_rfl)) ?_
  intro W base args ds gs before hval0 hW hcnd hwt _
  have hval : ∀ (j : Nat) t v, Tryz.f4.params[j]? = some t → args[j]? = some v → Value.okWide Tryz.prog W .any base t v := hval0
  have hW' := hW
  obtain ⟨p, q, hA0, hV, rfl, hfz, hnd⟩ := hW
  have hA : DataW.TrodAll enc Tryz.prog W 0 (fun _ => true) true Tryz.f4.params.toList args.toList ds p := hA0
  have hwt : (DataW.weightsEach Tryz.prog (Tryz.f4.params.toList ++ Rows.closureGlyphsSpec.plain.varTypes Tryz.prog) (ds ++ gs)).all (· ≤ reachBytes) = true := hwt
  rw [Tryz.params4] at hA hval hwt
  obtain ⟨v0, vs0, d0, ds0, p0, q0, hargs, rfl, rfl, h0, r0⟩ := trodAll_cons hA
  obtain ⟨v1, vs1, d1, ds1, p1, q1, rfl, rfl, rfl, h1, r1⟩ := trodAll_cons r0
  obtain ⟨rfl, rfl, rfl⟩ := trodAll_nil r1
  obtain rfl : args = #[v0, v1] := by cases args; simp_all
  obtain ⟨rfl, rfl⟩ := trodVars_none hV
  have lt0 : ∀ x ∈ p0, x.block < W.heap.size := by obtain ⟨m, hm⟩ := h0; exact DataW.trod_lt m _ _ _ hm
  have lt1 : ∀ x ∈ p1, x.block < W.heap.size := by obtain ⟨m, hm⟩ := h1; exact DataW.trod_lt m _ _ _ hm
  rw [List.all_eq_true] at hwt
  have w0 : q8 Tryz.prog 31 d0 := fun n hn => of_decide_eq_true (hwt n (List.mem_append.2 (.inl hn)))
  have w1 : q8 Tryz.prog 39 d1 := fun n hn => of_decide_eq_true (hwt n (List.mem_append.2 (.inr (List.mem_append.2 (.inl hn)))))
  obtain ⟨f0, k0, hf0⟩ := sq (hval 0 31 v0 rfl rfl) h0 w0
  obtain ⟨l1, n1, k1⟩ := uJ (hval 1 39 v1 rfl rfl) h1 w1
  clear hA0 hval0
  refine (ua (om f0 hf0 l1 n1) W [v0, v1] (d4.cons k0 (d4.cons k1 d4.nil))).mono fun e W' ⟨v, he, bel, hv⟩ => ?_
  subst he
  subst hv
  exact ⟨_, rfl, _, _, _, [], _, [], hW', trodAll_mk1 (shut_bool Tryz.underlying4 _), (trodAll_cons_mk (Below.trod Tryz.laidOut (by kernel_rfl) (of_decide_eq_true (by kernel_rfl)) h0 bel lt0) (trodAll_cons_mk (Below.trod Tryz.laidOut (by kernel_rfl) (of_decide_eq_true (by kernel_rfl)) h1 bel lt1) trodAll_mk0)), rfl, bel.frame _, fun h => by cases h⟩
theorem ul : (Rows.closureGlyphsRow.inPlace == Tryz.prog.inPlace 4) = true := by kernel_rfl
theorem oQ : (Rows.closureGlyphsRow.unfollowed == Tryz.prog.unfollowed 4) = true := by kernel_rfl
theorem um : (Rows.closureGlyphsRow.recurses == Tryz.prog.recurses 4) = true := by
 have h : true = Tryz.prog.unfollowed 4 := eq_of_beq oQ
 unfold Program.recurses
 rw [← h]
 rfl
theorem uo : (Rows.closureGlyphsRow.named == Tryz.prog.varsNamed 4) = true := by kernel_rfl
theorem pA : joinedFacts Tryz.prog 4 Tryz.f4 Rows.closureGlyphsSpec Rows.closureGlyphsRow = true := by
 unfold joinedFacts
 rw [ul, oQ, um, uo]
 kernel_rfl
theorem qJ : Tryz.prog.funcNamed Rows.closureGlyphsRow.func = some 4 := by kernel_rfl
theorem qI : Tryz.f4.isInstance Tryz.prog Rows.closureGlyphsRow.origin Rows.closureGlyphsRow.targs := of_decide_eq_true (by kernel_rfl)
theorem qK : Tryz.f4.isWrapper Tryz.prog Rows.closureGlyphsRow.wrapper Rows.closureGlyphsRow.mainSum := by
 unfold Func.isWrapper
 first | (rw [if_pos (by decide +kernel)]; kernel_rfl) | (rw [if_neg (by decide +kernel)]; exact ⟨rfl, rfl⟩)
theorem glyphs_holds : Rows.ClosureGlyphsSaid :=
 OpenClaim.holds_of_wide 4 Tryz.f4 rfl rfl rfl rfl rfl rfl rfl ⟨rfl, rfl, rfl, rfl, rfl⟩ rfl rfl rfl rfl rfl qJ Tryz.func4 pA
  qI qK
  (fun os started H enc _ => oo os started H enc)
#print axioms glyphs_holds

end Go.Proofs.YtpbinloeemebkaaGreat
