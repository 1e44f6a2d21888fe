/-
  'fleuronlaw24.SubsetMore' returns true, whatever is asked for, and leaves it as it was. No conditions.
-/
import Derived.Test.YtjjpkibjffmceaaGreatM30
import Derived.Test.YtjjpkibjffmceaaGreatM32
namespace Go.Proofs.YtjjpkibjffmceaaGreat
open Go.ChangeShapes Go.WideShapes Go.ChangeAt Go.RowKit Go.Deep Go.Joins
set_option maxRecDepth 100000 in
theorem pX (os : Os) (started : os.Started) (H : Type) (enc : TypeId × Value → H) :
    ReturnsInHanded {} Tryz.checked os 5 .any (Rows.subsetMoreSpec.pre6 enc Tryz.prog Tryz.f5 Rows.subsetMoreRow.domain false) (Rows.subsetMoreSpec.post enc Tryz.prog Tryz.f5 false true false false) := by
  refine returnsInHanded_of_change_sized (C := Tryz.checked) Tryz.own started (by kernel_rfl) Tryz.func5
    (ChangeSpec.witness6 (enc := enc) (C := Tryz.checked) false ⟨#[], #[.agg #[.slice none 0 0, .int .u32 0, .int .u32 0, .slice none 0 0, .slice none 0 0, .int .u32 0], .int .u32 0, .int .u32 0], []⟩ 8 (by kernel_rfl) (by kernel_rfl) (by kernel_rfl) (by kernel_rfl)) ?_
  intro W base args ds gs before hval0 hW hcnd hwt _
  have hval : ∀ (j : Nat) t v, Tryz.f5.params[j]? = some t → args[j]? = some v → Value.okWide Tryz.prog W .any base t v := hval0
  have hW' := hW
  obtain ⟨p, q, hA0, hV, rfl, hfz, hnd⟩ := hW
  have hA : DataW.TrodAll enc Tryz.prog W 0 (fun _ => true) true Tryz.f5.params.toList args.toList ds p := hA0
  have hwt : (DataW.weightsEach Tryz.prog (Tryz.f5.params.toList ++ Rows.subsetMoreSpec.plain.varTypes Tryz.prog) (ds ++ gs)).all (· ≤ reachBytes) = true := hwt
  rw [Tryz.params5] at hA hval hwt
  obtain ⟨v0, vs0, d0, ds0, p0, q0, hargs, rfl, rfl, h0, r0⟩ := trodAll_cons hA
  obtain ⟨v1, vs1, d1, ds1, p1, q1, rfl, rfl, rfl, h1, r1⟩ := trodAll_cons r0
  obtain ⟨v2, vs2, d2, ds2, p2, q2, rfl, rfl, rfl, h2, r2⟩ := trodAll_cons r1
  obtain ⟨rfl, rfl, rfl⟩ := trodAll_nil r2
  obtain rfl : args = #[v0, v1, v2] := by cases args; simp_all
  obtain ⟨rfl, rfl⟩ := trodVars_none hV
  have lt0 : ∀ x ∈ p0, x.block < W.heap.size := by obtain ⟨m, hm⟩ := h0; exact DataW.trod_lt m _ _ _ hm
  have lt1 : ∀ x ∈ p1, x.block < W.heap.size := by obtain ⟨m, hm⟩ := h1; exact DataW.trod_lt m _ _ _ hm
  have lt2 : ∀ x ∈ p2, x.block < W.heap.size := by obtain ⟨m, hm⟩ := h2; exact DataW.trod_lt m _ _ _ hm
  rw [List.all_eq_true] at hwt
  have w0 : qu Tryz.prog 25 d0 := fun n hn => Gz (hwt n (List.mem_append.2 (.inl hn)))
  have w1 : qu Tryz.prog 23 d1 := fun n hn => Gz (hwt n (List.mem_append.2 (.inr (List.mem_append.2 (.inl hn)))))
  have w2 : qu Tryz.prog 23 d2 := fun n hn => Gz (hwt n (List.mem_append.2 (.inr (List.mem_append.2 (.inr (List.mem_append.2 (.inl hn)))))))
  obtain ⟨l0, k0, u0, w0a⟩ := xv (hval 0 25 v0 rfl rfl) h0 w0
  obtain ⟨l1, k1, u1⟩ := qV (hval 1 23 v1 rfl rfl) h1 w1
  obtain ⟨l2, k2, u2⟩ := qV (hval 2 23 v2 rfl rfl) h2 w2
  clear hA0 hval0
  refine (wU (tU l0 l1 l2 u0 w0a u1 u2) W [v0, v1, v2] (dI.cons k0 (dI.cons k1 (dI.cons k2 dI.nil)))).mono fun e W' ⟨v, he, bel, hv⟩ => ?_
  subst he
  subst hv
  exact ⟨_, rfl, _, _, _, [], _, [], hW', trodAll_mk1 (shut_bool Tryz.underlying4 _), (trodAll_cons_mk (Below.trod Tryz.laidOut (by kernel_rfl) (Gz (by kernel_rfl)) h0 bel lt0) (trodAll_cons_mk (Below.trod Tryz.laidOut (by kernel_rfl) (Gz (by kernel_rfl)) h1 bel lt1) (trodAll_cons_mk (Below.trod Tryz.laidOut (by kernel_rfl) (Gz (by kernel_rfl)) h2 bel lt2) trodAll_mk0))), rfl, bel.frame _, fun h => by cases h⟩
theorem vn : (Rows.subsetMoreRow.inPlace == Tryz.prog.inPlace 5) = true := by kernel_rfl
theorem pW : (Rows.subsetMoreRow.unfollowed == Tryz.prog.unfollowed 5) = true := by kernel_rfl
theorem vo : (Rows.subsetMoreRow.recurses == Tryz.prog.recurses 5) = true := by
 have h : true = Tryz.prog.unfollowed 5 := eq_of_beq pW
 unfold Program.recurses
 rw [← h]
 rfl
theorem vp : (Rows.subsetMoreRow.named == Tryz.prog.varsNamed 5) = true := by kernel_rfl
theorem qq : joinedFacts Tryz.prog 5 Tryz.f5 Rows.subsetMoreSpec Rows.subsetMoreRow = true := by
 unfold joinedFacts
 rw [vn, pW, vo, vp]
 kernel_rfl
theorem sd : Tryz.prog.funcNamed Rows.subsetMoreRow.func = some 5 := by kernel_rfl
theorem sb : Tryz.f5.isInstance Tryz.prog Rows.subsetMoreRow.origin Rows.subsetMoreRow.targs := Gz (by kernel_rfl)
theorem se : Tryz.f5.isWrapper Tryz.prog Rows.subsetMoreRow.wrapper Rows.subsetMoreRow.mainSum := by
 unfold Func.isWrapper
 first | (rw [if_pos (by decide +kernel)]; kernel_rfl) | (rw [if_neg (by decide +kernel)]; exact ⟨rfl, rfl⟩)
theorem subMore_holds : Rows.SubsetMoreSaid :=
 OpenClaim.holds_of_wide 5 Tryz.f5 rfl rfl rfl rfl rfl rfl rfl ⟨rfl, rfl, rfl, rfl, rfl⟩ rfl rfl rfl rfl rfl sd Tryz.func5 qq
  sb se
  (fun os started H enc _ => pX os started H enc)
#print axioms subMore_holds
end Go.Proofs.YtjjpkibjffmceaaGreat
