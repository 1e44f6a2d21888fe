/-
  'fleuronlaw24.SubsetKeeps' returns true, whatever is asked for, and leaves it as it was. No conditions.
-/
import Derived.Test.YtjjpkibjffmceaaGreatM30
import Derived.Test.YtjjpkibjffmceaaGreatM32
namespace Go.Proofs.YtjjpkibjffmceaaGreat
open Go.ChangeShapes Go.WideShapes Go.ChangeAt Go.RowKit Go.Deep Go.Joins
set_option maxRecDepth 100000 in
theorem nJ (os : Os) (started : os.Started) (H : Type) (enc : TypeId × Value → H) :
    ReturnsInHanded {} Tryz.checked os 4 .any (Rows.subsetKeepsSpec.pre6 enc Tryz.prog Tryz.f4 Rows.subsetKeepsRow.domain false) (Rows.subsetKeepsSpec.post enc Tryz.prog Tryz.f4 false true false false) := by
  refine returnsInHanded_of_change_sized (C := Tryz.checked) Tryz.own started (by kernel_rfl) Tryz.func4
    (ChangeSpec.witness6 (enc := enc) (C := Tryz.checked) false ⟨#[], #[.agg #[.slice none 0 0, .int .u32 0, .int .u32 0, .slice none 0 0, .slice none 0 0, .int .u32 0]], []⟩ 8 (by kernel_rfl) (by kernel_rfl) (by kernel_rfl) (by kernel_rfl)) ?_
  intro W base args ds gs before hval0 hW hcnd hwt _
  have hval : ∀ (j : Nat) t v, Tryz.f4.params[j]? = some t → args[j]? = some v → Value.okWide Tryz.prog W .any base t v := hval0
  have hW' := hW
  obtain ⟨p, q, hA0, hV, rfl, hfz, hnd⟩ := hW
  have hA : DataW.TrodAll enc Tryz.prog W 0 (fun _ => true) true Tryz.f4.params.toList args.toList ds p := hA0
  have hwt : (DataW.weightsEach Tryz.prog (Tryz.f4.params.toList ++ Rows.subsetKeepsSpec.plain.varTypes Tryz.prog) (ds ++ gs)).all (· ≤ reachBytes) = true := hwt
  rw [Tryz.params4] at hA hval hwt
  obtain ⟨v0, vs0, d0, ds0, p0, q0, hargs, rfl, rfl, h0, r0⟩ := trodAll_cons hA
  obtain ⟨rfl, rfl, rfl⟩ := trodAll_nil r0
  obtain rfl : args = #[v0] := by cases args; simp_all
  obtain ⟨rfl, rfl⟩ := trodVars_none hV
  have lt0 : ∀ x ∈ p0, x.block < W.heap.size := by obtain ⟨m, hm⟩ := h0; exact DataW.trod_lt m _ _ _ hm
  rw [List.all_eq_true] at hwt
  have w0 : xm Tryz.prog 25 d0 := fun n hn => Gz (hwt n (List.mem_append.2 (.inl hn)))
  obtain ⟨l0, k0, u0, w0a⟩ := wN (hval 0 25 v0 rfl rfl) h0 w0
  clear hA0 hval0
  refine (wi (rA l0) W [v0] (dv.cons k0 dv.nil)).mono fun e W' ⟨v, he, bel, hv⟩ => ?_
  subst he
  subst hv
  exact ⟨_, rfl, _, _, _, [], _, [], hW', trodAll_mk1 (shut_bool Tryz.underlying4 _), (trodAll_cons_mk (Below.trod Tryz.laidOut (by kernel_rfl) (Gz (by kernel_rfl)) h0 bel lt0) trodAll_mk0), rfl, bel.frame _, fun h => by cases h⟩
theorem tc : (Rows.subsetKeepsRow.inPlace == Tryz.prog.inPlace 4) = true := by kernel_rfl
theorem nA : (Rows.subsetKeepsRow.unfollowed == Tryz.prog.unfollowed 4) = true := by kernel_rfl
theorem td : (Rows.subsetKeepsRow.recurses == Tryz.prog.recurses 4) = true := by
 have h : true = Tryz.prog.unfollowed 4 := eq_of_beq nA
 unfold Program.recurses
 rw [← h]
 rfl
theorem te : (Rows.subsetKeepsRow.named == Tryz.prog.varsNamed 4) = true := by kernel_rfl
theorem pn : joinedFacts Tryz.prog 4 Tryz.f4 Rows.subsetKeepsSpec Rows.subsetKeepsRow = true := by
 unfold joinedFacts
 rw [tc, nA, td, te]
 kernel_rfl
theorem pN : Tryz.prog.funcNamed Rows.subsetKeepsRow.func = some 4 := by kernel_rfl
theorem pM : Tryz.f4.isInstance Tryz.prog Rows.subsetKeepsRow.origin Rows.subsetKeepsRow.targs := Gz (by kernel_rfl)
theorem pO : Tryz.f4.isWrapper Tryz.prog Rows.subsetKeepsRow.wrapper Rows.subsetKeepsRow.mainSum := by
 unfold Func.isWrapper
 first | (rw [if_pos (by decide +kernel)]; kernel_rfl) | (rw [if_neg (by decide +kernel)]; exact ⟨rfl, rfl⟩)
theorem subKeeps_holds : Rows.SubsetKeepsSaid :=
 OpenClaim.holds_of_wide 4 Tryz.f4 rfl rfl rfl rfl rfl rfl rfl ⟨rfl, rfl, rfl, rfl, rfl⟩ rfl rfl rfl rfl rfl pN Tryz.func4 pn
  pM pO
  (fun os started H enc _ => nJ os started H enc)
#print axioms subKeeps_holds
end Go.Proofs.YtjjpkibjffmceaaGreat
