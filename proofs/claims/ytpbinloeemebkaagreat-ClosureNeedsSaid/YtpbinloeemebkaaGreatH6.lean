/-
  'fleuronlaw23.ClosureNeeds' returns true, whatever rows of numbers come in, and leaves them as they were. No conditions.
-/
import Derived.Test.YtpbinloeemebkaaGreatM06
import Derived.Test.YtpbinloeemebkaaGreatM27
namespace Go.Proofs.YtpbinloeemebkaaGreat
open Go.ChangeShapes Go.WideShapes Go.ChangeAt Go.RowKit Go.Deep Go.Joins
set_option maxRecDepth 100000 in
theorem needs_lifted (os : Os) (started : os.Started) (H : Type) (enc : TypeId × Value → H) :
    ReturnsInHanded {} Tryz.checked os 7 .any (Rows.closureNeedsSpec.pre6 enc Tryz.prog Tryz.f7 Rows.closureNeedsRow.domain false) (Rows.closureNeedsSpec.post enc Tryz.prog Tryz.f7 false true false false) := by
  refine returnsInHanded_of_change_sized (C := Tryz.checked) Tryz.own started (by kernel_rfl) Tryz.func7
    (ChangeSpec.witness6 (enc := enc) (C := Tryz.checked) false ⟨#[], #[.slice none 0 0, .slice none 0 0], []⟩ 8 (by kernel_rfl) (by kernel_rfl) (by kernel_rfl) (by kernel_rfl)) ?_
  intro W base args ds gs before hval0 hW hcnd hwt _
  have hval : ∀ (j : Nat) t v, Tryz.f7.params[j]? = some t → args[j]? = some v → Value.okWide Tryz.prog W .any base t v := hval0
  have hW' := hW
  obtain ⟨p, q, hA0, hV, rfl, hfz, hnd⟩ := hW
  have hA : DataW.TrodAll enc Tryz.prog W 0 (fun _ => true) true Tryz.f7.params.toList args.toList ds p := hA0
  have hwt : (DataW.weightsEach Tryz.prog (Tryz.f7.params.toList ++ Rows.closureNeedsSpec.plain.varTypes Tryz.prog) (ds ++ gs)).all (· ≤ reachBytes) = true := hwt
  rw [Tryz.params7] at hA hval hwt
  obtain ⟨v0, vs0, d0, ds0, p0, q0, hargs, rfl, rfl, h0, r0⟩ := trodAll_cons hA
  obtain ⟨v1, vs1, d1, ds1, p1, q1, rfl, rfl, rfl, h1, r1⟩ := trodAll_cons r0
  obtain ⟨rfl, rfl, rfl⟩ := trodAll_nil r1
  obtain rfl : args = #[v0, v1] := by cases args; simp_all
  obtain ⟨rfl, rfl⟩ := trodVars_none hV
  have lt0 : ∀ x ∈ p0, x.block < W.heap.size := by obtain ⟨m, hm⟩ := h0; exact DataW.trod_lt m _ _ _ hm
  have lt1 : ∀ x ∈ p1, x.block < W.heap.size := by obtain ⟨m, hm⟩ := h1; exact DataW.trod_lt m _ _ _ hm
  rw [List.all_eq_true] at hwt
  have w0 : Light Tryz.prog 29 d0 := fun n hn => of_decide_eq_true (hwt n (List.mem_append.2 (.inl hn)))
  have w1 : Light Tryz.prog 29 d1 := fun n hn => of_decide_eq_true (hwt n (List.mem_append.2 (.inr (List.mem_append.2 (.inl hn)))))
  obtain ⟨l0, k0⟩ := open_intsV (hval 0 29 v0 rfl rfl) h0 w0
  obtain ⟨l1, k1⟩ := open_intsV (hval 1 29 v1 rfl rfl) h1 w1
  clear hA0 hval0
  refine (det_calls (needs_law l0 l1) W [v0, v1] (VRs.cons k0 (VRs.cons k1 VRs.nil))).mono fun e W' ⟨v, he, bel, hv⟩ => ?_
  subst he
  subst hv
  exact ⟨_, rfl, _, _, _, [], _, [], hW', trodAll_mk1 (shut_bool Tryz.underlying4 _), (trodAll_cons_mk (Below.trod Tryz.laidOut (by kernel_rfl) (of_decide_eq_true (by kernel_rfl)) h0 bel lt0) (trodAll_cons_mk (Below.trod Tryz.laidOut (by kernel_rfl) (of_decide_eq_true (by kernel_rfl)) h1 bel lt1) trodAll_mk0)), rfl, bel.frame _, fun h => by cases h⟩
theorem needs_j1 : (Rows.closureNeedsRow.inPlace == Tryz.prog.inPlace 7) = true := by kernel_rfl
theorem needs_j2 : (Rows.closureNeedsRow.unfollowed == Tryz.prog.unfollowed 7) = true := by kernel_rfl
theorem needs_j3 : (Rows.closureNeedsRow.recurses == Tryz.prog.recurses 7) = true := by
  have h : true = Tryz.prog.unfollowed 7 := eq_of_beq needs_j2
  unfold Program.recurses
  rw [← h]
  rfl
theorem needs_j4 : (Rows.closureNeedsRow.named == Tryz.prog.varsNamed 7) = true := by kernel_rfl
theorem needs_facts : joinedFacts Tryz.prog 7 Tryz.f7 Rows.closureNeedsSpec Rows.closureNeedsRow = true := by
  unfold joinedFacts
  rw [needs_j1, needs_j2, needs_j3, needs_j4]
  kernel_rfl
theorem needs_name : Tryz.prog.funcNamed Rows.closureNeedsRow.func = some 7 := by kernel_rfl
theorem needs_inst : Tryz.f7.isInstance Tryz.prog Rows.closureNeedsRow.origin Rows.closureNeedsRow.targs := of_decide_eq_true (by kernel_rfl)
theorem needs_wrap : Tryz.f7.isWrapper Tryz.prog Rows.closureNeedsRow.wrapper Rows.closureNeedsRow.mainSum := by
  unfold Func.isWrapper
  first | (rw [if_pos (by decide +kernel)]; kernel_rfl) | (rw [if_neg (by decide +kernel)]; exact ⟨rfl, rfl⟩)
theorem needs_holds : Rows.ClosureNeedsSaid :=
  OpenClaim.holds_of_wide 7 Tryz.f7 rfl rfl rfl rfl rfl rfl rfl ⟨rfl, rfl, rfl, rfl, rfl⟩ rfl rfl rfl rfl rfl needs_name Tryz.func7 needs_facts
    needs_inst needs_wrap
    (fun os started H enc _ => needs_lifted os started H enc)
#print axioms needs_holds

end Go.Proofs.YtpbinloeemebkaaGreat
