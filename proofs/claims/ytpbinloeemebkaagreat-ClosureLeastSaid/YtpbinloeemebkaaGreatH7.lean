/-
  'fleuronlaw23.ClosureLeast' returns true, whatever rows of numbers come in, and leaves them as they were. No conditions.
-/
import Derived.Test.YtpbinloeemebkaaGreatM06
import Derived.Test.YtpbinloeemebkaaGreatM27
namespace Go.Proofs.YtpbinloeemebkaaGreat
open Go.ChangeShapes Go.WideShapes Go.ChangeAt Go.RowKit Go.Deep Go.Joins
set_option maxRecDepth 100000 in
theorem least_lifted (os : Os) (started : os.Started) (H : Type) (enc : TypeId × Value → H) :
    ReturnsInHanded {} Tryz.checked os 6 .any (Rows.closureLeastSpec.pre6 enc Tryz.prog Tryz.f6 Rows.closureLeastRow.domain false) (Rows.closureLeastSpec.post enc Tryz.prog Tryz.f6 false true false false) := by
  refine returnsInHanded_of_change_sized (C := Tryz.checked) Tryz.own started (by kernel_rfl) Tryz.func6
    (ChangeSpec.witness6 (enc := enc) (C := Tryz.checked) false ⟨#[], #[.slice none 0 0, .slice none 0 0, .slice none 0 0], []⟩ 8 (by kernel_rfl) (by kernel_rfl) (by kernel_rfl) (by kernel_rfl)) ?_
  intro W base args ds gs before hval0 hW hcnd hwt _
  have hval : ∀ (j : Nat) t v, Tryz.f6.params[j]? = some t → args[j]? = some v → Value.okWide Tryz.prog W .any base t v := hval0
  have hW' := hW
  obtain ⟨p, q, hA0, hV, rfl, hfz, hnd⟩ := hW
  have hA : DataW.TrodAll enc Tryz.prog W 0 (fun _ => true) true Tryz.f6.params.toList args.toList ds p := hA0
  have hwt : (DataW.weightsEach Tryz.prog (Tryz.f6.params.toList ++ Rows.closureLeastSpec.plain.varTypes Tryz.prog) (ds ++ gs)).all (· ≤ reachBytes) = true := hwt
  rw [Tryz.params6] at hA hval hwt
  obtain ⟨v0, vs0, d0, ds0, p0, q0, hargs, rfl, rfl, h0, r0⟩ := trodAll_cons hA
  obtain ⟨v1, vs1, d1, ds1, p1, q1, rfl, rfl, rfl, h1, r1⟩ := trodAll_cons r0
  obtain ⟨v2, vs2, d2, ds2, p2, q2, rfl, rfl, rfl, h2, r2⟩ := trodAll_cons r1
  obtain ⟨rfl, rfl, rfl⟩ := trodAll_nil r2
  obtain rfl : args = #[v0, v1, v2] := by cases args; simp_all
  obtain ⟨rfl, rfl⟩ := trodVars_none hV
  have lt0 : ∀ x ∈ p0, x.block < W.heap.size := by obtain ⟨m, hm⟩ := h0; exact DataW.trod_lt m _ _ _ hm
  have lt1 : ∀ x ∈ p1, x.block < W.heap.size := by obtain ⟨m, hm⟩ := h1; exact DataW.trod_lt m _ _ _ hm
  have lt2 : ∀ x ∈ p2, x.block < W.heap.size := by obtain ⟨m, hm⟩ := h2; exact DataW.trod_lt m _ _ _ hm
  rw [List.all_eq_true] at hwt
  have w0 : Light Tryz.prog 29 d0 := fun n hn => of_decide_eq_true (hwt n (List.mem_append.2 (.inl hn)))
  have w1 : Light Tryz.prog 29 d1 := fun n hn => of_decide_eq_true (hwt n (List.mem_append.2 (.inr (List.mem_append.2 (.inl hn)))))
  have w2 : Light Tryz.prog 29 d2 := fun n hn => of_decide_eq_true (hwt n (List.mem_append.2 (.inr (List.mem_append.2 (.inr (List.mem_append.2 (.inl hn)))))))
  obtain ⟨l0, k0⟩ := open_intsV (hval 0 29 v0 rfl rfl) h0 w0
  obtain ⟨l1, k1⟩ := open_intsV (hval 1 29 v1 rfl rfl) h1 w1
  obtain ⟨l2, k2⟩ := open_intsV (hval 2 29 v2 rfl rfl) h2 w2
  clear hA0 hval0
  refine (det_calls (least_law l0 l1 l2) W [v0, v1, v2] (VRs.cons k0 (VRs.cons k1 (VRs.cons k2 VRs.nil)))).mono fun e W' ⟨v, he, bel, hv⟩ => ?_
  subst he
  subst hv
  exact ⟨_, rfl, _, _, _, [], _, [], hW', trodAll_mk1 (shut_bool Tryz.underlying4 _), (trodAll_cons_mk (Below.trod Tryz.laidOut (by kernel_rfl) (of_decide_eq_true (by kernel_rfl)) h0 bel lt0) (trodAll_cons_mk (Below.trod Tryz.laidOut (by kernel_rfl) (of_decide_eq_true (by kernel_rfl)) h1 bel lt1) (trodAll_cons_mk (Below.trod Tryz.laidOut (by kernel_rfl) (of_decide_eq_true (by kernel_rfl)) h2 bel lt2) trodAll_mk0))), rfl, bel.frame _, fun h => by cases h⟩
theorem least_j1 : (Rows.closureLeastRow.inPlace == Tryz.prog.inPlace 6) = true := by kernel_rfl
theorem least_j2 : (Rows.closureLeastRow.unfollowed == Tryz.prog.unfollowed 6) = true := by kernel_rfl
theorem least_j3 : (Rows.closureLeastRow.recurses == Tryz.prog.recurses 6) = true := by
  have h : true = Tryz.prog.unfollowed 6 := eq_of_beq least_j2
  unfold Program.recurses
  rw [← h]
  rfl
theorem least_j4 : (Rows.closureLeastRow.named == Tryz.prog.varsNamed 6) = true := by kernel_rfl
theorem least_facts : joinedFacts Tryz.prog 6 Tryz.f6 Rows.closureLeastSpec Rows.closureLeastRow = true := by
  unfold joinedFacts
  rw [least_j1, least_j2, least_j3, least_j4]
  kernel_rfl
theorem least_name : Tryz.prog.funcNamed Rows.closureLeastRow.func = some 6 := by kernel_rfl
theorem least_inst : Tryz.f6.isInstance Tryz.prog Rows.closureLeastRow.origin Rows.closureLeastRow.targs := of_decide_eq_true (by kernel_rfl)
theorem least_wrap : Tryz.f6.isWrapper Tryz.prog Rows.closureLeastRow.wrapper Rows.closureLeastRow.mainSum := by
  unfold Func.isWrapper
  first | (rw [if_pos (by decide +kernel)]; kernel_rfl) | (rw [if_neg (by decide +kernel)]; exact ⟨rfl, rfl⟩)
theorem least_holds : Rows.ClosureLeastSaid :=
  OpenClaim.holds_of_wide 6 Tryz.f6 rfl rfl rfl rfl rfl rfl rfl ⟨rfl, rfl, rfl, rfl, rfl⟩ rfl rfl rfl rfl rfl least_name Tryz.func6 least_facts
    least_inst least_wrap
    (fun os started H enc _ => least_lifted os started H enc)
#print axioms least_holds

end Go.Proofs.YtpbinloeemebkaaGreat
