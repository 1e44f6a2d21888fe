/-
  'fleuronlaw23.ClosureLookups' returns true, whatever font and names come in, and leaves them as they were. No conditions.
-/
import Derived.Test.YtpbinloeemebkaaGreatM10
import Derived.Test.YtpbinloeemebkaaGreatM24
import Derived.SizedLaws
namespace Go.Proofs.YtpbinloeemebkaaGreat
open Go.ChangeShapes Go.WideShapes Go.ChangeAt Go.RowKit Go.Deep Go.Joins
theorem Tryz.own : ownKnob Tryz.prog.godebug = none := by kernel_rfl
theorem Tryz.laidOut : laidOutB Tryz.prog = true := by kernel_rfl
/-- what a walk told, for the claim -/
theorem det_calls {P : Program} {f : FuncId} {args : List AV} {u : Value} (h : ADet P f args (.sc u)) (W : World) (vs : List Value) (hv : VRs (memOf W) args vs) : Calls P f vs.toArray W fun e W' => ∃ v, e = .returned v ∧ Below W.heap.size W W' ∧ v = u :=
  (h (memOf W) W vs hv (memOf_st W)).mono fun e W' ⟨v, τ, c, L', he, hr, hst, hc⟩ => by
    subst hc
    exact ⟨v, he, ⟨hst.os, hst.tape, hst.output, hst.size, fun k hk => hst.old k hk (by simp)⟩, hr.sc_inv⟩
set_option maxRecDepth 100000 in
theorem lookups_lifted (os : Os) (started : os.Started) (H : Type) (enc : TypeId × Value → H) :
    ReturnsInHanded {} Tryz.checked os 3 .any (Rows.closureLookupsSpec.pre6 enc Tryz.prog Tryz.f3 Rows.closureLookupsRow.domain false) (Rows.closureLookupsSpec.post enc Tryz.prog Tryz.f3 false true false false) := by
  refine returnsInHanded_of_change_sized (C := Tryz.checked) Tryz.own started (by kernel_rfl) Tryz.func3
    (ChangeSpec.witness6 (enc := enc) (C := Tryz.checked) false ⟨#[], #[.agg #[.int .i64 0, .slice none 0 0, .slice none 0 0, .slice none 0 0, .slice none 0 0, .slice none 0 0, .slice none 0 0, .slice none 0 0, .slice none 0 0], .slice none 0 0], []⟩ 8 (by kernel_rfl) (by kernel_rfl) (by kernel_rfl) (by kernel_rfl)) ?_
  intro W base args ds gs before hval0 hW hcnd hwt _
  have hval : ∀ (j : Nat) t v, Tryz.f3.params[j]? = some t → args[j]? = some v → Value.okWide Tryz.prog W .any base t v := hval0
  have hW' := hW
  obtain ⟨p, q, hA0, hV, rfl, hfz, hnd⟩ := hW
  have hA : DataW.TrodAll enc Tryz.prog W 0 (fun _ => true) true Tryz.f3.params.toList args.toList ds p := hA0
  have hwt : (DataW.weightsEach Tryz.prog (Tryz.f3.params.toList ++ Rows.closureLookupsSpec.plain.varTypes Tryz.prog) (ds ++ gs)).all (· ≤ reachBytes) = true := hwt
  rw [Tryz.params3] at hA hval hwt
  obtain ⟨v0, vs0, d0, ds0, p0, q0, hargs, rfl, rfl, h0, r0⟩ := trodAll_cons hA
  obtain ⟨v1, vs1, d1, ds1, p1, q1, rfl, rfl, rfl, h1, r1⟩ := trodAll_cons r0
  obtain ⟨rfl, rfl, rfl⟩ := trodAll_nil r1
  obtain rfl : args = #[v0, v1] := by cases args; simp_all
  obtain ⟨rfl, rfl⟩ := trodVars_none hV
  have lt0 : ∀ x ∈ p0, x.block < W.heap.size := by obtain ⟨m, hm⟩ := h0; exact DataW.trod_lt m _ _ _ hm
  have lt1 : ∀ x ∈ p1, x.block < W.heap.size := by obtain ⟨m, hm⟩ := h1; exact DataW.trod_lt m _ _ _ hm
  rw [List.all_eq_true] at hwt
  have w0 : Light Tryz.prog 31 d0 := fun n hn => of_decide_eq_true (hwt n (List.mem_append.2 (.inl hn)))
  have w1 : Light Tryz.prog 32 d1 := fun n hn => of_decide_eq_true (hwt n (List.mem_append.2 (.inr (List.mem_append.2 (.inl hn)))))
  obtain ⟨f, k0, hf⟩ := open_fontV (hval 0 31 v0 rfl rfl) h0 w0
  obtain ⟨l, k1⟩ := open_namesV (hval 1 32 v1 rfl rfl) h1 w1
  clear hA0 hval0
  refine (det_calls (lookups_law f hf l) W [v0, v1] (VRs.cons k0 (VRs.cons k1 VRs.nil))).mono fun e W' ⟨v, he, bel, hv⟩ => ?_
  subst he
  subst hv
  exact ⟨_, rfl, _, _, _, [], _, [], hW', trodAll_mk1 (shut_bool Tryz.underlying4 _), (trodAll_cons_mk (Below.trod Tryz.laidOut (by kernel_rfl) (of_decide_eq_true (by kernel_rfl)) h0 bel lt0) (trodAll_cons_mk (Below.trod Tryz.laidOut (by kernel_rfl) (of_decide_eq_true (by kernel_rfl)) h1 bel lt1) trodAll_mk0)), rfl, bel.frame _, fun h => by cases h⟩

theorem lookups_j1 : (Rows.closureLookupsRow.inPlace == Tryz.prog.inPlace 3) = true := by kernel_rfl
theorem lookups_j2 : (Rows.closureLookupsRow.unfollowed == Tryz.prog.unfollowed 3) = true := by kernel_rfl
theorem lookups_j3 : (Rows.closureLookupsRow.recurses == Tryz.prog.recurses 3) = true := by
  have h : true = Tryz.prog.unfollowed 3 := eq_of_beq lookups_j2
  unfold Program.recurses
  rw [← h]
  rfl
theorem lookups_j4 : (Rows.closureLookupsRow.named == Tryz.prog.varsNamed 3) = true := by kernel_rfl
theorem lookups_facts : joinedFacts Tryz.prog 3 Tryz.f3 Rows.closureLookupsSpec Rows.closureLookupsRow = true := by
  unfold joinedFacts
  rw [lookups_j1, lookups_j2, lookups_j3, lookups_j4]
  kernel_rfl
theorem lookups_name : Tryz.prog.funcNamed Rows.closureLookupsRow.func = some 3 := by kernel_rfl
theorem lookups_inst : Tryz.f3.isInstance Tryz.prog Rows.closureLookupsRow.origin Rows.closureLookupsRow.targs := of_decide_eq_true (by kernel_rfl)
theorem lookups_wrap : Tryz.f3.isWrapper Tryz.prog Rows.closureLookupsRow.wrapper Rows.closureLookupsRow.mainSum := by
  unfold Func.isWrapper
  first | (rw [if_pos (by decide +kernel)]; kernel_rfl) | (rw [if_neg (by decide +kernel)]; exact ⟨rfl, rfl⟩)
theorem lookups_holds : Rows.ClosureLookupsSaid :=
  OpenClaim.holds_of_wide 3 Tryz.f3 rfl rfl rfl rfl rfl rfl rfl ⟨rfl, rfl, rfl, rfl, rfl⟩ rfl rfl rfl rfl rfl lookups_name Tryz.func3 lookups_facts
    lookups_inst lookups_wrap
    (fun os started H enc _ => lookups_lifted os started H enc)
#print axioms lookups_holds

end Go.Proofs.YtpbinloeemebkaaGreat
