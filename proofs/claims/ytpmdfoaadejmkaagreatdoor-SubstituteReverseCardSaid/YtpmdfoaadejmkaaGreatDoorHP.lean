/-
  'fleuronlaw13.SubstituteReverse' returns true, whatever number comes in, and leaves it as it was. The table of math/bits is as it was laid.
-/
import Derived.Test.YtpmdfoaadejmkaaGreatDoorM13
import Derived.Test.YtpmdfoaadejmkaaGreatDoorM25
namespace Go.Proofs.YtpmdfoaadejmkaaGreatDoor
open Go.ChangeShapes Go.WideShapes Go.ChangeAt Go.RowKit
noncomputable def eW (os : Os) : World :=
 { World.holding Tryz.prog os ⟨#[], #[], []⟩ with heap := (World.holding Tryz.prog os ⟨#[], #[], []⟩).heap.modify 0 fun
   | .cells _ t frozen => .cells (je.map (Value.int .u8)).toArray t frozen
   | o => o }
theorem nC (os : Os) : laidMet Tryz.prog Rows.substituteReverseRow.laid ((eW os).forCall (fun _ _ => 0) ⟨#[], #[.int .u8 0], []⟩).memory :=
 laidMet_of_run' 8 (by kernel_rfl) (by kernel_rfl)
theorem ln (os : Os) {H : Type} (enc : TypeId × Value → H) : ∃ places, DataW.whole enc Tryz.prog ((eW os).forCall (fun _ _ => 0) ⟨#[], #[.int .u8 0], []⟩).memory Tryz.f11.params.toList Rows.substituteReverseSpec.vars false #[.int .u8 0].toList 8 = some ([.lit (.int .u8 0)], [], places) :=
 ⟨[], by kernel_rfl⟩
set_option maxRecDepth 100000 in
theorem jd (H : Type) (enc : TypeId × Value → H) (W : World) (base : Nat) (args : Array Value) (ds gs : List (DataW H)) (before : List MemPlace)
  (hval : ∀ (j : Nat) t v, Tryz.f11.params[j]? = some t → args[j]? = some v → Value.okWide Tryz.prog W .any base t v)
  (hW : DataW.Whole enc Tryz.prog Tryz.f11.params.toList Rows.substituteReverseSpec.vars false W args.toList ds gs before) (hL : laidMetH Tryz.prog Rows.substituteReverseRow.laid W) (hS : W.ShapedOpen Tryz.prog) :
  Calls Tryz.prog 11 args W fun e W' => ∃ v, e = .returned v ∧ Rows.substituteReverseSpec.post enc Tryz.prog Tryz.f11 false true false false W args v W' := by
 have hW' := hW
 obtain ⟨p, q, hA0, hV, rfl, hfz, hnd⟩ := hW
 have hA : DataW.TrodAll enc Tryz.prog W 0 (fun _ => true) true Tryz.f11.params.toList args.toList ds p := hA0
 rw [Tryz.params11] at hA hval
 obtain ⟨v0, vs0, d0, ds0, p0, q0, hargs, rfl, rfl, h0, r0⟩ := trodAll_cons hA
 obtain ⟨rfl, rfl, rfl⟩ := trodAll_nil r0
 obtain rfl : args = #[v0] := by cases args; simp_all
 obtain ⟨rfl, rfl⟩ := trodVars_none hV
 have lt0 : ∀ x ∈ p0, x.block < W.heap.size := by obtain ⟨m, hm⟩ := h0; exact DataW.trod_lt m _ _ _ hm
 obtain ⟨n0, rfl, _, _, w0⟩ := open_int Tryz.underlying5 (hval 0 5 v0 rfl rfl) h0
 have w0 : 0 ≤ n0 ∧ n0 ≤ 255 := C9 w0
 clear hA0
 refine (vd (z0 n0 w0.1 w0.2) W (C7 hL hS) [.int .u8 n0] (cJ.cons (.sc _) cJ.nil)).mono fun e W' ⟨v, he, bel, hv⟩ => ?_
 subst he
 subst hv
 exact ⟨_, rfl, _, _, _, [], _, [], hW', trodAll_mk1 (shut_bool Tryz.underlying4 _), (trodAll_cons_mk (Below.trod Tryz.laidOut (by kernel_rfl) (Dz (by kernel_rfl)) h0 bel lt0) trodAll_mk0), rfl, bel.frame _, fun h => by cases h⟩
set_option maxRecDepth 100000 in
theorem ky (os : Os) (started : os.Started) (H : Type) (enc : TypeId × Value → H) (F : Stop.Interp) :
  ReturnsInHanded {} Tryz.checked os 11 .any ((OpenSpec.ofChange Rows.substituteReverseSpec).preRow enc Tryz.prog Tryz.f11 Rows.substituteReverseRow.domain false Rows.substituteReverseRow.laid) (((OpenSpec.ofChange Rows.substituteReverseSpec).at F).post enc Tryz.prog Tryz.f11 false true false false) := by
 obtain ⟨places, hx⟩ := ln os enc
 refine returnsInHanded_of_row (C := Tryz.checked) (s := OpenSpec.ofChange Rows.substituteReverseSpec) Tryz.own started (by kernel_rfl) Tryz.func11
  (witness_row_at (enc := enc) (C := Tryz.checked) false (eW os) #[.int .u8 0] rfl (by kernel_rfl) (by kernel_rfl) (by kernel_rfl)
   (OpenSpec.preRow_of_cond 8 hx (by kernel_rfl) (fun k hk => by cases hk) (by kernel_rfl) (nC os))) ?_
 intro W base args ds gs before hval hW _ _ _ hL hS _
 exact jd H enc W base args ds gs before hval hW hL hS
theorem me : Tryz.f11.isWrapper Tryz.prog Rows.substituteReverseRow.wrapper Rows.substituteReverseRow.mainSum := by
 unfold Func.isWrapper
 first | (rw [if_pos (by decide +kernel)]; kernel_rfl) | (rw [if_neg (by decide +kernel)]; exact ⟨rfl, rfl⟩)
theorem nV : (Rows.substituteReverseRow.inPlace == Tryz.prog.inPlace 11) = true := by kernel_rfl
theorem jl : (Rows.substituteReverseRow.unfollowed == Tryz.prog.unfollowed 11) = true := by kernel_rfl
theorem nW : (Rows.substituteReverseRow.recurses == Tryz.prog.recurses 11) = true := by
 have h : true = Tryz.prog.unfollowed 11 := eq_of_beq jl
 unfold Program.recurses
 rw [← h]
 rfl
theorem nX : (Rows.substituteReverseRow.named == Tryz.prog.varsNamed 11) = true := by kernel_rfl
theorem lm : joinedFacts Tryz.prog 11 Tryz.f11 Rows.substituteReverseSpec Rows.substituteReverseRow = true := by
 unfold joinedFacts
 rw [nV, jl, nW, nX]
 kernel_rfl
set_option maxRecDepth 100000 in
theorem subReverse_holds : Rows.SubstituteReverseSaid :=
 OpenClaim.holds_of_cond 11 Tryz.f11 rfl rfl rfl rfl rfl rfl rfl ⟨rfl, rfl, rfl, rfl, rfl⟩ rfl rfl rfl rfl rfl (by kernel_rfl) Tryz.func11 lm
  (Dz (by kernel_rfl)) me
  (fun os started H enc _ F => by rw [OpenClaim.pre_eq_preRow]; exact ky os started H enc F)
#print axioms subReverse_holds
end Go.Proofs.YtpmdfoaadejmkaaGreatDoor
