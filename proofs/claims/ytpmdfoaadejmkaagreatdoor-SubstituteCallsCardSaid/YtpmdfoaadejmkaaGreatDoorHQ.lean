/-
  'fleuronlaw13.SubstituteCalls' returns true, whatever numbers come in, and leaves them as they were. The table of math/bits is as it was laid.
-/
import Derived.Test.YtpmdfoaadejmkaaGreatDoorM13
import Derived.Test.YtpmdfoaadejmkaaGreatDoorM25
namespace Go.Proofs.YtpmdfoaadejmkaaGreatDoor
open Go.ChangeShapes Go.WideShapes Go.ChangeAt Go.RowKit
noncomputable def fL (os : Os) : World :=
 { World.holding Tryz.prog os ⟨#[], #[], []⟩ with heap := (World.holding Tryz.prog os ⟨#[], #[], []⟩).heap.modify 0 fun
   | .cells _ t frozen => .cells (j8.map (Value.int .u8)).toArray t frozen
   | o => o }
theorem pM (os : Os) : laidMet Tryz.prog Rows.substituteCallsRow.laid ((fL os).forCall (fun _ _ => 0) ⟨#[], #[.int .u8 0, .int .u8 0], []⟩).memory :=
 laidMet_of_run' 8 (by kernel_rfl) (by kernel_rfl)
theorem nr (os : Os) {H : Type} (enc : TypeId × Value → H) : ∃ places, DataW.whole enc Tryz.prog ((fL os).forCall (fun _ _ => 0) ⟨#[], #[.int .u8 0, .int .u8 0], []⟩).memory Tryz.f10.params.toList Rows.substituteCallsSpec.vars false #[.int .u8 0, .int .u8 0].toList 8 = some ([.lit (.int .u8 0), .lit (.int .u8 0)], [], places) :=
 ⟨[], by kernel_rfl⟩
set_option maxRecDepth 100000 in
theorem ko (H : Type) (enc : TypeId × Value → H) (W : World) (base : Nat) (args : Array Value) (ds gs : List (DataW H)) (before : List MemPlace)
  (hval : ∀ (j : Nat) t v, Tryz.f10.params[j]? = some t → args[j]? = some v → Value.okWide Tryz.prog W .any base t v)
  (hW : DataW.Whole enc Tryz.prog Tryz.f10.params.toList Rows.substituteCallsSpec.vars false W args.toList ds gs before) (hL : laidMetH Tryz.prog Rows.substituteCallsRow.laid W) (hS : W.ShapedOpen Tryz.prog) :
  Calls Tryz.prog 10 args W fun e W' => ∃ v, e = .returned v ∧ Rows.substituteCallsSpec.post enc Tryz.prog Tryz.f10 false true false false W args v W' := by
 have hW' := hW
 obtain ⟨p, q, hA0, hV, rfl, hfz, hnd⟩ := hW
 have hA : DataW.TrodAll enc Tryz.prog W 0 (fun _ => true) true Tryz.f10.params.toList args.toList ds p := hA0
 rw [Tryz.params10] at hA hval
 obtain ⟨v0, vs0, d0, ds0, p0, q0, hargs, rfl, rfl, h0, r0⟩ := trodAll_cons hA
 obtain ⟨v1, vs1, d1, ds1, p1, q1, rfl, rfl, rfl, h1, r1⟩ := trodAll_cons r0
 obtain ⟨rfl, rfl, rfl⟩ := trodAll_nil r1
 obtain rfl : args = #[v0, v1] := by cases args; simp_all
 obtain ⟨rfl, rfl⟩ := trodVars_none hV
 have lt0 : ∀ x ∈ p0, x.block < W.heap.size := by obtain ⟨m, hm⟩ := h0; exact DataW.trod_lt m _ _ _ hm
 have lt1 : ∀ x ∈ p1, x.block < W.heap.size := by obtain ⟨m, hm⟩ := h1; exact DataW.trod_lt m _ _ _ hm
 obtain ⟨n0, rfl, _, _, w0⟩ := open_int Tryz.underlying5 (hval 0 5 v0 rfl rfl) h0
 have w0 : 0 ≤ n0 ∧ n0 ≤ 255 := zR w0
 obtain ⟨n1, rfl, _, _, w1⟩ := open_int Tryz.underlying5 (hval 1 5 v1 rfl rfl) h1
 have w1 : 0 ≤ n1 ∧ n1 ≤ 255 := zR w1
 clear hA0
 refine (vb (vY n0 n1 w0.1 w0.2 w1.1 w1.2) W (C8 hL hS) [.int .u8 n0, .int .u8 n1] (cI.cons (.sc _) (cI.cons (.sc _) cI.nil))).mono fun e W' ⟨v, he, bel, hv⟩ => ?_
 subst he
 subst hv
 exact ⟨_, rfl, _, _, _, [], _, [], hW', trodAll_mk1 (shut_bool Tryz.underlying4 _), (trodAll_cons_mk (Below.trod Tryz.laidOut (by kernel_rfl) (Dz (by kernel_rfl)) h0 bel lt0) (trodAll_cons_mk (Below.trod Tryz.laidOut (by kernel_rfl) (Dz (by kernel_rfl)) h1 bel lt1) trodAll_mk0)), rfl, bel.frame _, fun h => by cases h⟩
set_option maxRecDepth 100000 in
theorem lX (os : Os) (started : os.Started) (H : Type) (enc : TypeId × Value → H) (F : Stop.Interp) :
  ReturnsInHanded {} Tryz.checked os 10 .any ((OpenSpec.ofChange Rows.substituteCallsSpec).preRow enc Tryz.prog Tryz.f10 Rows.substituteCallsRow.domain false Rows.substituteCallsRow.laid) (((OpenSpec.ofChange Rows.substituteCallsSpec).at F).post enc Tryz.prog Tryz.f10 false true false false) := by
 obtain ⟨places, hx⟩ := nr os enc
 refine returnsInHanded_of_row (C := Tryz.checked) (s := OpenSpec.ofChange Rows.substituteCallsSpec) Tryz.own started (by kernel_rfl) Tryz.func10
  (witness_row_at (enc := enc) (C := Tryz.checked) false (fL os) #[.int .u8 0, .int .u8 0] rfl (by kernel_rfl) (by kernel_rfl) (by kernel_rfl)
   (OpenSpec.preRow_of_cond 8 hx (by kernel_rfl) (fun k hk => by cases hk) (by kernel_rfl) (pM os))) ?_
 intro W base args ds gs before hval hW _ _ _ hL hS _
 exact ko H enc W base args ds gs before hval hW hL hS
theorem nO : Tryz.f10.isWrapper Tryz.prog Rows.substituteCallsRow.wrapper Rows.substituteCallsRow.mainSum := by
 unfold Func.isWrapper
 first | (rw [if_pos (by decide +kernel)]; kernel_rfl) | (rw [if_neg (by decide +kernel)]; exact ⟨rfl, rfl⟩)
theorem ra : (Rows.substituteCallsRow.inPlace == Tryz.prog.inPlace 10) = true := by kernel_rfl
theorem lS : (Rows.substituteCallsRow.unfollowed == Tryz.prog.unfollowed 10) = true := by kernel_rfl
theorem rc : (Rows.substituteCallsRow.recurses == Tryz.prog.recurses 10) = true := by
 have h : true = Tryz.prog.unfollowed 10 := eq_of_beq lS
 unfold Program.recurses
 rw [← h]
 rfl
theorem rd : (Rows.substituteCallsRow.named == Tryz.prog.varsNamed 10) = true := by kernel_rfl
theorem nq : joinedFacts Tryz.prog 10 Tryz.f10 Rows.substituteCallsSpec Rows.substituteCallsRow = true := by
 unfold joinedFacts
 rw [ra, lS, rc, rd]
 kernel_rfl
set_option maxRecDepth 100000 in
theorem subCalls_holds : Rows.SubstituteCallsSaid :=
 OpenClaim.holds_of_cond 10 Tryz.f10 rfl rfl rfl rfl rfl rfl rfl ⟨rfl, rfl, rfl, rfl, rfl⟩ rfl rfl rfl rfl rfl (by kernel_rfl) Tryz.func10 nq
  (Dz (by kernel_rfl)) nO
  (fun os started H enc _ F => by rw [OpenClaim.pre_eq_preRow]; exact lX os started H enc F)
#print axioms subCalls_holds
end Go.Proofs.YtpmdfoaadejmkaaGreatDoor
