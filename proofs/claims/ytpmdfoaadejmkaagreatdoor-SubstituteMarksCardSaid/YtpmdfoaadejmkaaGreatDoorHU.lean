/-
  'fleuronlaw13.SubstituteMarks' returns true, whatever numbers come in, and leaves them as they were. The table of math/bits is as it was laid.
-/
import Derived.Test.YtpmdfoaadejmkaaGreatDoorM13
import Derived.Test.YtpmdfoaadejmkaaGreatDoorM25
namespace Go.Proofs.YtpmdfoaadejmkaaGreatDoor
open Go.ChangeShapes Go.WideShapes Go.ChangeAt Go.RowKit
noncomputable def fP (os : Os) : World :=
 { World.holding Tryz.prog os ⟨#[], #[], []⟩ with heap := (World.holding Tryz.prog os ⟨#[], #[], []⟩).heap.modify 0 fun
   | .cells _ t frozen => .cells (je.map (Value.int .u8)).toArray t frozen
   | o => o }
theorem pO (os : Os) : laidMet Tryz.prog Rows.substituteMarksRow.laid ((fP os).forCall (fun _ _ => 0) ⟨#[], #[.agg #[.int .u8 0, .int .u8 0, .int .u8 0], .bool false], []⟩).memory :=
 laidMet_of_run' 8 (by kernel_rfl) (by kernel_rfl)
theorem ny (os : Os) {H : Type} (enc : TypeId × Value → H) : ∃ places, DataW.whole enc Tryz.prog ((fP os).forCall (fun _ _ => 0) ⟨#[], #[.agg #[.int .u8 0, .int .u8 0, .int .u8 0], .bool false], []⟩).memory Tryz.f9.params.toList Rows.substituteMarksSpec.vars false #[.agg #[.int .u8 0, .int .u8 0, .int .u8 0], .bool false].toList 8 = some ([.agg [.lit (.int .u8 0), .lit (.int .u8 0), .lit (.int .u8 0)], .lit (.bool false)], [], places) :=
 ⟨[], by kernel_rfl⟩
set_option maxRecDepth 100000 in
theorem kv (H : Type) (enc : TypeId × Value → H) (W : World) (base : Nat) (args : Array Value) (ds gs : List (DataW H)) (before : List MemPlace)
  (hval : ∀ (j : Nat) t v, Tryz.f9.params[j]? = some t → args[j]? = some v → Value.okWide Tryz.prog W .any base t v)
  (hW : DataW.Whole enc Tryz.prog Tryz.f9.params.toList Rows.substituteMarksSpec.vars false W args.toList ds gs before) (hL : laidMetH Tryz.prog Rows.substituteMarksRow.laid W) (hS : W.ShapedOpen Tryz.prog) :
  Calls Tryz.prog 9 args W fun e W' => ∃ v, e = .returned v ∧ Rows.substituteMarksSpec.post enc Tryz.prog Tryz.f9 false true false false W args v W' := by
 have hW' := hW
 obtain ⟨p, q, hA0, hV, rfl, hfz, hnd⟩ := hW
 have hA : DataW.TrodAll enc Tryz.prog W 0 (fun _ => true) true Tryz.f9.params.toList args.toList ds p := hA0
 rw [Tryz.params9] at hA hval
 obtain ⟨v0, vs0, d0, ds0, p0, q0, hargs, rfl, rfl, h0, r0⟩ := trodAll_cons hA
 obtain ⟨v1, vs1, d1, ds1, p1, q1, rfl, rfl, rfl, h1, r1⟩ := trodAll_cons r0
 obtain ⟨rfl, rfl, rfl⟩ := trodAll_nil r1
 obtain rfl : args = #[v0, v1] := by cases args; simp_all
 obtain ⟨rfl, rfl⟩ := trodVars_none hV
 have lt0 : ∀ x ∈ p0, x.block < W.heap.size := by obtain ⟨m, hm⟩ := h0; exact DataW.trod_lt m _ _ _ hm
 have lt1 : ∀ x ∈ p1, x.block < W.heap.size := by obtain ⟨m, hm⟩ := h1; exact DataW.trod_lt m _ _ _ hm
 obtain ⟨a0, b0, c0, wa0, wb0, wc0, k0⟩ := sw (hval 0 88 v0 rfl rfl) h0
 obtain ⟨n1, rfl, _, _⟩ := open_bool Tryz.underlying4 (hval 1 4 v1 rfl rfl) h1
 clear hA0
 refine (vi (wS a0 b0 c0 n1 wa0 wb0 wc0) W (Ce hL hS) [v0, .bool n1] (cG.cons (k0 _) (cG.cons (.sc _) cG.nil))).mono fun e W' ⟨v, he, bel, hv⟩ => ?_
 subst he
 subst hv
 exact ⟨_, rfl, _, _, _, [], _, [], hW', trodAll_mk1 (shut_bool Tryz.underlying4 _), (trodAll_cons_mk (Below.trod Tryz.laidOut (by kernel_rfl) (Dz (by kernel_rfl)) h0 bel lt0) (trodAll_cons_mk (Below.trod Tryz.laidOut (by kernel_rfl) (Dz (by kernel_rfl)) h1 bel lt1) trodAll_mk0)), rfl, bel.frame _, fun h => by cases h⟩
set_option maxRecDepth 100000 in
theorem m8 (os : Os) (started : os.Started) (H : Type) (enc : TypeId × Value → H) (F : Stop.Interp) :
  ReturnsInHanded {} Tryz.checked os 9 .any ((OpenSpec.ofChange Rows.substituteMarksSpec).preRow enc Tryz.prog Tryz.f9 Rows.substituteMarksRow.domain false Rows.substituteMarksRow.laid) (((OpenSpec.ofChange Rows.substituteMarksSpec).at F).post enc Tryz.prog Tryz.f9 false true false false) := by
 obtain ⟨places, hx⟩ := ny os enc
 refine returnsInHanded_of_row (C := Tryz.checked) (s := OpenSpec.ofChange Rows.substituteMarksSpec) Tryz.own started (by kernel_rfl) Tryz.func9
  (witness_row_at (enc := enc) (C := Tryz.checked) false (fP os) #[.agg #[.int .u8 0, .int .u8 0, .int .u8 0], .bool false] rfl (by kernel_rfl) (by kernel_rfl) (by kernel_rfl)
   (OpenSpec.preRow_of_cond 8 hx (by kernel_rfl) (fun k hk => by cases hk) (by kernel_rfl) (pO os))) ?_
 intro W base args ds gs before hval hW _ _ _ hL hS _
 exact kv H enc W base args ds gs before hval hW hL hS
theorem nR : Tryz.f9.isWrapper Tryz.prog Rows.substituteMarksRow.wrapper Rows.substituteMarksRow.mainSum := by
 unfold Func.isWrapper
 first | (rw [if_pos (by decide +kernel)]; kernel_rfl) | (rw [if_neg (by decide +kernel)]; exact ⟨rfl, rfl⟩)
theorem ra : (Rows.substituteMarksRow.inPlace == Tryz.prog.inPlace 9) = true := by kernel_rfl
theorem lZ : (Rows.substituteMarksRow.unfollowed == Tryz.prog.unfollowed 9) = true := by kernel_rfl
theorem rc : (Rows.substituteMarksRow.recurses == Tryz.prog.recurses 9) = true := by
 have h : true = Tryz.prog.unfollowed 9 := eq_of_beq lZ
 unfold Program.recurses
 rw [← h]
 rfl
theorem rd : (Rows.substituteMarksRow.named == Tryz.prog.varsNamed 9) = true := by kernel_rfl
theorem nw : joinedFacts Tryz.prog 9 Tryz.f9 Rows.substituteMarksSpec Rows.substituteMarksRow = true := by
 unfold joinedFacts
 rw [ra, lZ, rc, rd]
 kernel_rfl
set_option maxRecDepth 100000 in
theorem subMarks_holds : Rows.SubstituteMarksSaid :=
 OpenClaim.holds_of_cond 9 Tryz.f9 rfl rfl rfl rfl rfl rfl rfl ⟨rfl, rfl, rfl, rfl, rfl⟩ rfl rfl rfl rfl rfl (by kernel_rfl) Tryz.func9 nw
  (Dz (by kernel_rfl)) nR
  (fun os started H enc _ F => by rw [OpenClaim.pre_eq_preRow]; exact m8 os started H enc F)
#print axioms subMarks_holds
end Go.Proofs.YtpmdfoaadejmkaaGreatDoor
