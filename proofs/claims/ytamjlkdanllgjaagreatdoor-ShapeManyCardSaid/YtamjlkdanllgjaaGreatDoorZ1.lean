/-
  'fleuronlaw17.ShapeMany' returns true, whatever comes in, and leaves it as it was. The table of math/bits is as it was laid.
-/
import Derived.Test.YtamjlkdanllgjaaGreatDoorM11
import Derived.Test.YtamjlkdanllgjaaGreatDoorM26
namespace Go.Proofs.YtamjlkdanllgjaaGreatDoor
open Go.ChangeShapes Go.WideShapes Go.ChangeAt Go.RowKit
noncomputable def fE (os : Os) : World :=
 { World.holding Tryz.prog os ⟨#[], #[], []⟩ with heap := (World.holding Tryz.prog os ⟨#[], #[], []⟩).heap.modify 2 fun
   | .cells _ t frozen => .cells (mH.map (Value.int .u8)).toArray t frozen
   | o => o }
theorem oU (os : Os) : laidMet Tryz.prog Rows.shapeManyRow.laid ((fE os).forCall (fun _ _ => 0) ⟨#[], #[.int .u8 0, .bool false, .bool false], []⟩).memory :=
 laidMet_of_run' 8 (by kernel_rfl) (by kernel_rfl)
theorem mG (os : Os) {H : Type} (enc : TypeId × Value → H) : ∃ places, DataW.whole enc Tryz.prog ((fE os).forCall (fun _ _ => 0) ⟨#[], #[.int .u8 0, .bool false, .bool false], []⟩).memory Tryz.f6.params.toList Rows.shapeManySpec.vars false #[.int .u8 0, .bool false, .bool false].toList 8 = some ([.lit (.int .u8 0), .lit (.bool false), .lit (.bool false)], [], places) :=
 ⟨[], by kernel_rfl⟩
set_option maxRecDepth 100000 in
theorem k8 (H : Type) (enc : TypeId × Value → H) (W : World) (base : Nat) (args : Array Value) (ds gs : List (DataW H)) (before : List MemPlace)
  (hval : ∀ (j : Nat) t v, Tryz.f6.params[j]? = some t → args[j]? = some v → Value.okWide Tryz.prog W .any base t v)
  (hW : DataW.Whole enc Tryz.prog Tryz.f6.params.toList Rows.shapeManySpec.vars false W args.toList ds gs before) (hL : laidMetH Tryz.prog Rows.shapeManyRow.laid W) (hS : W.ShapedOpen Tryz.prog) :
  Calls Tryz.prog 6 args W fun e W' => ∃ v, e = .returned v ∧ Rows.shapeManySpec.post enc Tryz.prog Tryz.f6 false true false false W args v W' := by
 have hW' := hW
 obtain ⟨p, q, hA0, hV, rfl, hfz, hnd⟩ := hW
 have hA : DataW.TrodAll enc Tryz.prog W 0 (fun _ => true) true Tryz.f6.params.toList args.toList ds p := hA0
 rw [Tryz.params6] at hA hval
 obtain ⟨v0, vs0, d0, ds0, p0, q0, hargs, rfl, rfl, h0, r0⟩ := trodAll_cons hA
 obtain ⟨v1, vs1, d1, ds1, p1, q1, rfl, rfl, rfl, h1, r1⟩ := trodAll_cons r0
 obtain ⟨v2, vs2, d2, ds2, p2, q2, rfl, rfl, rfl, h2, r2⟩ := trodAll_cons r1
 obtain ⟨rfl, rfl, rfl⟩ := trodAll_nil r2
 obtain rfl : args = #[v0, v1, v2] := by cases args; simp_all
 obtain ⟨rfl, rfl⟩ := trodVars_none hV
 have lt0 : ∀ x ∈ p0, x.block < W.heap.size := by obtain ⟨m, hm⟩ := h0; exact DataW.trod_lt m _ _ _ hm
 have lt1 : ∀ x ∈ p1, x.block < W.heap.size := by obtain ⟨m, hm⟩ := h1; exact DataW.trod_lt m _ _ _ hm
 have lt2 : ∀ x ∈ p2, x.block < W.heap.size := by obtain ⟨m, hm⟩ := h2; exact DataW.trod_lt m _ _ _ hm
 obtain ⟨n0, rfl, _, _, w0⟩ := open_int Tryz.underlying5 (hval 0 5 v0 rfl rfl) h0
 have w0 : 0 ≤ n0 ∧ n0 ≤ 255 := FL w0
 obtain ⟨n1, rfl, _, _⟩ := open_bool Tryz.underlying4 (hval 1 4 v1 rfl rfl) h1
 obtain ⟨n2, rfl, _, _⟩ := open_bool Tryz.underlying4 (hval 2 4 v2 rfl rfl) h2
 clear hA0
 refine (wK (yo n0 w0.1 w0.2 n1 n2) W (FJ hL hS) [.int .u8 n0, .bool n1, .bool n2] (cz.cons (.sc _) (cz.cons (.sc _) (cz.cons (.sc _) cz.nil)))).mono fun e W' ⟨v, he, bel, hv⟩ => ?_
 subst he
 subst hv
 exact ⟨_, rfl, _, _, _, [], _, [], hW', trodAll_mk1 (shut_bool Tryz.underlying4 _), (trodAll_cons_mk (Below.trod Tryz.laidOut (by kernel_rfl) (Hz (by kernel_rfl)) h0 bel lt0) (trodAll_cons_mk (Below.trod Tryz.laidOut (by kernel_rfl) (Hz (by kernel_rfl)) h1 bel lt1) (trodAll_cons_mk (Below.trod Tryz.laidOut (by kernel_rfl) (Hz (by kernel_rfl)) h2 bel lt2) trodAll_mk0))), rfl, bel.frame _, fun h => by cases h⟩
set_option maxRecDepth 100000 in
theorem lO (os : Os) (started : os.Started) (H : Type) (enc : TypeId × Value → H) (F : Stop.Interp) :
  ReturnsInHanded {} Tryz.checked os 6 .any ((OpenSpec.ofChange Rows.shapeManySpec).preRow enc Tryz.prog Tryz.f6 Rows.shapeManyRow.domain false Rows.shapeManyRow.laid) (((OpenSpec.ofChange Rows.shapeManySpec).at F).post enc Tryz.prog Tryz.f6 false true false false) := by
 obtain ⟨places, hx⟩ := mG os enc
 refine returnsInHanded_of_row (C := Tryz.checked) (s := OpenSpec.ofChange Rows.shapeManySpec) Tryz.own started (by kernel_rfl) Tryz.func6
  (witness_row_at (enc := enc) (C := Tryz.checked) false (fE os) #[.int .u8 0, .bool false, .bool false] rfl (by kernel_rfl) (by kernel_rfl) (by kernel_rfl)
   (OpenSpec.preRow_of_cond 8 hx (by kernel_rfl) (fun k hk => by cases hk) (by kernel_rfl) (oU os))) ?_
 intro W base args ds gs before hval hW _ _ _ hL hS _
 exact k8 H enc W base args ds gs before hval hW hL hS
theorem ot : Tryz.f6.isWrapper Tryz.prog Rows.shapeManyRow.wrapper Rows.shapeManyRow.mainSum := by
 unfold Func.isWrapper
 first | (rw [if_pos (by decide +kernel)]; kernel_rfl) | (rw [if_neg (by decide +kernel)]; exact ⟨rfl, rfl⟩)
theorem qH : (Rows.shapeManyRow.inPlace == Tryz.prog.inPlace 6) = true := by kernel_rfl
theorem kY : (Rows.shapeManyRow.unfollowed == Tryz.prog.unfollowed 6) = true := by kernel_rfl
theorem qI : (Rows.shapeManyRow.recurses == Tryz.prog.recurses 6) = true := by
 have h : true = Tryz.prog.unfollowed 6 := eq_of_beq kY
 unfold Program.recurses
 rw [← h]
 rfl
theorem qJ : (Rows.shapeManyRow.named == Tryz.prog.varsNamed 6) = true := by kernel_rfl
theorem mF : joinedFacts Tryz.prog 6 Tryz.f6 Rows.shapeManySpec Rows.shapeManyRow = true := by
 unfold joinedFacts
 rw [qH, kY, qI, qJ]
 kernel_rfl
set_option maxRecDepth 100000 in
theorem shapeMany_holds : Rows.ShapeManySaid :=
 OpenClaim.holds_of_cond 6 Tryz.f6 rfl rfl rfl rfl rfl rfl rfl ⟨rfl, rfl, rfl, rfl, rfl⟩ rfl rfl rfl rfl rfl (by kernel_rfl) Tryz.func6 mF
  (Hz (by kernel_rfl)) ot
  (fun os started H enc _ F => by rw [OpenClaim.pre_eq_preRow]; exact lO os started H enc F)
#print axioms shapeMany_holds
end Go.Proofs.YtamjlkdanllgjaaGreatDoor
