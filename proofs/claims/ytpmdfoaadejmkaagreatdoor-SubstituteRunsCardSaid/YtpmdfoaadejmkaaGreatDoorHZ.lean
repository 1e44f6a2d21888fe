/-
  'fleuronlaw13.SubstituteRuns' returns true, whatever rows come in, and leaves them as they were. The table of math/bits is as it was laid.
-/
import Derived.Test.YtpmdfoaadejmkaaGreatDoorM13
import Derived.Test.YtpmdfoaadejmkaaGreatDoorM34
namespace Go.Proofs.YtpmdfoaadejmkaaGreatDoor
open Go.ChangeShapes Go.WideShapes Go.ChangeAt Go.RowKit
noncomputable def jl (os:Os):World:=
 { World.holding Tryz.prog os ⟨#[],#[],[]⟩ with heap:=(World.holding Tryz.prog os ⟨#[],#[],[]⟩).heap.modify 0 fun
   | .cells _ t frozen=> .cells (jL.map (Value.int .u8)).toArray t frozen
   | o=>o }
theorem vB (os:Os):laidMet Tryz.prog Rows.substituteRunsRow.laid ((jl os).forCall (fun _ _=>0) ⟨#[],#[.slice none 0 0,.slice none 0 0,.slice none 0 0],[]⟩).memory:=
 laidMet_of_run' 8 (by kernel_rfl) (by kernel_rfl)
theorem rO (os:Os) {H:Type} (enc:TypeId×Value→H):∃places,DataW.whole enc Tryz.prog ((jl os).forCall (fun _ _=>0) ⟨#[],#[.slice none 0 0,.slice none 0 0,.slice none 0 0],[]⟩).memory Tryz.f4.params.toList Rows.substituteRunsSpec.vars false #[.slice none 0 0,.slice none 0 0,.slice none 0 0].toList 8=some ([.nil,.nil,.nil],[],places):=
 ⟨[],by kernel_rfl⟩
set_option maxRecDepth 100000 in
theorem oq (H:Type) (enc:TypeId×Value→H) (W:World) (base:Nat) (args:Array Value) (ds gs:List (DataW H)) (before:List MemPlace)
  (hval:∀(j:Nat) t v,Tryz.f4.params[j]?=some t→args[j]?=some v→Value.okWide Tryz.prog W .any base t v)
  (hW:DataW.Whole enc Tryz.prog Tryz.f4.params.toList Rows.substituteRunsSpec.vars false W args.toList ds gs before) (hL:laidMetH Tryz.prog Rows.substituteRunsRow.laid W) (hS:W.ShapedOpen Tryz.prog):
  Calls Tryz.prog 4 args W fun e W'=>∃v,e= .returned v∧Rows.substituteRunsSpec.post enc Tryz.prog Tryz.f4 false true false false W args v W':=by
 have hW':=hW
 obtain ⟨p,q,hA0,hV,rfl,hfz,hnd⟩:=hW
 have hA:DataW.TrodAll enc Tryz.prog W 0 (fun _=>true) true Tryz.f4.params.toList args.toList ds p:=hA0
 rw [Tryz.params4] at hA hval
 obtain ⟨v0,vs0,d0,ds0,p0,q0,hargs,rfl,rfl,h0,r0⟩:=trodAll_cons hA
 obtain ⟨v1,vs1,d1,ds1,p1,q1,rfl,rfl,rfl,h1,r1⟩:=trodAll_cons r0
 obtain ⟨v2,vs2,d2,ds2,p2,q2,rfl,rfl,rfl,h2,r2⟩:=trodAll_cons r1
 obtain ⟨rfl,rfl,rfl⟩:=trodAll_nil r2
 obtain rfl:args=#[v0,v1,v2]:=by cases args;simp_all
 obtain ⟨rfl,rfl⟩:=trodVars_none hV
 have lt0:∀x∈p0,x.block < W.heap.size:=by obtain ⟨m,hm⟩:=h0;exact DataW.trod_lt m _ _ _ hm
 have lt1:∀x∈p1,x.block < W.heap.size:=by obtain ⟨m,hm⟩:=h1;exact DataW.trod_lt m _ _ _ hm
 have lt2:∀x∈p2,x.block < W.heap.size:=by obtain ⟨m,hm⟩:=h2;exact DataW.trod_lt m _ _ _ hm
 obtain ⟨l0,k0⟩:=qW (yx hL hS) (hval 0 22 v0 rfl rfl) h0
 obtain ⟨l1,k1⟩:=qW (yx hL hS) (hval 1 22 v1 rfl rfl) h1
 obtain ⟨l2,k2⟩:=x5 (yx hL hS) (hval 2 45 v2 rfl rfl) h2
 clear hA0
 refine (Ap (Da l0 l1 l2) W (yx hL hS) [v0,v1,v2] (dh.cons (k0) (dh.cons (k1) (dh.cons (k2) dh.nil)))).mono fun e W' ⟨v,he,bel,hv⟩=>?_
 subst he
 subst hv
 exact ⟨_,rfl,_,_,_,[],_,[],hW',trodAll_mk1 (shut_bool Tryz.underlying4 _),(trodAll_cons_mk (Below.trod Tryz.laidOut (by kernel_rfl) (Jz (by kernel_rfl)) h0 bel lt0) (trodAll_cons_mk (Below.trod Tryz.laidOut (by kernel_rfl) (Jz (by kernel_rfl)) h1 bel lt1) (trodAll_cons_mk (Below.trod Tryz.laidOut (by kernel_rfl) (Jz (by kernel_rfl)) h2 bel lt2) trodAll_mk0))),rfl,bel.frame _,fun h=>by cases h⟩
set_option maxRecDepth 100000 in
theorem ro (os:Os) (started:os.Started) (H:Type) (enc:TypeId×Value→H) (F:Stop.Interp):
  ReturnsInHanded {} Tryz.checked os 4 .any ((OpenSpec.ofChange Rows.substituteRunsSpec).preRow enc Tryz.prog Tryz.f4 Rows.substituteRunsRow.domain false Rows.substituteRunsRow.laid) (((OpenSpec.ofChange Rows.substituteRunsSpec).at F).post enc Tryz.prog Tryz.f4 false true false false):=by
 obtain ⟨places,hx⟩:=rO os enc
 refine returnsInHanded_of_row (C:=Tryz.checked) (s:=OpenSpec.ofChange Rows.substituteRunsSpec) Tryz.own started (by kernel_rfl) Tryz.func4
  (witness_row_at (enc:=enc) (C:=Tryz.checked) false (jl os) #[.slice none 0 0,.slice none 0 0,.slice none 0 0] rfl (by kernel_rfl) (by kernel_rfl) (by kernel_rfl)
   (OpenSpec.preRow_of_cond 8 hx (by kernel_rfl) (fun k hk=>by cases hk) (by kernel_rfl) (vB os))) ?_
 intro W base args ds gs before hval hW _ _ _ hL hS _
 exact oq H enc W base args ds gs before hval hW hL hS
theorem tY:Tryz.f4.isWrapper Tryz.prog Rows.substituteRunsRow.wrapper Rows.substituteRunsRow.mainSum:=by
 unfold Func.isWrapper
 first | (rw [if_pos (by decide+kernel)];kernel_rfl) | (rw [if_neg (by decide+kernel)];exact ⟨rfl,rfl⟩)
theorem xk:(Rows.substituteRunsRow.inPlace==Tryz.prog.inPlace 4)=true:=by kernel_rfl
theorem rm:(Rows.substituteRunsRow.unfollowed==Tryz.prog.unfollowed 4)=true:=by kernel_rfl
theorem xl:(Rows.substituteRunsRow.recurses==Tryz.prog.recurses 4)=true:=by
 have h:true=Tryz.prog.unfollowed 4:=eq_of_beq rm
 unfold Program.recurses
 rw [←h]
 rfl
theorem xm:(Rows.substituteRunsRow.named==Tryz.prog.varsNamed 4)=true:=by kernel_rfl
theorem rN:joinedFacts Tryz.prog 4 Tryz.f4 Rows.substituteRunsSpec Rows.substituteRunsRow=true:=by
 unfold joinedFacts
 rw [xk,rm,xl,xm]
 kernel_rfl
set_option maxRecDepth 100000 in
theorem subRuns_holds:Rows.SubstituteRunsSaid:=
 OpenClaim.holds_of_cond 4 Tryz.f4 rfl rfl rfl rfl rfl rfl rfl ⟨rfl,rfl,rfl,rfl,rfl⟩ rfl rfl rfl rfl rfl (by kernel_rfl) Tryz.func4 rN
  (Jz (by kernel_rfl)) tY
  (fun os started H enc _ F=>by rw [OpenClaim.pre_eq_preRow];exact ro os started H enc F)
#print axioms subRuns_holds
end Go.Proofs.YtpmdfoaadejmkaaGreatDoor
