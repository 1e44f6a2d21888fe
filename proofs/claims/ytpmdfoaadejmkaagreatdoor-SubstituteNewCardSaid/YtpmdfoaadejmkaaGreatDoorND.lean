/-
  'fleuronlaw13.SubstituteNew' returns true, whatever numbers come in, and leaves them as they were. No conditions.
-/
import Derived.Test.YtpmdfoaadejmkaaGreatDoorM42
namespace Go.Proofs.YtpmdfoaadejmkaaGreatDoor
open Go.ChangeShapes Go.WideShapes Go.ChangeAt Go.RowKit
noncomputable def ln (os:Os):World:=
 { World.holding Tryz.prog os ⟨#[],#[],[]⟩ with heap:=(World.holding Tryz.prog os ⟨#[],#[],[]⟩).heap.modify 0 fun
   | .cells _ t frozen=> .cells (lp.map (Value.int .u8)).toArray t frozen
   | o=>o }
theorem zE (os:Os):laidMet Tryz.prog Rows.substituteNewRow.laid ((ln os).forCall (fun _ _=>0) ⟨#[],#[.slice none 0 0,.agg #[.int .i64 0,.int .i64 0,.int .i64 0]],[]⟩).memory:=
 laidMet_of_run' 8 (by kernel_rfl) (by kernel_rfl)
theorem vy (os:Os) {H:Type} (enc:TypeId×Value→H):∃places,DataW.whole enc Tryz.prog ((ln os).forCall (fun _ _=>0) ⟨#[],#[.slice none 0 0,.agg #[.int .i64 0,.int .i64 0,.int .i64 0]],[]⟩).memory Tryz.f5.params.toList Rows.substituteNewSpec.vars false #[.slice none 0 0,.agg #[.int .i64 0,.int .i64 0,.int .i64 0]].toList 8=some ([.nil,.agg [.lit (.int .i64 0),.lit (.int .i64 0),.lit (.int .i64 0)]],[],places):=
 ⟨[],by kernel_rfl⟩
set_option maxRecDepth 100000 in
theorem qT (H:Type) (enc:TypeId×Value→H) (W:World) (base:Nat) (args:Array Value) (ds gs:List (DataW H)) (before:List MemPlace)
  (hval:∀(j:Nat) t v,Tryz.f5.params[j]?=some t→args[j]?=some v→Value.okWide Tryz.prog W .any base t v)
  (hW:DataW.Whole enc Tryz.prog Tryz.f5.params.toList Rows.substituteNewSpec.vars false W args.toList ds gs before) (hL:laidMetH Tryz.prog Rows.substituteNewRow.laid W) (hS:W.ShapedOpen Tryz.prog):
  Calls Tryz.prog 5 args W fun e W'=>∃v,e= .returned v∧Rows.substituteNewSpec.post enc Tryz.prog Tryz.f5 false true false false W args v W':=by
 have hW':=hW
 obtain ⟨p,q,hA0,hV,rfl,hfz,hnd⟩:=hW
 have hA:DataW.TrodAll enc Tryz.prog W 0 (fun _=>true) true Tryz.f5.params.toList args.toList ds p:=hA0
 rw [Tryz.params5] at hA hval
 obtain ⟨v0,vs0,d0,ds0,p0,q0,hargs,rfl,rfl,h0,r0⟩:=trodAll_cons hA
 obtain ⟨v1,vs1,d1,ds1,p1,q1,rfl,rfl,rfl,h1,r1⟩:=trodAll_cons r0
 obtain ⟨rfl,rfl,rfl⟩:=trodAll_nil r1
 obtain rfl:args=#[v0,v1]:=by cases args;simp_all
 obtain ⟨rfl,rfl⟩:=trodVars_none hV
 have lt0:∀x∈p0,x.block < W.heap.size:=by obtain ⟨m,hm⟩:=h0;exact DataW.trod_lt m _ _ _ hm
 have lt1:∀x∈p1,x.block < W.heap.size:=by obtain ⟨m,hm⟩:=h1;exact DataW.trod_lt m _ _ _ hm
 obtain ⟨l0,k0⟩:=zg (J6 hL hS) (hval 0 22 v0 rfl rfl) h0
 obtain ⟨a1,b1,c1,k1⟩:=CH (hval 1 50 v1 rfl rfl) h1
 clear hA0
 refine (Dm (I4 l0 a1 b1 c1) W (J6 hL hS) [v0,v1] (dI.cons (k0) (dI.cons (k1 _) dI.nil))).mono fun e W' ⟨v,he,bel,hv⟩=>?_
 subst he
 subst hv
 exact ⟨_,rfl,_,_,_,[],_,[],hW',trodAll_mk1 (shut_bool Tryz.underlying4 _),(trodAll_cons_mk (Below.trod Tryz.laidOut (by kernel_rfl) (Ny (by kernel_rfl)) h0 bel lt0) (trodAll_cons_mk (Below.trod Tryz.laidOut (by kernel_rfl) (Ny (by kernel_rfl)) h1 bel lt1) trodAll_mk0)),rfl,bel.frame _,fun h=>by cases h⟩
set_option maxRecDepth 100000 in
theorem td (os:Os) (started:os.Started) (H:Type) (enc:TypeId×Value→H) (F:Stop.Interp):
  ReturnsInHanded {} Tryz.checked os 5 .any ((OpenSpec.ofChange Rows.substituteNewSpec).preRow enc Tryz.prog Tryz.f5 Rows.substituteNewRow.domain false Rows.substituteNewRow.laid) (((OpenSpec.ofChange Rows.substituteNewSpec).at F).post enc Tryz.prog Tryz.f5 false true false false):=by
 obtain ⟨places,hx⟩:=vy os enc
 refine returnsInHanded_of_row (C:=Tryz.checked) (s:=OpenSpec.ofChange Rows.substituteNewSpec) Tryz.own started (by kernel_rfl) Tryz.func5
  (witness_row_at (enc:=enc) (C:=Tryz.checked) false (ln os) #[.slice none 0 0,.agg #[.int .i64 0,.int .i64 0,.int .i64 0]] rfl (by kernel_rfl) (by kernel_rfl) (by kernel_rfl)
   (OpenSpec.preRow_of_cond 8 hx (by kernel_rfl) (fun k hk=>by cases hk) (by kernel_rfl) (zE os))) ?_
 intro W base args ds gs before hval hW _ _ _ hL hS _
 exact qT H enc W base args ds gs before hval hW hL hS
theorem xq:Tryz.f5.isWrapper Tryz.prog Rows.substituteNewRow.wrapper Rows.substituteNewRow.mainSum:=by
 unfold Func.isWrapper
 first | (rw [if_pos (by decide+kernel)];kernel_rfl) | (rw [if_neg (by decide+kernel)];exact ⟨rfl,rfl⟩)
theorem Dh:(Rows.substituteNewRow.inPlace==Tryz.prog.inPlace 5)=true:=by kernel_rfl
theorem ue:(Rows.substituteNewRow.unfollowed==Tryz.prog.unfollowed 5)=true:=by kernel_rfl
theorem Di:(Rows.substituteNewRow.recurses==Tryz.prog.recurses 5)=true:=by
 have h:true=Tryz.prog.unfollowed 5:=eq_of_beq ue
 unfold Program.recurses
 rw [←h]
 rfl
theorem Dj:(Rows.substituteNewRow.named==Tryz.prog.varsNamed 5)=true:=by kernel_rfl
theorem vx:joinedFacts Tryz.prog 5 Tryz.f5 Rows.substituteNewSpec Rows.substituteNewRow=true:=by
 unfold joinedFacts
 rw [Dh,ue,Di,Dj]
 kernel_rfl
set_option maxRecDepth 100000 in
theorem subNew_holds:Rows.SubstituteNewSaid:=
 OpenClaim.holds_of_cond 5 Tryz.f5 rfl rfl rfl rfl rfl rfl rfl ⟨rfl,rfl,rfl,rfl,rfl⟩ rfl rfl rfl rfl rfl (by kernel_rfl) Tryz.func5 vx
  (Ny (by kernel_rfl)) xq
  (fun os started H enc _ F=>by rw [OpenClaim.pre_eq_preRow];exact td os started H enc F)
#print axioms subNew_holds
end Go.Proofs.YtpmdfoaadejmkaaGreatDoor
