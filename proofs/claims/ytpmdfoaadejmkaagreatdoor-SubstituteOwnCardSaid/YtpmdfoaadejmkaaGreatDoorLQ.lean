/-
  'fleuronlaw13.SubstituteOwn' returns true, whatever rows and number come in, and leaves them as they were. The table of math/bits is as it was laid.
-/
import Derived.Test.YtpmdfoaadejmkaaGreatDoorM13
import Derived.Test.YtpmdfoaadejmkaaGreatDoorM36
namespace Go.Proofs.YtpmdfoaadejmkaaGreatDoor
open Go.ChangeShapes Go.WideShapes Go.ChangeAt Go.RowKit
noncomputable def l6 (os:Os):World:=
 { World.holding Tryz.prog os ⟨#[],#[],[]⟩ with heap:=(World.holding Tryz.prog os ⟨#[],#[],[]⟩).heap.modify 0 fun
   | .cells _ t frozen=> .cells (l7.map (Value.int .u8)).toArray t frozen
   | o=>o }
theorem y9 (os:Os):laidMet Tryz.prog Rows.substituteOwnRow.laid ((l6 os).forCall (fun _ _=>0) ⟨#[],#[.slice none 0 0,.slice none 0 0,.int .i64 0],[]⟩).memory:=
 laidMet_of_run' 8 (by kernel_rfl) (by kernel_rfl)
theorem uC (os:Os) {H:Type} (enc:TypeId×Value→H):∃places,DataW.whole enc Tryz.prog ((l6 os).forCall (fun _ _=>0) ⟨#[],#[.slice none 0 0,.slice none 0 0,.int .i64 0],[]⟩).memory Tryz.f6.params.toList Rows.substituteOwnSpec.vars false #[.slice none 0 0,.slice none 0 0,.int .i64 0].toList 8=some ([.nil,.nil,.lit (.int .i64 0)],[],places):=
 ⟨[],by kernel_rfl⟩
set_option maxRecDepth 100000 in
theorem pQ (H:Type) (enc:TypeId×Value→H) (W:World) (base:Nat) (args:Array Value) (ds gs:List (DataW H)) (before:List MemPlace)
  (hval:∀(j:Nat) t v,Tryz.f6.params[j]?=some t→args[j]?=some v→Value.okWide Tryz.prog W .any base t v)
  (hW:DataW.Whole enc Tryz.prog Tryz.f6.params.toList Rows.substituteOwnSpec.vars false W args.toList ds gs before) (hL:laidMetH Tryz.prog Rows.substituteOwnRow.laid W) (hS:W.ShapedOpen Tryz.prog):
  Calls Tryz.prog 6 args W fun e W'=>∃v,e= .returned v∧Rows.substituteOwnSpec.post enc Tryz.prog Tryz.f6 false true false false W args v W':=by
 have hW':=hW
 obtain ⟨p,q,hA0,hV,rfl,hfz,hnd⟩:=hW
 have hA:DataW.TrodAll enc Tryz.prog W 0 (fun _=>true) true Tryz.f6.params.toList args.toList ds p:=hA0
 rw [Tryz.params6] at hA hval
 obtain ⟨v0,vs0,d0,ds0,p0,q0,hargs,rfl,rfl,h0,r0⟩:=trodAll_cons hA
 obtain ⟨v1,vs1,d1,ds1,p1,q1,rfl,rfl,rfl,h1,r1⟩:=trodAll_cons r0
 obtain ⟨v2,vs2,d2,ds2,p2,q2,rfl,rfl,rfl,h2,r2⟩:=trodAll_cons r1
 obtain ⟨rfl,rfl,rfl⟩:=trodAll_nil r2
 obtain rfl:args=#[v0,v1,v2]:=by cases args;simp_all
 obtain ⟨rfl,rfl⟩:=trodVars_none hV
 have lt0:∀x∈p0,x.block < W.heap.size:=by obtain ⟨m,hm⟩:=h0;exact DataW.trod_lt m _ _ _ hm
 have lt1:∀x∈p1,x.block < W.heap.size:=by obtain ⟨m,hm⟩:=h1;exact DataW.trod_lt m _ _ _ hm
 have lt2:∀x∈p2,x.block < W.heap.size:=by obtain ⟨m,hm⟩:=h2;exact DataW.trod_lt m _ _ _ hm
 obtain ⟨l0,k0⟩:=rA (EE hL hS) (hval 0 22 v0 rfl rfl) h0
 obtain ⟨l1,k1⟩:=rA (EE hL hS) (hval 1 22 v1 rfl rfl) h1
 obtain ⟨n2,rfl,_,_,w2⟩:=open_int Tryz.underlying3 (hval 2 3 v2 rfl rfl) h2
 clear hA0
 refine (BF (Ge l0 l1 n2) W (EE hL hS) [v0,v1,.int .i64 n2] (cS.cons (k0) (cS.cons (k1) (cS.cons (.sc _) cS.nil)))).mono fun e W' ⟨v,he,bel,hv⟩=>?_
 subst he
 subst hv
 exact ⟨_,rfl,_,_,_,[],_,[],hW',trodAll_mk1 (shut_bool Tryz.underlying4 _),(trodAll_cons_mk (Below.trod Tryz.laidOut (by kernel_rfl) (Lz (by kernel_rfl)) h0 bel lt0) (trodAll_cons_mk (Below.trod Tryz.laidOut (by kernel_rfl) (Lz (by kernel_rfl)) h1 bel lt1) (trodAll_cons_mk (Below.trod Tryz.laidOut (by kernel_rfl) (Lz (by kernel_rfl)) h2 bel lt2) trodAll_mk0))),rfl,bel.frame _,fun h=>by cases h⟩
set_option maxRecDepth 100000 in
theorem su (os:Os) (started:os.Started) (H:Type) (enc:TypeId×Value→H) (F:Stop.Interp):
  ReturnsInHanded {} Tryz.checked os 6 .any ((OpenSpec.ofChange Rows.substituteOwnSpec).preRow enc Tryz.prog Tryz.f6 Rows.substituteOwnRow.domain false Rows.substituteOwnRow.laid) (((OpenSpec.ofChange Rows.substituteOwnSpec).at F).post enc Tryz.prog Tryz.f6 false true false false):=by
 obtain ⟨places,hx⟩:=uC os enc
 refine returnsInHanded_of_row (C:=Tryz.checked) (s:=OpenSpec.ofChange Rows.substituteOwnSpec) Tryz.own started (by kernel_rfl) Tryz.func6
  (witness_row_at (enc:=enc) (C:=Tryz.checked) false (l6 os) #[.slice none 0 0,.slice none 0 0,.int .i64 0] rfl (by kernel_rfl) (by kernel_rfl) (by kernel_rfl)
   (OpenSpec.preRow_of_cond 8 hx (by kernel_rfl) (fun k hk=>by cases hk) (by kernel_rfl) (y9 os))) ?_
 intro W base args ds gs before hval hW _ _ _ hL hS _
 exact pQ H enc W base args ds gs before hval hW hL hS
theorem wo:Tryz.f6.isWrapper Tryz.prog Rows.substituteOwnRow.wrapper Rows.substituteOwnRow.mainSum:=by
 unfold Func.isWrapper
 first | (rw [if_pos (by decide+kernel)];kernel_rfl) | (rw [if_neg (by decide+kernel)];exact ⟨rfl,rfl⟩)
theorem BC:(Rows.substituteOwnRow.inPlace==Tryz.prog.inPlace 6)=true:=by kernel_rfl
theorem tl:(Rows.substituteOwnRow.unfollowed==Tryz.prog.unfollowed 6)=true:=by kernel_rfl
theorem BD:(Rows.substituteOwnRow.recurses==Tryz.prog.recurses 6)=true:=by
 have h:true=Tryz.prog.unfollowed 6:=eq_of_beq tl
 unfold Program.recurses
 rw [←h]
 rfl
theorem BE:(Rows.substituteOwnRow.named==Tryz.prog.varsNamed 6)=true:=by kernel_rfl
theorem uB:joinedFacts Tryz.prog 6 Tryz.f6 Rows.substituteOwnSpec Rows.substituteOwnRow=true:=by
 unfold joinedFacts
 rw [BC,tl,BD,BE]
 kernel_rfl
set_option maxRecDepth 100000 in
theorem subOwn_holds:Rows.SubstituteOwnSaid:=
 OpenClaim.holds_of_cond 6 Tryz.f6 rfl rfl rfl rfl rfl rfl rfl ⟨rfl,rfl,rfl,rfl,rfl⟩ rfl rfl rfl rfl rfl (by kernel_rfl) Tryz.func6 uB
  (Lz (by kernel_rfl)) wo
  (fun os started H enc _ F=>by rw [OpenClaim.pre_eq_preRow];exact su os started H enc F)
#print axioms subOwn_holds
end Go.Proofs.YtpmdfoaadejmkaaGreatDoor
