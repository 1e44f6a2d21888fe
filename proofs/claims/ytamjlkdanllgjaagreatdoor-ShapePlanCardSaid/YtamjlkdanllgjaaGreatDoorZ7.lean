/-
  'fleuronlaw17.ShapePlan' returns true, whatever comes in, and leaves it as it was. The table of math/bits is as it was laid.
-/
import Derived.Test.YtamjlkdanllgjaaGreatDoorM12
import Derived.Test.YtamjlkdanllgjaaGreatDoorM36
namespace Go.Proofs.YtamjlkdanllgjaaGreatDoor
open Go.ChangeShapes Go.WideShapes Go.ChangeAt Go.RowKit
noncomputable def ie (os:Os):World:=
 { World.holding Tryz.prog os ⟨#[],#[],[]⟩ with heap:=(World.holding Tryz.prog os ⟨#[],#[],[]⟩).heap.modify 2 fun
   | .cells _ t frozen=> .cells (lG.map (Value.int .u8)).toArray t frozen
   | o=>o }
theorem sR (os:Os):laidMet Tryz.prog Rows.shapePlanRow.laid ((ie os).forCall (fun _ _=>0) ⟨#[],#[.agg #[.slice none 0 0,.slice none 0 0,.slice none 0 0,.int .u16 0],.slice none 0 0,.slice none 0 0],[]⟩).memory:=
 laidMet_of_run' 8 (by kernel_rfl) (by kernel_rfl)
theorem qh (os:Os) {H:Type} (enc:TypeId×Value→H):∃places,DataW.whole enc Tryz.prog ((ie os).forCall (fun _ _=>0) ⟨#[],#[.agg #[.slice none 0 0,.slice none 0 0,.slice none 0 0,.int .u16 0],.slice none 0 0,.slice none 0 0],[]⟩).memory Tryz.f3.params.toList Rows.shapePlanSpec.vars false #[.agg #[.slice none 0 0,.slice none 0 0,.slice none 0 0,.int .u16 0],.slice none 0 0,.slice none 0 0].toList 8=some ([.agg [.nil,.nil,.nil,.lit (.int .u16 0)],.nil,.nil],[],places):=
 ⟨[],by kernel_rfl⟩
set_option maxRecDepth 100000 in
theorem mN (H:Type) (enc:TypeId×Value→H) (W:World) (base:Nat) (args:Array Value) (ds gs:List (DataW H)) (before:List MemPlace)
  (hval:∀(j:Nat) t v,Tryz.f3.params[j]?=some t→args[j]?=some v→Value.okWide Tryz.prog W .any base t v)
  (hW:DataW.Whole enc Tryz.prog Tryz.f3.params.toList Rows.shapePlanSpec.vars false W args.toList ds gs before) (hL:laidMetH Tryz.prog Rows.shapePlanRow.laid W) (hS:W.ShapedOpen Tryz.prog):
  Calls Tryz.prog 3 args W fun e W'=>∃v,e= .returned v∧Rows.shapePlanSpec.post enc Tryz.prog Tryz.f3 false true false false W args v W':=by
 have hW':=hW
 obtain ⟨p,q,hA0,hV,rfl,hfz,hnd⟩:=hW
 have hA:DataW.TrodAll enc Tryz.prog W 0 (fun _=>true) true Tryz.f3.params.toList args.toList ds p:=hA0
 rw [Tryz.params3] at hA hval
 obtain ⟨v0,vs0,d0,ds0,p0,q0,hargs,rfl,rfl,h0,r0⟩:=trodAll_cons hA
 obtain ⟨v1,vs1,d1,ds1,p1,q1,rfl,rfl,rfl,h1,r1⟩:=trodAll_cons r0
 obtain ⟨v2,vs2,d2,ds2,p2,q2,rfl,rfl,rfl,h2,r2⟩:=trodAll_cons r1
 obtain ⟨rfl,rfl,rfl⟩:=trodAll_nil r2
 obtain rfl:args=#[v0,v1,v2]:=by cases args;simp_all
 obtain ⟨rfl,rfl⟩:=trodVars_none hV
 have lt0:∀x∈p0,x.block < W.heap.size:=by obtain ⟨m,hm⟩:=h0;exact DataW.trod_lt m _ _ _ hm
 have lt1:∀x∈p1,x.block < W.heap.size:=by obtain ⟨m,hm⟩:=h1;exact DataW.trod_lt m _ _ _ hm
 have lt2:∀x∈p2,x.block < W.heap.size:=by obtain ⟨m,hm⟩:=h2;exact DataW.trod_lt m _ _ _ hm
 obtain ⟨l0,m0,j0,z0,k0⟩:=C9 (AF hL hS) (hval 0 25 v0 rfl rfl) h0
 obtain ⟨l1,k1⟩:=yr (AF hL hS) (hval 1 22 v1 rfl rfl) h1
 obtain ⟨l2,k2⟩:=yt (AF hL hS) (hval 2 26 v2 rfl rfl) h2
 clear hA0
 refine (CJ (GT (Cf l0 m0 j0 z0 l1 l2) [wW]) W (AF hL hS) [v0,v1,v2] (d4.cons (k0) (d4.cons (k1) (d4.cons (k2) d4.nil)))).mono fun e W' ⟨v,he,bel,hv⟩=>?_
 subst he
 subst hv
 exact ⟨_,rfl,_,_,_,[],_,[],hW',trodAll_mk1 (shut_bool Tryz.underlying4 _),(trodAll_cons_mk (Below.trod Tryz.laidOut (by kernel_rfl) (Oy (by kernel_rfl)) h0 bel lt0) (trodAll_cons_mk (Below.trod Tryz.laidOut (by kernel_rfl) (Oy (by kernel_rfl)) h1 bel lt1) (trodAll_cons_mk (Below.trod Tryz.laidOut (by kernel_rfl) (Oy (by kernel_rfl)) h2 bel lt2) trodAll_mk0))),rfl,bel.frame _,fun h=>by cases h⟩
set_option maxRecDepth 100000 in
theorem oY (os:Os) (started:os.Started) (H:Type) (enc:TypeId×Value→H) (F:Stop.Interp):
  ReturnsInHanded {} Tryz.checked os 3 .any ((OpenSpec.ofChange Rows.shapePlanSpec).preRow enc Tryz.prog Tryz.f3 Rows.shapePlanRow.domain false Rows.shapePlanRow.laid) (((OpenSpec.ofChange Rows.shapePlanSpec).at F).post enc Tryz.prog Tryz.f3 false true false false):=by
 obtain ⟨places,hx⟩:=qh os enc
 refine returnsInHanded_of_row (C:=Tryz.checked) (s:=OpenSpec.ofChange Rows.shapePlanSpec) Tryz.own started (by kernel_rfl) Tryz.func3
  (witness_row_at (enc:=enc) (C:=Tryz.checked) false (ie os) #[.agg #[.slice none 0 0,.slice none 0 0,.slice none 0 0,.int .u16 0],.slice none 0 0,.slice none 0 0] rfl (by kernel_rfl) (by kernel_rfl) (by kernel_rfl)
   (OpenSpec.preRow_of_cond 8 hx (by kernel_rfl) (fun k hk=>by cases hk) (by kernel_rfl) (sR os))) ?_
 intro W base args ds gs before hval hW _ _ _ hL hS _
 exact mN H enc W base args ds gs before hval hW hL hS
theorem sg:Tryz.f3.isWrapper Tryz.prog Rows.shapePlanRow.wrapper Rows.shapePlanRow.mainSum:=by
 unfold Func.isWrapper
 first | (rw [if_pos (by decide+kernel)];kernel_rfl) | (rw [if_neg (by decide+kernel)];exact ⟨rfl,rfl⟩)
theorem uX:(Rows.shapePlanRow.inPlace==Tryz.prog.inPlace 3)=true:=by kernel_rfl
theorem nZ:(Rows.shapePlanRow.unfollowed==Tryz.prog.unfollowed 3)=true:=by kernel_rfl
theorem uY:(Rows.shapePlanRow.recurses==Tryz.prog.recurses 3)=true:=by
 have h:true=Tryz.prog.unfollowed 3:=eq_of_beq nZ
 unfold Program.recurses
 rw [←h]
 rfl
theorem uZ:(Rows.shapePlanRow.named==Tryz.prog.varsNamed 3)=true:=by kernel_rfl
theorem qg:joinedFacts Tryz.prog 3 Tryz.f3 Rows.shapePlanSpec Rows.shapePlanRow=true:=by
 unfold joinedFacts
 rw [uX,nZ,uY,uZ]
 kernel_rfl
set_option maxRecDepth 100000 in
theorem shapePlan_holds:Rows.ShapePlanSaid:=
 OpenClaim.holds_of_cond 3 Tryz.f3 rfl rfl rfl rfl rfl rfl rfl ⟨rfl,rfl,rfl,rfl,rfl⟩ rfl rfl rfl rfl rfl (by kernel_rfl) Tryz.func3 qg
  (Oy (by kernel_rfl)) sg
  (fun os started H enc _ F=>by rw [OpenClaim.pre_eq_preRow];exact oY os started H enc F)
#print axioms shapePlan_holds
end Go.Proofs.YtamjlkdanllgjaaGreatDoor
