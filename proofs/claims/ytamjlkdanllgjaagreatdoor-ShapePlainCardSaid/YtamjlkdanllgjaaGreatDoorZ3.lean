/-
  'fleuronlaw17.ShapePlain' returns true, whatever comes in, and leaves it as it was. The table of math/bits is as it was laid.
-/
import Derived.Test.YtamjlkdanllgjaaGreatDoorM12
import Derived.Test.YtamjlkdanllgjaaGreatDoorM33
namespace Go.Proofs.YtamjlkdanllgjaaGreatDoor
open Go.ChangeShapes Go.WideShapes Go.ChangeAt Go.RowKit
noncomputable def gJ (os:Os):World:=
 { World.holding Tryz.prog os ⟨#[],#[],[]⟩ with heap:=(World.holding Tryz.prog os ⟨#[],#[],[]⟩).heap.modify 2 fun
   | .cells _ t frozen=> .cells (mg.map (Value.int .u8)).toArray t frozen
   | o=>o }
theorem rj (os:Os):laidMet Tryz.prog Rows.shapePlainRow.laid ((gJ os).forCall (fun _ _=>0) ⟨#[],#[.agg #[.slice none 0 0,.slice none 0 0,.slice none 0 0,.int .u16 0]],[]⟩).memory:=
 laidMet_of_run' 8 (by kernel_rfl) (by kernel_rfl)
theorem o8 (os:Os) {H:Type} (enc:TypeId×Value→H):∃places,DataW.whole enc Tryz.prog ((gJ os).forCall (fun _ _=>0) ⟨#[],#[.agg #[.slice none 0 0,.slice none 0 0,.slice none 0 0,.int .u16 0]],[]⟩).memory Tryz.f4.params.toList Rows.shapePlainSpec.vars false #[.agg #[.slice none 0 0,.slice none 0 0,.slice none 0 0,.int .u16 0]].toList 8=some ([.agg [.nil,.nil,.nil,.lit (.int .u16 0)]],[],places):=
 ⟨[],by kernel_rfl⟩
set_option maxRecDepth 100000 in
theorem lB (H:Type) (enc:TypeId×Value→H) (W:World) (base:Nat) (args:Array Value) (ds gs:List (DataW H)) (before:List MemPlace)
  (hval:∀(j:Nat) t v,Tryz.f4.params[j]?=some t→args[j]?=some v→Value.okWide Tryz.prog W .any base t v)
  (hW:DataW.Whole enc Tryz.prog Tryz.f4.params.toList Rows.shapePlainSpec.vars false W args.toList ds gs before) (hL:laidMetH Tryz.prog Rows.shapePlainRow.laid W) (hS:W.ShapedOpen Tryz.prog):
  Calls Tryz.prog 4 args W fun e W'=>∃v,e= .returned v∧Rows.shapePlainSpec.post enc Tryz.prog Tryz.f4 false true false false W args v W':=by
 have hW':=hW
 obtain ⟨p,q,hA0,hV,rfl,hfz,hnd⟩:=hW
 have hA:DataW.TrodAll enc Tryz.prog W 0 (fun _=>true) true Tryz.f4.params.toList args.toList ds p:=hA0
 rw [Tryz.params4] at hA hval
 obtain ⟨v0,vs0,d0,ds0,p0,q0,hargs,rfl,rfl,h0,r0⟩:=trodAll_cons hA
 obtain ⟨rfl,rfl,rfl⟩:=trodAll_nil r0
 obtain rfl:args=#[v0]:=by cases args;simp_all
 obtain ⟨rfl,rfl⟩:=trodVars_none hV
 have lt0:∀x∈p0,x.block < W.heap.size:=by obtain ⟨m,hm⟩:=h0;exact DataW.trod_lt m _ _ _ hm
 obtain ⟨l0,m0,j0,z0,k0⟩:=Ad (GG hL hS) (hval 0 25 v0 rfl rfl) h0
 clear hA0
 refine (AW (EH (Am l0 m0 j0 z0) [vU]) W (GG hL hS) [v0] (cT.cons (k0) cT.nil)).mono fun e W' ⟨v,he,bel,hv⟩=>?_
 subst he
 subst hv
 exact ⟨_,rfl,_,_,_,[],_,[],hW',trodAll_mk1 (shut_bool Tryz.underlying4 _),(trodAll_cons_mk (Below.trod Tryz.laidOut (by kernel_rfl) (Ly (by kernel_rfl)) h0 bel lt0) trodAll_mk0),rfl,bel.frame _,fun h=>by cases h⟩
set_option maxRecDepth 100000 in
theorem nd (os:Os) (started:os.Started) (H:Type) (enc:TypeId×Value→H) (F:Stop.Interp):
  ReturnsInHanded {} Tryz.checked os 4 .any ((OpenSpec.ofChange Rows.shapePlainSpec).preRow enc Tryz.prog Tryz.f4 Rows.shapePlainRow.domain false Rows.shapePlainRow.laid) (((OpenSpec.ofChange Rows.shapePlainSpec).at F).post enc Tryz.prog Tryz.f4 false true false false):=by
 obtain ⟨places,hx⟩:=o8 os enc
 refine returnsInHanded_of_row (C:=Tryz.checked) (s:=OpenSpec.ofChange Rows.shapePlainSpec) Tryz.own started (by kernel_rfl) Tryz.func4
  (witness_row_at (enc:=enc) (C:=Tryz.checked) false (gJ os) #[.agg #[.slice none 0 0,.slice none 0 0,.slice none 0 0,.int .u16 0]] rfl (by kernel_rfl) (by kernel_rfl) (by kernel_rfl)
   (OpenSpec.preRow_of_cond 8 hx (by kernel_rfl) (fun k hk=>by cases hk) (by kernel_rfl) (rj os))) ?_
 intro W base args ds gs before hval hW _ _ _ hL hS _
 exact lB H enc W base args ds gs before hval hW hL hS
theorem pg:Tryz.f4.isWrapper Tryz.prog Rows.shapePlainRow.wrapper Rows.shapePlainRow.mainSum:=by
 unfold Func.isWrapper
 first | (rw [if_pos (by decide+kernel)];kernel_rfl) | (rw [if_neg (by decide+kernel)];exact ⟨rfl,rfl⟩)
theorem rS:(Rows.shapePlainRow.inPlace==Tryz.prog.inPlace 4)=true:=by kernel_rfl
theorem lM:(Rows.shapePlainRow.unfollowed==Tryz.prog.unfollowed 4)=true:=by kernel_rfl
theorem rT:(Rows.shapePlainRow.recurses==Tryz.prog.recurses 4)=true:=by
 have h:true=Tryz.prog.unfollowed 4:=eq_of_beq lM
 unfold Program.recurses
 rw [←h]
 rfl
theorem rU:(Rows.shapePlainRow.named==Tryz.prog.varsNamed 4)=true:=by kernel_rfl
theorem o7:joinedFacts Tryz.prog 4 Tryz.f4 Rows.shapePlainSpec Rows.shapePlainRow=true:=by
 unfold joinedFacts
 rw [rS,lM,rT,rU]
 kernel_rfl
set_option maxRecDepth 100000 in
theorem shapePlain_holds:Rows.ShapePlainSaid:=
 OpenClaim.holds_of_cond 4 Tryz.f4 rfl rfl rfl rfl rfl rfl rfl ⟨rfl,rfl,rfl,rfl,rfl⟩ rfl rfl rfl rfl rfl (by kernel_rfl) Tryz.func4 o7
  (Ly (by kernel_rfl)) pg
  (fun os started H enc _ F=>by rw [OpenClaim.pre_eq_preRow];exact nd os started H enc F)
#print axioms shapePlain_holds
end Go.Proofs.YtamjlkdanllgjaaGreatDoor
