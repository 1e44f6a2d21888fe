/-
  'fleuronlaw17.ShapeForms' returns true, whatever comes in, and leaves it as it was. The table of math/bits is as it was laid.
-/
import Derived.Test.YtamjlkdanllgjaaGreatDoorM13
import Derived.Test.YtamjlkdanllgjaaGreatDoorM32
namespace Go.Proofs.YtamjlkdanllgjaaGreatDoor
open Go.ChangeShapes Go.WideShapes Go.ChangeAt Go.RowKit
noncomputable def gi (os:Os):World:=
 { World.holding Tryz.prog os ⟨#[],#[],[]⟩ with heap:=(World.holding Tryz.prog os ⟨#[],#[],[]⟩).heap.modify 2 fun
   | .cells _ t frozen=> .cells (jD.map (Value.int .u8)).toArray t frozen
   | o=>o }
theorem qj (os:Os):laidMet Tryz.prog Rows.shapeFormsRow.laid ((gi os).forCall (fun _ _=>0) ⟨#[],#[.slice none 0 0,.int .u8 0],[]⟩).memory:=
 laidMet_of_run' 8 (by kernel_rfl) (by kernel_rfl)
theorem nB (os:Os) {H:Type} (enc:TypeId×Value→H):∃places,DataW.whole enc Tryz.prog ((gi os).forCall (fun _ _=>0) ⟨#[],#[.slice none 0 0,.int .u8 0],[]⟩).memory Tryz.f5.params.toList Rows.shapeFormsSpec.vars false #[.slice none 0 0,.int .u8 0].toList 8=some ([.nil,.lit (.int .u8 0)],[],places):=
 ⟨[],by kernel_rfl⟩
set_option maxRecDepth 100000 in
theorem kR (H:Type) (enc:TypeId×Value→H) (W:World) (base:Nat) (args:Array Value) (ds gs:List (DataW H)) (before:List MemPlace)
  (hval:∀(j:Nat) t v,Tryz.f5.params[j]?=some t→args[j]?=some v→Value.okWide Tryz.prog W .any base t v)
  (hW:DataW.Whole enc Tryz.prog Tryz.f5.params.toList Rows.shapeFormsSpec.vars false W args.toList ds gs before) (hL:laidMetH Tryz.prog Rows.shapeFormsRow.laid W) (hS:W.ShapedOpen Tryz.prog):
  Calls Tryz.prog 5 args W fun e W'=>∃v,e= .returned v∧Rows.shapeFormsSpec.post enc Tryz.prog Tryz.f5 false true false false W args v W':=by
 have hW':=hW
 obtain ⟨p,q,hA0,hV,rfl,hfz,hnd⟩:=hW
 have hA:DataW.TrodAll enc Tryz.prog W 0 (fun _=>true) true Tryz.f5.params.toList args.toList ds p:=hA0
 rw [Tryz.params5] at hA hval
 obtain ⟨v0,vs0,d0,ds0,p0,q0,hargs,rfl,rfl,h0,r0⟩:=trodAll_cons hA
 obtain ⟨v1,vs1,d1,ds1,p1,q1,rfl,rfl,rfl,h1,r1⟩:=trodAll_cons r0
 obtain ⟨rfl,rfl,rfl⟩:=trodAll_nil r1
 obtain rfl:args=#[v0,v1]:=by cases args;simp_all
 obtain ⟨rfl,rfl⟩:=trodVars_none hV
 have lt0:∀x∈p0,x.block < W.heap.size:=by obtain ⟨m,hm⟩:=h0;exact DataW.trod_lt m _ _ _ hm
 have lt1:∀x∈p1,x.block < W.heap.size:=by obtain ⟨m,hm⟩:=h1;exact DataW.trod_lt m _ _ _ hm
 obtain ⟨l0,x0,e0,b0,k0⟩:=ur (G4 hL hS) (hval 0 69 v0 rfl rfl) h0
 obtain ⟨n1,rfl,_,_,w1⟩:=open_int Tryz.underlying5 (hval 1 5 v1 rfl rfl) h1
 have w1:0≤n1∧n1≤255:=G5 w1
 clear hA0
 refine (zL (yJ l0 x0 e0 b0 n1 w1.1 w1.2) W (G4 hL hS) [v0,.int .u8 n1] (cR.cons (k0) (cR.cons (.sc _) cR.nil))).mono fun e W' ⟨v,he,bel,hv⟩=>?_
 subst he
 subst hv
 exact ⟨_,rfl,_,_,_,[],_,[],hW',trodAll_mk1 (shut_bool Tryz.underlying4 _),(trodAll_cons_mk (Below.trod Tryz.laidOut (by kernel_rfl) (Mz (by kernel_rfl)) h0 bel lt0) (trodAll_cons_mk (Below.trod Tryz.laidOut (by kernel_rfl) (Mz (by kernel_rfl)) h1 bel lt1) trodAll_mk0)),rfl,bel.frame _,fun h=>by cases h⟩
set_option maxRecDepth 100000 in
theorem mA (os:Os) (started:os.Started) (H:Type) (enc:TypeId×Value→H) (F:Stop.Interp):
  ReturnsInHanded {} Tryz.checked os 5 .any ((OpenSpec.ofChange Rows.shapeFormsSpec).preRow enc Tryz.prog Tryz.f5 Rows.shapeFormsRow.domain false Rows.shapeFormsRow.laid) (((OpenSpec.ofChange Rows.shapeFormsSpec).at F).post enc Tryz.prog Tryz.f5 false true false false):=by
 obtain ⟨places,hx⟩:=nB os enc
 refine returnsInHanded_of_row (C:=Tryz.checked) (s:=OpenSpec.ofChange Rows.shapeFormsSpec) Tryz.own started (by kernel_rfl) Tryz.func5
  (witness_row_at (enc:=enc) (C:=Tryz.checked) false (gi os) #[.slice none 0 0,.int .u8 0] rfl (by kernel_rfl) (by kernel_rfl) (by kernel_rfl)
   (OpenSpec.preRow_of_cond 8 hx (by kernel_rfl) (fun k hk=>by cases hk) (by kernel_rfl) (qj os))) ?_
 intro W base args ds gs before hval hW _ _ _ hL hS _
 exact kR H enc W base args ds gs before hval hW hL hS
theorem oA:Tryz.f5.isWrapper Tryz.prog Rows.shapeFormsRow.wrapper Rows.shapeFormsRow.mainSum:=by
 unfold Func.isWrapper
 first | (rw [if_pos (by decide+kernel)];kernel_rfl) | (rw [if_neg (by decide+kernel)];exact ⟨rfl,rfl⟩)
theorem qM:(Rows.shapeFormsRow.inPlace==Tryz.prog.inPlace 5)=true:=by kernel_rfl
theorem l6:(Rows.shapeFormsRow.unfollowed==Tryz.prog.unfollowed 5)=true:=by kernel_rfl
theorem qN:(Rows.shapeFormsRow.recurses==Tryz.prog.recurses 5)=true:=by
 have h:true=Tryz.prog.unfollowed 5:=eq_of_beq l6
 unfold Program.recurses
 rw [←h]
 rfl
theorem qO:(Rows.shapeFormsRow.named==Tryz.prog.varsNamed 5)=true:=by kernel_rfl
theorem nA:joinedFacts Tryz.prog 5 Tryz.f5 Rows.shapeFormsSpec Rows.shapeFormsRow=true:=by
 unfold joinedFacts
 rw [qM,l6,qN,qO]
 kernel_rfl
set_option maxRecDepth 100000 in
theorem shapeForms_holds:Rows.ShapeFormsSaid:=
 OpenClaim.holds_of_cond 5 Tryz.f5 rfl rfl rfl rfl rfl rfl rfl ⟨rfl,rfl,rfl,rfl,rfl⟩ rfl rfl rfl rfl rfl (by kernel_rfl) Tryz.func5 nA
  (Mz (by kernel_rfl)) oA
  (fun os started H enc _ F=>by rw [OpenClaim.pre_eq_preRow];exact mA os started H enc F)
#print axioms shapeForms_holds
end Go.Proofs.YtamjlkdanllgjaaGreatDoor
