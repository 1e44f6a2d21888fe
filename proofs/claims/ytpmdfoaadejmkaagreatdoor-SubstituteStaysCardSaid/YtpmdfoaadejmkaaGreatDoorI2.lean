/-
  'fleuronlaw13.SubstituteStays' returns true, whatever rows and number come in, and leaves them as they were. The table of math/bits is as it was laid.
-/
import Derived.Test.YtpmdfoaadejmkaaGreatDoorM13
import Derived.Test.YtpmdfoaadejmkaaGreatDoorM32
namespace Go.Proofs.YtpmdfoaadejmkaaGreatDoor
open Go.ChangeShapes Go.WideShapes Go.ChangeAt Go.RowKit
noncomputable def iB (os:Os):World:=
 { World.holding Tryz.prog os ⟨#[],#[],[]⟩ with heap:=(World.holding Tryz.prog os ⟨#[],#[],[]⟩).heap.modify 0 fun
   | .cells _ t frozen=> .cells (jQ.map (Value.int .u8)).toArray t frozen
   | o=>o }
theorem t3 (os:Os):laidMet Tryz.prog Rows.substituteStaysRow.laid ((iB os).forCall (fun _ _=>0) ⟨#[],#[.slice none 0 0,.slice none 0 0,.int .i64 0],[]⟩).memory:=
 laidMet_of_run' 8 (by kernel_rfl) (by kernel_rfl)
theorem qA (os:Os) {H:Type} (enc:TypeId×Value→H):∃places,DataW.whole enc Tryz.prog ((iB os).forCall (fun _ _=>0) ⟨#[],#[.slice none 0 0,.slice none 0 0,.int .i64 0],[]⟩).memory Tryz.f7.params.toList Rows.substituteStaysSpec.vars false #[.slice none 0 0,.slice none 0 0,.int .i64 0].toList 8=some ([.nil,.nil,.lit (.int .i64 0)],[],places):=
 ⟨[],by kernel_rfl⟩
set_option maxRecDepth 100000 in
theorem mN (H:Type) (enc:TypeId×Value→H) (W:World) (base:Nat) (args:Array Value) (ds gs:List (DataW H)) (before:List MemPlace)
  (hval:∀(j:Nat) t v,Tryz.f7.params[j]?=some t→args[j]?=some v→Value.okWide Tryz.prog W .any base t v)
  (hW:DataW.Whole enc Tryz.prog Tryz.f7.params.toList Rows.substituteStaysSpec.vars false W args.toList ds gs before) (hL:laidMetH Tryz.prog Rows.substituteStaysRow.laid W) (hS:W.ShapedOpen Tryz.prog):
  Calls Tryz.prog 7 args W fun e W'=>∃v,e= .returned v∧Rows.substituteStaysSpec.post enc Tryz.prog Tryz.f7 false true false false W args v W':=by
 have hW':=hW
 obtain ⟨p,q,hA0,hV,rfl,hfz,hnd⟩:=hW
 have hA:DataW.TrodAll enc Tryz.prog W 0 (fun _=>true) true Tryz.f7.params.toList args.toList ds p:=hA0
 rw [Tryz.params7] at hA hval
 obtain ⟨v0,vs0,d0,ds0,p0,q0,hargs,rfl,rfl,h0,r0⟩:=trodAll_cons hA
 obtain ⟨v1,vs1,d1,ds1,p1,q1,rfl,rfl,rfl,h1,r1⟩:=trodAll_cons r0
 obtain ⟨v2,vs2,d2,ds2,p2,q2,rfl,rfl,rfl,h2,r2⟩:=trodAll_cons r1
 obtain ⟨rfl,rfl,rfl⟩:=trodAll_nil r2
 obtain rfl:args=#[v0,v1,v2]:=by cases args;simp_all
 obtain ⟨rfl,rfl⟩:=trodVars_none hV
 have lt0:∀x∈p0,x.block < W.heap.size:=by obtain ⟨m,hm⟩:=h0;exact DataW.trod_lt m _ _ _ hm
 have lt1:∀x∈p1,x.block < W.heap.size:=by obtain ⟨m,hm⟩:=h1;exact DataW.trod_lt m _ _ _ hm
 have lt2:∀x∈p2,x.block < W.heap.size:=by obtain ⟨m,hm⟩:=h2;exact DataW.trod_lt m _ _ _ hm
 obtain ⟨l0,k0⟩:=qc (Ct hL hS) (hval 0 22 v0 rfl rfl) h0
 obtain ⟨l1,k1⟩:=qc (Ct hL hS) (hval 1 22 v1 rfl rfl) h1
 obtain ⟨n2,rfl,_,_,w2⟩:=open_int Tryz.underlying3 (hval 2 3 v2 rfl rfl) h2
 clear hA0
 refine (zi (zg l0 l1 n2) W (Ct hL hS) [v0,v1,.int .i64 n2] (d7.cons (k0) (d7.cons (k1) (d7.cons (.sc _) d7.nil)))).mono fun e W' ⟨v,he,bel,hv⟩=>?_
 subst he
 subst hv
 exact ⟨_,rfl,_,_,_,[],_,[],hW',trodAll_mk1 (shut_bool Tryz.underlying4 _),(trodAll_cons_mk (Below.trod Tryz.laidOut (by kernel_rfl) (Iy (by kernel_rfl)) h0 bel lt0) (trodAll_cons_mk (Below.trod Tryz.laidOut (by kernel_rfl) (Iy (by kernel_rfl)) h1 bel lt1) (trodAll_cons_mk (Below.trod Tryz.laidOut (by kernel_rfl) (Iy (by kernel_rfl)) h2 bel lt2) trodAll_mk0))),rfl,bel.frame _,fun h=>by cases h⟩
set_option maxRecDepth 100000 in
theorem oG (os:Os) (started:os.Started) (H:Type) (enc:TypeId×Value→H) (F:Stop.Interp):
  ReturnsInHanded {} Tryz.checked os 7 .any ((OpenSpec.ofChange Rows.substituteStaysSpec).preRow enc Tryz.prog Tryz.f7 Rows.substituteStaysRow.domain false Rows.substituteStaysRow.laid) (((OpenSpec.ofChange Rows.substituteStaysSpec).at F).post enc Tryz.prog Tryz.f7 false true false false):=by
 obtain ⟨places,hx⟩:=qA os enc
 refine returnsInHanded_of_row (C:=Tryz.checked) (s:=OpenSpec.ofChange Rows.substituteStaysSpec) Tryz.own started (by kernel_rfl) Tryz.func7
  (witness_row_at (enc:=enc) (C:=Tryz.checked) false (iB os) #[.slice none 0 0,.slice none 0 0,.int .i64 0] rfl (by kernel_rfl) (by kernel_rfl) (by kernel_rfl)
   (OpenSpec.preRow_of_cond 8 hx (by kernel_rfl) (fun k hk=>by cases hk) (by kernel_rfl) (t3 os))) ?_
 intro W base args ds gs before hval hW _ _ _ hL hS _
 exact mN H enc W base args ds gs before hval hW hL hS
theorem qW:Tryz.f7.isWrapper Tryz.prog Rows.substituteStaysRow.wrapper Rows.substituteStaysRow.mainSum:=by
 unfold Func.isWrapper
 first | (rw [if_pos (by decide+kernel)];kernel_rfl) | (rw [if_neg (by decide+kernel)];exact ⟨rfl,rfl⟩)
theorem uI:(Rows.substituteStaysRow.inPlace==Tryz.prog.inPlace 7)=true:=by kernel_rfl
theorem ow:(Rows.substituteStaysRow.unfollowed==Tryz.prog.unfollowed 7)=true:=by kernel_rfl
theorem uJ:(Rows.substituteStaysRow.recurses==Tryz.prog.recurses 7)=true:=by
 have h:true=Tryz.prog.unfollowed 7:=eq_of_beq ow
 unfold Program.recurses
 rw [←h]
 rfl
theorem uK:(Rows.substituteStaysRow.named==Tryz.prog.varsNamed 7)=true:=by kernel_rfl
theorem qz:joinedFacts Tryz.prog 7 Tryz.f7 Rows.substituteStaysSpec Rows.substituteStaysRow=true:=by
 unfold joinedFacts
 rw [uI,ow,uJ,uK]
 kernel_rfl
set_option maxRecDepth 100000 in
theorem subStays_holds:Rows.SubstituteStaysSaid:=
 OpenClaim.holds_of_cond 7 Tryz.f7 rfl rfl rfl rfl rfl rfl rfl ⟨rfl,rfl,rfl,rfl,rfl⟩ rfl rfl rfl rfl rfl (by kernel_rfl) Tryz.func7 qz
  (Iy (by kernel_rfl)) qW
  (fun os started H enc _ F=>by rw [OpenClaim.pre_eq_preRow];exact oG os started H enc F)
#print axioms subStays_holds
end Go.Proofs.YtpmdfoaadejmkaaGreatDoor
