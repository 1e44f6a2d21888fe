/-
  'fleuronlaw13.SubstituteLonger' returns true, whatever rows and number come in, and leaves them as they were. The table of math/bits is as it was laid.
-/
import Derived.Test.YtpmdfoaadejmkaaGreatDoorM13
import Derived.Test.YtpmdfoaadejmkaaGreatDoorM32
namespace Go.Proofs.YtpmdfoaadejmkaaGreatDoor
open Go.ChangeShapes Go.WideShapes Go.ChangeAt Go.RowKit
noncomputable def gO (os:Os):World:=
 { World.holding Tryz.prog os ⟨#[],#[],[]⟩ with heap:=(World.holding Tryz.prog os ⟨#[],#[],[]⟩).heap.modify 0 fun
   | .cells _ t frozen=> .cells (jO.map (Value.int .u8)).toArray t frozen
   | o=>o }
theorem qM (os:Os):laidMet Tryz.prog Rows.substituteLongerRow.laid ((gO os).forCall (fun _ _=>0) ⟨#[],#[.slice none 0 0,.slice none 0 0,.int .u8 0],[]⟩).memory:=
 laidMet_of_run' 8 (by kernel_rfl) (by kernel_rfl)
theorem oD (os:Os) {H:Type} (enc:TypeId×Value→H):∃places,DataW.whole enc Tryz.prog ((gO os).forCall (fun _ _=>0) ⟨#[],#[.slice none 0 0,.slice none 0 0,.int .u8 0],[]⟩).memory Tryz.f8.params.toList Rows.substituteLongerSpec.vars false #[.slice none 0 0,.slice none 0 0,.int .u8 0].toList 8=some ([.nil,.nil,.lit (.int .u8 0)],[],places):=
 ⟨[],by kernel_rfl⟩
set_option maxRecDepth 100000 in
theorem lR (H:Type) (enc:TypeId×Value→H) (W:World) (base:Nat) (args:Array Value) (ds gs:List (DataW H)) (before:List MemPlace)
  (hval:∀(j:Nat) t v,Tryz.f8.params[j]?=some t→args[j]?=some v→Value.okWide Tryz.prog W .any base t v)
  (hW:DataW.Whole enc Tryz.prog Tryz.f8.params.toList Rows.substituteLongerSpec.vars false W args.toList ds gs before) (hL:laidMetH Tryz.prog Rows.substituteLongerRow.laid W) (hS:W.ShapedOpen Tryz.prog):
  Calls Tryz.prog 8 args W fun e W'=>∃v,e= .returned v∧Rows.substituteLongerSpec.post enc Tryz.prog Tryz.f8 false true false false W args v W':=by
 have hW':=hW
 obtain ⟨p,q,hA0,hV,rfl,hfz,hnd⟩:=hW
 have hA:DataW.TrodAll enc Tryz.prog W 0 (fun _=>true) true Tryz.f8.params.toList args.toList ds p:=hA0
 rw [Tryz.params8] at hA hval
 obtain ⟨v0,vs0,d0,ds0,p0,q0,hargs,rfl,rfl,h0,r0⟩:=trodAll_cons hA
 obtain ⟨v1,vs1,d1,ds1,p1,q1,rfl,rfl,rfl,h1,r1⟩:=trodAll_cons r0
 obtain ⟨v2,vs2,d2,ds2,p2,q2,rfl,rfl,rfl,h2,r2⟩:=trodAll_cons r1
 obtain ⟨rfl,rfl,rfl⟩:=trodAll_nil r2
 obtain rfl:args=#[v0,v1,v2]:=by cases args;simp_all
 obtain ⟨rfl,rfl⟩:=trodVars_none hV
 have lt0:∀x∈p0,x.block < W.heap.size:=by obtain ⟨m,hm⟩:=h0;exact DataW.trod_lt m _ _ _ hm
 have lt1:∀x∈p1,x.block < W.heap.size:=by obtain ⟨m,hm⟩:=h1;exact DataW.trod_lt m _ _ _ hm
 have lt2:∀x∈p2,x.block < W.heap.size:=by obtain ⟨m,hm⟩:=h2;exact DataW.trod_lt m _ _ _ hm
 obtain ⟨l0,k0⟩:=pX (C4 hL hS) (hval 0 22 v0 rfl rfl) h0
 obtain ⟨l1,k1⟩:=pX (C4 hL hS) (hval 1 22 v1 rfl rfl) h1
 obtain ⟨n2,rfl,_,_,w2⟩:=open_int Tryz.underlying5 (hval 2 5 v2 rfl rfl) h2
 have w2:0≤n2∧n2≤255:=GR w2
 clear hA0
 refine (yW (vI l0 l1 n2 w2.1 w2.2) W (C4 hL hS) [v0,v1,.int .u8 n2] (d6.cons (k0) (d6.cons (k1) (d6.cons (.sc _) d6.nil)))).mono fun e W' ⟨v,he,bel,hv⟩=>?_
 subst he
 subst hv
 exact ⟨_,rfl,_,_,_,[],_,[],hW',trodAll_mk1 (shut_bool Tryz.underlying4 _),(trodAll_cons_mk (Below.trod Tryz.laidOut (by kernel_rfl) (Iy (by kernel_rfl)) h0 bel lt0) (trodAll_cons_mk (Below.trod Tryz.laidOut (by kernel_rfl) (Iy (by kernel_rfl)) h1 bel lt1) (trodAll_cons_mk (Below.trod Tryz.laidOut (by kernel_rfl) (Iy (by kernel_rfl)) h2 bel lt2) trodAll_mk0))),rfl,bel.frame _,fun h=>by cases h⟩
set_option maxRecDepth 100000 in
theorem nH (os:Os) (started:os.Started) (H:Type) (enc:TypeId×Value→H) (F:Stop.Interp):
  ReturnsInHanded {} Tryz.checked os 8 .any ((OpenSpec.ofChange Rows.substituteLongerSpec).preRow enc Tryz.prog Tryz.f8 Rows.substituteLongerRow.domain false Rows.substituteLongerRow.laid) (((OpenSpec.ofChange Rows.substituteLongerSpec).at F).post enc Tryz.prog Tryz.f8 false true false false):=by
 obtain ⟨places,hx⟩:=oD os enc
 refine returnsInHanded_of_row (C:=Tryz.checked) (s:=OpenSpec.ofChange Rows.substituteLongerSpec) Tryz.own started (by kernel_rfl) Tryz.func8
  (witness_row_at (enc:=enc) (C:=Tryz.checked) false (gO os) #[.slice none 0 0,.slice none 0 0,.int .u8 0] rfl (by kernel_rfl) (by kernel_rfl) (by kernel_rfl)
   (OpenSpec.preRow_of_cond 8 hx (by kernel_rfl) (fun k hk=>by cases hk) (by kernel_rfl) (qM os))) ?_
 intro W base args ds gs before hval hW _ _ _ hL hS _
 exact lR H enc W base args ds gs before hval hW hL hS
theorem qm:Tryz.f8.isWrapper Tryz.prog Rows.substituteLongerRow.wrapper Rows.substituteLongerRow.mainSum:=by
 unfold Func.isWrapper
 first | (rw [if_pos (by decide+kernel)];kernel_rfl) | (rw [if_neg (by decide+kernel)];exact ⟨rfl,rfl⟩)
theorem sR:(Rows.substituteLongerRow.inPlace==Tryz.prog.inPlace 8)=true:=by kernel_rfl
theorem mK:(Rows.substituteLongerRow.unfollowed==Tryz.prog.unfollowed 8)=true:=by kernel_rfl
theorem sS:(Rows.substituteLongerRow.recurses==Tryz.prog.recurses 8)=true:=by
 have h:true=Tryz.prog.unfollowed 8:=eq_of_beq mK
 unfold Program.recurses
 rw [←h]
 rfl
theorem sT:(Rows.substituteLongerRow.named==Tryz.prog.varsNamed 8)=true:=by kernel_rfl
theorem oC:joinedFacts Tryz.prog 8 Tryz.f8 Rows.substituteLongerSpec Rows.substituteLongerRow=true:=by
 unfold joinedFacts
 rw [sR,mK,sS,sT]
 kernel_rfl
set_option maxRecDepth 100000 in
theorem subLonger_holds:Rows.SubstituteLongerSaid:=
 OpenClaim.holds_of_cond 8 Tryz.f8 rfl rfl rfl rfl rfl rfl rfl ⟨rfl,rfl,rfl,rfl,rfl⟩ rfl rfl rfl rfl rfl (by kernel_rfl) Tryz.func8 oC
  (Iy (by kernel_rfl)) qm
  (fun os started H enc _ F=>by rw [OpenClaim.pre_eq_preRow];exact nH os started H enc F)
#print axioms subLonger_holds
end Go.Proofs.YtpmdfoaadejmkaaGreatDoor
