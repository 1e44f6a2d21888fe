/-
  'fleuronlaw13.SubstituteRules' returns true, whatever rows come in, and leaves them as they were. The table of math/bits is as it was laid.
-/
import Derived.Test.YtpmdfoaadejmkaaGreatDoorM13
import Derived.Test.YtpmdfoaadejmkaaGreatDoorM37
import Derived.Test.YtpmdfoaadejmkaaGreatDoorM38
namespace Go.Proofs.YtpmdfoaadejmkaaGreatDoor
open Go.ChangeShapes Go.WideShapes Go.ChangeAt Go.RowKit
noncomputable def jj (os:Os):World:=
 { World.holding Tryz.prog os ⟨#[],#[],[]⟩ with heap:=(World.holding Tryz.prog os ⟨#[],#[],[]⟩).heap.modify 0 fun
   | .cells _ t frozen=> .cells (kY.map (Value.int .u8)).toArray t frozen
   | o=>o }
theorem uD (os:Os):laidMet Tryz.prog Rows.substituteRulesRow.laid ((jj os).forCall (fun _ _=>0) ⟨#[],#[.slice none 0 0,.slice none 0 0,.slice none 0 0],[]⟩).memory:=
 laidMet_of_run' 8 (by kernel_rfl) (by kernel_rfl)
theorem sd (os:Os) {H:Type} (enc:TypeId×Value→H):∃places,DataW.whole enc Tryz.prog ((jj os).forCall (fun _ _=>0) ⟨#[],#[.slice none 0 0,.slice none 0 0,.slice none 0 0],[]⟩).memory Tryz.f12.params.toList Rows.substituteRulesSpec.vars false #[.slice none 0 0,.slice none 0 0,.slice none 0 0].toList 8=some ([.nil,.nil,.nil],[],places):=
 ⟨[],by kernel_rfl⟩
set_option maxRecDepth 100000 in
theorem oe (H:Type) (enc:TypeId×Value→H) (W:World) (base:Nat) (args:Array Value) (ds gs:List (DataW H)) (before:List MemPlace)
  (hval:∀(j:Nat) t v,Tryz.f12.params[j]?=some t→args[j]?=some v→Value.okWide Tryz.prog W .any base t v)
  (hW:DataW.Whole enc Tryz.prog Tryz.f12.params.toList Rows.substituteRulesSpec.vars false W args.toList ds gs before) (hL:laidMetH Tryz.prog Rows.substituteRulesRow.laid W) (hS:W.ShapedOpen Tryz.prog):
  Calls Tryz.prog 12 args W fun e W'=>∃v,e= .returned v∧Rows.substituteRulesSpec.post enc Tryz.prog Tryz.f12 false true false false W args v W':=by
 have hW':=hW
 obtain ⟨p,q,hA0,hV,rfl,hfz,hnd⟩:=hW
 have hA:DataW.TrodAll enc Tryz.prog W 0 (fun _=>true) true Tryz.f12.params.toList args.toList ds p:=hA0
 rw [Tryz.params12] at hA hval
 obtain ⟨v0,vs0,d0,ds0,p0,q0,hargs,rfl,rfl,h0,r0⟩:=trodAll_cons hA
 obtain ⟨v1,vs1,d1,ds1,p1,q1,rfl,rfl,rfl,h1,r1⟩:=trodAll_cons r0
 obtain ⟨v2,vs2,d2,ds2,p2,q2,rfl,rfl,rfl,h2,r2⟩:=trodAll_cons r1
 obtain ⟨rfl,rfl,rfl⟩:=trodAll_nil r2
 obtain rfl:args=#[v0,v1,v2]:=by cases args;simp_all
 obtain ⟨rfl,rfl⟩:=trodVars_none hV
 have lt0:∀x∈p0,x.block < W.heap.size:=by obtain ⟨m,hm⟩:=h0;exact DataW.trod_lt m _ _ _ hm
 have lt1:∀x∈p1,x.block < W.heap.size:=by obtain ⟨m,hm⟩:=h1;exact DataW.trod_lt m _ _ _ hm
 have lt2:∀x∈p2,x.block < W.heap.size:=by obtain ⟨m,hm⟩:=h2;exact DataW.trod_lt m _ _ _ hm
 obtain ⟨l0,k0⟩:=n7 (zm hL hS) (hval 0 22 v0 rfl rfl) h0
 obtain ⟨l1,k1⟩:=n7 (zm hL hS) (hval 1 22 v1 rfl rfl) h1
 obtain ⟨l2,k2⟩:=n7 (zm hL hS) (hval 2 22 v2 rfl rfl) h2
 clear hA0
 refine (Bq (Be l0 l1 l2) W (zm hL hS) [v0,v1,v2] (dB.cons (k0) (dB.cons (k1) (dB.cons (k2) dB.nil)))).mono fun e W' ⟨v,he,bel,hv⟩=>?_
 subst he
 subst hv
 exact ⟨_,rfl,_,_,_,[],_,[],hW',trodAll_mk1 (shut_bool Tryz.underlying4 _),(trodAll_cons_mk (Below.trod Tryz.laidOut (by kernel_rfl) (Ky (by kernel_rfl)) h0 bel lt0) (trodAll_cons_mk (Below.trod Tryz.laidOut (by kernel_rfl) (Ky (by kernel_rfl)) h1 bel lt1) (trodAll_cons_mk (Below.trod Tryz.laidOut (by kernel_rfl) (Ky (by kernel_rfl)) h2 bel lt2) trodAll_mk0))),rfl,bel.frame _,fun h=>by cases h⟩
set_option maxRecDepth 100000 in
theorem pX (os:Os) (started:os.Started) (H:Type) (enc:TypeId×Value→H) (F:Stop.Interp):
  ReturnsInHanded {} Tryz.checked os 12 .any ((OpenSpec.ofChange Rows.substituteRulesSpec).preRow enc Tryz.prog Tryz.f12 Rows.substituteRulesRow.domain false Rows.substituteRulesRow.laid) (((OpenSpec.ofChange Rows.substituteRulesSpec).at F).post enc Tryz.prog Tryz.f12 false true false false):=by
 obtain ⟨places,hx⟩:=sd os enc
 refine returnsInHanded_of_row (C:=Tryz.checked) (s:=OpenSpec.ofChange Rows.substituteRulesSpec) Tryz.own started (by kernel_rfl) Tryz.func12
  (witness_row_at (enc:=enc) (C:=Tryz.checked) false (jj os) #[.slice none 0 0,.slice none 0 0,.slice none 0 0] rfl (by kernel_rfl) (by kernel_rfl) (by kernel_rfl)
   (OpenSpec.preRow_of_cond 8 hx (by kernel_rfl) (fun k hk=>by cases hk) (by kernel_rfl) (uD os))) ?_
 intro W base args ds gs before hval hW _ _ _ hL hS _
 exact oe H enc W base args ds gs before hval hW hL hS
theorem sG:Tryz.f12.isWrapper Tryz.prog Rows.substituteRulesRow.wrapper Rows.substituteRulesRow.mainSum:=by
 unfold Func.isWrapper
 first | (rw [if_pos (by decide+kernel)];kernel_rfl) | (rw [if_neg (by decide+kernel)];exact ⟨rfl,rfl⟩)
theorem wn:(Rows.substituteRulesRow.inPlace==Tryz.prog.inPlace 12)=true:=by kernel_rfl
theorem pM:(Rows.substituteRulesRow.unfollowed==Tryz.prog.unfollowed 12)=true:=by kernel_rfl
theorem wo:(Rows.substituteRulesRow.recurses==Tryz.prog.recurses 12)=true:=by
 have h:true=Tryz.prog.unfollowed 12:=eq_of_beq pM
 unfold Program.recurses
 rw [←h]
 rfl
theorem wp:(Rows.substituteRulesRow.named==Tryz.prog.varsNamed 12)=true:=by kernel_rfl
theorem sb:joinedFacts Tryz.prog 12 Tryz.f12 Rows.substituteRulesSpec Rows.substituteRulesRow=true:=by
 unfold joinedFacts
 rw [wn,pM,wo,wp]
 kernel_rfl
set_option maxRecDepth 100000 in
theorem subRules_holds:Rows.SubstituteRulesSaid:=
 OpenClaim.holds_of_cond 12 Tryz.f12 rfl rfl rfl rfl rfl rfl rfl ⟨rfl,rfl,rfl,rfl,rfl⟩ rfl rfl rfl rfl rfl (by kernel_rfl) Tryz.func12 sb
  (Ky (by kernel_rfl)) sG
  (fun os started H enc _ F=>by rw [OpenClaim.pre_eq_preRow];exact pX os started H enc F)
#print axioms subRules_holds
end Go.Proofs.YtpmdfoaadejmkaaGreatDoor
