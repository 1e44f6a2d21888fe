/-
  'fleuronlaw24.SubsetOwn' returns true, whatever is asked for, and leaves it as it was. No conditions.
-/
import Derived.Test.YtjjpkibjffmceaaGreatM31
import Derived.Test.YtjjpkibjffmceaaGreatM36
namespace Go.Proofs.YtjjpkibjffmceaaGreat
open Go.ChangeShapes Go.WideShapes Go.ChangeAt Go.RowKit Go.Deep Go.Joins
set_option maxRecDepth 100000 in
theorem ro (os:Os) (started:os.Started) (H:Type) (enc:TypeId×Value→H):
    ReturnsInHanded {} Tryz.checked os 6 .any (Rows.subsetOwnSpec.pre6 enc Tryz.prog Tryz.f6 Rows.subsetOwnRow.domain false) (Rows.subsetOwnSpec.post enc Tryz.prog Tryz.f6 false true false false):=by
  refine returnsInHanded_of_change_sized (C:=Tryz.checked) Tryz.own started (by kernel_rfl) Tryz.func6
    (ChangeSpec.witness6 (enc:=enc) (C:=Tryz.checked) false ⟨#[],#[.agg #[.slice none 0 0,.int .u32 0,.int .u32 0,.slice none 0 0,.slice none 0 0,.int .u32 0]],[]⟩ 8 (by kernel_rfl) (by kernel_rfl) (by kernel_rfl) (by kernel_rfl)) ?_
  intro W base args ds gs before hval0 hW hcnd hwt _
  have hval:∀(j:Nat) t v,Tryz.f6.params[j]?=some t→args[j]?=some v→Value.okWide Tryz.prog W .any base t v:=hval0
  have hW':=hW
  obtain ⟨p,q,hA0,hV,rfl,hfz,hnd⟩:=hW
  have hA:DataW.TrodAll enc Tryz.prog W 0 (fun _=>true) true Tryz.f6.params.toList args.toList ds p:=hA0
  have hwt:(DataW.weightsEach Tryz.prog (Tryz.f6.params.toList++Rows.subsetOwnSpec.plain.varTypes Tryz.prog) (ds++gs)).all (·≤reachBytes)=true:=hwt
  rw [Tryz.params6] at hA hval hwt
  obtain ⟨v0,vs0,d0,ds0,p0,q0,hargs,rfl,rfl,h0,r0⟩:=trodAll_cons hA
  obtain ⟨rfl,rfl,rfl⟩:=trodAll_nil r0
  obtain rfl:args=#[v0]:=by cases args;simp_all
  obtain ⟨rfl,rfl⟩:=trodVars_none hV
  have lt0:∀x∈p0,x.block < W.heap.size:=by obtain ⟨m,hm⟩:=h0;exact DataW.trod_lt m _ _ _ hm
  rw [List.all_eq_true] at hwt
  have w0:zK Tryz.prog 25 d0:=fun n hn=>Iy (hwt n (List.mem_append.2 (.inl hn)))
  obtain ⟨l0,k0,u0,w0a⟩:=yQ (hval 0 25 v0 rfl rfl) h0 w0
  clear hA0 hval0
  refine (yf (wD l0) W [v0] (dx.cons k0 dx.nil)).mono fun e W' ⟨v,he,bel,hv⟩=>?_
  subst he
  subst hv
  exact ⟨_,rfl,_,_,_,[],_,[],hW',trodAll_mk1 (shut_bool Tryz.underlying4 _),(trodAll_cons_mk (Below.trod Tryz.laidOut (by kernel_rfl) (Iy (by kernel_rfl)) h0 bel lt0) trodAll_mk0),rfl,bel.frame _,fun h=>by cases h⟩
theorem zx:(Rows.subsetOwnRow.inPlace==Tryz.prog.inPlace 6)=true:=by kernel_rfl
theorem sl:(Rows.subsetOwnRow.unfollowed==Tryz.prog.unfollowed 6)=true:=by kernel_rfl
theorem zy:(Rows.subsetOwnRow.recurses==Tryz.prog.recurses 6)=true:=by
 have h:true=Tryz.prog.unfollowed 6:=eq_of_beq sl
 unfold Program.recurses
 rw [←h]
 rfl
theorem zA:(Rows.subsetOwnRow.named==Tryz.prog.varsNamed 6)=true:=by kernel_rfl
theorem tq:joinedFacts Tryz.prog 6 Tryz.f6 Rows.subsetOwnSpec Rows.subsetOwnRow=true:=by
 unfold joinedFacts
 rw [zx,sl,zy,zA]
 kernel_rfl
theorem vd:Tryz.prog.funcNamed Rows.subsetOwnRow.func=some 6:=by kernel_rfl
theorem vc:Tryz.f6.isInstance Tryz.prog Rows.subsetOwnRow.origin Rows.subsetOwnRow.targs:=Iy (by kernel_rfl)
theorem ve:Tryz.f6.isWrapper Tryz.prog Rows.subsetOwnRow.wrapper Rows.subsetOwnRow.mainSum:=by
 unfold Func.isWrapper
 first | (rw [if_pos (by decide+kernel)];kernel_rfl) | (rw [if_neg (by decide+kernel)];exact ⟨rfl,rfl⟩)
theorem subOwn_holds:Rows.SubsetOwnSaid:=
 OpenClaim.holds_of_wide 6 Tryz.f6 rfl rfl rfl rfl rfl rfl rfl ⟨rfl,rfl,rfl,rfl,rfl⟩ rfl rfl rfl rfl rfl vd Tryz.func6 tq
  vc ve
  (fun os started H enc _=>ro os started H enc)
#print axioms subOwn_holds
end Go.Proofs.YtjjpkibjffmceaaGreat
