/-
  'fleuronlaw24.SubsetCuts' returns true, whatever is asked for, and leaves it as it was. No conditions.
-/
import Derived.Test.YtjjpkibjffmceaaGreatM29
import Derived.Test.YtjjpkibjffmceaaGreatM37
namespace Go.Proofs.YtjjpkibjffmceaaGreat
open Go.ChangeShapes Go.WideShapes Go.ChangeAt Go.RowKit Go.Deep Go.Joins
set_option maxRecDepth 100000 in
theorem qN (os:Os) (started:os.Started) (H:Type) (enc:TypeId×Value→H):
    ReturnsInHanded {} Tryz.checked os 3 .any (Rows.subsetCutsSpec.pre6 enc Tryz.prog Tryz.f3 Rows.subsetCutsRow.domain false) (Rows.subsetCutsSpec.post enc Tryz.prog Tryz.f3 false true false false):=by
  refine returnsInHanded_of_change_sized (C:=Tryz.checked) Tryz.own started (by kernel_rfl) Tryz.func3
    (ChangeSpec.witness6 (enc:=enc) (C:=Tryz.checked) false ⟨#[],#[.agg #[.slice none 0 0,.int .u32 0,.int .u32 0,.slice none 0 0,.slice none 0 0,.int .u32 0],.agg #[.int .i64 0,.int .i64 0,.int .i64 0]],[]⟩ 8 (by kernel_rfl) (by kernel_rfl) (by kernel_rfl) (by kernel_rfl)) ?_
  intro W base args ds gs before hval0 hW hcnd hwt _
  have hval:∀(j:Nat) t v,Tryz.f3.params[j]?=some t→args[j]?=some v→Value.okWide Tryz.prog W .any base t v:=hval0
  have hW':=hW
  obtain ⟨p,q,hA0,hV,rfl,hfz,hnd⟩:=hW
  have hA:DataW.TrodAll enc Tryz.prog W 0 (fun _=>true) true Tryz.f3.params.toList args.toList ds p:=hA0
  have hwt:(DataW.weightsEach Tryz.prog (Tryz.f3.params.toList++Rows.subsetCutsSpec.plain.varTypes Tryz.prog) (ds++gs)).all (·≤reachBytes)=true:=hwt
  rw [Tryz.params3] at hA hval hwt
  obtain ⟨v0,vs0,d0,ds0,p0,q0,hargs,rfl,rfl,h0,r0⟩:=trodAll_cons hA
  obtain ⟨v1,vs1,d1,ds1,p1,q1,rfl,rfl,rfl,h1,r1⟩:=trodAll_cons r0
  obtain ⟨rfl,rfl,rfl⟩:=trodAll_nil r1
  obtain rfl:args=#[v0,v1]:=by cases args;simp_all
  obtain ⟨rfl,rfl⟩:=trodVars_none hV
  have lt0:∀x∈p0,x.block < W.heap.size:=by obtain ⟨m,hm⟩:=h0;exact DataW.trod_lt m _ _ _ hm
  have lt1:∀x∈p1,x.block < W.heap.size:=by obtain ⟨m,hm⟩:=h1;exact DataW.trod_lt m _ _ _ hm
  rw [List.all_eq_true] at hwt
  have w0:wU Tryz.prog 25 d0:=fun n hn=>Jy (hwt n (List.mem_append.2 (.inl hn)))
  have w1:wU Tryz.prog 26 d1:=fun n hn=>Jy (hwt n (List.mem_append.2 (.inr (List.mem_append.2 (.inl hn)))))
  obtain ⟨l0,k0,u0,w0a⟩:=zy (hval 0 25 v0 rfl rfl) h0 w0
  obtain ⟨a1,b1,c1,k1⟩:=wq (hval 1 26 v1 rfl rfl) h1
  clear hA0 hval0
  refine (yK (vb l0 a1 b1 c1) W [v0,v1] (dR.cons k0 (dR.cons k1 dR.nil))).mono fun e W' ⟨v,he,bel,hv⟩=>?_
  subst he
  subst hv
  exact ⟨_,rfl,_,_,_,[],_,[],hW',trodAll_mk1 (shut_bool Tryz.underlying4 _),(trodAll_cons_mk (Below.trod Tryz.laidOut (by kernel_rfl) (Jy (by kernel_rfl)) h0 bel lt0) (trodAll_cons_mk (Below.trod Tryz.laidOut (by kernel_rfl) (Jy (by kernel_rfl)) h1 bel lt1) trodAll_mk0)),rfl,bel.frame _,fun h=>by cases h⟩
theorem wJ:(Rows.subsetCutsRow.inPlace==Tryz.prog.inPlace 3)=true:=by kernel_rfl
theorem qM:(Rows.subsetCutsRow.unfollowed==Tryz.prog.unfollowed 3)=true:=by kernel_rfl
theorem wK:(Rows.subsetCutsRow.recurses==Tryz.prog.recurses 3)=true:=by
 have h:true=Tryz.prog.unfollowed 3:=eq_of_beq qM
 unfold Program.recurses
 rw [←h]
 rfl
theorem wL:(Rows.subsetCutsRow.named==Tryz.prog.varsNamed 3)=true:=by kernel_rfl
theorem r8:joinedFacts Tryz.prog 3 Tryz.f3 Rows.subsetCutsSpec Rows.subsetCutsRow=true:=by
 unfold joinedFacts
 rw [wJ,qM,wK,wL]
 kernel_rfl
theorem t8:Tryz.prog.funcNamed Rows.subsetCutsRow.func=some 3:=by kernel_rfl
theorem sZ:Tryz.f3.isInstance Tryz.prog Rows.subsetCutsRow.origin Rows.subsetCutsRow.targs:=Jy (by kernel_rfl)
theorem ta:Tryz.f3.isWrapper Tryz.prog Rows.subsetCutsRow.wrapper Rows.subsetCutsRow.mainSum:=by
 unfold Func.isWrapper
 first | (rw [if_pos (by decide+kernel)];kernel_rfl) | (rw [if_neg (by decide+kernel)];exact ⟨rfl,rfl⟩)
theorem subCuts_holds:Rows.SubsetCutsSaid:=
 OpenClaim.holds_of_wide 3 Tryz.f3 rfl rfl rfl rfl rfl rfl rfl ⟨rfl,rfl,rfl,rfl,rfl⟩ rfl rfl rfl rfl rfl t8 Tryz.func3 r8
  sZ ta
  (fun os started H enc _=>qN os started H enc)
#print axioms subCuts_holds
end Go.Proofs.YtjjpkibjffmceaaGreat
