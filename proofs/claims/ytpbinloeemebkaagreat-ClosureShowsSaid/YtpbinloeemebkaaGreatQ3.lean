/-
  'fleuronlaw23.ClosureShows' returns true, whatever rows of numbers come in, and leaves them as they were. No conditions.
-/
import Derived.Test.YtpbinloeemebkaaGreatM06
import Derived.Test.YtpbinloeemebkaaGreatM33
namespace Go.Proofs.YtpbinloeemebkaaGreat
open Go.ChangeShapes Go.WideShapes Go.ChangeAt Go.RowKit Go.Deep Go.Joins
set_option maxRecDepth 100000 in
theorem sO (os:Os) (started:os.Started) (H:Type) (enc:TypeId×Value→H):
    ReturnsInHanded {} Tryz.checked os 9 .any (Rows.closureShowsSpec.pre6 enc Tryz.prog Tryz.f9 Rows.closureShowsRow.domain false) (Rows.closureShowsSpec.post enc Tryz.prog Tryz.f9 false true false false):=by
  refine returnsInHanded_of_change_sized (C:=Tryz.checked) Tryz.own started (by kernel_rfl) Tryz.func9
    (ChangeSpec.witness6 (enc:=enc) (C:=Tryz.checked) false ⟨#[],#[.slice none 0 0,.slice none 0 0,.slice none 0 0],[]⟩ 8 (by kernel_rfl) (by kernel_rfl) (by kernel_rfl) (by kernel_rfl)) ?_
  intro W base args ds gs before hval0 hW hcnd hwt _
  have hval:∀(j:Nat) t v,Tryz.f9.params[j]?=some t→args[j]?=some v→Value.okWide Tryz.prog W .any base t v:=hval0
  have hW':=hW
  obtain ⟨p,q,hA0,hV,rfl,hfz,hnd⟩:=hW
  have hA:DataW.TrodAll enc Tryz.prog W 0 (fun _=>true) true Tryz.f9.params.toList args.toList ds p:=hA0
  have hwt:(DataW.weightsEach Tryz.prog (Tryz.f9.params.toList++Rows.closureShowsSpec.plain.varTypes Tryz.prog) (ds++gs)).all (·≤reachBytes)=true:=hwt
  rw [Tryz.params9] at hA hval hwt
  obtain ⟨v0,vs0,d0,ds0,p0,q0,hargs,rfl,rfl,h0,r0⟩:=trodAll_cons hA
  obtain ⟨v1,vs1,d1,ds1,p1,q1,rfl,rfl,rfl,h1,r1⟩:=trodAll_cons r0
  obtain ⟨v2,vs2,d2,ds2,p2,q2,rfl,rfl,rfl,h2,r2⟩:=trodAll_cons r1
  obtain ⟨rfl,rfl,rfl⟩:=trodAll_nil r2
  obtain rfl:args=#[v0,v1,v2]:=by cases args;simp_all
  obtain ⟨rfl,rfl⟩:=trodVars_none hV
  have lt0:∀x∈p0,x.block < W.heap.size:=by obtain ⟨m,hm⟩:=h0;exact DataW.trod_lt m _ _ _ hm
  have lt1:∀x∈p1,x.block < W.heap.size:=by obtain ⟨m,hm⟩:=h1;exact DataW.trod_lt m _ _ _ hm
  have lt2:∀x∈p2,x.block < W.heap.size:=by obtain ⟨m,hm⟩:=h2;exact DataW.trod_lt m _ _ _ hm
  rw [List.all_eq_true] at hwt
  have w0:sU Tryz.prog 29 d0:=fun n hn=>Hy (hwt n (List.mem_append.2 (.inl hn)))
  have w1:sU Tryz.prog 29 d1:=fun n hn=>Hy (hwt n (List.mem_append.2 (.inr (List.mem_append.2 (.inl hn)))))
  have w2:sU Tryz.prog 29 d2:=fun n hn=>Hy (hwt n (List.mem_append.2 (.inr (List.mem_append.2 (.inr (List.mem_append.2 (.inl hn)))))))
  obtain ⟨l0,k0⟩:=mg (hval 0 29 v0 rfl rfl) h0 w0
  obtain ⟨l1,k1⟩:=mg (hval 1 29 v1 rfl rfl) h1 w1
  obtain ⟨l2,k2⟩:=mg (hval 2 29 v2 rfl rfl) h2 w2
  clear hA0 hval0
  refine (yc (zb l0 l1 l2) W [v0,v1,v2] (dv.cons k0 (dv.cons k1 (dv.cons k2 dv.nil)))).mono fun e W' ⟨v,he,bel,hv⟩=>?_
  subst he
  subst hv
  exact ⟨_,rfl,_,_,_,[],_,[],hW',trodAll_mk1 (shut_bool Tryz.underlying4 _),(trodAll_cons_mk (Below.trod Tryz.laidOut (by kernel_rfl) (Hy (by kernel_rfl)) h0 bel lt0) (trodAll_cons_mk (Below.trod Tryz.laidOut (by kernel_rfl) (Hy (by kernel_rfl)) h1 bel lt1) (trodAll_cons_mk (Below.trod Tryz.laidOut (by kernel_rfl) (Hy (by kernel_rfl)) h2 bel lt2) trodAll_mk0))),rfl,bel.frame _,fun h=>by cases h⟩
theorem BP:(Rows.closureShowsRow.inPlace==Tryz.prog.inPlace 9)=true:=by kernel_rfl
theorem uD:(Rows.closureShowsRow.unfollowed==Tryz.prog.unfollowed 9)=true:=by kernel_rfl
theorem BQ:(Rows.closureShowsRow.recurses==Tryz.prog.recurses 9)=true:=by
 have h:true=Tryz.prog.unfollowed 9:=eq_of_beq uD
 unfold Program.recurses
 rw [←h]
 rfl
theorem BR:(Rows.closureShowsRow.named==Tryz.prog.varsNamed 9)=true:=by kernel_rfl
theorem uC:joinedFacts Tryz.prog 9 Tryz.f9 Rows.closureShowsSpec Rows.closureShowsRow=true:=by
 unfold joinedFacts
 rw [BP,uD,BQ,BR]
 kernel_rfl
theorem wv:Tryz.prog.funcNamed Rows.closureShowsRow.func=some 9:=by kernel_rfl
theorem wu:Tryz.f9.isInstance Tryz.prog Rows.closureShowsRow.origin Rows.closureShowsRow.targs:=Hy (by kernel_rfl)
theorem ww:Tryz.f9.isWrapper Tryz.prog Rows.closureShowsRow.wrapper Rows.closureShowsRow.mainSum:=by
 unfold Func.isWrapper
 first | (rw [if_pos (by decide+kernel)];kernel_rfl) | (rw [if_neg (by decide+kernel)];exact ⟨rfl,rfl⟩)
theorem shows_holds:Rows.ClosureShowsSaid:=
 OpenClaim.holds_of_wide 9 Tryz.f9 rfl rfl rfl rfl rfl rfl rfl ⟨rfl,rfl,rfl,rfl,rfl⟩ rfl rfl rfl rfl rfl wv Tryz.func9 uC
  wu ww
  (fun os started H enc _=>sO os started H enc)
#print axioms shows_holds
end Go.Proofs.YtpbinloeemebkaaGreat
