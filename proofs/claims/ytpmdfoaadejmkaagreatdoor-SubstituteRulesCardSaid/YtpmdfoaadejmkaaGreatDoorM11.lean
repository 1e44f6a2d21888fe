/-
  The program: glyphs, as check looks at them, with anchors and deltas.
-/
import Derived.Test.YtpmdfoaadejmkaaGreatDoorM10
import Derived.Test.YtpmdfoaadejmkaaGreatDoorM07
namespace Go.Proofs.YtpmdfoaadejmkaaGreatDoor
open Go.RowKit
attribute [local irreducible] AT bJ AX AO Av Kt bi dq DA cG
theorem En:kx Tryz.prog 293:=⟨⟨_,_,Tryz.underlying293,⟨by decide,by decide⟩,⟨rfl,rfl⟩,Tryz.underlying3,Tryz.underlying3⟩,Tryz.stoodInHeld293⟩
theorem HX:kx Tryz.prog 296:=⟨⟨_,_,Tryz.underlying296,⟨by decide,by decide⟩,⟨rfl,rfl⟩,Tryz.underlying3,Tryz.underlying3⟩,Tryz.stoodInHeld296⟩
def oY (l:List dO) (a b:Int):Option AV:=if ∃x∈l,x.Kind=a∧x.Class=b then some (d6 true) else none
theorem Dq:oY []=fun _ _=>none:=by funext a b;simp [oY]
theorem AE (l:List dO) (a b:Int):(oY l a b).getD (d6 false)=d6 (decide (∃x∈l,x.Kind=a∧x.Class=b)):=by
 unfold oY
 by_cases h:∃x∈l,x.Kind=a∧x.Class=b
 ·rw [if_pos h,decide_eq_true h];rfl
 ·rw [if_neg h,decide_eq_false h];rfl
theorem AF {l:List dO} {i:Nat} {x:dO} (h:l[i]?=some x):oY (l.take (i+1)) x.Kind x.Class=some (d6 true):=by
 unfold oY
 rw [if_pos ⟨x,by rw [List.take_add_one,h];simp,rfl,rfl⟩]
theorem xL {l:List dO} {i:Nat} {x:dO} (h:l[i]?=some x) (p q:Int) (hne:¬(p=x.Kind∧q=x.Class)):oY (l.take (i+1)) p q=oY (l.take i) p q:=by
 unfold oY
 have:(∃y∈l.take (i+1),y.Kind=p∧y.Class=q)↔∃y∈l.take i,y.Kind=p∧y.Class=q:=by
  rw [List.take_add_one,h]
  simp only [Option.toList_some,List.mem_append,List.mem_singleton]
  constructor
  ·rintro ⟨y,hy | rfl,h1⟩
   ·exact ⟨y,hy,h1⟩
   ·exact absurd ⟨h1.1.symm,h1.2.symm⟩ hne
  ·rintro ⟨y,hy,h1⟩
   exact ⟨y,Or.inl hy,h1⟩
 by_cases hc:∃y∈l.take i,y.Kind=p∧y.Class=q
 ·rw [if_pos hc,if_pos (this.2 hc)]
 ·rw [if_neg hc,if_neg (fun h=>hc (this.1 h))]
set_option maxHeartbeats 1000000 in
theorem wJ (g:bD) (i:Nat) (a:dO) (ha:g.Anchors[i]?=some a) (m:Nat):AC Tryz.prog 205 [aF i,.agg (dt a),.iptr [d6 g.Mark],.iptr [.sc (.map (some m))]] [(m,iB (oY (g.Anchors.take i)))] fun c L'=>c=aF (mT g i a)∧(mT g i a=0→L'=[(m,iB (oY (g.Anchors.take (i+1))))]):=by
 refine aN Tryz.func205 rfl Tryz.ntmps205 rfl fun B=>?_
 repeat' (first|refine L3 ?_|refine KG a4 HY ?_|(apply aM;first|refine KL 7 a4 0 KF ?_|refine KL 7 a4 1 KF ?_|refine KL 7 a4 2 KF ?_|refine KH a4 0 KE ?_|refine KH a4 1 KE ?_|refine KH a4 2 KE ?_|refine KH a4 3 KE ?_|fail)|refine bA ?_|refine bq a4 fun _=>?_|fail)
 refine dG (t:=8) [2,3,5,7] (a.Kind=3∨a.Kind=4) rfl (fun Q' K=>?_) ?_
 ·repeat' (first|refine L3 ?_|refine KG a4 HY ?_|refine KR HY ?_|refine KV KB ?_|refine KW KA (fun _=>?_) (fun _=>?_))
  all_goals exact K _ _ rfl rfl (by clear K;grind)
 repeat' (first|refine L3 ?_|refine ak ?_|refine KG a4 HY ?_)
 refine dG (t:=22) [2,3,5,7,8] (a.Kind < 1∨a.Kind > 4) rfl (fun Q' K=>?_) ?_
 ·repeat' (first|refine L3 ?_|refine KG a4 HY ?_|refine KR HY ?_|refine KV KB ?_|refine KW KA (fun _=>?_) (fun _=>?_))
  all_goals exact K _ _ rfl rfl (by clear K;grind)
 repeat' (first|refine L3 ?_|fail)
 refine aw rfl (fun h1=>?_) (fun h1=>?_)
 ·have h0:=h1
  replace h1:=Ky h1
  rw [h0]
  repeat' (first|refine L3 ?_|refine KG a4 HY ?_|refine bH rfl ?_)
  refine KP HY ?_
  rw [show mT g i a=35 from if_pos (.inl h1)]
  exact ⟨rfl,fun e=>absurd e (by decide)⟩
 have h0:=h1
 replace h1:=Kx h1
 rw [h0]
 clear h0
 repeat' (first|refine L3 ?_|refine KG a4 HY ?_)
 refine dG (t:=22) [2,3,5,7,8] (a.Class < 0∨a.Class > 15) rfl (fun Q' K=>?_) ?_
 ·repeat' (first|refine L3 ?_|refine KG a4 HY ?_|refine KR HY ?_|refine KV KB ?_|refine KW KA (fun _=>?_) (fun _=>?_))
  all_goals exact K _ _ rfl rfl (by clear K;grind)
 repeat' (first|refine L3 ?_|fail)
 refine aw rfl (fun h2=>?_) (fun h2=>?_)
 ·have h0:=h2
  replace h2:=Ky h2
  rw [h0]
  repeat' (first|refine L3 ?_|refine KG a4 HY ?_|refine bH rfl ?_)
  refine KP HY ?_
  rw [show mT g i a=35 from if_pos (.inr (.inl h2))]
  exact ⟨rfl,fun e=>absurd e (by decide)⟩
 have h0:=h2
 replace h2:=Kx h2
 rw [h0]
 clear h0
 repeat' (first|refine L3 ?_|refine KG a4 HY ?_)
 refine dG (t:=22) [2,3,5,7] ((a.Kind=3∨a.Kind=4)∧a.Class≠0) rfl (fun Q' K=>?_) ?_
 ·generalize hj:decide (a.Kind=3∨a.Kind=4)=j
  have hj':(a.Kind=3∨a.Kind=4)↔j=true:=by rw [←hj,decide_eq_true_eq]
  repeat' (first|refine L3 ?_|refine KG a4 HY ?_|refine KR HY ?_|refine KV KB ?_|refine KW KA (fun _=>?_) (fun _=>?_))
  all_goals exact K _ _ (by first | rfl | (subst_vars;rfl)) rfl (by clear K;grind)
 repeat' (first|refine L3 ?_|fail)
 refine aw rfl (fun h3=>?_) (fun h3=>?_)
 ·have h0:=h3
  replace h3:=Ky h3
  rw [h0]
  repeat' (first|refine L3 ?_|refine KG a4 HY ?_|refine bH rfl ?_)
  refine KP HY ?_
  rw [show mT g i a=35 from if_pos (.inr (.inr (.inl h3)))]
  exact ⟨rfl,fun e=>absurd e (by decide)⟩
 have h0:=h3
 replace h3:=Kx h3
 rw [h0]
 clear h0
 repeat' (first|refine L3 ?_|refine KG a4 HY ?_|refine bW a4 ?_|(apply bF;refine bv ?_)|fail)
 refine aw rfl (fun h4=>?_) (fun h4=>?_)
 ·rw [h4]
  repeat' (first|refine L3 ?_|refine KG a4 HY ?_|refine bH rfl ?_)
  refine KP HY ?_
  rw [show mT g i a=35 from if_pos (.inr (.inr (.inr (.inl (by rw [←Bool.not_eq_true',h4])))))]
  exact ⟨rfl,fun e=>absurd e (by decide)⟩
 rw [h4]
 repeat' (first|refine L3 ?_|refine KG a4 HY ?_)
 refine dG (t:=22) [3,7] (a.Kind=2∧g.Mark=false) rfl (fun Q' K=>?_) ?_
 ·repeat' (first|refine L3 ?_|refine KG a4 HY ?_|refine KR HY ?_|refine KV KB ?_|refine KW KA (fun _=>?_) (fun _=>?_))
  all_goals exact K _ _ rfl rfl (by clear K;grind)
 repeat' (first|refine L3 ?_|fail)
 refine aw rfl (fun h5=>?_) (fun h5=>?_)
 ·have h0:=h5
  replace h5:=Ky h5
  rw [h0]
  repeat' (first|refine L3 ?_|refine KG a4 HY ?_|refine bH rfl ?_)
  refine KP HY ?_
  rw [show mT g i a=35 from if_pos (.inr (.inr (.inr (.inr (.inl h5)))))]
  exact ⟨rfl,fun e=>absurd e (by decide)⟩
 have h0:=h5
 replace h5:=Kx h5
 rw [h0]
 clear h0
 repeat' (first|refine L3 ?_|refine KG a4 HY ?_)
 refine xN 0 (.bool false) Tryz.underlying291 En rfl rfl rfl (by kernel_rfl) rfl ?_
 rw [AE]
 repeat' (first|refine L3 ?_|refine KG a4 HY ?_)
 refine aw rfl (fun h6=>?_) (fun h6=>?_)
 ·rw [h6]
  repeat' (first|refine L3 ?_|refine KG a4 HY ?_)
  refine KP HY ?_
  rw [show mT g i a=35 from if_pos (.inr (.inr (.inr (.inr (.inr (Ky h6))))))]
  exact ⟨rfl,fun e=>absurd e (by decide)⟩
 rw [h6]
 repeat' (first|refine L3 ?_|refine KG a4 HY ?_)
 refine uf 0 (oY (g.Anchors.take (i+1))) Tryz.underlying291 En rfl rfl rfl rfl (AF ha) (xL ha) ?_
 repeat' (first|refine L3 ?_|refine KG a4 HY ?_)
 refine KP HY ?_
 have h4':[a.X,a.Y].all gD=true:=by simpa using h4
 have h6':=Kx h6
 rw [show mT g i a=0 from if_neg (by
  rintro (h | h | h | h | h | h)
  ·exact h1 h
  ·exact h2 h
  ·exact h3 h
  ·rw [h4'] at h;cases h
  ·exact h5 h
  ·exact h6' h)]
 exact ⟨rfl,fun _=>rfl⟩
def s7 (a b c d:Int):Bool:=decide (a < c∨(a=c∧b < d))
theorem wU (a b c d:Int):bU Tryz.prog 209 [.agg [aF a,aF b],.agg [aF c,aF d]] (d6 (s7 a b c d)):=by
 refine aN Tryz.func209 rfl Tryz.ntmps209 rfl fun B=>?_
 repeat' (first|refine L3 ?_|refine KG a4 HY ?_|refine bA ?_|fail)
 refine dG (t:=4) [] (s7 a b c d=true) rfl (fun Q' K=>?_) ?_
 ·repeat' (first|refine L3 ?_|refine KG a4 HY ?_|refine KR HY ?_|refine KV KB ?_|refine dg rfl rfl rfl ?_|refine KW KA (fun _=>?_) (fun _=>?_))
  all_goals exact K _ _ rfl rfl (by clear K;unfold s7;grind)
 repeat' (first|refine L3 ?_|fail)
 refine KP HY ?_
 simp
def ge (l:List dW) (i:Nat):Int×Int:=match i with | 0=>(0,0) | j+1=>match l[j]? with | some b=>(b.Region,b.Point) | none=>(0,0)
def ri (g:bD) (i:Nat) (d:dW):Bool:=decide (0 < i∧((d.Region=(ge g.Deltas i).1∧d.Point=(ge g.Deltas i).2)∨s7 d.Region d.Point (ge g.Deltas i).1 (ge g.Deltas i).2=true))
theorem FB {g:bD} {i:Nat} {d:dW} (hd:g.Deltas[i]?=some d):(match i with | 0=>false | j+1=>match g.Deltas[j]? with | some b=>decide (d.Region < b.Region∨(d.Region=b.Region∧d.Point≤b.Point)) | none=>false)=ri g i d:=by
 unfold ri
 cases i with
 | zero=>simp
 | succ j=>
  have hj:j < g.Deltas.length:=by have:=(Ko hd).1;omega
  obtain ⟨b,hb⟩:∃b,g.Deltas[j]?=some b:=⟨_,Kz hj⟩
  simp only [hb,ge,s7]
  rw [Bool.eq_iff_iff,decide_eq_true_eq,decide_eq_true_eq,decide_eq_true_eq]
  omega
theorem F2 {f:aZ} {g:bD} {i:Nat} {d:dW} (hd:g.Deltas[i]?=some d):sw f g i d=if d.Region < 0∨d.Region≥f.Regions.length then 61 else if (d.Point < -1∨d.Point≥g.Points.length)∨[d.X,d.Y].all gD=false∨(d.Point= -1∧d.Y≠0) then 30 else if ri g i d=true then 24 else 0:=by
 unfold sw
 rw [←FB hd]
 cases i <;> rfl
set_option maxHeartbeats 1000000 in
theorem A8 (f:aZ) (g:bD) (i:Nat) (d:dW) (hd:g.Deltas[i]?=some d) (R N:Int) (hR:R=f.Regions.length) (hN:N=g.Points.length) (b:Nat):AC Tryz.prog 208 [aF i,.agg (ev d),.iptr [aF R],.iptr [aF N],.sc (.pointer (some ⟨b,0,none⟩))] [(b,.box [aF (ge g.Deltas i).1,aF (ge g.Deltas i).2] 296)] fun c L'=>c=aF (sw f g i d)∧(sw f g i d=0→L'=[(b,.box [aF (ge g.Deltas (i+1)).1,aF (ge g.Deltas (i+1)).2] 296)]):=by
 refine aN Tryz.func208 rfl Tryz.ntmps208 rfl fun B=>?_
 rw [F2 hd,←hR,←hN]
 have hnext:ge g.Deltas (i+1)=(d.Region,d.Point):=by simp only [ge,hd]
 rw [hnext]
 repeat' (first|refine L3 ?_|refine ak ?_|refine KG a4 HY ?_|(apply aM;first|refine KL 8 a4 0 KF ?_|refine KL 8 a4 1 KF ?_|refine KL 8 a4 2 KF ?_|refine KH a4 0 KE ?_|refine KH a4 1 KE ?_|refine KH a4 2 KE ?_|refine KH a4 3 KE ?_|fail)|refine bA ?_|refine bq a4 fun _=>?_|fail)
 refine ce [0,3,4,6,8] (d.Region < 0∨d.Region≥R) rfl (fun Q' K=>?_) (fun h1=>?_) (fun h1=>?_)
 ·repeat' (first|refine L3 ?_|refine KG a4 HY ?_|refine KR HY ?_|refine KV KB ?_|refine KW KA (fun _=>?_) (fun _=>?_))
  all_goals exact K _ _ rfl rfl (by clear K;grind)
 ·rw [if_pos h1]
  repeat' (first|refine L3 ?_|refine KG a4 HY ?_)
  exact KP HY ⟨rfl,fun e=>absurd e (by decide)⟩
 rw [if_neg h1]
 repeat' (first|refine L3 ?_|refine KG a4 HY ?_)
 refine dG (t:=24) [0,4,6,8] (d.Point < -1∨d.Point≥N) rfl (fun Q' K=>?_) ?_
 ·repeat' (first|refine L3 ?_|refine KG a4 HY ?_|refine KR HY ?_|refine KV KB ?_|refine KW KA (fun _=>?_) (fun _=>?_))
  all_goals exact K _ _ rfl rfl (by clear K;grind)
 repeat' (first|refine L3 ?_|fail)
 refine aw rfl (fun h2=>?_) (fun h2=>?_)
 ·have h0:=h2
  replace h2:=Ky h2
  rw [h0]
  rw [if_pos (.inl h2)]
  repeat' (first|refine L3 ?_|refine KG a4 HY ?_|refine bH rfl ?_)
  exact KP HY ⟨rfl,fun e=>absurd e (by decide)⟩
 have h0:=h2
 replace h2:=Kx h2
 rw [h0]
 clear h0
 repeat' (first|refine L3 ?_|refine KG a4 HY ?_|refine bW a4 ?_|(apply bF;refine bv ?_)|fail)
 refine aw rfl (fun h3=>?_) (fun h3=>?_)
 ·rw [if_pos (.inr (.inl (by rw [←Bool.not_eq_true',h3]))),h3]
  repeat' (first|refine L3 ?_|refine KG a4 HY ?_|refine bH rfl ?_)
  exact KP HY ⟨rfl,fun e=>absurd e (by decide)⟩
 rw [h3]
 repeat' (first|refine L3 ?_|refine KG a4 HY ?_)
 refine dG (t:=24) [0,4,8] (d.Point= -1∧d.Y≠0) rfl (fun Q' K=>?_) ?_
 ·repeat' (first|refine L3 ?_|refine KG a4 HY ?_|refine KR HY ?_|refine KV KB ?_|refine KW KA (fun _=>?_) (fun _=>?_))
  all_goals exact K _ _ rfl rfl (by clear K;grind)
 repeat' (first|refine L3 ?_|fail)
 refine aw rfl (fun h4=>?_) (fun h4=>?_)
 ·have h0:=h4
  replace h4:=Ky h4
  rw [h0]
  rw [if_pos (.inr (.inr h4))]
  repeat' (first|refine L3 ?_|refine KG a4 HY ?_)
  exact KP HY ⟨rfl,fun e=>absurd e (by decide)⟩
 have h0:=h4
 replace h4:=Kx h4
 rw [h0]
 clear h0
 have h3':[d.X,d.Y].all gD=true:=by simpa using h3
 rw [if_neg (by
  rintro (h | h | h)
  ·exact h2 h
  ·rw [h3'] at h;cases h
  ·exact h4 h)]
 repeat' (first|refine L3 ?_|refine KG a4 HY ?_)
 refine ce [4,8] (ri g i d=true) rfl (fun Q' K=>?_) (fun h5=>?_) (fun h5=>?_)
 ·repeat' (first|refine L3 ?_|refine KG a4 HY ?_|refine KR HY ?_|refine KV KB ?_|refine dg rfl rfl rfl ?_|(apply bo;first|refine KM a4 0 KC ?_|refine KM a4 1 KC ?_|refine KM a4 2 KC ?_|refine KM a4 3 KC ?_|refine KN a4 0 KC ?_|refine KN a4 1 KC ?_|refine KN a4 2 KC ?_|refine KO a4 1 KA (by assumption) rfl ?_|refine KO a4 0 KA (by assumption) rfl ?_|fail)|refine KW KA (fun _=>?_) (fun _=>?_))
  all_goals first
   | exact K _ _ rfl rfl (by clear K;unfold ri;grind)
   | (refine HE HX Tryz.eqGuardType296 rfl rfl rfl ?_)
  repeat' (first|refine L3 ?_|refine KG a4 HY ?_|refine KR HY ?_|refine KV KB ?_|(apply bo;first|refine KM a4 0 KC ?_|refine KM a4 1 KC ?_|refine KM a4 2 KC ?_|refine KM a4 3 KC ?_|refine KN a4 0 KC ?_|refine KN a4 1 KC ?_|refine KN a4 2 KC ?_|refine KO a4 1 KA (by assumption) rfl ?_|refine KO a4 0 KA (by assumption) rfl ?_|fail)|refine KW KA (fun _=>?_) (fun _=>?_))
  all_goals first
   | exact K _ _ rfl rfl (by clear K;unfold ri;grind)
   | (refine bv (hc:=⟨wU d.Region d.Point (ge g.Deltas i).1 (ge g.Deltas i).2⟩) ?_)
  repeat' (first|refine L3 ?_|refine KG a4 HY ?_|refine KR HY ?_)
  all_goals exact K _ _ rfl rfl (by clear K;unfold ri;grind)
 ·rw [if_pos h5]
  repeat' (first|refine L3 ?_|refine KG a4 HY ?_)
  exact KP HY ⟨rfl,fun e=>absurd e (by decide)⟩
 rw [if_neg h5]
 repeat' (first|refine L3 ?_|refine KG a4 HY ?_|(apply aM;first|refine KL 8 a4 0 KF ?_|refine KL 8 a4 1 KF ?_|refine KL 8 a4 2 KF ?_|refine KH a4 0 KE ?_|refine KH a4 1 KE ?_|refine KH a4 2 KE ?_|refine KH a4 3 KE ?_|fail))
 refine KP HY ⟨rfl,fun e=>?_⟩
 rfl
set_option maxHeartbeats 2000000 in
theorem Am (f:aZ) (g:bD) (name:Int):bU Tryz.prog 52 [df f,.agg (bT g),aF name] (aF (oT f g name)):=by
 refine aN Tryz.func52 rfl Tryz.ntmps52 rfl fun B=>?_
 repeat' (first|refine L3 ?_|refine KG a4 HY ?_|refine bA ?_|fail)
 refine bn 30 [(0,.v),(1,.v),(2,.v),(3,.v),(4,.v),(5,.v),(6,.v),(7,.v),(8,.v),(9,.v),(12,.v),(13,.v),(14,.v),(15,.v),(16,.v),(17,.v),(18,.v),(19,.v),(20,.v),(23,.v),(10,.e),(11,.v),(21,.e),(22,.v),(24,.v),(25,.e),(26,.v),(27,.v),(28,.v),(29,.v)] none ?_ trivial rfl (by kernel_rfl) (by kernel_rfl) (by kernel_rfl) bI (by kernel_rfl) rfl
 repeat' (first|refine aB ?_|refine aX a4 ?_|(apply dh;refine dK ?_)|fail)
 refine fG [] [] (wK g.Mark) rfl rfl (Lz _) trivial fun c L1 ⟨m,hc,hL⟩=>?_
 subst hc;subst hL
 repeat' (first|refine aB ?_|(apply dh;refine dK ?_)|fail)
 refine fG [] _ (A9 (f.Regions.map bZ).length (g.Points.map dR).length) rfl rfl (Lz _) trivial fun c L1 ⟨b,hc,hL⟩=>?_
 subst hc;subst hL
 repeat' (first|refine aB ?_|(apply dh;refine dK ?_)|refine eD a4 ?_|fail)
 refine fG (L:=[(b,.box [aF 0,aF 0] 296),(m,iB fun _ _=>none)]) _ [] (jY [⟨114,[.iptr [aF name]],[],name,0⟩,⟨115,[.iptr (bT g)],[],jh g,0⟩,⟨201,[.iptr [.imm 3 (g.Parts.map eR)],.iptr [aF 8],.iptr [.fn 118 [.iptr (cJ f)]]],[],(cC 8 g.Parts (mK f)).1,(cC 8 g.Parts (mK f)).2⟩,⟨203,[.iptr [.imm 4 (g.Anchors.map dt)],.iptr [aF 16],.iptr [.fn 205 [.iptr [d6 g.Mark],.iptr [.sc (.map (some m))]]]],[(m,iB fun _ _=>none)],(cC 16 g.Anchors (mT g)).1,(cC 16 g.Anchors (mT g)).2⟩,⟨206,[.iptr [.imm 4 (g.Deltas.map ev)],.iptr [aF 400],.iptr [.fn 208 [.iptr [aF (f.Regions.map bZ).length],.iptr [aF (g.Points.map dR).length],.sc (.pointer (some ⟨b,0,none⟩))]]],[(b,.box [aF 0,aF 0] 296)],(cC 400 g.Deltas (sw f g)).1,(cC 400 g.Deltas (sw f g)).2⟩,⟨124,[.iptr (bT g)],[],o4 g.Hint,0⟩] ?_) rfl rfl (List.Perm.swap ..) trivial fun c L1 hc=>?_
 ·refine ⟨⟨inferInstance,xo name⟩,fun _=>⟨⟨inferInstance,xp g⟩,fun _=>⟨⟨inferInstance,G5 rfl g.Parts 8 _ (fun _ _=>True) [] trivial (fun _=>dw fun i x _=>xq f i x)⟩,fun _=>⟨⟨inferInstance,G6 rfl g.Anchors 16 (gh g.Anchors (mT g)) (fun i L=>L=[(m,iB (oY (g.Anchors.take i)))]) _ (by rw [List.take_zero,Dq]) ?_⟩,fun _=>⟨⟨inferInstance,G7 rfl g.Deltas 400 (gh g.Deltas (sw f g)) (fun i L=>L=[(b,.box [aF (ge g.Deltas i).1,aF (ge g.Deltas i).2] 296)]) _ rfl ?_⟩,fun _=>⟨⟨inferInstance,xr g⟩,fun _=>trivial⟩⟩⟩⟩⟩⟩
  ·intro _ i x L hx hL
   subst hL
   rw [iR hx]
   exact wJ g i x hx m
  ·intro _ i x L hx hL
   subst hL
   rw [iR hx]
   exact A8 f g i x hx _ _ (by rw [Ku]) (by rw [Ku]) b
 ·rw [kR] at hc
  subst hc
  unfold cD
  repeat' (first|refine aB ?_|refine aX a4 ?_|fail)
  refine KU [7,37] HY ?_
  repeat' (first|refine L3 ?_|refine a7 ?_|refine KG a4 HY ?_)
  exact KQ KA
instance (f:aZ) (g:bD) (name:Int):AD Tryz.prog 52 [df f,.agg (bT g),aF name] (aF (oT f g name)):=⟨Am f g name⟩
section
variable {P:Program} {l:List Oper} {fr:cf} {fin:iH} {sk:lp} {acc:cf} {L:AL} {k:Nat} {dd:Option Tmp} {ty t:TypeId} {pos:String} {af:Array Edge} {g:Option (Nat×Bool)} {x y:Operand}
theorem qT (i:Nat) (v0:Value) {b kt et:Nat} {kd:TypeDesc} {q:Value} {m:Value→Option AV} (ht:P.underlying t=some (.map kt et)) (hkt:P.underlying kt=some kd) (hx:br (cE l.toArray acc fr af.toList) x=some (.sc (.map (some b)))) (hy:br (cE l.toArray acc fr af.toList) y=some (.sc q)) (hk:MapKept.IsKey kd q) (hL:L[i]?=some (b,dc kd m)) (hz:ma P et v0=true) (hg:iO ⟨dd,.lookup t x y false,ty,pos,af,g⟩ acc) (h:DA P l fr fin sk ((k,(m q).getD (.sc v0))::acc) L):
  cG P l fr fin k .e ⟨dd,.lookup t x y false,ty,pos,af,g⟩ sk acc L:=
 iX hg (fun B=>me i ht hkt hx hy hk hL (gq hz) fun _=> .sc _) fun c L' ⟨h1,h2⟩=>by subst h1;subst h2;exact h
end
def vg (f:aZ) (c:gu) (late:Bool):Int:=if c.Rune < 0∨c.Rune > 1114111 then 1 else if lN f c.Glyph=false then 32 else eu late 24
theorem Cp (f:aZ) (c:gu) (late:Bool):bU Tryz.prog 59 [df f,.agg (eB c),d6 late] (aF (vg f c late)):=by
 refine aN Tryz.func59 rfl Tryz.ntmps59 rfl fun B=>?_
 unfold vg
 repeat' (first|refine L3 ?_|refine ak ?_|refine KG a4 HY ?_|refine bA ?_|fail)
 refine ce [2,3,4] (c.Rune < 0∨c.Rune > 1114111) rfl (fun Q' K=>?_) (fun hC=>?_) (fun hC=>?_)
 ·repeat' (first|refine L3 ?_|refine KG a4 HY ?_|refine KR HY ?_|refine KV KB ?_|refine KW KA (fun _=>?_) (fun _=>?_))
  all_goals exact K _ _ rfl rfl (by clear K;grind)
 ·rw [if_pos hC]
  repeat' (first|refine L3 ?_|refine KG a4 HY ?_)
  exact KQ KA
 rw [if_neg hC]
 repeat' (first|refine L3 ?_|refine KG a4 HY ?_|(apply bF;refine bv ?_)|fail)
 refine aw rfl (fun h=>?_) (fun h=>?_)
 ·rw [if_pos (by simpa using h)]
  repeat' (first|refine L3 ?_|refine KG a4 HY ?_)
  exact KQ KA
 rw [if_neg (by simpa using h)]
 repeat' (first|refine L3 ?_|refine KG a4 HY ?_|(apply bF;refine bv ?_)|fail)
 exact KQ KA
instance (f:aZ) (c:gu) (late:Bool):AD Tryz.prog 59 [df f,.agg (eB c),d6 late] (aF (vg f c late)):=⟨Cp f c late⟩
def yR (f:aZ) (i:Nat) (c:gu):Bool:=match i with | 0=>false | j+1=>match f.Chars[j]? with | some b=>decide (c.Rune≤b.Rune) | none=>false
def jw (f:aZ) (i:Nat) (c:gu):Int:=vg f c (yR f i c)
theorem zV (f:aZ) (i:Nat) (c:gu) (hc:f.Chars[i]?=some c) (hm:(f.Chars.length:Int)≤1000):bU Tryz.prog 58 [aF i,.agg (eB c),.iptr (cJ f)] (aF (jw f i c)):=by
 refine aN Tryz.func58 rfl Tryz.ntmps58 rfl fun B=>?_
 have hil:=(Ko hc).1
 unfold jw
 cases i with
 | zero=>
  repeat' (first|refine L3 ?_|refine KG a4 HY ?_|refine bA ?_|fail)
  refine bn 17 [(0,.v),(1,.v),(2,.v),(3,.v),(4,.v),(5,.v),(6,.v),(7,.v),(8,.v),(9,.v),(10,.v),(11,.v),(12,.v),(13,.v),(14,.v),(15,.v),(16,.v)] none ?_ trivial rfl (by kernel_rfl) (by kernel_rfl) (by kernel_rfl) bI (by kernel_rfl) rfl
  repeat' (first|refine aB ?_|refine aX a4 ?_|(apply dh;refine dK ?_)|refine ld rfl rfl ?_)
  refine KU [22] HY ?_
  repeat' (first|refine L3 ?_|refine a7 ?_|refine KG a4 HY ?_)
  exact KQ KA
 | succ j=>
  obtain ⟨b,hb⟩:∃b,f.Chars[j]?=some b:=⟨_,Kz (by omega)⟩
  have hbg:(f.Chars.map eB)[(((j+1:Nat):Int) - 1).toNat]?=some (eB b):=by rw [show (((j+1:Nat):Int) - 1).toNat=j by omega];exact c5 hb
  have hl:yR f (j+1) c=decide (c.Rune≤b.Rune):=by simp [yR,hb]
  have hpos:decide (0 < ((j+1:Nat):Int))=true:=decide_eq_true (by omega)
  rw [hl]
  repeat' (first|refine L3 ?_|refine KG a4 HY ?_|refine bA ?_|fail)
  refine bn 17 [(0,.v),(1,.v),(2,.v),(3,.v),(4,.v),(5,.v),(6,.v),(7,.v),(8,.v),(9,.v),(10,.v),(11,.v),(12,.v),(13,.v),(14,.v),(15,.v),(16,.v)] none ?_ trivial rfl (by kernel_rfl) (by kernel_rfl) (by kernel_rfl) bI (by kernel_rfl) rfl
  repeat' (first|refine aB ?_|refine aX a4 ?_|fail)
  rw [hpos]
  repeat' (first|refine aB ?_|refine aX a4 ?_|(apply dz;refine eL ?_)|(apply cm;refine cA a4 ?_)|(apply dh;refine dK ?_)|fail)
  refine KU [22] HY ?_
  repeat' (first|refine L3 ?_|refine a7 ?_|refine KG a4 HY ?_)
  exact KQ KA
def va (a:eN) (name:Int):Int:=if name≠0 then name else eu (!(decide ([a.Min,a.Def,a.Max].all gD=true∧a.Min≤a.Def∧a.Def≤a.Max))) 60
theorem Cc (a:eN) (name:Int):bU Tryz.prog 69 [.agg (cX a),aF name] (aF (va a name)):=by
 refine aN Tryz.func69 rfl Tryz.ntmps69 rfl fun B=>?_
 unfold va
 repeat' (first|refine L3 ?_|refine KG a4 HY ?_|refine bA ?_|fail)
 refine aw rfl (fun h=>?_) (fun h=>?_)
 ·rw [if_pos (Ky h)]
  repeat' (first|refine L3 ?_|refine KG a4 HY ?_)
  exact KQ KA
 rw [if_neg (Kx h)]
 repeat' (first|refine L3 ?_|refine KG a4 HY ?_|refine bW a4 ?_|(apply bF;refine bv ?_)|fail)
 refine dG (t:=5) [] ([a.Min,a.Def,a.Max].all gD=true∧a.Min≤a.Def∧a.Def≤a.Max) rfl (fun Q' K=>?_) ?_
 ·repeat' (first|refine L3 ?_|refine KG a4 HY ?_|refine KR HY ?_|refine KV KB ?_|refine KW KA (fun _=>?_) (fun _=>?_))
  all_goals exact K _ _ rfl rfl (by clear K;grind)
 repeat' (first|refine L3 ?_|refine KG a4 HY ?_|(apply bF;refine bv ?_)|fail)
 exact KQ KA
instance (a:eN) (name:Int):AD Tryz.prog 69 [.agg (cX a),aF name] (aF (va a name)):=⟨Cc a name⟩
def tD (_:Nat) (t:fk):Int:=eu (decide (¬(-64≤t.Start∧t.Start≤t.Peak∧t.Peak≤t.End∧t.End≤64)∨(t.Start < 0∧t.End > 0∧t.Peak≠0))) 61
set_option maxHeartbeats 1000000 in
theorem Ek (i:Nat) (t:fk):bU Tryz.prog 150 [aF i,.agg (l9 t)] (aF (tD i t)):=by
 refine aN Tryz.func150 rfl Tryz.ntmps150 rfl fun B=>?_
 repeat' (first|refine L3 ?_|refine KG a4 HY ?_|refine bA ?_|fail)
 refine dG (t:=5) [3] (-64≤t.Start∧t.Start≤t.Peak∧t.Peak≤t.End∧t.End≤64) rfl (fun Q' K=>?_) ?_
 ·repeat' (first|refine L3 ?_|refine KG a4 HY ?_|refine KR HY ?_|refine KV KB ?_|refine KW KA (fun _=>?_) (fun _=>?_))
  all_goals exact K _ _ rfl rfl (by clear K;grind)
 repeat' (first|refine L3 ?_|refine KG a4 HY ?_)
 refine dG (t:=6) [5] (t.Start < 0∧t.End > 0∧t.Peak≠0) rfl (fun Q' K=>?_) ?_
 ·repeat' (first|refine L3 ?_|refine KG a4 HY ?_|refine KR HY ?_|refine KV KB ?_|refine KW KA (fun _=>?_) (fun _=>?_))
  all_goals exact K _ _ rfl rfl (by clear K;grind)
 have ht:tD i t=eu (!(decide (-64≤t.Start∧t.Start≤t.Peak∧t.Peak≤t.End∧t.End≤64)) || decide (t.Start < 0∧t.End > 0∧t.Peak≠0)) 61:=by unfold tD;rw [Bool.decide_or,decide_not]
 rw [ht]
 generalize decide (-64≤t.Start∧t.Start≤t.Peak∧t.Peak≤t.End∧t.End≤64)=p
 generalize decide (t.Start < 0∧t.End > 0∧t.Peak≠0)=q
 cases p <;> cases q
 all_goals
  repeat' (first|refine L3 ?_|refine KG a4 HY ?_|refine KR HY ?_|refine KV KB ?_|(apply bF;refine bv ?_)|fail)
  exact KQ KA
def B2 (axes:Int) (r:List fk):Int:=if (r.length:Int)≠axes then 61 else (dm r tD).1
theorem xW (r:List fk) (axes:Int):bU Tryz.prog 72 [.agg (bZ r),aF axes] (aF (B2 axes r)):=by
 refine aN Tryz.func72 rfl Tryz.ntmps72 rfl fun B=>?_
 unfold B2
 repeat' (first|refine L3 ?_|refine KG a4 HY ?_|refine bA ?_|fail)
 rw [Ku]
 refine aw rfl (fun h=>?_) (fun h=>?_)
 ·rw [if_pos (Ky h)]
  repeat' (first|refine L3 ?_|refine KG a4 HY ?_)
  exact KQ KA
 rw [if_neg (Kx h)]
 repeat' (first|refine L3 ?_|refine KG a4 HY ?_)
 refine b6 [] [] (Fd (u:= .sc (.func (.func 150) #[] #[])) (g:=150) (caps:=[]) rfl r _ (fun _ _=>True) [] trivial (dw (fun i x _=>Ek i x))) rfl rfl (Lz _) rfl fun c L1 hc=>?_
 have hc:c=cD (dm r tD):=hc
 subst hc
 unfold cD
 repeat' (first|refine L3 ?_|refine KG a4 HY ?_)
 exact KQ KA
instance (r:List fk) (axes:Int):AD Tryz.prog 72 [.agg (bZ r),aF axes] (aF (B2 axes r)):=⟨xW r axes⟩
theorem w9 (f:aZ) (i:Nat) (r:List fk):bU Tryz.prog 71 [aF i,.agg (bZ r),.iptr (cJ f)] (aF (B2 f.Axes.length r)):=by
 refine aN Tryz.func71 rfl Tryz.ntmps71 rfl fun B=>?_
 repeat' (first|refine L3 ?_|refine KG a4 HY ?_|refine bA ?_|(apply bF;refine bv ?_)|fail)
 rw [Ku]
 repeat' (first|fail)
 exact KQ KA
theorem zW (i:Nat) (l:List gr):bU Tryz.prog 74 [aF i,.imm 2 (l.map fc)] (aF (o4 l)):=by
 refine aN Tryz.func74 rfl Tryz.ntmps74 rfl fun B=>?_
 repeat' (first|refine L3 ?_|refine KG a4 HY ?_|(apply bF;refine bv ?_)|fail)
 exact KQ KA
def Ct (_:Nat) (n:Int):Int:=eu (!([n].all gD)) 1
theorem Cr (i:Nat) (n:Int):bU Tryz.prog 77 [aF i,aF n] (aF (Ct i n)):=by
 refine aN Tryz.func77 rfl Tryz.ntmps77 rfl fun B=>?_
 repeat' (first|refine L3 ?_|refine KG a4 HY ?_|refine bW a4 ?_|(apply bF;refine bv ?_)|fail)
 exact KQ KA
def pu (f:aZ):Int:=if f.Unit < 16∨f.Unit > 4096 then 1 else if f.Glyphs.length=0 then 32 else 0
theorem D2 (f:aZ):bU Tryz.prog 49 [df f] (aF (pu f)):=by
 refine aN Tryz.func49 rfl Tryz.ntmps49 rfl fun B=>?_
 unfold pu
 repeat' (first|refine L3 ?_|refine ak ?_|refine KG a4 HY ?_|refine bA ?_|fail)
 refine ce [1] (f.Unit < 16∨f.Unit > 4096) rfl (fun Q' K=>?_) (fun hC=>?_) (fun hC=>?_)
 ·repeat' (first|refine L3 ?_|refine KG a4 HY ?_|refine KR HY ?_|refine KV KB ?_|refine KW KA (fun _=>?_) (fun _=>?_))
  all_goals exact K _ _ rfl rfl (by clear K;grind)
 ·rw [if_pos hC]
  repeat' (first|refine L3 ?_|refine KG a4 HY ?_)
  exact KQ KA
 rw [if_neg hC]
 repeat' (first|refine L3 ?_|refine KG a4 HY ?_)
 rw [Ku]
 refine aw rfl (fun h=>?_) (fun h=>?_)
 ·rw [if_pos (by have:=Ky h;omega)]
  repeat' (first|refine L3 ?_|refine KG a4 HY ?_)
  exact KQ KA
 rw [if_neg (by have:=Kx h;omega)]
 repeat' (first|refine L3 ?_|refine KG a4 HY ?_)
 exact KQ KA
instance (f:aZ):AD Tryz.prog 49 [df f] (aF (pu f)):=⟨D2 f⟩
theorem Ao (f:aZ):bU Tryz.prog 48 [.iptr (cJ f)] (cD (pu f,0)):=by
 refine aN Tryz.func48 rfl Tryz.ntmps48 rfl fun B=>?_
 repeat' (first|refine L3 ?_|refine KG a4 HY ?_|(apply bF;refine bv ?_)|fail)
 exact bf rfl rfl rfl rfl
end Go.Proofs.YtpmdfoaadejmkaaGreatDoor
namespace Go.Proofs.YtpmdfoaadejmkaaGreatDoor
open Go.RowKit
section
variable {P:Program} {tt:TT} {l:List Oper} {fr:cf} {fin:iH} {sk:lp} {acc:cf} {L:AL} {k:Nat} {dd:Option Tmp} {ty t t':TypeId} {pos:String} {af:Array Edge} {g:Option (Nat×Bool)} {x y:Operand} {u:AV}
theorem cR (ok:ez P tt) {e sz by_ b off n cap:Nat} {q:IntKind} {i:Int} (ht:jN tt t=some (e,sz,by_)) (hx:br (cE l.toArray acc fr af.toList) x=some (.sc (.slice (some ⟨b,off,none⟩) n cap))) (hy:br (cE l.toArray acc fr af.toList) y=some (.sc (.int q i))) (h0:0≤i∧i < n) (hg:iO ⟨dd,.indexAddr t x y,ty,pos,af,g⟩ acc) (h:DA P l fr fin sk ((k,.sc (.pointer (some ⟨b,off+i.toNat * sz,none⟩)))::acc) L):
  cG P l fr fin k .v ⟨dd,.indexAddr t x y,ty,pos,af,g⟩ sk acc L:=ff hg (fun _ _=>(uO (bz ok ht).1 hx hy h0).ao) h
theorem Cx (ok:ez P tt) (i:Nat) {b q n:Nat} {cs ys:List AV} {e:TypeId} (ht:I0 tt t=some n) (hx:br (cE l.toArray acc fr af.toList) x=some (.sc (.pointer (some ⟨b,q,none⟩)))) (hy:br (cE l.toArray acc fr af.toList) y=some u) (hu:u.cells=some ys) (hL:L[i]?=some (b,.box cs e)) (hn:Nat.beq ys.length n=true) (hk:Nat.ble (q+n) cs.length=true) (hg:iO ⟨dd,.store t x y,ty,pos,af,g⟩ acc) (h:∀c,DA P l fr fin sk ((k,c)::acc) (eZ L i (.box (f5 cs q ys) e))):
  cG P l fr fin k .e ⟨dd,.store t x y,ty,pos,af,g⟩ sk acc L:=iX hg (fun _=>nl i (og ok ht) hx hy hu hL hn hk) fun c L' h1=>by subst h1;exact h c
theorem vl {v:Value} (ht:ja P t=true) (hx:br (cE l.toArray acc fr af.toList) x=some (.sc (.iface t v))) (hg:iO ⟨dd,.typeAssert x t' t false,ty,pos,af,g⟩ acc) (h:DA P l fr fin sk ((k,.sc v)::acc) L):cG P l fr fin k .v ⟨dd,.typeAssert x t' t false,ty,pos,af,g⟩ sk acc L:=
 ff hg (fun _ _=>(uN ht hx).ao) h
theorem zZ (ok:ez P tt) (i:Nat) {e by_ b n cap:Nat} {cs:List AV} {c:AV} (ht:jN tt t=some (e,1,by_)) (hz:zI tt e=some [.int .i64 0]) (hx:br (cE l.toArray acc fr af.toList) x=some (.sc (.slice (some ⟨b,0,none⟩) n cap))) (hy:br (cE l.toArray acc fr af.toList) y=some u) (hu:iL u=some (1,[[c]])) (hL:L[i]?=some (b,.box cs e)) (hcl:cs.length=cap) (hn:n≤cap) (h63:n+1≤9223372036854775807) (hby:(n+1) * by_≤140737488355328) (hg:iO ⟨dd,.call ⟨.builtin .append,#[x,y],#[t,t]⟩,ty,pos,af,g⟩ acc)
  (h:∀b' cs',cs'.take (n+1)=cs.take n++[c]→n+1≤cs'.length→DA P l fr fin sk ((k,.sc (.slice (some ⟨b',0,none⟩) (n+1) cs'.length))::acc) ((b',.box cs' e)::L.eraseIdx i)):
  cG P l fr fin k .e ⟨dd,.call ⟨.builtin .append,#[x,y],#[t,t]⟩,ty,pos,af,g⟩ sk acc L:=
 iX hg (fun _=>qA i (bz ok ht).1 (eX ok hz) hx hy (d4 hu) hL hcl hn h63 hby) fun q L' ⟨b',cs',h1,h2,h3,h4⟩=>by subst h1;subst h4;exact h b' cs' h2 h3
theorem A4 (ok:ez P tt) {e by_:Nat} {c:AV} (ht:jN tt t=some (e,1,by_)) (hz:zI tt e=some [.int .i64 0]) (hx:br (cE l.toArray acc fr af.toList) x=some (.sc (.slice none 0 0))) (hy:br (cE l.toArray acc fr af.toList) y=some u) (hu:iL u=some (1,[[c]])) (hby:Nat.ble by_ 140737488355328=true) (hg:iO ⟨dd,.call ⟨.builtin .append,#[x,y],#[t,t]⟩,ty,pos,af,g⟩ acc)
  (h:∀b' cs',cs'.take 1=[c]→1≤cs'.length→DA P l fr fin sk ((k,.sc (.slice (some ⟨b',0,none⟩) 1 cs'.length))::acc) ((b',.box cs' e)::L)):
  cG P l fr fin k .e ⟨dd,.call ⟨.builtin .append,#[x,y],#[t,t]⟩,ty,pos,af,g⟩ sk acc L:=
 iX hg (fun _=>qB (bz ok ht).1 (eX ok hz) hx hy (d4 hu) (Nat.ble_eq .. ▸hby)) fun q L' ⟨b',cs',h1,h2,h3,h4⟩=>by subst h1;subst h4;exact h b' cs' h2 h3
end
def GD (P:Program) (t:TypeId) (name:String) (f:FuncId) (ptr:Bool) (e:TypeId):Bool:=(match P.underlying t with | some (.pointer e')=>Nat.beq e' e | _=>false) && match P.info? t with
 | some ti=>match ti.methods.find? (·.name==name) with
  | some m=>m.path.isEmpty && (match m.func with | some (f',p')=>Nat.beq f' f && (p'==ptr) | none=>false)
  | none=>false
 | none=>false
theorem j8 {P:Program} {t:TypeId} {name:String} {f:FuncId} {ptr:Bool} {e:TypeId} (h:GD P t name f ptr e=true):ng P t name f ptr e:=by
 unfold GD at h
 rw [Bool.and_eq_true] at h
 obtain ⟨h1,h2⟩:=h
 split at h1
 ·rename_i e' hu
  rw [Nat.beq_eq] at h1
  subst h1
  split at h2
  ·rename_i ti hti
   split at h2
   ·rename_i m hm
    rw [Bool.and_eq_true] at h2
    obtain ⟨h3,h4⟩:=h2
    split at h4
    ·rename_i f' p' hf
     rw [Bool.and_eq_true,Nat.beq_eq,beq_iff_eq] at h4
     refine ⟨hu,ti,m,hti,hm,?_,by rw [hf,h4.1,h4.2]⟩
     simpa using h3
    ·cases h4
   ·cases h2
  ·cases h2
 ·cases h1
end Go.Proofs.YtpmdfoaadejmkaaGreatDoor
namespace Go.Proofs.YtpmdfoaadejmkaaGreatDoor
open Go.RowKit Go.MapKept
section
variable {P:Program} {fr:cf} {B:Bs} {L:AL}
theorem AO.as {o:Oper} {a b:AV} (h:AO P o fr B L (fun c L'=>c=a∧L'=L)) (hv:∀σ v,VR σ a v→VR σ b v):AO P o fr B L (fun c L'=>c=b∧L'=L):=
 fun σ ρ w hρ hw=>(h σ ρ w hρ hw).mono fun _ _ ⟨τ,c,L',h1,h2,h3,h4,h5⟩=>⟨τ,b,L',h1,hv τ _ (by rw [←h4];exact h2),h3,rfl,h5⟩
end
section
variable {P:Program} {tt:TT} {l:List Oper} {fr:cf} {fin:iH} {sk:lp} {acc:cf} {L:AL} {k:Nat} {dd:Option Tmp} {ty t t':TypeId} {pos:String} {af:Array Edge} {g:Option (Nat×Bool)} {x y z:Operand} {u:AV}
theorem A6 (i:Nat) (v0:Value) (a:AV) {b kt et:Nat} {kd:TypeDesc} {q:Value} {m:Value→Option AV} (ht:P.underlying t=some (.map kt et)) (hkt:P.underlying kt=some kd) (hx:br (cE l.toArray acc fr af.toList) x=some (.sc (.map (some b)))) (hy:br (cE l.toArray acc fr af.toList) y=some (.sc q)) (hk:IsKey kd q) (hL:L[i]?=some (b,dc kd m)) (hz:ma P et v0=true) (ha:∀σ v,VR σ ((m q).getD (.sc v0)) v→VR σ a v) (hg:iO ⟨dd,.lookup t x y false,ty,pos,af,g⟩ acc) (h:DA P l fr fin sk ((k,a)::acc) L):
  cG P l fr fin k .e ⟨dd,.lookup t x y false,ty,pos,af,g⟩ sk acc L:=
 iX hg (fun B=>(me i ht hkt hx hy hk hL (gq hz) fun _=> .sc _).as ha) fun c L' ⟨h1,h2⟩=>by subst h1;subst h2;exact h
theorem fx (ok:ez P tt) (L0:AL) {e sz by_:Nat} {q:Option (Nat×Nat)} {l1 l2:List (List AV)} (ht:jN tt t=some (e,sz,by_)) (hx:br (cE l.toArray acc fr af.toList) x=some (.vec q sz l1)) (hy:br (cE l.toArray acc fr af.toList) y=some u) (hu:iL u=some (sz,l2)) (hL:L.Perm (tok q e sz l1.length++L0)) (h63:l1.length+l2.length≤9223372036854775807) (hby:(l1.length+l2.length) * by_≤140737488355328) (hg:iO ⟨dd,.call ⟨.builtin .append,#[x,y],#[t,t]⟩,ty,pos,af,g⟩ acc)
  (h:∀k',DA P l fr fin sk ((k,.vec k' sz (l1++l2))::acc) (tok k' e sz (l1++l2).length++L0)):
  cG P l fr fin k .e ⟨dd,.call ⟨.builtin .append,#[x,y],#[t,t]⟩,ty,pos,af,g⟩ sk acc L:=
 iX hg (fun _=>oD L0 (bz ok ht).1 (bz ok ht).2 hx hy (d4 hu) hL h63 hby) fun c L' ⟨k',h1,h2⟩=>by subst h1;subst h2;exact h k'
end
section
variable {P:Program} {r:Option Nat} {ops:Array Oper} {Q:Exit→Act→World→Prop} {nt:Nat} {D:List Deferred} {fr:cf} {B:Bs} {L:AL} {rest:List Oper} {d:Nat} {ty t:TypeId} {pos:String} {af:Array Edge} {x y z:Operand} {u:AV}
theorem ke (i:Nat) (v0:Value) (a:AV) {b kt et:Nat} {kd:TypeDesc} {k:Value} {m:Value→Option AV} (ht:P.underlying t=some (.map kt et)) (hkt:P.underlying kt=some kd) (hx:br fr x=some (.sc (.map (some b)))) (hy:br fr y=some (.sc k)) (hk:IsKey kd k) (hL:L[i]?=some (b,dc kd m)) (hz:ma P et v0=true) (ha:∀σ v,VR σ ((m k).getD (.sc v0)) v→VR σ a v) (hd:Nat.ble nt d=false)
  (h:bJ P r ops Q nt D rest ((d,a)::fr) B L):bJ P r ops Q nt D (⟨some d,.lookup t x y false,ty,pos,af,none⟩::rest) fr B L:=
 cN hd rfl ((me i ht hkt hx hy hk hL (gq hz) fun _=> .sc _).as ha) fun c L' ⟨h1,h2⟩=>by subst h1;subst h2;exact h
end
noncomputable def nO (m:Value→Option AV) (k:Value) (c:AV):Value→Option AV:=fun q=>open Classical in if q=k then some c else m q
theorem gX {m:Value→Option AV} {k:Value} {c:AV}:nO m k c k=some c:=by simp [nO]
theorem g9 {m:Value→Option AV} {k:Value} {c:AV} (q:Value) (h:q≠k):nO m k c q=m q:=by simp [nO,h]
def oA (m:Value→Option AV) (M:Int→Int):Prop:=∀z,m (.int .i64 z)=none∧M z=0∨m (.int .i64 z)=some (.sc (.int .i64 (M z)))
theorem oA.at {m:Value→Option AV} {M:Int→Int} (h:oA m M) (z:Int):∀(σ:cr) (v:Value),VR σ ((m (.int .i64 z)).getD (.sc (.int .i64 0))) v→VR σ (.sc (.int .i64 (M z))) v:=by
 intro σ v hv
 rcases h z with ⟨h1,h2⟩ | h1
 ·rw [h1] at hv;rw [h2];exact hv
 ·rw [h1] at hv;exact hv
theorem oA.put {m:Value→Option AV} {M:Int→Int} (h:oA m M) (z c:Int):oA (nO m (.int .i64 z) (.sc (.int .i64 c))) fun q=>if q=z then c else M q:=by
 intro q
 by_cases e:q=z
 ·subst e;simp only [if_true,gX];exact .inr trivial
 ·simp only [if_neg e];rw [g9 _ (by intro h;injection h with _ h;exact e h)];exact h q
def qo (m:Value→Option AV) (K:Int→Option (Nat×Nat)) (U:Int→List Int):Prop:=∀z,(m (.int .i64 z)=none∧U z=[]∧K z=none)∨m (.int .i64 z)=some (.vec (K z) 1 (aW (U z)))
theorem qo.at {m:Value→Option AV} {K:Int→Option (Nat×Nat)} {U:Int→List Int} (h:qo m K U) (z:Int):∀(σ:cr) (v:Value),VR σ ((m (.int .i64 z)).getD (.sc (.slice none 0 0))) v→VR σ (.vec (K z) 1 (aW (U z))) v:=by
 intro σ v hv
 rcases h z with ⟨h1,h2,h3⟩ | h1
 ·rw [h1] at hv;rw [h2,h3];exact d5 1 hv
 ·rw [h1] at hv;exact hv
theorem qo.put {m:Value→Option AV} {K:Int→Option (Nat×Nat)} {U:Int→List Int} (h:qo m K U) (z:Int) (k:Option (Nat×Nat)) (l:List Int):qo (nO m (.int .i64 z) (.vec k 1 (aW l))) (fun q=>if q=z then k else K q) fun q=>if q=z then l else U q:=by
 intro q
 by_cases e:q=z
 ·subst e;simp only [if_true,gX];exact .inr trivial
 ·simp only [if_neg e]
  rw [g9 _ (by intro h;injection h with _ h;exact e h)]
  exact h q
def nd (e:TypeId) (K:Int→Option (Nat×Nat)) (U:Int→List Int) (zs:List Int):AL:=zs.flatMap fun z=>tok (K z) e 1 (aW (U z)).length
theorem pb {e:TypeId} {K:Int→Option (Nat×Nat)} {U:Int→List Int}:∀{zs:List Int} {z:Int},z∈zs→(nd e K U zs).Perm (tok (K z) e 1 (aW (U z)).length++nd e K U (zs.erase z))
 | y::zs,z,h=>by
  by_cases hz:y=z
  ·subst hz
   rw [List.erase_cons_head]
   exact Lz _
  ·have hm:z∈zs:=by
    rcases List.mem_cons.1 h with h | h
    ·exact absurd h.symm hz
    ·exact h
   rw [List.erase_cons_tail (by simpa using hz)]
   have ih:=pb (e:=e) (K:=K) (U:=U) hm
   unfold nd at ih ⊢
   rw [List.flatMap_cons,List.flatMap_cons]
   refine (List.Perm.append_left _ ih).trans ?_
   rw [←List.append_assoc,←List.append_assoc]
   exact List.Perm.append_right _ List.perm_append_comm
theorem yc {e:TypeId} {K K':Int→Option (Nat×Nat)} {U U':Int→List Int} {zs:List Int} (h:∀z∈zs,K z=K' z∧U z=U' z):nd e K U zs=nd e K' U' zs:=by
 unfold nd
 induction zs with
 | nil=>rfl
 | cons z zs ih=>
  rw [List.flatMap_cons,List.flatMap_cons,ih fun y hy=>h y (Ks _ hy),(h z (List.mem_cons_self ..)).1,(h z (List.mem_cons_self ..)).2]
theorem El {e:TypeId} {K:Int→Option (Nat×Nat)} {U:Int→List Int} {zs:List Int} {z:Int} {k:Option (Nat×Nat)} {l:List Int} (hn:zs.Nodup) (h:z∈zs):(tok k e 1 (aW l).length++nd e K U (zs.erase z)).Perm (nd e (fun q=>if q=z then k else K q) (fun q=>if q=z then l else U q) zs):=by
 have h1:=pb (e:=e) (K:=fun q=>if q=z then k else K q) (U:=fun q=>if q=z then l else U q) h
 simp only [if_true] at h1
 refine List.Perm.trans ?_ h1.symm
 rw [yc (K:=K) (U:=U) (K':=fun q=>if q=z then k else K q) (U':=fun q=>if q=z then l else U q) fun y hy=>by
  have hne:y≠z:=fun e=>by subst e;exact (List.Nodup.not_mem_erase hn) hy
  simp only [if_neg hne]
  exact ⟨trivial,trivial⟩]
theorem Bv (e:TypeId) (U:Int→List Int) (zs:List Int):nd e (fun _=>none) U zs=[]:=by
 unfold nd tok
 induction zs with
 | nil=>rfl
 | cons z zs ih=>rw [List.flatMap_cons,ih];rfl
end Go.Proofs.YtpmdfoaadejmkaaGreatDoor
namespace Go.Proofs.YtpmdfoaadejmkaaGreatDoor
open Go.RowKit
section
variable {P:Program} {r:Option Nat} {ops:Array Oper} {Q:Exit→Act→World→Prop} {nt:Nat} {D:List Deferred} {fr:cf} {B:Bs} {L:AL} {cd:Code}
def qn (nt:Nat) (B:Bs) {α:Type} (Dx:α→List Deferred) (V:α→cf) (fr0:cf) (C:α→Prop) (Lx:α→AL) (μ:α→Nat) (x:α) (Q:Exit→Act→World→Prop):Exit→Act→World→Prop:=Exit.then (fun a w=>∃σ x',jo σ nt (Dx x') (V x'++fr0) a∧C x'∧di B σ (Lx x') w∧μ x' < μ x) Q
theorem C8 (ks:List Nat) {α:Type} (Dx:α→List Deferred) (V:α→cf) (C:α→Prop) (Lx:α→AL) (μ:α→Nat) (x0:α) {fr0:cf} (hk:gM fr ks=some fr0) (hV:mR (V x0) fr) (hD:D=Dx x0) (hC:C x0) (hL:∀σ w,di B σ L w→di B σ (Lx x0) w)
  (hb:∀x,C x→AT P r cd (qn nt B Dx V fr0 C Lx μ x Q) nt (Dx x) (V x++fr0) B (Lx x)):AT P r (.loop cd) Q nt D fr B L:=by
 intro σ a w ha hw
 subst hD
 classical
 let G:Nat→Act→World→Prop:=fun m a w=>∃σ x,jo σ nt (Dx x) (V x++fr0) a∧C x∧di B σ (Lx x) w∧μ x=m
 let M:Act→World→Nat:=fun a w=>if h:∃m,G m a w∧∀m',G m' a w→m≤m' then h.choose else 0
 have least:∀a w,(∃m,G m a w)→G (M a w) a w∧∀m',G m' a w→M a w≤m':=by
  rintro a w ⟨m0,hg0⟩
  have hex:∃m,G m a w∧∀m',G m' a w→m≤m':=by
   have:∀k,∀m,m≤k→G m a w→∃m,G m a w∧∀m',G m' a w→m≤m':=by
    intro k
    induction k with
    | zero=>intro m hm hg;exact ⟨m,hg,fun m' _=>by omega⟩
    | succ k ih=>
     intro m hm hg
     by_cases h:∃m',m' < m∧G m' a w
     ·obtain ⟨m',hlt,hg'⟩:=h
      exact ih m' (by omega) hg'
     ·exact ⟨m,hg,fun m' hg'=>by
       rcases Nat.lt_or_ge m' m with hlt | hge
       ·exact absurd ⟨m',hlt,hg'⟩ h
       ·exact hge⟩
   exact this m0 m0 (Nat.le_refl _) hg0
  have hM:M a w=hex.choose:=dif_pos hex
  rw [hM];exact hex.choose_spec
 refine wpIn_loop (fun a w=>∃m,G m a w) M ⟨_,σ,x0,ha.weak (nj hV (ej ks hk)),hC,hL σ w hw,rfl⟩ ?_
 intro a w hI
 obtain ⟨⟨σ',x,hx,hj,hst,hm⟩,_⟩:=least a w hI
 refine wpIn_mono (hb x hj σ' a w hx hst) ?_
 intro e a' w' hq
 cases e with
 | normal=>
  obtain ⟨τ,x',hx',hj',hst',hlt⟩:=hq
  have hg:G (μ x') a' w':=⟨τ,x',hx',hj',hst',rfl⟩
  refine ⟨⟨_,hg⟩,?_⟩
  have:=(least a' w' ⟨_,hg⟩).2 (μ x') hg
  omega
 | _=>exact hq
theorem oG {α:Type} {Dx:α→List Deferred} {V:α→cf} {fr0:cf} {C:α→Prop} {Lx:α→AL} {μ:α→Nat} {x:α} (x':α) (hk:gM fr (fr0.map (·.1))=some fr0) (hV:mR (V x') fr) (hD:D=Dx x') (hC:C x') (hm:μ x' < μ x) (hL:∀σ w,di B σ L w→di B σ (Lx x') w):
  AX P .normal (qn nt B Dx V fr0 C Lx μ x Q) nt D fr B L:=fun σ a w ha hw=>by
 subst hD
 exact ⟨σ,x',ha.weak (nj hV (ej _ hk)),hC,hL _ _ hw,hm⟩
theorem sr {α:Type} {Dx:α→List Deferred} {V:α→cf} {fr0:cf} {C:α→Prop} {Lx:α→AL} {μ:α→Nat} {x:α} {id:Nat} (h:AX P (.exit id) Q nt D fr B L):AX P (.exit id) (qn nt B Dx V fr0 C Lx μ x Q) nt D fr B L:=fun σ a w ha hw=>h σ a w ha hw
end
section
variable {nt:Nat} {D:List Deferred} {B:Bs} {fr:cf} {L:AL}
theorem tG {t b e sz n:Nat} {cs:List AV} {l:List (List AV)} (i:Nat) (hl:ci fr t=some (.iptr [.sc (.slice (some ⟨b,0,none⟩) n n)])) (hL:L[i]?=some (b,.box cs e)) (hc:cs=l.flatten) (hs:∀q∈l,q.length=sz) (hn:l.length=n) (h63:n≤9223372036854775807):mQ nt D B fr L ((t,.iptr [.imm sz l])::fr) ((b,.vec e sz n n)::L.eraseIdx i):=by
 intro σ a w ha hw0
 have hw:=hw0.perm (fF hL)
 obtain ⟨o,ho,vs,rfl,hvs,h1⟩:=hw.here _ (List.mem_cons_self ..)
 have hfree:=hw.free _ (List.mem_cons_self ..)
 have hvl:vs.length=n * sz:=by rw [←hvs.1,hc,dV l hs,hn]
 have hst:di B σ ((b,.vec e sz 0 n)::L.eraseIdx i) w:=by
  refine ⟨hw.os,hw.tape,hw.output,hw.size,hw.old,fun p hp=>?_,fun p hp=>?_,by simpa using hw.apart,hw.froz,fun p hp off hm=>?_,hw.grow,hw.same⟩
  ·rcases List.mem_cons.1 hp with rfl | hp'
   ·exact ⟨_,ho,_,rfl,by simp [hvl],Nat.zero_le _,by unfold maxLen;omega⟩
   ·exact hw.here p (Ks _ hp')
  ·rcases List.mem_cons.1 hp with rfl | hp'
   ·exact hw.mine (b,.box cs e) (List.mem_cons_self ..)
   ·exact hw.mine p (Ks _ hp')
  ·rcases List.mem_cons.1 hp with rfl | hp'
   ·exact hfree off trivial
   ·exact hw.free p (Ks _ hp') off hm
 obtain ⟨hst',hle⟩:=hst.freezeHead (n':=n) (xs:=vs) (fun j u hj=>by rw [d7 ho];simpa using hj) hvl (Nat.zero_le _) (Nat.le_refl _)
 refine ⟨_,?_,hst'⟩
 have hv:VR (σ.add b vs) (.vec (some (b,n)) sz l) (.slice (some ⟨b,0,none⟩) n n):=by
  have:=m8 (σ:=σ.add b vs) (b:=b) (cap:=n) hs (by rw [←hc];exact hvs.mono hle) h1 (by omega) (by unfold maxLen;omega) (fun j u hj=>cr.add_at hj)
  rwa [hn] at this
 have ha':=ha.mono hle
 refine ⟨ha'.size,ha'.defers,fun t' v' hl'=>?_⟩
 rw [cz] at hl'
 by_cases e:t=t'
 ·subst e
  simp only [if_true,Option.some.injEq] at hl'
  subst hl'
  have hp:=ha.look t _ hl
  generalize a.tmps.getD t undef=v0 at hp
  generalize hq:AV.iptr [.sc (.slice (some ⟨b,0,none⟩) n n)]=q at hp
  cases hp with
  | iptr cs2 b0 off hx h=>
   injection hq with hq
   subst hq
   refine .iptr _ b0 off (fun j hj=>?_) fun j c u hc hu=>?_
   ·obtain ⟨u,hu,h1⟩:=hx j hj
    exact ⟨u,hle _ _ _ hu,h1⟩
   ·have hj:j=0:=by
     have:=(Ko hc).1
     simp at this
     exact this
    subst hj
    simp at hc
    subst hc
    obtain ⟨u',hu',_⟩:=hx 0 (by simp)
    have h2:=hle _ _ _ hu'
    rw [hu] at h2
    injection h2 with h2
    subst h2
    rw [(h 0 _ u rfl hu').sc_inv]
    exact hv.im
  | _=>cases hq
 ·rw [if_neg e] at hl'
  exact ha'.look t' v' hl'
end
end Go.Proofs.YtpmdfoaadejmkaaGreatDoor
