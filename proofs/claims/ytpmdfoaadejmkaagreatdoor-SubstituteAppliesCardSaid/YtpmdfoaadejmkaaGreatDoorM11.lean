/-
  The program: glyphs, as check looks at them, with anchors and deltas.
-/
import Derived.Test.YtpmdfoaadejmkaaGreatDoorM10
import Derived.Test.YtpmdfoaadejmkaaGreatDoorM07
namespace Go.Proofs.YtpmdfoaadejmkaaGreatDoor
open Go.RowKit
attribute [local irreducible] AT bI AX AO Av Kt bi dx DA cK
theorem Dl:jS Tryz.prog 293:=⟨⟨_,_,Tryz.underlying293,⟨by decide,by decide⟩,⟨rfl,rfl⟩,Tryz.underlying3,Tryz.underlying3⟩,Tryz.stoodInHeld293⟩
theorem H5:jS Tryz.prog 296:=⟨⟨_,_,Tryz.underlying296,⟨by decide,by decide⟩,⟨rfl,rfl⟩,Tryz.underlying3,Tryz.underlying3⟩,Tryz.stoodInHeld296⟩
def of (l:List dv) (a b:Int):Option AV:=if ∃x∈l,x.Kind=a∧x.Class=b then some (dV true) else none
theorem Cu:of []=fun _ _=>none:=by funext a b;simp [of]
theorem zC (l:List dv) (a b:Int):(of l a b).getD (dV false)=dV (decide (∃x∈l,x.Kind=a∧x.Class=b)):=by
 unfold of
 by_cases h:∃x∈l,x.Kind=a∧x.Class=b
 ·rw [if_pos h,decide_eq_true h];rfl
 ·rw [if_neg h,decide_eq_false h];rfl
theorem zD {l:List dv} {i:Nat} {x:dv} (h:l[i]?=some x):of (l.take (i+1)) x.Kind x.Class=some (dV true):=by
 unfold of
 rw [if_pos ⟨x,by rw [List.take_add_one,h];simp,rfl,rfl⟩]
theorem wU {l:List dv} {i:Nat} {x:dv} (h:l[i]?=some x) (p q:Int) (hne:¬(p=x.Kind∧q=x.Class)):of (l.take (i+1)) p q=of (l.take i) p q:=by
 unfold of
 have:(∃y∈l.take (i+1),y.Kind=p∧y.Class=q)↔∃y∈l.take i,y.Kind=p∧y.Class=q:=by
  rw [List.take_add_one,h]
  simp only [Option.toList_some,List.mem_append,List.mem_singleton]
  constructor
  ·rintro ⟨y,hy | rfl,h1⟩
   ·exact ⟨y,hy,h1⟩
   ·exact absurd ⟨h1.1.symm,h1.2.symm⟩ hne
  ·rintro ⟨y,hy,h1⟩
   exact ⟨y,Or.inl hy,h1⟩
 by_cases hc:∃y∈l.take i,y.Kind=p∧y.Class=q
 ·rw [if_pos hc,if_pos (this.2 hc)]
 ·rw [if_neg hc,if_neg (fun h=>hc (this.1 h))]
set_option maxHeartbeats 1000000 in
theorem vT (g:bv) (i:Nat) (a:dv) (ha:g.Anchors[i]?=some a) (m:Nat):AC Tryz.prog 205 [aF i,.agg (d8 a),.iptr [dV g.Mark],.iptr [.sc (.map (some m))]] [(m,i8 (of (g.Anchors.take i)))] fun c L'=>c=aF (mg g i a)∧(mg g i a=0→L'=[(m,i8 (of (g.Anchors.take (i+1))))]):=by
 refine aM Tryz.func205 rfl Tryz.ntmps205 rfl fun B=>?_
 repeat' (first|refine Ji ?_|refine JF a5 H6 ?_|(apply aK;first|refine JH 7 a5 0 JE ?_|refine JH 7 a5 1 JE ?_|refine JH 7 a5 2 JE ?_|refine JG a5 0 JD ?_|refine JG a5 1 JD ?_|refine JG a5 2 JD ?_|refine JG a5 3 JD ?_|fail)|refine bf ?_|refine bj a5 fun _=>?_|fail)
 refine dq (t:=8) [2,3,5,7] (a.Kind=3∨a.Kind=4) rfl (fun Q' K=>?_) ?_
 ·repeat' (first|refine Ji ?_|refine JF a5 H6 ?_|refine JN H6 ?_|refine JO JB ?_|refine JR JA (fun _=>?_) (fun _=>?_))
  all_goals exact K _ _ rfl rfl (by clear K;grind)
 repeat' (first|refine Ji ?_|refine am ?_|refine JF a5 H6 ?_)
 refine dq (t:=22) [2,3,5,7,8] (a.Kind < 1∨a.Kind > 4) rfl (fun Q' K=>?_) ?_
 ·repeat' (first|refine Ji ?_|refine JF a5 H6 ?_|refine JN H6 ?_|refine JO JB ?_|refine JR JA (fun _=>?_) (fun _=>?_))
  all_goals exact K _ _ rfl rfl (by clear K;grind)
 repeat' (first|refine Ji ?_|fail)
 refine ar rfl (fun h1=>?_) (fun h1=>?_)
 ·have h0:=h1
  replace h1:=Jy h1
  rw [h0]
  repeat' (first|refine Ji ?_|refine JF a5 H6 ?_|refine bC rfl ?_)
  refine JL H6 ?_
  rw [show mg g i a=35 from if_pos (.inl h1)]
  exact ⟨rfl,fun e=>absurd e (by decide)⟩
 have h0:=h1
 replace h1:=Jx h1
 rw [h0]
 clear h0
 repeat' (first|refine Ji ?_|refine JF a5 H6 ?_)
 refine dq (t:=22) [2,3,5,7,8] (a.Class < 0∨a.Class > 15) rfl (fun Q' K=>?_) ?_
 ·repeat' (first|refine Ji ?_|refine JF a5 H6 ?_|refine JN H6 ?_|refine JO JB ?_|refine JR JA (fun _=>?_) (fun _=>?_))
  all_goals exact K _ _ rfl rfl (by clear K;grind)
 repeat' (first|refine Ji ?_|fail)
 refine ar rfl (fun h2=>?_) (fun h2=>?_)
 ·have h0:=h2
  replace h2:=Jy h2
  rw [h0]
  repeat' (first|refine Ji ?_|refine JF a5 H6 ?_|refine bC rfl ?_)
  refine JL H6 ?_
  rw [show mg g i a=35 from if_pos (.inr (.inl h2))]
  exact ⟨rfl,fun e=>absurd e (by decide)⟩
 have h0:=h2
 replace h2:=Jx h2
 rw [h0]
 clear h0
 repeat' (first|refine Ji ?_|refine JF a5 H6 ?_)
 refine dq (t:=22) [2,3,5,7] ((a.Kind=3∨a.Kind=4)∧a.Class≠0) rfl (fun Q' K=>?_) ?_
 ·generalize hj:decide (a.Kind=3∨a.Kind=4)=j
  have hj':(a.Kind=3∨a.Kind=4)↔j=true:=by rw [←hj,decide_eq_true_eq]
  repeat' (first|refine Ji ?_|refine JF a5 H6 ?_|refine JN H6 ?_|refine JO JB ?_|refine JR JA (fun _=>?_) (fun _=>?_))
  all_goals exact K _ _ (by first | rfl | (subst_vars;rfl)) rfl (by clear K;grind)
 repeat' (first|refine Ji ?_|fail)
 refine ar rfl (fun h3=>?_) (fun h3=>?_)
 ·have h0:=h3
  replace h3:=Jy h3
  rw [h0]
  repeat' (first|refine Ji ?_|refine JF a5 H6 ?_|refine bC rfl ?_)
  refine JL H6 ?_
  rw [show mg g i a=35 from if_pos (.inr (.inr (.inl h3)))]
  exact ⟨rfl,fun e=>absurd e (by decide)⟩
 have h0:=h3
 replace h3:=Jx h3
 rw [h0]
 clear h0
 repeat' (first|refine Ji ?_|refine JF a5 H6 ?_|refine bM a5 ?_|(apply bz;refine bo ?_)|fail)
 refine ar rfl (fun h4=>?_) (fun h4=>?_)
 ·rw [h4]
  repeat' (first|refine Ji ?_|refine JF a5 H6 ?_|refine bC rfl ?_)
  refine JL H6 ?_
  rw [show mg g i a=35 from if_pos (.inr (.inr (.inr (.inl (by rw [←Bool.not_eq_true',h4])))))]
  exact ⟨rfl,fun e=>absurd e (by decide)⟩
 rw [h4]
 repeat' (first|refine Ji ?_|refine JF a5 H6 ?_)
 refine dq (t:=22) [3,7] (a.Kind=2∧g.Mark=false) rfl (fun Q' K=>?_) ?_
 ·repeat' (first|refine Ji ?_|refine JF a5 H6 ?_|refine JN H6 ?_|refine JO JB ?_|refine JR JA (fun _=>?_) (fun _=>?_))
  all_goals exact K _ _ rfl rfl (by clear K;grind)
 repeat' (first|refine Ji ?_|fail)
 refine ar rfl (fun h5=>?_) (fun h5=>?_)
 ·have h0:=h5
  replace h5:=Jy h5
  rw [h0]
  repeat' (first|refine Ji ?_|refine JF a5 H6 ?_|refine bC rfl ?_)
  refine JL H6 ?_
  rw [show mg g i a=35 from if_pos (.inr (.inr (.inr (.inr (.inl h5)))))]
  exact ⟨rfl,fun e=>absurd e (by decide)⟩
 have h0:=h5
 replace h5:=Jx h5
 rw [h0]
 clear h0
 repeat' (first|refine Ji ?_|refine JF a5 H6 ?_)
 refine wX 0 (.bool false) Tryz.underlying291 Dl rfl rfl rfl (by kernel_rfl) rfl ?_
 rw [zC]
 repeat' (first|refine Ji ?_|refine JF a5 H6 ?_)
 refine ar rfl (fun h6=>?_) (fun h6=>?_)
 ·rw [h6]
  repeat' (first|refine Ji ?_|refine JF a5 H6 ?_)
  refine JL H6 ?_
  rw [show mg g i a=35 from if_pos (.inr (.inr (.inr (.inr (.inr (Jy h6))))))]
  exact ⟨rfl,fun e=>absurd e (by decide)⟩
 rw [h6]
 repeat' (first|refine Ji ?_|refine JF a5 H6 ?_)
 refine tF 0 (of (g.Anchors.take (i+1))) Tryz.underlying291 Dl rfl rfl rfl rfl (zD ha) (wU ha) ?_
 repeat' (first|refine Ji ?_|refine JF a5 H6 ?_)
 refine JL H6 ?_
 have h4':[a.X,a.Y].all gn=true:=by simpa using h4
 have h6':=Jx h6
 rw [show mg g i a=0 from if_neg (by
  rintro (h | h | h | h | h | h)
  ·exact h1 h
  ·exact h2 h
  ·exact h3 h
  ·rw [h4'] at h;cases h
  ·exact h5 h
  ·exact h6' h)]
 exact ⟨rfl,fun _=>rfl⟩
def rl (a b c d:Int):Bool:=decide (a < c∨(a=c∧b < d))
theorem w9 (a b c d:Int):bJ Tryz.prog 209 [.agg [aF a,aF b],.agg [aF c,aF d]] (dV (rl a b c d)):=by
 refine aM Tryz.func209 rfl Tryz.ntmps209 rfl fun B=>?_
 repeat' (first|refine Ji ?_|refine JF a5 H6 ?_|refine bf ?_|fail)
 refine dq (t:=4) [] (rl a b c d=true) rfl (fun Q' K=>?_) ?_
 ·repeat' (first|refine Ji ?_|refine JF a5 H6 ?_|refine JN H6 ?_|refine JO JB ?_|refine dz rfl rfl rfl ?_|refine JR JA (fun _=>?_) (fun _=>?_))
  all_goals exact K _ _ rfl rfl (by clear K;unfold rl;grind)
 repeat' (first|refine Ji ?_|fail)
 refine JL H6 ?_
 simp
def fP (l:List dH) (i:Nat):Int×Int:=match i with | 0=>(0,0) | j+1=>match l[j]? with | some b=>(b.Region,b.Point) | none=>(0,0)
def qE (g:bv) (i:Nat) (d:dH):Bool:=decide (0 < i∧((d.Region=(fP g.Deltas i).1∧d.Point=(fP g.Deltas i).2)∨rl d.Region d.Point (fP g.Deltas i).1 (fP g.Deltas i).2=true))
theorem EC {g:bv} {i:Nat} {d:dH} (hd:g.Deltas[i]?=some d):(match i with | 0=>false | j+1=>match g.Deltas[j]? with | some b=>decide (d.Region < b.Region∨(d.Region=b.Region∧d.Point≤b.Point)) | none=>false)=qE g i d:=by
 unfold qE
 cases i with
 | zero=>simp
 | succ j=>
  have hj:j < g.Deltas.length:=by have:=(Jp hd).1;omega
  obtain ⟨b,hb⟩:∃b,g.Deltas[j]?=some b:=⟨_,Jz hj⟩
  simp only [hb,fP,rl]
  rw [Bool.eq_iff_iff,decide_eq_true_eq,decide_eq_true_eq,decide_eq_true_eq]
  omega
theorem E5 {f:b6} {g:bv} {i:Nat} {d:dH} (hd:g.Deltas[i]?=some d):rF f g i d=if d.Region < 0∨d.Region≥f.Regions.length then 61 else if (d.Point < -1∨d.Point≥g.Points.length)∨[d.X,d.Y].all gn=false∨(d.Point= -1∧d.Y≠0) then 30 else if qE g i d=true then 24 else 0:=by
 unfold rF
 rw [←EC hd]
 cases i <;> rfl
set_option maxHeartbeats 1000000 in
theorem za (f:b6) (g:bv) (i:Nat) (d:dH) (hd:g.Deltas[i]?=some d) (R N:Int) (hR:R=f.Regions.length) (hN:N=g.Points.length) (b:Nat):AC Tryz.prog 208 [aF i,.agg (dZ d),.iptr [aF R],.iptr [aF N],.sc (.pointer (some ⟨b,0,none⟩))] [(b,.box [aF (fP g.Deltas i).1,aF (fP g.Deltas i).2] 296)] fun c L'=>c=aF (rF f g i d)∧(rF f g i d=0→L'=[(b,.box [aF (fP g.Deltas (i+1)).1,aF (fP g.Deltas (i+1)).2] 296)]):=by
 refine aM Tryz.func208 rfl Tryz.ntmps208 rfl fun B=>?_
 rw [E5 hd,←hR,←hN]
 have hnext:fP g.Deltas (i+1)=(d.Region,d.Point):=by simp only [fP,hd]
 rw [hnext]
 repeat' (first|refine Ji ?_|refine am ?_|refine JF a5 H6 ?_|(apply aK;first|refine JH 8 a5 0 JE ?_|refine JH 8 a5 1 JE ?_|refine JH 8 a5 2 JE ?_|refine JG a5 0 JD ?_|refine JG a5 1 JD ?_|refine JG a5 2 JD ?_|refine JG a5 3 JD ?_|fail)|refine bf ?_|refine bj a5 fun _=>?_|fail)
 refine bX [0,3,4,6,8] (d.Region < 0∨d.Region≥R) rfl (fun Q' K=>?_) (fun h1=>?_) (fun h1=>?_)
 ·repeat' (first|refine Ji ?_|refine JF a5 H6 ?_|refine JN H6 ?_|refine JO JB ?_|refine JR JA (fun _=>?_) (fun _=>?_))
  all_goals exact K _ _ rfl rfl (by clear K;grind)
 ·rw [if_pos h1]
  repeat' (first|refine Ji ?_|refine JF a5 H6 ?_)
  exact JL H6 ⟨rfl,fun e=>absurd e (by decide)⟩
 rw [if_neg h1]
 repeat' (first|refine Ji ?_|refine JF a5 H6 ?_)
 refine dq (t:=24) [0,4,6,8] (d.Point < -1∨d.Point≥N) rfl (fun Q' K=>?_) ?_
 ·repeat' (first|refine Ji ?_|refine JF a5 H6 ?_|refine JN H6 ?_|refine JO JB ?_|refine JR JA (fun _=>?_) (fun _=>?_))
  all_goals exact K _ _ rfl rfl (by clear K;grind)
 repeat' (first|refine Ji ?_|fail)
 refine ar rfl (fun h2=>?_) (fun h2=>?_)
 ·have h0:=h2
  replace h2:=Jy h2
  rw [h0]
  rw [if_pos (.inl h2)]
  repeat' (first|refine Ji ?_|refine JF a5 H6 ?_|refine bC rfl ?_)
  exact JL H6 ⟨rfl,fun e=>absurd e (by decide)⟩
 have h0:=h2
 replace h2:=Jx h2
 rw [h0]
 clear h0
 repeat' (first|refine Ji ?_|refine JF a5 H6 ?_|refine bM a5 ?_|(apply bz;refine bo ?_)|fail)
 refine ar rfl (fun h3=>?_) (fun h3=>?_)
 ·rw [if_pos (.inr (.inl (by rw [←Bool.not_eq_true',h3]))),h3]
  repeat' (first|refine Ji ?_|refine JF a5 H6 ?_|refine bC rfl ?_)
  exact JL H6 ⟨rfl,fun e=>absurd e (by decide)⟩
 rw [h3]
 repeat' (first|refine Ji ?_|refine JF a5 H6 ?_)
 refine dq (t:=24) [0,4,8] (d.Point= -1∧d.Y≠0) rfl (fun Q' K=>?_) ?_
 ·repeat' (first|refine Ji ?_|refine JF a5 H6 ?_|refine JN H6 ?_|refine JO JB ?_|refine JR JA (fun _=>?_) (fun _=>?_))
  all_goals exact K _ _ rfl rfl (by clear K;grind)
 repeat' (first|refine Ji ?_|fail)
 refine ar rfl (fun h4=>?_) (fun h4=>?_)
 ·have h0:=h4
  replace h4:=Jy h4
  rw [h0]
  rw [if_pos (.inr (.inr h4))]
  repeat' (first|refine Ji ?_|refine JF a5 H6 ?_)
  exact JL H6 ⟨rfl,fun e=>absurd e (by decide)⟩
 have h0:=h4
 replace h4:=Jx h4
 rw [h0]
 clear h0
 have h3':[d.X,d.Y].all gn=true:=by simpa using h3
 rw [if_neg (by
  rintro (h | h | h)
  ·exact h2 h
  ·rw [h3'] at h;cases h
  ·exact h4 h)]
 repeat' (first|refine Ji ?_|refine JF a5 H6 ?_)
 refine bX [4,8] (qE g i d=true) rfl (fun Q' K=>?_) (fun h5=>?_) (fun h5=>?_)
 ·repeat' (first|refine Ji ?_|refine JF a5 H6 ?_|refine JN H6 ?_|refine JO JB ?_|refine dz rfl rfl rfl ?_|(apply bE;first|refine JI a5 0 JC ?_|refine JI a5 1 JC ?_|refine JI a5 2 JC ?_|refine JI a5 3 JC ?_|refine JJ a5 0 JC ?_|refine JJ a5 1 JC ?_|refine JJ a5 2 JC ?_|refine JK a5 1 JA (by assumption) rfl ?_|refine JK a5 0 JA (by assumption) rfl ?_|fail)|refine JR JA (fun _=>?_) (fun _=>?_))
  all_goals first
   | exact K _ _ rfl rfl (by clear K;unfold qE;grind)
   | (refine GQ H5 Tryz.eqGuardType296 rfl rfl rfl ?_)
  repeat' (first|refine Ji ?_|refine JF a5 H6 ?_|refine JN H6 ?_|refine JO JB ?_|(apply bE;first|refine JI a5 0 JC ?_|refine JI a5 1 JC ?_|refine JI a5 2 JC ?_|refine JI a5 3 JC ?_|refine JJ a5 0 JC ?_|refine JJ a5 1 JC ?_|refine JJ a5 2 JC ?_|refine JK a5 1 JA (by assumption) rfl ?_|refine JK a5 0 JA (by assumption) rfl ?_|fail)|refine JR JA (fun _=>?_) (fun _=>?_))
  all_goals first
   | exact K _ _ rfl rfl (by clear K;unfold qE;grind)
   | (refine bo (hc:=⟨w9 d.Region d.Point (fP g.Deltas i).1 (fP g.Deltas i).2⟩) ?_)
  repeat' (first|refine Ji ?_|refine JF a5 H6 ?_|refine JN H6 ?_)
  all_goals exact K _ _ rfl rfl (by clear K;unfold qE;grind)
 ·rw [if_pos h5]
  repeat' (first|refine Ji ?_|refine JF a5 H6 ?_)
  exact JL H6 ⟨rfl,fun e=>absurd e (by decide)⟩
 rw [if_neg h5]
 repeat' (first|refine Ji ?_|refine JF a5 H6 ?_|(apply aK;first|refine JH 8 a5 0 JE ?_|refine JH 8 a5 1 JE ?_|refine JH 8 a5 2 JE ?_|refine JG a5 0 JD ?_|refine JG a5 1 JD ?_|refine JG a5 2 JD ?_|refine JG a5 3 JD ?_|fail))
 refine JL H6 ⟨rfl,fun e=>?_⟩
 rfl
set_option maxHeartbeats 2000000 in
theorem zn (f:b6) (g:bv) (name:Int):bJ Tryz.prog 52 [bZ f,.agg (bO g),aF name] (aF (od f g name)):=by
 refine aM Tryz.func52 rfl Tryz.ntmps52 rfl fun B=>?_
 repeat' (first|refine Ji ?_|refine JF a5 H6 ?_|refine bf ?_|fail)
 refine bw 30 [(0,.v),(1,.v),(2,.v),(3,.v),(4,.v),(5,.v),(6,.v),(7,.v),(8,.v),(9,.v),(12,.v),(13,.v),(14,.v),(15,.v),(16,.v),(17,.v),(18,.v),(19,.v),(20,.v),(23,.v),(10,.e),(11,.v),(21,.e),(22,.v),(24,.v),(25,.e),(26,.v),(27,.v),(28,.v),(29,.v)] none ?_ trivial rfl (by kernel_rfl) (by kernel_rfl) (by kernel_rfl) bR (by kernel_rfl) rfl
 repeat' (first|refine aD ?_|refine b7 a5 ?_|(apply cQ;refine dg ?_)|fail)
 refine il [] [] (vU g.Mark) rfl rfl (Jo _) trivial fun c L1 ⟨m,hc,hL⟩=>?_
 subst hc;subst hL
 repeat' (first|refine aD ?_|(apply cQ;refine dg ?_)|fail)
 refine il [] _ (zb (f.Regions.map bT).length (g.Points.map dA).length) rfl rfl (Jo _) trivial fun c L1 ⟨b,hc,hL⟩=>?_
 subst hc;subst hL
 repeat' (first|refine aD ?_|(apply cQ;refine dg ?_)|refine ej a5 ?_|fail)
 refine il (L:=[(b,.box [aF 0,aF 0] 296),(m,i8 fun _ _=>none)]) _ [] (ju [⟨114,[.iptr [aF name]],[],name,0⟩,⟨115,[.iptr (bO g)],[],iS g,0⟩,⟨201,[.iptr [.imm 3 (g.Parts.map eD)],.iptr [aF 8],.iptr [.fn 118 [.iptr (cD f)]]],[],(ct 8 g.Parts (m6 f)).1,(ct 8 g.Parts (m6 f)).2⟩,⟨203,[.iptr [.imm 4 (g.Anchors.map d8)],.iptr [aF 16],.iptr [.fn 205 [.iptr [dV g.Mark],.iptr [.sc (.map (some m))]]]],[(m,i8 fun _ _=>none)],(ct 16 g.Anchors (mg g)).1,(ct 16 g.Anchors (mg g)).2⟩,⟨206,[.iptr [.imm 4 (g.Deltas.map dZ)],.iptr [aF 400],.iptr [.fn 208 [.iptr [aF (f.Regions.map bT).length],.iptr [aF (g.Points.map dA).length],.sc (.pointer (some ⟨b,0,none⟩))]]],[(b,.box [aF 0,aF 0] 296)],(ct 400 g.Deltas (rF f g)).1,(ct 400 g.Deltas (rF f g)).2⟩,⟨124,[.iptr (bO g)],[],nq g.Hint,0⟩] ?_) rfl rfl (List.Perm.swap ..) trivial fun c L1 hc=>?_
 ·refine ⟨⟨inferInstance,wA name⟩,fun _=>⟨⟨inferInstance,wB g⟩,fun _=>⟨⟨inferInstance,F6 rfl g.Parts 8 _ (fun _ _=>True) [] trivial (fun _=>da fun i x _=>wC f i x)⟩,fun _=>⟨⟨inferInstance,F7 rfl g.Anchors 16 (fT g.Anchors (mg g)) (fun i L=>L=[(m,i8 (of (g.Anchors.take i)))]) _ (by rw [List.take_zero,Cu]) ?_⟩,fun _=>⟨⟨inferInstance,F8 rfl g.Deltas 400 (fT g.Deltas (rF f g)) (fun i L=>L=[(b,.box [aF (fP g.Deltas i).1,aF (fP g.Deltas i).2] 296)]) _ rfl ?_⟩,fun _=>⟨⟨inferInstance,wD g⟩,fun _=>trivial⟩⟩⟩⟩⟩⟩
  ·intro _ i x L hx hL
   subst hL
   rw [iv hx]
   exact vT g i x hx m
  ·intro _ i x L hx hL
   subst hL
   rw [iv hx]
   exact za f g i x hx _ _ (by rw [Ju]) (by rw [Ju]) b
 ·rw [ki] at hc
  subst hc
  unfold cu
  repeat' (first|refine aD ?_|refine b7 a5 ?_|fail)
  refine JQ [7,37] H6 ?_
  repeat' (first|refine Ji ?_|refine a7 ?_|refine JF a5 H6 ?_)
  exact JM JA
instance (f:b6) (g:bv) (name:Int):AD Tryz.prog 52 [bZ f,.agg (bO g),aF name] (aF (od f g name)):=⟨zn f g name⟩
section
variable {P:Program} {l:List Oper} {fr:c7} {fin:jO} {sk:mG} {acc:c7} {L:AL} {k:Nat} {dd:Option Tmp} {ty t:TypeId} {pos:String} {af:Array Edge} {g:Option (Nat×Bool)} {x y:Operand}
theorem qc (i:Nat) (v0:Value) {b kt et:Nat} {kd:TypeDesc} {q:Value} {m:Value→Option AV} (ht:P.underlying t=some (.map kt et)) (hkt:P.underlying kt=some kd) (hx:bn (cB l.toArray acc fr af.toList) x=some (.sc (.map (some b)))) (hy:bn (cB l.toArray acc fr af.toList) y=some (.sc q)) (hk:MapKept.IsKey kd q) (hL:L[i]?=some (b,cX kd m)) (hz:lB P et v0=true) (hg:iX ⟨dd,.lookup t x y false,ty,pos,af,g⟩ acc) (h:DA P l fr fin sk ((k,(m q).getD (.sc v0))::acc) L):
  cK P l fr fin k .e ⟨dd,.lookup t x y false,ty,pos,af,g⟩ sk acc L:=
 jY hg (fun B=>lE i ht hkt hx hy hk hL (fZ hz) fun _=> .sc _) fun c L' ⟨h1,h2⟩=>by subst h1;subst h2;exact h
end
def uz (f:b6) (c:ga) (late:Bool):Int:=if c.Rune < 0∨c.Rune > 1114111 then 1 else if lb f c.Glyph=false then 32 else dY late 24
theorem Bu (f:b6) (c:ga) (late:Bool):bJ Tryz.prog 59 [bZ f,.agg (eh c),dV late] (aF (uz f c late)):=by
 refine aM Tryz.func59 rfl Tryz.ntmps59 rfl fun B=>?_
 unfold uz
 repeat' (first|refine Ji ?_|refine am ?_|refine JF a5 H6 ?_|refine bf ?_|fail)
 refine bX [2,3,4] (c.Rune < 0∨c.Rune > 1114111) rfl (fun Q' K=>?_) (fun hC=>?_) (fun hC=>?_)
 ·repeat' (first|refine Ji ?_|refine JF a5 H6 ?_|refine JN H6 ?_|refine JO JB ?_|refine JR JA (fun _=>?_) (fun _=>?_))
  all_goals exact K _ _ rfl rfl (by clear K;grind)
 ·rw [if_pos hC]
  repeat' (first|refine Ji ?_|refine JF a5 H6 ?_)
  exact JM JA
 rw [if_neg hC]
 repeat' (first|refine Ji ?_|refine JF a5 H6 ?_|(apply bz;refine bo ?_)|fail)
 refine ar rfl (fun h=>?_) (fun h=>?_)
 ·rw [if_pos (by simpa using h)]
  repeat' (first|refine Ji ?_|refine JF a5 H6 ?_)
  exact JM JA
 rw [if_neg (by simpa using h)]
 repeat' (first|refine Ji ?_|refine JF a5 H6 ?_|(apply bz;refine bo ?_)|fail)
 exact JM JA
instance (f:b6) (c:ga) (late:Bool):AD Tryz.prog 59 [bZ f,.agg (eh c),dV late] (aF (uz f c late)):=⟨Bu f c late⟩
def xZ (f:b6) (i:Nat) (c:ga):Bool:=match i with | 0=>false | j+1=>match f.Chars[j]? with | some b=>decide (c.Rune≤b.Rune) | none=>false
def j6 (f:b6) (i:Nat) (c:ga):Int:=uz f c (xZ f i c)
theorem yY (f:b6) (i:Nat) (c:ga) (hc:f.Chars[i]?=some c) (hm:(f.Chars.length:Int)≤1000):bJ Tryz.prog 58 [aF i,.agg (eh c),.iptr (cD f)] (aF (j6 f i c)):=by
 refine aM Tryz.func58 rfl Tryz.ntmps58 rfl fun B=>?_
 have hil:=(Jp hc).1
 unfold j6
 cases i with
 | zero=>
  repeat' (first|refine Ji ?_|refine JF a5 H6 ?_|refine bf ?_|fail)
  refine bw 17 [(0,.v),(1,.v),(2,.v),(3,.v),(4,.v),(5,.v),(6,.v),(7,.v),(8,.v),(9,.v),(10,.v),(11,.v),(12,.v),(13,.v),(14,.v),(15,.v),(16,.v)] none ?_ trivial rfl (by kernel_rfl) (by kernel_rfl) (by kernel_rfl) bR (by kernel_rfl) rfl
  repeat' (first|refine aD ?_|refine b7 a5 ?_|(apply cQ;refine dg ?_)|refine oM rfl rfl ?_)
  refine JQ [22] H6 ?_
  repeat' (first|refine Ji ?_|refine a7 ?_|refine JF a5 H6 ?_)
  exact JM JA
 | succ j=>
  obtain ⟨b,hb⟩:∃b,f.Chars[j]?=some b:=⟨_,Jz (by omega)⟩
  have hbg:(f.Chars.map eh)[(((j+1:Nat):Int) - 1).toNat]?=some (eh b):=by rw [show (((j+1:Nat):Int) - 1).toNat=j by omega];exact bG hb
  have hl:xZ f (j+1) c=decide (c.Rune≤b.Rune):=by simp [xZ,hb]
  have hpos:decide (0 < ((j+1:Nat):Int))=true:=decide_eq_true (by omega)
  rw [hl]
  repeat' (first|refine Ji ?_|refine JF a5 H6 ?_|refine bf ?_|fail)
  refine bw 17 [(0,.v),(1,.v),(2,.v),(3,.v),(4,.v),(5,.v),(6,.v),(7,.v),(8,.v),(9,.v),(10,.v),(11,.v),(12,.v),(13,.v),(14,.v),(15,.v),(16,.v)] none ?_ trivial rfl (by kernel_rfl) (by kernel_rfl) (by kernel_rfl) bR (by kernel_rfl) rfl
  repeat' (first|refine aD ?_|refine b7 a5 ?_|fail)
  rw [hpos]
  repeat' (first|refine aD ?_|refine b7 a5 ?_|(apply ea;refine fz ?_)|(apply bV;refine cn a5 ?_)|(apply cQ;refine dg ?_)|fail)
  refine JQ [22] H6 ?_
  repeat' (first|refine Ji ?_|refine a7 ?_|refine JF a5 H6 ?_)
  exact JM JA
def uu (a:ez) (name:Int):Int:=if name≠0 then name else dY (!(decide ([a.Min,a.Def,a.Max].all gn=true∧a.Min≤a.Def∧a.Def≤a.Max))) 60
theorem Bi (a:ez) (name:Int):bJ Tryz.prog 69 [.agg (cL a),aF name] (aF (uu a name)):=by
 refine aM Tryz.func69 rfl Tryz.ntmps69 rfl fun B=>?_
 unfold uu
 repeat' (first|refine Ji ?_|refine JF a5 H6 ?_|refine bf ?_|fail)
 refine ar rfl (fun h=>?_) (fun h=>?_)
 ·rw [if_pos (Jy h)]
  repeat' (first|refine Ji ?_|refine JF a5 H6 ?_)
  exact JM JA
 rw [if_neg (Jx h)]
 repeat' (first|refine Ji ?_|refine JF a5 H6 ?_|refine bM a5 ?_|(apply bz;refine bo ?_)|fail)
 refine dq (t:=5) [] ([a.Min,a.Def,a.Max].all gn=true∧a.Min≤a.Def∧a.Def≤a.Max) rfl (fun Q' K=>?_) ?_
 ·repeat' (first|refine Ji ?_|refine JF a5 H6 ?_|refine JN H6 ?_|refine JO JB ?_|refine JR JA (fun _=>?_) (fun _=>?_))
  all_goals exact K _ _ rfl rfl (by clear K;grind)
 repeat' (first|refine Ji ?_|refine JF a5 H6 ?_|(apply bz;refine bo ?_)|fail)
 exact JM JA
instance (a:ez) (name:Int):AD Tryz.prog 69 [.agg (cL a),aF name] (aF (uu a name)):=⟨Bi a name⟩
def sS (_:Nat) (t:eZ):Int:=dY (decide (¬(-64≤t.Start∧t.Start≤t.Peak∧t.Peak≤t.End∧t.End≤64)∨(t.Start < 0∧t.End > 0∧t.Peak≠0))) 61
set_option maxHeartbeats 1000000 in
theorem Di (i:Nat) (t:eZ):bJ Tryz.prog 150 [aF i,.agg (kz t)] (aF (sS i t)):=by
 refine aM Tryz.func150 rfl Tryz.ntmps150 rfl fun B=>?_
 repeat' (first|refine Ji ?_|refine JF a5 H6 ?_|refine bf ?_|fail)
 refine dq (t:=5) [3] (-64≤t.Start∧t.Start≤t.Peak∧t.Peak≤t.End∧t.End≤64) rfl (fun Q' K=>?_) ?_
 ·repeat' (first|refine Ji ?_|refine JF a5 H6 ?_|refine JN H6 ?_|refine JO JB ?_|refine JR JA (fun _=>?_) (fun _=>?_))
  all_goals exact K _ _ rfl rfl (by clear K;grind)
 repeat' (first|refine Ji ?_|refine JF a5 H6 ?_)
 refine dq (t:=6) [5] (t.Start < 0∧t.End > 0∧t.Peak≠0) rfl (fun Q' K=>?_) ?_
 ·repeat' (first|refine Ji ?_|refine JF a5 H6 ?_|refine JN H6 ?_|refine JO JB ?_|refine JR JA (fun _=>?_) (fun _=>?_))
  all_goals exact K _ _ rfl rfl (by clear K;grind)
 have ht:sS i t=dY (!(decide (-64≤t.Start∧t.Start≤t.Peak∧t.Peak≤t.End∧t.End≤64)) || decide (t.Start < 0∧t.End > 0∧t.Peak≠0)) 61:=by unfold sS;rw [Bool.decide_or,decide_not]
 rw [ht]
 generalize decide (-64≤t.Start∧t.Start≤t.Peak∧t.Peak≤t.End∧t.End≤64)=p
 generalize decide (t.Start < 0∧t.End > 0∧t.Peak≠0)=q
 cases p <;> cases q
 all_goals
  repeat' (first|refine Ji ?_|refine JF a5 H6 ?_|refine JN H6 ?_|refine JO JB ?_|(apply bz;refine bo ?_)|fail)
  exact JM JA
def zT (axes:Int) (r:List eZ):Int:=if (r.length:Int)≠axes then 61 else (d4 r sS).1
theorem x8 (r:List eZ) (axes:Int):bJ Tryz.prog 72 [.agg (bT r),aF axes] (aF (zT axes r)):=by
 refine aM Tryz.func72 rfl Tryz.ntmps72 rfl fun B=>?_
 unfold zT
 repeat' (first|refine Ji ?_|refine JF a5 H6 ?_|refine bf ?_|fail)
 rw [Ju]
 refine ar rfl (fun h=>?_) (fun h=>?_)
 ·rw [if_pos (Jy h)]
  repeat' (first|refine Ji ?_|refine JF a5 H6 ?_)
  exact JM JA
 rw [if_neg (Jx h)]
 repeat' (first|refine Ji ?_|refine JF a5 H6 ?_)
 refine b8 [] [] (Eg (u:= .sc (.func (.func 150) #[] #[])) (g:=150) (caps:=[]) rfl r _ (fun _ _=>True) [] trivial (da (fun i x _=>Di i x))) rfl rfl (Jo _) rfl fun c L1 hc=>?_
 have hc:c=cu (d4 r sS):=hc
 subst hc
 unfold cu
 repeat' (first|refine Ji ?_|refine JF a5 H6 ?_)
 exact JM JA
instance (r:List eZ) (axes:Int):AD Tryz.prog 72 [.agg (bT r),aF axes] (aF (zT axes r)):=⟨x8 r axes⟩
theorem vr (f:b6) (i:Nat) (r:List eZ):bJ Tryz.prog 71 [aF i,.agg (bT r),.iptr (cD f)] (aF (zT f.Axes.length r)):=by
 refine aM Tryz.func71 rfl Tryz.ntmps71 rfl fun B=>?_
 repeat' (first|refine Ji ?_|refine JF a5 H6 ?_|refine bf ?_|(apply bz;refine bo ?_)|fail)
 rw [Ju]
 repeat' (first|fail)
 exact JM JA
theorem yZ (i:Nat) (l:List g7):bJ Tryz.prog 74 [aF i,.imm 2 (l.map eT)] (aF (nq l)):=by
 refine aM Tryz.func74 rfl Tryz.ntmps74 rfl fun B=>?_
 repeat' (first|refine Ji ?_|refine JF a5 H6 ?_|(apply bz;refine bo ?_)|fail)
 exact JM JA
def Bz (_:Nat) (n:Int):Int:=dY (!([n].all gn)) 1
theorem Bx (i:Nat) (n:Int):bJ Tryz.prog 77 [aF i,aF n] (aF (Bz i n)):=by
 refine aM Tryz.func77 rfl Tryz.ntmps77 rfl fun B=>?_
 repeat' (first|refine Ji ?_|refine JF a5 H6 ?_|refine bM a5 ?_|(apply bz;refine bo ?_)|fail)
 exact JM JA
def oQ (f:b6):Int:=if f.Unit < 16∨f.Unit > 4096 then 1 else if f.Glyphs.length=0 then 32 else 0
theorem C4 (f:b6):bJ Tryz.prog 49 [bZ f] (aF (oQ f)):=by
 refine aM Tryz.func49 rfl Tryz.ntmps49 rfl fun B=>?_
 unfold oQ
 repeat' (first|refine Ji ?_|refine am ?_|refine JF a5 H6 ?_|refine bf ?_|fail)
 refine bX [1] (f.Unit < 16∨f.Unit > 4096) rfl (fun Q' K=>?_) (fun hC=>?_) (fun hC=>?_)
 ·repeat' (first|refine Ji ?_|refine JF a5 H6 ?_|refine JN H6 ?_|refine JO JB ?_|refine JR JA (fun _=>?_) (fun _=>?_))
  all_goals exact K _ _ rfl rfl (by clear K;grind)
 ·rw [if_pos hC]
  repeat' (first|refine Ji ?_|refine JF a5 H6 ?_)
  exact JM JA
 rw [if_neg hC]
 repeat' (first|refine Ji ?_|refine JF a5 H6 ?_)
 rw [Ju]
 refine ar rfl (fun h=>?_) (fun h=>?_)
 ·rw [if_pos (by have:=Jy h;omega)]
  repeat' (first|refine Ji ?_|refine JF a5 H6 ?_)
  exact JM JA
 rw [if_neg (by have:=Jx h;omega)]
 repeat' (first|refine Ji ?_|refine JF a5 H6 ?_)
 exact JM JA
instance (f:b6):AD Tryz.prog 49 [bZ f] (aF (oQ f)):=⟨C4 f⟩
theorem zp (f:b6):bJ Tryz.prog 48 [.iptr (cD f)] (cu (oQ f,0)):=by
 refine aM Tryz.func48 rfl Tryz.ntmps48 rfl fun B=>?_
 repeat' (first|refine Ji ?_|refine JF a5 H6 ?_|(apply bz;refine bo ?_)|fail)
 exact JS JB
end Go.Proofs.YtpmdfoaadejmkaaGreatDoor
namespace Go.Proofs.YtpmdfoaadejmkaaGreatDoor
open Go.RowKit
section
variable {P:Program} {tt:TT} {l:List Oper} {fr:c7} {fin:jO} {sk:mG} {acc:c7} {L:AL} {k:Nat} {dd:Option Tmp} {ty t t':TypeId} {pos:String} {af:Array Edge} {g:Option (Nat×Bool)} {x y:Operand} {u:AV}
theorem dl (ok:er P tt) {e sz by_ b off n cap:Nat} {q:IntKind} {i:Int} (ht:jK tt t=some (e,sz,by_)) (hx:bn (cB l.toArray acc fr af.toList) x=some (.sc (.slice (some ⟨b,off,none⟩) n cap))) (hy:bn (cB l.toArray acc fr af.toList) y=some (.sc (.int q i))) (h0:0≤i∧i < n) (hg:iX ⟨dd,.indexAddr t x y,ty,pos,af,g⟩ acc) (h:DA P l fr fin sk ((k,.sc (.pointer (some ⟨b,off+i.toNat * sz,none⟩)))::acc) L):
  cK P l fr fin k .v ⟨dd,.indexAddr t x y,ty,pos,af,g⟩ sk acc L:=f9 hg (fun _ _=>(ub (br ok ht).1 hx hy h0).ao) h
theorem BC (ok:er P tt) (i:Nat) {b q n:Nat} {cs ys:List AV} {e:TypeId} (ht:H8 tt t=some n) (hx:bn (cB l.toArray acc fr af.toList) x=some (.sc (.pointer (some ⟨b,q,none⟩)))) (hy:bn (cB l.toArray acc fr af.toList) y=some u) (hu:u.cells=some ys) (hL:L[i]?=some (b,.box cs e)) (hn:Nat.beq ys.length n=true) (hk:Nat.ble (q+n) cs.length=true) (hg:iX ⟨dd,.store t x y,ty,pos,af,g⟩ acc) (h:∀c,DA P l fr fin sk ((k,c)::acc) (fp L i (.box (fi cs q ys) e))):
  cK P l fr fin k .e ⟨dd,.store t x y,ty,pos,af,g⟩ sk acc L:=jY hg (fun _=>mO i (nB ok ht) hx hy hu hL hn hk) fun c L' h1=>by subst h1;exact h c
theorem uE {v:Value} (ht:iO P t=true) (hx:bn (cB l.toArray acc fr af.toList) x=some (.sc (.iface t v))) (hg:iX ⟨dd,.typeAssert x t' t false,ty,pos,af,g⟩ acc) (h:DA P l fr fin sk ((k,.sc v)::acc) L):cK P l fr fin k .v ⟨dd,.typeAssert x t' t false,ty,pos,af,g⟩ sk acc L:=
 f9 hg (fun _ _=>(ua ht hx).ao) h
theorem z3 (ok:er P tt) (i:Nat) {e by_ b n cap:Nat} {cs:List AV} {c:AV} (ht:jK tt t=some (e,1,by_)) (hz:zI tt e=some [.int .i64 0]) (hx:bn (cB l.toArray acc fr af.toList) x=some (.sc (.slice (some ⟨b,0,none⟩) n cap))) (hy:bn (cB l.toArray acc fr af.toList) y=some u) (hu:ip u=some (1,[[c]])) (hL:L[i]?=some (b,.box cs e)) (hcl:cs.length=cap) (hn:n≤cap) (h63:n+1≤9223372036854775807) (hby:(n+1) * by_≤140737488355328) (hg:iX ⟨dd,.call ⟨.builtin .append,#[x,y],#[t,t]⟩,ty,pos,af,g⟩ acc)
  (h:∀b' cs',cs'.take (n+1)=cs.take n++[c]→n+1≤cs'.length→DA P l fr fin sk ((k,.sc (.slice (some ⟨b',0,none⟩) (n+1) cs'.length))::acc) ((b',.box cs' e)::L.eraseIdx i)):
  cK P l fr fin k .e ⟨dd,.call ⟨.builtin .append,#[x,y],#[t,t]⟩,ty,pos,af,g⟩ sk acc L:=
 jY hg (fun _=>pO i (br ok ht).1 (eJ ok hz) hx hy (cR hu) hL hcl hn h63 hby) fun q L' ⟨b',cs',h1,h2,h3,h4⟩=>by subst h1;subst h4;exact h b' cs' h2 h3
theorem z5 (ok:er P tt) {e by_:Nat} {c:AV} (ht:jK tt t=some (e,1,by_)) (hz:zI tt e=some [.int .i64 0]) (hx:bn (cB l.toArray acc fr af.toList) x=some (.sc (.slice none 0 0))) (hy:bn (cB l.toArray acc fr af.toList) y=some u) (hu:ip u=some (1,[[c]])) (hby:Nat.ble by_ 140737488355328=true) (hg:iX ⟨dd,.call ⟨.builtin .append,#[x,y],#[t,t]⟩,ty,pos,af,g⟩ acc)
  (h:∀b' cs',cs'.take 1=[c]→1≤cs'.length→DA P l fr fin sk ((k,.sc (.slice (some ⟨b',0,none⟩) 1 cs'.length))::acc) ((b',.box cs' e)::L)):
  cK P l fr fin k .e ⟨dd,.call ⟨.builtin .append,#[x,y],#[t,t]⟩,ty,pos,af,g⟩ sk acc L:=
 jY hg (fun _=>pP (br ok ht).1 (eJ ok hz) hx hy (cR hu) (Nat.ble_eq .. ▸hby)) fun q L' ⟨b',cs',h1,h2,h3,h4⟩=>by subst h1;subst h4;exact h b' cs' h2 h3
end
def FK (P:Program) (t:TypeId) (name:String) (f:FuncId) (ptr:Bool) (e:TypeId):Bool:=(match P.underlying t with | some (.pointer e')=>Nat.beq e' e | _=>false) && match P.info? t with
 | some ti=>match ti.methods.find? (·.name==name) with
  | some m=>m.path.isEmpty && (match m.func with | some (f',p')=>Nat.beq f' f && (p'==ptr) | none=>false)
  | none=>false
 | none=>false
theorem iM {P:Program} {t:TypeId} {name:String} {f:FuncId} {ptr:Bool} {e:TypeId} (h:FK P t name f ptr e=true):mI P t name f ptr e:=by
 unfold FK at h
 rw [Bool.and_eq_true] at h
 obtain ⟨h1,h2⟩:=h
 split at h1
 ·rename_i e' hu
  rw [Nat.beq_eq] at h1
  subst h1
  split at h2
  ·rename_i ti hti
   split at h2
   ·rename_i m hm
    rw [Bool.and_eq_true] at h2
    obtain ⟨h3,h4⟩:=h2
    split at h4
    ·rename_i f' p' hf
     rw [Bool.and_eq_true,Nat.beq_eq,beq_iff_eq] at h4
     refine ⟨hu,ti,m,hti,hm,?_,by rw [hf,h4.1,h4.2]⟩
     simpa using h3
    ·cases h4
   ·cases h2
  ·cases h2
 ·cases h1
end Go.Proofs.YtpmdfoaadejmkaaGreatDoor
namespace Go.Proofs.YtpmdfoaadejmkaaGreatDoor
open Go.RowKit Go.MapKept
section
variable {P:Program} {fr:c7} {B:Bs} {L:AL}
theorem AO.as {o:Oper} {a b:AV} (h:AO P o fr B L (fun c L'=>c=a∧L'=L)) (hv:∀σ v,VR σ a v→VR σ b v):AO P o fr B L (fun c L'=>c=b∧L'=L):=
 fun σ ρ w hρ hw=>(h σ ρ w hρ hw).mono fun _ _ ⟨τ,c,L',h1,h2,h3,h4,h5⟩=>⟨τ,b,L',h1,hv τ _ (by rw [←h4];exact h2),h3,rfl,h5⟩
end
section
variable {P:Program} {tt:TT} {l:List Oper} {fr:c7} {fin:jO} {sk:mG} {acc:c7} {L:AL} {k:Nat} {dd:Option Tmp} {ty t t':TypeId} {pos:String} {af:Array Edge} {g:Option (Nat×Bool)} {x y z:Operand} {u:AV}
theorem z7 (i:Nat) (v0:Value) (a:AV) {b kt et:Nat} {kd:TypeDesc} {q:Value} {m:Value→Option AV} (ht:P.underlying t=some (.map kt et)) (hkt:P.underlying kt=some kd) (hx:bn (cB l.toArray acc fr af.toList) x=some (.sc (.map (some b)))) (hy:bn (cB l.toArray acc fr af.toList) y=some (.sc q)) (hk:IsKey kd q) (hL:L[i]?=some (b,cX kd m)) (hz:lB P et v0=true) (ha:∀σ v,VR σ ((m q).getD (.sc v0)) v→VR σ a v) (hg:iX ⟨dd,.lookup t x y false,ty,pos,af,g⟩ acc) (h:DA P l fr fin sk ((k,a)::acc) L):
  cK P l fr fin k .e ⟨dd,.lookup t x y false,ty,pos,af,g⟩ sk acc L:=
 jY hg (fun B=>(lE i ht hkt hx hy hk hL (fZ hz) fun _=> .sc _).as ha) fun c L' ⟨h1,h2⟩=>by subst h1;subst h2;exact h
theorem f8 (ok:er P tt) (L0:AL) {e sz by_:Nat} {q:Option (Nat×Nat)} {l1 l2:List (List AV)} (ht:jK tt t=some (e,sz,by_)) (hx:bn (cB l.toArray acc fr af.toList) x=some (.vec q sz l1)) (hy:bn (cB l.toArray acc fr af.toList) y=some u) (hu:ip u=some (sz,l2)) (hL:L.Perm (tok q e sz l1.length++L0)) (h63:l1.length+l2.length≤9223372036854775807) (hby:(l1.length+l2.length) * by_≤140737488355328) (hg:iX ⟨dd,.call ⟨.builtin .append,#[x,y],#[t,t]⟩,ty,pos,af,g⟩ acc)
  (h:∀k',DA P l fr fin sk ((k,.vec k' sz (l1++l2))::acc) (tok k' e sz (l1++l2).length++L0)):
  cK P l fr fin k .e ⟨dd,.call ⟨.builtin .append,#[x,y],#[t,t]⟩,ty,pos,af,g⟩ sk acc L:=
 jY hg (fun _=>nR L0 (br ok ht).1 (br ok ht).2 hx hy (cR hu) hL h63 hby) fun c L' ⟨k',h1,h2⟩=>by subst h1;subst h2;exact h k'
end
section
variable {P:Program} {r:Option Nat} {ops:Array Oper} {Q:Exit→Act→World→Prop} {nt:Nat} {D:List Deferred} {fr:c7} {B:Bs} {L:AL} {rest:List Oper} {d:Nat} {ty t:TypeId} {pos:String} {af:Array Edge} {x y z:Operand} {u:AV}
theorem jz (i:Nat) (v0:Value) (a:AV) {b kt et:Nat} {kd:TypeDesc} {k:Value} {m:Value→Option AV} (ht:P.underlying t=some (.map kt et)) (hkt:P.underlying kt=some kd) (hx:bn fr x=some (.sc (.map (some b)))) (hy:bn fr y=some (.sc k)) (hk:IsKey kd k) (hL:L[i]?=some (b,cX kd m)) (hz:lB P et v0=true) (ha:∀σ v,VR σ ((m k).getD (.sc v0)) v→VR σ a v) (hd:Nat.ble nt d=false)
  (h:bI P r ops Q nt D rest ((d,a)::fr) B L):bI P r ops Q nt D (⟨some d,.lookup t x y false,ty,pos,af,none⟩::rest) fr B L:=
 cP hd rfl ((lE i ht hkt hx hy hk hL (fZ hz) fun _=> .sc _).as ha) fun c L' ⟨h1,h2⟩=>by subst h1;subst h2;exact h
end
noncomputable def og (m:Value→Option AV) (k:Value) (c:AV):Value→Option AV:=fun q=>open Classical in if q=k then some c else m q
theorem jx {m:Value→Option AV} {k:Value} {c:AV}:og m k c k=some c:=by simp [og]
theorem iN {m:Value→Option AV} {k:Value} {c:AV} (q:Value) (h:q≠k):og m k c q=m q:=by simp [og,h]
def nP (m:Value→Option AV) (M:Int→Int):Prop:=∀z,m (.int .i64 z)=none∧M z=0∨m (.int .i64 z)=some (.sc (.int .i64 (M z)))
theorem nP.at {m:Value→Option AV} {M:Int→Int} (h:nP m M) (z:Int):∀(σ:cr) (v:Value),VR σ ((m (.int .i64 z)).getD (.sc (.int .i64 0))) v→VR σ (.sc (.int .i64 (M z))) v:=by
 intro σ v hv
 rcases h z with ⟨h1,h2⟩ | h1
 ·rw [h1] at hv;rw [h2];exact hv
 ·rw [h1] at hv;exact hv
theorem nP.put {m:Value→Option AV} {M:Int→Int} (h:nP m M) (z c:Int):nP (og m (.int .i64 z) (.sc (.int .i64 c))) fun q=>if q=z then c else M q:=by
 intro q
 by_cases e:q=z
 ·subst e;simp only [if_true,jx];exact .inr trivial
 ·simp only [if_neg e];rw [iN _ (by intro h;injection h with _ h;exact e h)];exact h q
def pJ (m:Value→Option AV) (K:Int→Option (Nat×Nat)) (U:Int→List Int):Prop:=∀z,(m (.int .i64 z)=none∧U z=[]∧K z=none)∨m (.int .i64 z)=some (.vec (K z) 1 (aX (U z)))
theorem pJ.at {m:Value→Option AV} {K:Int→Option (Nat×Nat)} {U:Int→List Int} (h:pJ m K U) (z:Int):∀(σ:cr) (v:Value),VR σ ((m (.int .i64 z)).getD (.sc (.slice none 0 0))) v→VR σ (.vec (K z) 1 (aX (U z))) v:=by
 intro σ v hv
 rcases h z with ⟨h1,h2,h3⟩ | h1
 ·rw [h1] at hv;rw [h2,h3];exact cS 1 hv
 ·rw [h1] at hv;exact hv
theorem pJ.put {m:Value→Option AV} {K:Int→Option (Nat×Nat)} {U:Int→List Int} (h:pJ m K U) (z:Int) (k:Option (Nat×Nat)) (l:List Int):pJ (og m (.int .i64 z) (.vec k 1 (aX l))) (fun q=>if q=z then k else K q) fun q=>if q=z then l else U q:=by
 intro q
 by_cases e:q=z
 ·subst e;simp only [if_true,jx];exact .inr trivial
 ·simp only [if_neg e]
  rw [iN _ (by intro h;injection h with _ h;exact e h)]
  exact h q
def mE (e:TypeId) (K:Int→Option (Nat×Nat)) (U:Int→List Int) (zs:List Int):AL:=zs.flatMap fun z=>tok (K z) e 1 (aX (U z)).length
theorem oy {e:TypeId} {K:Int→Option (Nat×Nat)} {U:Int→List Int}:∀{zs:List Int} {z:Int},z∈zs→(mE e K U zs).Perm (tok (K z) e 1 (aX (U z)).length++mE e K U (zs.erase z))
 | y::zs,z,h=>by
  by_cases hz:y=z
  ·subst hz
   rw [List.erase_cons_head]
   exact Jo _
  ·have hm:z∈zs:=by
    rcases List.mem_cons.1 h with h | h
    ·exact absurd h.symm hz
    ·exact h
   rw [List.erase_cons_tail (by simpa using hz)]
   have ih:=oy (e:=e) (K:=K) (U:=U) hm
   unfold mE at ih ⊢
   rw [List.flatMap_cons,List.flatMap_cons]
   refine (List.Perm.append_left _ ih).trans ?_
   rw [←List.append_assoc,←List.append_assoc]
   exact List.Perm.append_right _ List.perm_append_comm
theorem xn {e:TypeId} {K K':Int→Option (Nat×Nat)} {U U':Int→List Int} {zs:List Int} (h:∀z∈zs,K z=K' z∧U z=U' z):mE e K U zs=mE e K' U' zs:=by
 unfold mE
 induction zs with
 | nil=>rfl
 | cons z zs ih=>
  rw [List.flatMap_cons,List.flatMap_cons,ih fun y hy=>h y (Jt _ hy),(h z (List.mem_cons_self ..)).1,(h z (List.mem_cons_self ..)).2]
theorem Dj {e:TypeId} {K:Int→Option (Nat×Nat)} {U:Int→List Int} {zs:List Int} {z:Int} {k:Option (Nat×Nat)} {l:List Int} (hn:zs.Nodup) (h:z∈zs):(tok k e 1 (aX l).length++mE e K U (zs.erase z)).Perm (mE e (fun q=>if q=z then k else K q) (fun q=>if q=z then l else U q) zs):=by
 have h1:=oy (e:=e) (K:=fun q=>if q=z then k else K q) (U:=fun q=>if q=z then l else U q) h
 simp only [if_true] at h1
 refine List.Perm.trans ?_ h1.symm
 rw [xn (K:=K) (U:=U) (K':=fun q=>if q=z then k else K q) (U':=fun q=>if q=z then l else U q) fun y hy=>by
  have hne:y≠z:=fun e=>by subst e;exact (List.Nodup.not_mem_erase hn) hy
  simp only [if_neg hne]
  exact ⟨trivial,trivial⟩]
theorem An (e:TypeId) (U:Int→List Int) (zs:List Int):mE e (fun _=>none) U zs=[]:=by
 unfold mE tok
 induction zs with
 | nil=>rfl
 | cons z zs ih=>rw [List.flatMap_cons,ih];rfl
end Go.Proofs.YtpmdfoaadejmkaaGreatDoor
namespace Go.Proofs.YtpmdfoaadejmkaaGreatDoor
open Go.RowKit
section
variable {P:Program} {r:Option Nat} {ops:Array Oper} {Q:Exit→Act→World→Prop} {nt:Nat} {D:List Deferred} {fr:c7} {B:Bs} {L:AL} {cd:Code}
def pI (nt:Nat) (B:Bs) {α:Type} (Dx:α→List Deferred) (V:α→c7) (fr0:c7) (C:α→Prop) (Lx:α→AL) (μ:α→Nat) (x:α) (Q:Exit→Act→World→Prop):Exit→Act→World→Prop:=Exit.then (fun a w=>∃σ x',jb σ nt (Dx x') (V x'++fr0) a∧C x'∧d6 B σ (Lx x') w∧μ x' < μ x) Q
theorem Bd (ks:List Nat) {α:Type} (Dx:α→List Deferred) (V:α→c7) (C:α→Prop) (Lx:α→AL) (μ:α→Nat) (x0:α) {fr0:c7} (hk:gy fr ks=some fr0) (hV:me (V x0) fr) (hD:D=Dx x0) (hC:C x0) (hL:∀σ w,d6 B σ L w→d6 B σ (Lx x0) w)
  (hb:∀x,C x→AT P r cd (pI nt B Dx V fr0 C Lx μ x Q) nt (Dx x) (V x++fr0) B (Lx x)):AT P r (.loop cd) Q nt D fr B L:=by
 intro σ a w ha hw
 subst hD
 classical
 let G:Nat→Act→World→Prop:=fun m a w=>∃σ x,jb σ nt (Dx x) (V x++fr0) a∧C x∧d6 B σ (Lx x) w∧μ x=m
 let M:Act→World→Nat:=fun a w=>if h:∃m,G m a w∧∀m',G m' a w→m≤m' then h.choose else 0
 have least:∀a w,(∃m,G m a w)→G (M a w) a w∧∀m',G m' a w→M a w≤m':=by
  rintro a w ⟨m0,hg0⟩
  have hex:∃m,G m a w∧∀m',G m' a w→m≤m':=by
   have:∀k,∀m,m≤k→G m a w→∃m,G m a w∧∀m',G m' a w→m≤m':=by
    intro k
    induction k with
    | zero=>intro m hm hg;exact ⟨m,hg,fun m' _=>by omega⟩
    | succ k ih=>
     intro m hm hg
     by_cases h:∃m',m' < m∧G m' a w
     ·obtain ⟨m',hlt,hg'⟩:=h
      exact ih m' (by omega) hg'
     ·exact ⟨m,hg,fun m' hg'=>by
       rcases Nat.lt_or_ge m' m with hlt | hge
       ·exact absurd ⟨m',hlt,hg'⟩ h
       ·exact hge⟩
   exact this m0 m0 (Nat.le_refl _) hg0
  have hM:M a w=hex.choose:=dif_pos hex
  rw [hM];exact hex.choose_spec
 refine wpIn_loop (fun a w=>∃m,G m a w) M ⟨_,σ,x0,ha.weak (mM hV (dO ks hk)),hC,hL σ w hw,rfl⟩ ?_
 intro a w hI
 obtain ⟨⟨σ',x,hx,hj,hst,hm⟩,_⟩:=least a w hI
 refine wpIn_mono (hb x hj σ' a w hx hst) ?_
 intro e a' w' hq
 cases e with
 | normal=>
  obtain ⟨τ,x',hx',hj',hst',hlt⟩:=hq
  have hg:G (μ x') a' w':=⟨τ,x',hx',hj',hst',rfl⟩
  refine ⟨⟨_,hg⟩,?_⟩
  have:=(least a' w' ⟨_,hg⟩).2 (μ x') hg
  omega
 | _=>exact hq
theorem nU {α:Type} {Dx:α→List Deferred} {V:α→c7} {fr0:c7} {C:α→Prop} {Lx:α→AL} {μ:α→Nat} {x:α} (x':α) (hk:gy fr (fr0.map (·.1))=some fr0) (hV:me (V x') fr) (hD:D=Dx x') (hC:C x') (hm:μ x' < μ x) (hL:∀σ w,d6 B σ L w→d6 B σ (Lx x') w):
  AX P .normal (pI nt B Dx V fr0 C Lx μ x Q) nt D fr B L:=fun σ a w ha hw=>by
 subst hD
 exact ⟨σ,x',ha.weak (mM hV (dO _ hk)),hC,hL _ _ hw,hm⟩
theorem rC {α:Type} {Dx:α→List Deferred} {V:α→c7} {fr0:c7} {C:α→Prop} {Lx:α→AL} {μ:α→Nat} {x:α} {id:Nat} (h:AX P (.exit id) Q nt D fr B L):AX P (.exit id) (pI nt B Dx V fr0 C Lx μ x Q) nt D fr B L:=fun σ a w ha hw=>h σ a w ha hw
end
section
variable {nt:Nat} {D:List Deferred} {B:Bs} {fr:c7} {L:AL}
theorem sV {t b e sz n:Nat} {cs:List AV} {l:List (List AV)} (i:Nat) (hl:cg fr t=some (.iptr [.sc (.slice (some ⟨b,0,none⟩) n n)])) (hL:L[i]?=some (b,.box cs e)) (hc:cs=l.flatten) (hs:∀q∈l,q.length=sz) (hn:l.length=n) (h63:n≤9223372036854775807):mL nt D B fr L ((t,.iptr [.imm sz l])::fr) ((b,.vec e sz n n)::L.eraseIdx i):=by
 intro σ a w ha hw0
 have hw:=hw0.perm (fm hL)
 obtain ⟨o,ho,vs,rfl,hvs,h1⟩:=hw.here _ (List.mem_cons_self ..)
 have hfree:=hw.free _ (List.mem_cons_self ..)
 have hvl:vs.length=n * sz:=by rw [←hvs.1,hc,fb l hs,hn]
 have hst:d6 B σ ((b,.vec e sz 0 n)::L.eraseIdx i) w:=by
  refine ⟨hw.os,hw.tape,hw.output,hw.size,hw.old,fun p hp=>?_,fun p hp=>?_,by simpa using hw.apart,hw.froz,fun p hp off hm=>?_,hw.grow,hw.same⟩
  ·rcases List.mem_cons.1 hp with rfl | hp'
   ·exact ⟨_,ho,_,rfl,by simp [hvl],Nat.zero_le _,by unfold maxLen;omega⟩
   ·exact hw.here p (Jt _ hp')
  ·rcases List.mem_cons.1 hp with rfl | hp'
   ·exact hw.mine (b,.box cs e) (List.mem_cons_self ..)
   ·exact hw.mine p (Jt _ hp')
  ·rcases List.mem_cons.1 hp with rfl | hp'
   ·exact hfree off trivial
   ·exact hw.free p (Jt _ hp') off hm
 obtain ⟨hst',hle⟩:=hst.freezeHead (n':=n) (xs:=vs) (fun j u hj=>by rw [cV ho];simpa using hj) hvl (Nat.zero_le _) (Nat.le_refl _)
 refine ⟨_,?_,hst'⟩
 have hv:VR (σ.add b vs) (.vec (some (b,n)) sz l) (.slice (some ⟨b,0,none⟩) n n):=by
  have:=lA (σ:=σ.add b vs) (b:=b) (cap:=n) hs (by rw [←hc];exact hvs.mono hle) h1 (by omega) (by unfold maxLen;omega) (fun j u hj=>cr.add_at hj)
  rwa [hn] at this
 have ha':=ha.mono hle
 refine ⟨ha'.size,ha'.defers,fun t' v' hl'=>?_⟩
 rw [cw] at hl'
 by_cases e:t=t'
 ·subst e
  simp only [if_true,Option.some.injEq] at hl'
  subst hl'
  have hp:=ha.look t _ hl
  generalize a.tmps.getD t undef=v0 at hp
  generalize hq:AV.iptr [.sc (.slice (some ⟨b,0,none⟩) n n)]=q at hp
  cases hp with
  | iptr cs2 b0 off hx h=>
   injection hq with hq
   subst hq
   refine .iptr _ b0 off (fun j hj=>?_) fun j c u hc hu=>?_
   ·obtain ⟨u,hu,h1⟩:=hx j hj
    exact ⟨u,hle _ _ _ hu,h1⟩
   ·have hj:j=0:=by
     have:=(Jp hc).1
     simp at this
     exact this
    subst hj
    simp at hc
    subst hc
    obtain ⟨u',hu',_⟩:=hx 0 (by simp)
    have h2:=hle _ _ _ hu'
    rw [hu] at h2
    injection h2 with h2
    subst h2
    rw [(h 0 _ u rfl hu').sc_inv]
    exact hv.im
  | _=>cases hq
 ·rw [if_neg e] at hl'
  exact ha'.look t' v' hl'
end
end Go.Proofs.YtpmdfoaadejmkaaGreatDoor
