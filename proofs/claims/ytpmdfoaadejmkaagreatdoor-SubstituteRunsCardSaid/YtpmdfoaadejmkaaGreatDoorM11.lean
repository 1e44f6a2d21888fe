/-
  The program: glyphs, as check looks at them, with anchors and deltas.
-/
import Derived.Test.YtpmdfoaadejmkaaGreatDoorM10
import Derived.Test.YtpmdfoaadejmkaaGreatDoorM07
namespace Go.Proofs.YtpmdfoaadejmkaaGreatDoor
open Go.RowKit
attribute [local irreducible] AT bK AX AO Av Kt bh dw DA cK
theorem Dr:jS Tryz.prog 293:=⟨⟨_,_,Tryz.underlying293,⟨by decide,by decide⟩,⟨rfl,rfl⟩,Tryz.underlying3,Tryz.underlying3⟩,Tryz.stoodInHeld293⟩
theorem Ha:jS Tryz.prog 296:=⟨⟨_,_,Tryz.underlying296,⟨by decide,by decide⟩,⟨rfl,rfl⟩,Tryz.underlying3,Tryz.underlying3⟩,Tryz.stoodInHeld296⟩
def oa (l:List dv) (a b:Int):Option AV:=if ∃x∈l,x.Kind=a∧x.Class=b then some (dY true) else none
theorem Cz:oa []=fun _ _=>none:=by funext a b;simp [oa]
theorem zH (l:List dv) (a b:Int):(oa l a b).getD (dY false)=dY (decide (∃x∈l,x.Kind=a∧x.Class=b)):=by
 unfold oa
 by_cases h:∃x∈l,x.Kind=a∧x.Class=b
 ·rw [if_pos h,decide_eq_true h];rfl
 ·rw [if_neg h,decide_eq_false h];rfl
theorem zJ {l:List dv} {i:Nat} {x:dv} (h:l[i]?=some x):oa (l.take (i+1)) x.Kind x.Class=some (dY true):=by
 unfold oa
 rw [if_pos ⟨x,by rw [List.take_add_one,h];simp,rfl,rfl⟩]
theorem wV {l:List dv} {i:Nat} {x:dv} (h:l[i]?=some x) (p q:Int) (hne:¬(p=x.Kind∧q=x.Class)):oa (l.take (i+1)) p q=oa (l.take i) p q:=by
 unfold oa
 have:(∃y∈l.take (i+1),y.Kind=p∧y.Class=q)↔∃y∈l.take i,y.Kind=p∧y.Class=q:=by
  rw [List.take_add_one,h]
  simp only [Option.toList_some,List.mem_append,List.mem_singleton]
  constructor
  ·rintro ⟨y,hy | rfl,h1⟩
   ·exact ⟨y,hy,h1⟩
   ·exact absurd ⟨h1.1.symm,h1.2.symm⟩ hne
  ·rintro ⟨y,hy,h1⟩
   exact ⟨y,Or.inl hy,h1⟩
 by_cases hc:∃y∈l.take i,y.Kind=p∧y.Class=q
 ·rw [if_pos hc,if_pos (this.2 hc)]
 ·rw [if_neg hc,if_neg (fun h=>hc (this.1 h))]
set_option maxHeartbeats 1000000 in
theorem vU (g:bz) (i:Nat) (a:dv) (ha:g.Anchors[i]?=some a) (m:Nat):AC Tryz.prog 205 [aF i,.agg (d8 a),.iptr [dY g.Mark],.iptr [.sc (.map (some m))]] [(m,i5 (oa (g.Anchors.take i)))] fun c L'=>c=aF (mc g i a)∧(mc g i a=0→L'=[(m,i5 (oa (g.Anchors.take (i+1))))]):=by
 refine aN Tryz.func205 rfl Tryz.ntmps205 rfl fun B=>?_
 repeat' (first|refine JU ?_|refine JG a5 JA ?_|(apply aM;first|refine JI 7 a5 0 JF ?_|refine JI 7 a5 1 JF ?_|refine JI 7 a5 2 JF ?_|refine JH a5 0 JE ?_|refine JH a5 1 JE ?_|refine JH a5 2 JE ?_|refine JH a5 3 JE ?_|fail)|refine bf ?_|refine bj a5 fun _=>?_|fail)
 refine dp (t:=8) [2,3,5,7] (a.Kind=3∨a.Kind=4) rfl (fun Q' K=>?_) ?_
 ·repeat' (first|refine JU ?_|refine JG a5 JA ?_|refine JO JA ?_|refine JP JC ?_|refine JS JB (fun _=>?_) (fun _=>?_))
  all_goals exact K _ _ rfl rfl (by clear K;grind)
 repeat' (first|refine JU ?_|refine am ?_|refine JG a5 JA ?_)
 refine dp (t:=22) [2,3,5,7,8] (a.Kind < 1∨a.Kind > 4) rfl (fun Q' K=>?_) ?_
 ·repeat' (first|refine JU ?_|refine JG a5 JA ?_|refine JO JA ?_|refine JP JC ?_|refine JS JB (fun _=>?_) (fun _=>?_))
  all_goals exact K _ _ rfl rfl (by clear K;grind)
 repeat' (first|refine JU ?_|fail)
 refine ar rfl (fun h1=>?_) (fun h1=>?_)
 ·have h0:=h1
  replace h1:=Jz h1
  rw [h0]
  repeat' (first|refine JU ?_|refine JG a5 JA ?_|refine bD rfl ?_)
  refine JM JA ?_
  rw [show mc g i a=35 from if_pos (.inl h1)]
  exact ⟨rfl,fun e=>absurd e (by decide)⟩
 have h0:=h1
 replace h1:=Jy h1
 rw [h0]
 clear h0
 repeat' (first|refine JU ?_|refine JG a5 JA ?_)
 refine dp (t:=22) [2,3,5,7,8] (a.Class < 0∨a.Class > 15) rfl (fun Q' K=>?_) ?_
 ·repeat' (first|refine JU ?_|refine JG a5 JA ?_|refine JO JA ?_|refine JP JC ?_|refine JS JB (fun _=>?_) (fun _=>?_))
  all_goals exact K _ _ rfl rfl (by clear K;grind)
 repeat' (first|refine JU ?_|fail)
 refine ar rfl (fun h2=>?_) (fun h2=>?_)
 ·have h0:=h2
  replace h2:=Jz h2
  rw [h0]
  repeat' (first|refine JU ?_|refine JG a5 JA ?_|refine bD rfl ?_)
  refine JM JA ?_
  rw [show mc g i a=35 from if_pos (.inr (.inl h2))]
  exact ⟨rfl,fun e=>absurd e (by decide)⟩
 have h0:=h2
 replace h2:=Jy h2
 rw [h0]
 clear h0
 repeat' (first|refine JU ?_|refine JG a5 JA ?_)
 refine dp (t:=22) [2,3,5,7] ((a.Kind=3∨a.Kind=4)∧a.Class≠0) rfl (fun Q' K=>?_) ?_
 ·generalize hj:decide (a.Kind=3∨a.Kind=4)=j
  have hj':(a.Kind=3∨a.Kind=4)↔j=true:=by rw [←hj,decide_eq_true_eq]
  repeat' (first|refine JU ?_|refine JG a5 JA ?_|refine JO JA ?_|refine JP JC ?_|refine JS JB (fun _=>?_) (fun _=>?_))
  all_goals exact K _ _ (by first | rfl | (subst_vars;rfl)) rfl (by clear K;grind)
 repeat' (first|refine JU ?_|fail)
 refine ar rfl (fun h3=>?_) (fun h3=>?_)
 ·have h0:=h3
  replace h3:=Jz h3
  rw [h0]
  repeat' (first|refine JU ?_|refine JG a5 JA ?_|refine bD rfl ?_)
  refine JM JA ?_
  rw [show mc g i a=35 from if_pos (.inr (.inr (.inl h3)))]
  exact ⟨rfl,fun e=>absurd e (by decide)⟩
 have h0:=h3
 replace h3:=Jy h3
 rw [h0]
 clear h0
 repeat' (first|refine JU ?_|refine JG a5 JA ?_|refine bN a5 ?_|(apply bw;refine bn ?_)|fail)
 refine ar rfl (fun h4=>?_) (fun h4=>?_)
 ·rw [h4]
  repeat' (first|refine JU ?_|refine JG a5 JA ?_|refine bD rfl ?_)
  refine JM JA ?_
  rw [show mc g i a=35 from if_pos (.inr (.inr (.inr (.inl (by rw [←Bool.not_eq_true',h4])))))]
  exact ⟨rfl,fun e=>absurd e (by decide)⟩
 rw [h4]
 repeat' (first|refine JU ?_|refine JG a5 JA ?_)
 refine dp (t:=22) [3,7] (a.Kind=2∧g.Mark=false) rfl (fun Q' K=>?_) ?_
 ·repeat' (first|refine JU ?_|refine JG a5 JA ?_|refine JO JA ?_|refine JP JC ?_|refine JS JB (fun _=>?_) (fun _=>?_))
  all_goals exact K _ _ rfl rfl (by clear K;grind)
 repeat' (first|refine JU ?_|fail)
 refine ar rfl (fun h5=>?_) (fun h5=>?_)
 ·have h0:=h5
  replace h5:=Jz h5
  rw [h0]
  repeat' (first|refine JU ?_|refine JG a5 JA ?_|refine bD rfl ?_)
  refine JM JA ?_
  rw [show mc g i a=35 from if_pos (.inr (.inr (.inr (.inr (.inl h5)))))]
  exact ⟨rfl,fun e=>absurd e (by decide)⟩
 have h0:=h5
 replace h5:=Jy h5
 rw [h0]
 clear h0
 repeat' (first|refine JU ?_|refine JG a5 JA ?_)
 refine wY 0 (.bool false) Tryz.underlying291 Dr rfl rfl rfl (by kernel_rfl) rfl ?_
 rw [zH]
 repeat' (first|refine JU ?_|refine JG a5 JA ?_)
 refine ar rfl (fun h6=>?_) (fun h6=>?_)
 ·rw [h6]
  repeat' (first|refine JU ?_|refine JG a5 JA ?_)
  refine JM JA ?_
  rw [show mc g i a=35 from if_pos (.inr (.inr (.inr (.inr (.inr (Jz h6))))))]
  exact ⟨rfl,fun e=>absurd e (by decide)⟩
 rw [h6]
 repeat' (first|refine JU ?_|refine JG a5 JA ?_)
 refine tD 0 (oa (g.Anchors.take (i+1))) Tryz.underlying291 Dr rfl rfl rfl rfl (zJ ha) (wV ha) ?_
 repeat' (first|refine JU ?_|refine JG a5 JA ?_)
 refine JM JA ?_
 have h4':[a.X,a.Y].all gp=true:=by simpa using h4
 have h6':=Jy h6
 rw [show mc g i a=0 from if_neg (by
  rintro (h | h | h | h | h | h)
  ·exact h1 h
  ·exact h2 h
  ·exact h3 h
  ·rw [h4'] at h;cases h
  ·exact h5 h
  ·exact h6' h)]
 exact ⟨rfl,fun _=>rfl⟩
def rj (a b c d:Int):Bool:=decide (a < c∨(a=c∧b < d))
theorem w9 (a b c d:Int):bJ Tryz.prog 209 [.agg [aF a,aF b],.agg [aF c,aF d]] (dY (rj a b c d)):=by
 refine aN Tryz.func209 rfl Tryz.ntmps209 rfl fun B=>?_
 repeat' (first|refine JU ?_|refine JG a5 JA ?_|refine bf ?_|fail)
 refine dp (t:=4) [] (rj a b c d=true) rfl (fun Q' K=>?_) ?_
 ·repeat' (first|refine JU ?_|refine JG a5 JA ?_|refine JO JA ?_|refine JP JC ?_|refine dz rfl rfl rfl ?_|refine JS JB (fun _=>?_) (fun _=>?_))
  all_goals exact K _ _ rfl rfl (by clear K;unfold rj;grind)
 repeat' (first|refine JU ?_|fail)
 refine JM JA ?_
 simp
def fQ (l:List dH) (i:Nat):Int×Int:=match i with | 0=>(0,0) | j+1=>match l[j]? with | some b=>(b.Region,b.Point) | none=>(0,0)
def qB (g:bz) (i:Nat) (d:dH):Bool:=decide (0 < i∧((d.Region=(fQ g.Deltas i).1∧d.Point=(fQ g.Deltas i).2)∨rj d.Region d.Point (fQ g.Deltas i).1 (fQ g.Deltas i).2=true))
theorem EI {g:bz} {i:Nat} {d:dH} (hd:g.Deltas[i]?=some d):(match i with | 0=>false | j+1=>match g.Deltas[j]? with | some b=>decide (d.Region < b.Region∨(d.Region=b.Region∧d.Point≤b.Point)) | none=>false)=qB g i d:=by
 unfold qB
 cases i with
 | zero=>simp
 | succ j=>
  have hj:j < g.Deltas.length:=by have:=(Jq hd).1;omega
  obtain ⟨b,hb⟩:∃b,g.Deltas[j]?=some b:=⟨_,Hb hj⟩
  simp only [hb,fQ,rj]
  rw [Bool.eq_iff_iff,decide_eq_true_eq,decide_eq_true_eq,decide_eq_true_eq]
  omega
theorem Eb {f:b7} {g:bz} {i:Nat} {d:dH} (hd:g.Deltas[i]?=some d):rE f g i d=if d.Region < 0∨d.Region≥f.Regions.length then 61 else if (d.Point < -1∨d.Point≥g.Points.length)∨[d.X,d.Y].all gp=false∨(d.Point= -1∧d.Y≠0) then 30 else if qB g i d=true then 24 else 0:=by
 unfold rE
 rw [←EI hd]
 cases i <;> rfl
set_option maxHeartbeats 1000000 in
theorem zi (f:b7) (g:bz) (i:Nat) (d:dH) (hd:g.Deltas[i]?=some d) (R N:Int) (hR:R=f.Regions.length) (hN:N=g.Points.length) (b:Nat):AC Tryz.prog 208 [aF i,.agg (dZ d),.iptr [aF R],.iptr [aF N],.sc (.pointer (some ⟨b,0,none⟩))] [(b,.box [aF (fQ g.Deltas i).1,aF (fQ g.Deltas i).2] 296)] fun c L'=>c=aF (rE f g i d)∧(rE f g i d=0→L'=[(b,.box [aF (fQ g.Deltas (i+1)).1,aF (fQ g.Deltas (i+1)).2] 296)]):=by
 refine aN Tryz.func208 rfl Tryz.ntmps208 rfl fun B=>?_
 rw [Eb hd,←hR,←hN]
 have hnext:fQ g.Deltas (i+1)=(d.Region,d.Point):=by simp only [fQ,hd]
 rw [hnext]
 repeat' (first|refine JU ?_|refine am ?_|refine JG a5 JA ?_|(apply aM;first|refine JI 8 a5 0 JF ?_|refine JI 8 a5 1 JF ?_|refine JI 8 a5 2 JF ?_|refine JH a5 0 JE ?_|refine JH a5 1 JE ?_|refine JH a5 2 JE ?_|refine JH a5 3 JE ?_|fail)|refine bf ?_|refine bj a5 fun _=>?_|fail)
 refine bX [0,3,4,6,8] (d.Region < 0∨d.Region≥R) rfl (fun Q' K=>?_) (fun h1=>?_) (fun h1=>?_)
 ·repeat' (first|refine JU ?_|refine JG a5 JA ?_|refine JO JA ?_|refine JP JC ?_|refine JS JB (fun _=>?_) (fun _=>?_))
  all_goals exact K _ _ rfl rfl (by clear K;grind)
 ·rw [if_pos h1]
  repeat' (first|refine JU ?_|refine JG a5 JA ?_)
  exact JM JA ⟨rfl,fun e=>absurd e (by decide)⟩
 rw [if_neg h1]
 repeat' (first|refine JU ?_|refine JG a5 JA ?_)
 refine dp (t:=24) [0,4,6,8] (d.Point < -1∨d.Point≥N) rfl (fun Q' K=>?_) ?_
 ·repeat' (first|refine JU ?_|refine JG a5 JA ?_|refine JO JA ?_|refine JP JC ?_|refine JS JB (fun _=>?_) (fun _=>?_))
  all_goals exact K _ _ rfl rfl (by clear K;grind)
 repeat' (first|refine JU ?_|fail)
 refine ar rfl (fun h2=>?_) (fun h2=>?_)
 ·have h0:=h2
  replace h2:=Jz h2
  rw [h0]
  rw [if_pos (.inl h2)]
  repeat' (first|refine JU ?_|refine JG a5 JA ?_|refine bD rfl ?_)
  exact JM JA ⟨rfl,fun e=>absurd e (by decide)⟩
 have h0:=h2
 replace h2:=Jy h2
 rw [h0]
 clear h0
 repeat' (first|refine JU ?_|refine JG a5 JA ?_|refine bN a5 ?_|(apply bw;refine bn ?_)|fail)
 refine ar rfl (fun h3=>?_) (fun h3=>?_)
 ·rw [if_pos (.inr (.inl (by rw [←Bool.not_eq_true',h3]))),h3]
  repeat' (first|refine JU ?_|refine JG a5 JA ?_|refine bD rfl ?_)
  exact JM JA ⟨rfl,fun e=>absurd e (by decide)⟩
 rw [h3]
 repeat' (first|refine JU ?_|refine JG a5 JA ?_)
 refine dp (t:=24) [0,4,8] (d.Point= -1∧d.Y≠0) rfl (fun Q' K=>?_) ?_
 ·repeat' (first|refine JU ?_|refine JG a5 JA ?_|refine JO JA ?_|refine JP JC ?_|refine JS JB (fun _=>?_) (fun _=>?_))
  all_goals exact K _ _ rfl rfl (by clear K;grind)
 repeat' (first|refine JU ?_|fail)
 refine ar rfl (fun h4=>?_) (fun h4=>?_)
 ·have h0:=h4
  replace h4:=Jz h4
  rw [h0]
  rw [if_pos (.inr (.inr h4))]
  repeat' (first|refine JU ?_|refine JG a5 JA ?_)
  exact JM JA ⟨rfl,fun e=>absurd e (by decide)⟩
 have h0:=h4
 replace h4:=Jy h4
 rw [h0]
 clear h0
 have h3':[d.X,d.Y].all gp=true:=by simpa using h3
 rw [if_neg (by
  rintro (h | h | h)
  ·exact h2 h
  ·rw [h3'] at h;cases h
  ·exact h4 h)]
 repeat' (first|refine JU ?_|refine JG a5 JA ?_)
 refine bX [4,8] (qB g i d=true) rfl (fun Q' K=>?_) (fun h5=>?_) (fun h5=>?_)
 ·repeat' (first|refine JU ?_|refine JG a5 JA ?_|refine JO JA ?_|refine JP JC ?_|refine dz rfl rfl rfl ?_|(apply bF;first|refine JJ a5 0 JD ?_|refine JJ a5 1 JD ?_|refine JJ a5 2 JD ?_|refine JJ a5 3 JD ?_|refine JK a5 0 JD ?_|refine JK a5 1 JD ?_|refine JK a5 2 JD ?_|refine JL a5 1 JB (by assumption) rfl ?_|refine JL a5 0 JB (by assumption) rfl ?_|fail)|refine JS JB (fun _=>?_) (fun _=>?_))
  all_goals first
   | exact K _ _ rfl rfl (by clear K;unfold qB;grind)
   | (refine GV Ha Tryz.eqGuardType296 rfl rfl rfl ?_)
  repeat' (first|refine JU ?_|refine JG a5 JA ?_|refine JO JA ?_|refine JP JC ?_|(apply bF;first|refine JJ a5 0 JD ?_|refine JJ a5 1 JD ?_|refine JJ a5 2 JD ?_|refine JJ a5 3 JD ?_|refine JK a5 0 JD ?_|refine JK a5 1 JD ?_|refine JK a5 2 JD ?_|refine JL a5 1 JB (by assumption) rfl ?_|refine JL a5 0 JB (by assumption) rfl ?_|fail)|refine JS JB (fun _=>?_) (fun _=>?_))
  all_goals first
   | exact K _ _ rfl rfl (by clear K;unfold qB;grind)
   | (refine bn (hc:=⟨w9 d.Region d.Point (fQ g.Deltas i).1 (fQ g.Deltas i).2⟩) ?_)
  repeat' (first|refine JU ?_|refine JG a5 JA ?_|refine JO JA ?_)
  all_goals exact K _ _ rfl rfl (by clear K;unfold qB;grind)
 ·rw [if_pos h5]
  repeat' (first|refine JU ?_|refine JG a5 JA ?_)
  exact JM JA ⟨rfl,fun e=>absurd e (by decide)⟩
 rw [if_neg h5]
 repeat' (first|refine JU ?_|refine JG a5 JA ?_|(apply aM;first|refine JI 8 a5 0 JF ?_|refine JI 8 a5 1 JF ?_|refine JI 8 a5 2 JF ?_|refine JH a5 0 JE ?_|refine JH a5 1 JE ?_|refine JH a5 2 JE ?_|refine JH a5 3 JE ?_|fail))
 refine JM JA ⟨rfl,fun e=>?_⟩
 rfl
set_option maxHeartbeats 2000000 in
theorem zt (f:b7) (g:bz) (name:Int):bJ Tryz.prog 52 [bZ f,.agg (bR g),aF name] (aF (o8 f g name)):=by
 refine aN Tryz.func52 rfl Tryz.ntmps52 rfl fun B=>?_
 repeat' (first|refine JU ?_|refine JG a5 JA ?_|refine bf ?_|fail)
 refine br 30 [(0,.v),(1,.v),(2,.v),(3,.v),(4,.v),(5,.v),(6,.v),(7,.v),(8,.v),(9,.v),(12,.v),(13,.v),(14,.v),(15,.v),(16,.v),(17,.v),(18,.v),(19,.v),(20,.v),(23,.v),(10,.e),(11,.v),(21,.e),(22,.v),(24,.v),(25,.e),(26,.v),(27,.v),(28,.v),(29,.v)] none ?_ trivial rfl (by kernel_rfl) (by kernel_rfl) (by kernel_rfl) bQ (by kernel_rfl) rfl
 repeat' (first|refine aD ?_|refine b8 a5 ?_|(apply cW;refine du ?_)|fail)
 refine j4 [] [] (vV g.Mark) rfl rfl (Jp _) trivial fun c L1 ⟨m,hc,hL⟩=>?_
 subst hc;subst hL
 repeat' (first|refine aD ?_|(apply cW;refine du ?_)|fail)
 refine j4 [] _ (zj (f.Regions.map bU).length (g.Points.map dA).length) rfl rfl (Jp _) trivial fun c L1 ⟨b,hc,hL⟩=>?_
 subst hc;subst hL
 repeat' (first|refine aD ?_|(apply cW;refine du ?_)|refine ej a5 ?_|fail)
 refine j4 (L:=[(b,.box [aF 0,aF 0] 296),(m,i5 fun _ _=>none)]) _ [] (jt [⟨114,[.iptr [aF name]],[],name,0⟩,⟨115,[.iptr (bR g)],[],iQ g,0⟩,⟨201,[.iptr [.imm 3 (g.Parts.map eD)],.iptr [aF 8],.iptr [.fn 118 [.iptr (cE f)]]],[],(ct 8 g.Parts (lZ f)).1,(ct 8 g.Parts (lZ f)).2⟩,⟨203,[.iptr [.imm 4 (g.Anchors.map d8)],.iptr [aF 16],.iptr [.fn 205 [.iptr [dY g.Mark],.iptr [.sc (.map (some m))]]]],[(m,i5 fun _ _=>none)],(ct 16 g.Anchors (mc g)).1,(ct 16 g.Anchors (mc g)).2⟩,⟨206,[.iptr [.imm 4 (g.Deltas.map dZ)],.iptr [aF 400],.iptr [.fn 208 [.iptr [aF (f.Regions.map bU).length],.iptr [aF (g.Points.map dA).length],.sc (.pointer (some ⟨b,0,none⟩))]]],[(b,.box [aF 0,aF 0] 296)],(ct 400 g.Deltas (rE f g)).1,(ct 400 g.Deltas (rE f g)).2⟩,⟨124,[.iptr (bR g)],[],nl g.Hint,0⟩] ?_) rfl rfl (List.Perm.swap ..) trivial fun c L1 hc=>?_
 ·refine ⟨⟨inferInstance,wA name⟩,fun _=>⟨⟨inferInstance,wB g⟩,fun _=>⟨⟨inferInstance,Fb rfl g.Parts 8 _ (fun _ _=>True) [] trivial (fun _=>da fun i x _=>wC f i x)⟩,fun _=>⟨⟨inferInstance,Fc rfl g.Anchors 16 (fU g.Anchors (mc g)) (fun i L=>L=[(m,i5 (oa (g.Anchors.take i)))]) _ (by rw [List.take_zero,Cz]) ?_⟩,fun _=>⟨⟨inferInstance,Fd rfl g.Deltas 400 (fU g.Deltas (rE f g)) (fun i L=>L=[(b,.box [aF (fQ g.Deltas i).1,aF (fQ g.Deltas i).2] 296)]) _ rfl ?_⟩,fun _=>⟨⟨inferInstance,wD g⟩,fun _=>trivial⟩⟩⟩⟩⟩⟩
  ·intro _ i x L hx hL
   subst hL
   rw [iq hx]
   exact vU g i x hx m
  ·intro _ i x L hx hL
   subst hL
   rw [iq hx]
   exact zi f g i x hx _ _ (by rw [Jv]) (by rw [Jv]) b
 ·rw [ki] at hc
  subst hc
  unfold cu
  repeat' (first|refine aD ?_|refine b8 a5 ?_|fail)
  refine JQ [7,37] JA ?_
  repeat' (first|refine JU ?_|refine a7 ?_|refine JG a5 JA ?_)
  exact JN JB
instance (f:b7) (g:bz) (name:Int):AD Tryz.prog 52 [bZ f,.agg (bR g),aF name] (aF (o8 f g name)):=⟨zt f g name⟩
section
variable {P:Program} {l:List Oper} {fr:c8} {fin:jO} {sk:mE} {acc:c8} {L:AL} {k:Nat} {dd:Option Tmp} {ty t:TypeId} {pos:String} {af:Array Edge} {g:Option (Nat×Bool)} {x y:Operand}
theorem q9 (i:Nat) (v0:Value) {b kt et:Nat} {kd:TypeDesc} {q:Value} {m:Value→Option AV} (ht:P.underlying t=some (.map kt et)) (hkt:P.underlying kt=some kd) (hx:bo (cC l.toArray acc fr af.toList) x=some (.sc (.map (some b)))) (hy:bo (cC l.toArray acc fr af.toList) y=some (.sc q)) (hk:MapKept.IsKey kd q) (hL:L[i]?=some (b,cX kd m)) (hz:lz P et v0=true) (hg:iV ⟨dd,.lookup t x y false,ty,pos,af,g⟩ acc) (h:DA P l fr fin sk ((k,(m q).getD (.sc v0))::acc) L):
  cK P l fr fin k .e ⟨dd,.lookup t x y false,ty,pos,af,g⟩ sk acc L:=
 jY hg (fun B=>lC i ht hkt hx hy hk hL (g7 hz) fun _=> .sc _) fun c L' ⟨h1,h2⟩=>by subst h1;subst h2;exact h
end
def ux (f:b7) (c:gc) (late:Bool):Int:=if c.Rune < 0∨c.Rune > 1114111 then 1 else if la f c.Glyph=false then 32 else dX late 24
theorem Bz (f:b7) (c:gc) (late:Bool):bJ Tryz.prog 59 [bZ f,.agg (eh c),dY late] (aF (ux f c late)):=by
 refine aN Tryz.func59 rfl Tryz.ntmps59 rfl fun B=>?_
 unfold ux
 repeat' (first|refine JU ?_|refine am ?_|refine JG a5 JA ?_|refine bf ?_|fail)
 refine bX [2,3,4] (c.Rune < 0∨c.Rune > 1114111) rfl (fun Q' K=>?_) (fun hC=>?_) (fun hC=>?_)
 ·repeat' (first|refine JU ?_|refine JG a5 JA ?_|refine JO JA ?_|refine JP JC ?_|refine JS JB (fun _=>?_) (fun _=>?_))
  all_goals exact K _ _ rfl rfl (by clear K;grind)
 ·rw [if_pos hC]
  repeat' (first|refine JU ?_|refine JG a5 JA ?_)
  exact JN JB
 rw [if_neg hC]
 repeat' (first|refine JU ?_|refine JG a5 JA ?_|(apply bw;refine bn ?_)|fail)
 refine ar rfl (fun h=>?_) (fun h=>?_)
 ·rw [if_pos (by simpa using h)]
  repeat' (first|refine JU ?_|refine JG a5 JA ?_)
  exact JN JB
 rw [if_neg (by simpa using h)]
 repeat' (first|refine JU ?_|refine JG a5 JA ?_|(apply bw;refine bn ?_)|fail)
 exact JN JB
instance (f:b7) (c:gc) (late:Bool):AD Tryz.prog 59 [bZ f,.agg (eh c),dY late] (aF (ux f c late)):=⟨Bz f c late⟩
def y5 (f:b7) (i:Nat) (c:gc):Bool:=match i with | 0=>false | j+1=>match f.Chars[j]? with | some b=>decide (c.Rune≤b.Rune) | none=>false
def j3 (f:b7) (i:Nat) (c:gc):Int:=ux f c (y5 f i c)
theorem z4 (f:b7) (i:Nat) (c:gc) (hc:f.Chars[i]?=some c) (hm:(f.Chars.length:Int)≤1000):bJ Tryz.prog 58 [aF i,.agg (eh c),.iptr (cE f)] (aF (j3 f i c)):=by
 refine aN Tryz.func58 rfl Tryz.ntmps58 rfl fun B=>?_
 have hil:=(Jq hc).1
 unfold j3
 cases i with
 | zero=>
  repeat' (first|refine JU ?_|refine JG a5 JA ?_|refine bf ?_|fail)
  refine br 17 [(0,.v),(1,.v),(2,.v),(3,.v),(4,.v),(5,.v),(6,.v),(7,.v),(8,.v),(9,.v),(10,.v),(11,.v),(12,.v),(13,.v),(14,.v),(15,.v),(16,.v)] none ?_ trivial rfl (by kernel_rfl) (by kernel_rfl) (by kernel_rfl) bQ (by kernel_rfl) rfl
  repeat' (first|refine aD ?_|refine b8 a5 ?_|(apply cW;refine du ?_)|refine oJ rfl rfl ?_)
  refine JQ [22] JA ?_
  repeat' (first|refine JU ?_|refine a7 ?_|refine JG a5 JA ?_)
  exact JN JB
 | succ j=>
  obtain ⟨b,hb⟩:∃b,f.Chars[j]?=some b:=⟨_,Hb (by omega)⟩
  have hbg:(f.Chars.map eh)[(((j+1:Nat):Int) - 1).toNat]?=some (eh b):=by rw [show (((j+1:Nat):Int) - 1).toNat=j by omega];exact bH hb
  have hl:y5 f (j+1) c=decide (c.Rune≤b.Rune):=by simp [y5,hb]
  have hpos:decide (0 < ((j+1:Nat):Int))=true:=decide_eq_true (by omega)
  rw [hl]
  repeat' (first|refine JU ?_|refine JG a5 JA ?_|refine bf ?_|fail)
  refine br 17 [(0,.v),(1,.v),(2,.v),(3,.v),(4,.v),(5,.v),(6,.v),(7,.v),(8,.v),(9,.v),(10,.v),(11,.v),(12,.v),(13,.v),(14,.v),(15,.v),(16,.v)] none ?_ trivial rfl (by kernel_rfl) (by kernel_rfl) (by kernel_rfl) bQ (by kernel_rfl) rfl
  repeat' (first|refine aD ?_|refine b8 a5 ?_|fail)
  rw [hpos]
  repeat' (first|refine aD ?_|refine b8 a5 ?_|(apply ea;refine fA ?_)|(apply bW;refine ci a5 ?_)|(apply cW;refine du ?_)|fail)
  refine JQ [22] JA ?_
  repeat' (first|refine JU ?_|refine a7 ?_|refine JG a5 JA ?_)
  exact JN JB
def ur (a:ez) (name:Int):Int:=if name≠0 then name else dX (!(decide ([a.Min,a.Def,a.Max].all gp=true∧a.Min≤a.Def∧a.Def≤a.Max))) 60
theorem Bn (a:ez) (name:Int):bJ Tryz.prog 69 [.agg (cL a),aF name] (aF (ur a name)):=by
 refine aN Tryz.func69 rfl Tryz.ntmps69 rfl fun B=>?_
 unfold ur
 repeat' (first|refine JU ?_|refine JG a5 JA ?_|refine bf ?_|fail)
 refine ar rfl (fun h=>?_) (fun h=>?_)
 ·rw [if_pos (Jz h)]
  repeat' (first|refine JU ?_|refine JG a5 JA ?_)
  exact JN JB
 rw [if_neg (Jy h)]
 repeat' (first|refine JU ?_|refine JG a5 JA ?_|refine bN a5 ?_|(apply bw;refine bn ?_)|fail)
 refine dp (t:=5) [] ([a.Min,a.Def,a.Max].all gp=true∧a.Min≤a.Def∧a.Def≤a.Max) rfl (fun Q' K=>?_) ?_
 ·repeat' (first|refine JU ?_|refine JG a5 JA ?_|refine JO JA ?_|refine JP JC ?_|refine JS JB (fun _=>?_) (fun _=>?_))
  all_goals exact K _ _ rfl rfl (by clear K;grind)
 repeat' (first|refine JU ?_|refine JG a5 JA ?_|(apply bw;refine bn ?_)|fail)
 exact JN JB
instance (a:ez) (name:Int):AD Tryz.prog 69 [.agg (cL a),aF name] (aF (ur a name)):=⟨Bn a name⟩
def sQ (_:Nat) (t:f0):Int:=dX (decide (¬(-64≤t.Start∧t.Start≤t.Peak∧t.Peak≤t.End∧t.End≤64)∨(t.Start < 0∧t.End > 0∧t.Peak≠0))) 61
set_option maxHeartbeats 1000000 in
theorem Do (i:Nat) (t:f0):bJ Tryz.prog 150 [aF i,.agg (ky t)] (aF (sQ i t)):=by
 refine aN Tryz.func150 rfl Tryz.ntmps150 rfl fun B=>?_
 repeat' (first|refine JU ?_|refine JG a5 JA ?_|refine bf ?_|fail)
 refine dp (t:=5) [3] (-64≤t.Start∧t.Start≤t.Peak∧t.Peak≤t.End∧t.End≤64) rfl (fun Q' K=>?_) ?_
 ·repeat' (first|refine JU ?_|refine JG a5 JA ?_|refine JO JA ?_|refine JP JC ?_|refine JS JB (fun _=>?_) (fun _=>?_))
  all_goals exact K _ _ rfl rfl (by clear K;grind)
 repeat' (first|refine JU ?_|refine JG a5 JA ?_)
 refine dp (t:=6) [5] (t.Start < 0∧t.End > 0∧t.Peak≠0) rfl (fun Q' K=>?_) ?_
 ·repeat' (first|refine JU ?_|refine JG a5 JA ?_|refine JO JA ?_|refine JP JC ?_|refine JS JB (fun _=>?_) (fun _=>?_))
  all_goals exact K _ _ rfl rfl (by clear K;grind)
 have ht:sQ i t=dX (!(decide (-64≤t.Start∧t.Start≤t.Peak∧t.Peak≤t.End∧t.End≤64)) || decide (t.Start < 0∧t.End > 0∧t.Peak≠0)) 61:=by unfold sQ;rw [Bool.decide_or,decide_not]
 rw [ht]
 generalize decide (-64≤t.Start∧t.Start≤t.Peak∧t.Peak≤t.End∧t.End≤64)=p
 generalize decide (t.Start < 0∧t.End > 0∧t.Peak≠0)=q
 cases p <;> cases q
 all_goals
  repeat' (first|refine JU ?_|refine JG a5 JA ?_|refine JO JA ?_|refine JP JC ?_|(apply bw;refine bn ?_)|fail)
  exact JN JB
def zY (axes:Int) (r:List f0):Int:=if (r.length:Int)≠axes then 61 else (d5 r sQ).1
theorem x9 (r:List f0) (axes:Int):bJ Tryz.prog 72 [.agg (bU r),aF axes] (aF (zY axes r)):=by
 refine aN Tryz.func72 rfl Tryz.ntmps72 rfl fun B=>?_
 unfold zY
 repeat' (first|refine JU ?_|refine JG a5 JA ?_|refine bf ?_|fail)
 rw [Jv]
 refine ar rfl (fun h=>?_) (fun h=>?_)
 ·rw [if_pos (Jz h)]
  repeat' (first|refine JU ?_|refine JG a5 JA ?_)
  exact JN JB
 rw [if_neg (Jy h)]
 repeat' (first|refine JU ?_|refine JG a5 JA ?_)
 refine b9 [] [] (Em (u:= .sc (.func (.func 150) #[] #[])) (g:=150) (caps:=[]) rfl r _ (fun _ _=>True) [] trivial (da (fun i x _=>Do i x))) rfl rfl (Jp _) rfl fun c L1 hc=>?_
 have hc:c=cu (d5 r sQ):=hc
 subst hc
 unfold cu
 repeat' (first|refine JU ?_|refine JG a5 JA ?_)
 exact JN JB
instance (r:List f0) (axes:Int):AD Tryz.prog 72 [.agg (bU r),aF axes] (aF (zY axes r)):=⟨x9 r axes⟩
theorem vq (f:b7) (i:Nat) (r:List f0):bJ Tryz.prog 71 [aF i,.agg (bU r),.iptr (cE f)] (aF (zY f.Axes.length r)):=by
 refine aN Tryz.func71 rfl Tryz.ntmps71 rfl fun B=>?_
 repeat' (first|refine JU ?_|refine JG a5 JA ?_|refine bf ?_|(apply bw;refine bn ?_)|fail)
 rw [Jv]
 repeat' (first|fail)
 exact JN JB
theorem z5 (i:Nat) (l:List g8):bJ Tryz.prog 74 [aF i,.imm 2 (l.map eU)] (aF (nl l)):=by
 refine aN Tryz.func74 rfl Tryz.ntmps74 rfl fun B=>?_
 repeat' (first|refine JU ?_|refine JG a5 JA ?_|(apply bw;refine bn ?_)|fail)
 exact JN JB
def BE (_:Nat) (n:Int):Int:=dX (!([n].all gp)) 1
theorem BC (i:Nat) (n:Int):bJ Tryz.prog 77 [aF i,aF n] (aF (BE i n)):=by
 refine aN Tryz.func77 rfl Tryz.ntmps77 rfl fun B=>?_
 repeat' (first|refine JU ?_|refine JG a5 JA ?_|refine bN a5 ?_|(apply bw;refine bn ?_)|fail)
 exact JN JB
def oN (f:b7):Int:=if f.Unit < 16∨f.Unit > 4096 then 1 else if f.Glyphs.length=0 then 32 else 0
theorem C9 (f:b7):bJ Tryz.prog 49 [bZ f] (aF (oN f)):=by
 refine aN Tryz.func49 rfl Tryz.ntmps49 rfl fun B=>?_
 unfold oN
 repeat' (first|refine JU ?_|refine am ?_|refine JG a5 JA ?_|refine bf ?_|fail)
 refine bX [1] (f.Unit < 16∨f.Unit > 4096) rfl (fun Q' K=>?_) (fun hC=>?_) (fun hC=>?_)
 ·repeat' (first|refine JU ?_|refine JG a5 JA ?_|refine JO JA ?_|refine JP JC ?_|refine JS JB (fun _=>?_) (fun _=>?_))
  all_goals exact K _ _ rfl rfl (by clear K;grind)
 ·rw [if_pos hC]
  repeat' (first|refine JU ?_|refine JG a5 JA ?_)
  exact JN JB
 rw [if_neg hC]
 repeat' (first|refine JU ?_|refine JG a5 JA ?_)
 rw [Jv]
 refine ar rfl (fun h=>?_) (fun h=>?_)
 ·rw [if_pos (by have:=Jz h;omega)]
  repeat' (first|refine JU ?_|refine JG a5 JA ?_)
  exact JN JB
 rw [if_neg (by have:=Jy h;omega)]
 repeat' (first|refine JU ?_|refine JG a5 JA ?_)
 exact JN JB
instance (f:b7):AD Tryz.prog 49 [bZ f] (aF (oN f)):=⟨C9 f⟩
theorem zw (f:b7):bJ Tryz.prog 48 [.iptr (cE f)] (cu (oN f,0)):=by
 refine aN Tryz.func48 rfl Tryz.ntmps48 rfl fun B=>?_
 repeat' (first|refine JU ?_|refine JG a5 JA ?_|(apply bw;refine bn ?_)|fail)
 exact JT JC
end Go.Proofs.YtpmdfoaadejmkaaGreatDoor
namespace Go.Proofs.YtpmdfoaadejmkaaGreatDoor
open Go.RowKit
section
variable {P:Program} {tt:TT} {l:List Oper} {fr:c8} {fin:jO} {sk:mE} {acc:c8} {L:AL} {k:Nat} {dd:Option Tmp} {ty t t':TypeId} {pos:String} {af:Array Edge} {g:Option (Nat×Bool)} {x y:Operand} {u:AV}
theorem dk (ok:er P tt) {e sz by_ b off n cap:Nat} {q:IntKind} {i:Int} (ht:jJ tt t=some (e,sz,by_)) (hx:bo (cC l.toArray acc fr af.toList) x=some (.sc (.slice (some ⟨b,off,none⟩) n cap))) (hy:bo (cC l.toArray acc fr af.toList) y=some (.sc (.int q i))) (h0:0≤i∧i < n) (hg:iV ⟨dd,.indexAddr t x y,ty,pos,af,g⟩ acc) (h:DA P l fr fin sk ((k,.sc (.pointer (some ⟨b,off+i.toNat * sz,none⟩)))::acc) L):
  cK P l fr fin k .v ⟨dd,.indexAddr t x y,ty,pos,af,g⟩ sk acc L:=fa hg (fun _ _=>(ua (bv ok ht).1 hx hy h0).ao) h
theorem BH (ok:er P tt) (i:Nat) {b q n:Nat} {cs ys:List AV} {e:TypeId} (ht:Hd tt t=some n) (hx:bo (cC l.toArray acc fr af.toList) x=some (.sc (.pointer (some ⟨b,q,none⟩)))) (hy:bo (cC l.toArray acc fr af.toList) y=some u) (hu:u.cells=some ys) (hL:L[i]?=some (b,.box cs e)) (hn:Nat.beq ys.length n=true) (hk:Nat.ble (q+n) cs.length=true) (hg:iV ⟨dd,.store t x y,ty,pos,af,g⟩ acc) (h:∀c,DA P l fr fin sk ((k,c)::acc) (fq L i (.box (fj cs q ys) e))):
  cK P l fr fin k .e ⟨dd,.store t x y,ty,pos,af,g⟩ sk acc L:=jY hg (fun _=>mM i (ny ok ht) hx hy hu hL hn hk) fun c L' h1=>by subst h1;exact h c
theorem uC {v:Value} (ht:iM P t=true) (hx:bo (cC l.toArray acc fr af.toList) x=some (.sc (.iface t v))) (hg:iV ⟨dd,.typeAssert x t' t false,ty,pos,af,g⟩ acc) (h:DA P l fr fin sk ((k,.sc v)::acc) L):cK P l fr fin k .v ⟨dd,.typeAssert x t' t false,ty,pos,af,g⟩ sk acc L:=
 fa hg (fun _ _=>(u9 ht hx).ao) h
theorem z8 (ok:er P tt) (i:Nat) {e by_ b n cap:Nat} {cs:List AV} {c:AV} (ht:jJ tt t=some (e,1,by_)) (hz:zI tt e=some [.int .i64 0]) (hx:bo (cC l.toArray acc fr af.toList) x=some (.sc (.slice (some ⟨b,0,none⟩) n cap))) (hy:bo (cC l.toArray acc fr af.toList) y=some u) (hu:ii u=some (1,[[c]])) (hL:L[i]?=some (b,.box cs e)) (hcl:cs.length=cap) (hn:n≤cap) (h63:n+1≤9223372036854775807) (hby:(n+1) * by_≤140737488355328) (hg:iV ⟨dd,.call ⟨.builtin .append,#[x,y],#[t,t]⟩,ty,pos,af,g⟩ acc)
  (h:∀b' cs',cs'.take (n+1)=cs.take n++[c]→n+1≤cs'.length→DA P l fr fin sk ((k,.sc (.slice (some ⟨b',0,none⟩) (n+1) cs'.length))::acc) ((b',.box cs' e)::L.eraseIdx i)):
  cK P l fr fin k .e ⟨dd,.call ⟨.builtin .append,#[x,y],#[t,t]⟩,ty,pos,af,g⟩ sk acc L:=
 jY hg (fun _=>pL i (bv ok ht).1 (eJ ok hz) hx hy (cQ hu) hL hcl hn h63 hby) fun q L' ⟨b',cs',h1,h2,h3,h4⟩=>by subst h1;subst h4;exact h b' cs' h2 h3
theorem za (ok:er P tt) {e by_:Nat} {c:AV} (ht:jJ tt t=some (e,1,by_)) (hz:zI tt e=some [.int .i64 0]) (hx:bo (cC l.toArray acc fr af.toList) x=some (.sc (.slice none 0 0))) (hy:bo (cC l.toArray acc fr af.toList) y=some u) (hu:ii u=some (1,[[c]])) (hby:Nat.ble by_ 140737488355328=true) (hg:iV ⟨dd,.call ⟨.builtin .append,#[x,y],#[t,t]⟩,ty,pos,af,g⟩ acc)
  (h:∀b' cs',cs'.take 1=[c]→1≤cs'.length→DA P l fr fin sk ((k,.sc (.slice (some ⟨b',0,none⟩) 1 cs'.length))::acc) ((b',.box cs' e)::L)):
  cK P l fr fin k .e ⟨dd,.call ⟨.builtin .append,#[x,y],#[t,t]⟩,ty,pos,af,g⟩ sk acc L:=
 jY hg (fun _=>pM (bv ok ht).1 (eJ ok hz) hx hy (cQ hu) (Nat.ble_eq .. ▸hby)) fun q L' ⟨b',cs',h1,h2,h3,h4⟩=>by subst h1;subst h4;exact h b' cs' h2 h3
end
def FP (P:Program) (t:TypeId) (name:String) (f:FuncId) (ptr:Bool) (e:TypeId):Bool:=(match P.underlying t with | some (.pointer e')=>Nat.beq e' e | _=>false) && match P.info? t with
 | some ti=>match ti.methods.find? (·.name==name) with
  | some m=>m.path.isEmpty && (match m.func with | some (f',p')=>Nat.beq f' f && (p'==ptr) | none=>false)
  | none=>false
 | none=>false
theorem iJ {P:Program} {t:TypeId} {name:String} {f:FuncId} {ptr:Bool} {e:TypeId} (h:FP P t name f ptr e=true):mG P t name f ptr e:=by
 unfold FP at h
 rw [Bool.and_eq_true] at h
 obtain ⟨h1,h2⟩:=h
 split at h1
 ·rename_i e' hu
  rw [Nat.beq_eq] at h1
  subst h1
  split at h2
  ·rename_i ti hti
   split at h2
   ·rename_i m hm
    rw [Bool.and_eq_true] at h2
    obtain ⟨h3,h4⟩:=h2
    split at h4
    ·rename_i f' p' hf
     rw [Bool.and_eq_true,Nat.beq_eq,beq_iff_eq] at h4
     refine ⟨hu,ti,m,hti,hm,?_,by rw [hf,h4.1,h4.2]⟩
     simpa using h3
    ·cases h4
   ·cases h2
  ·cases h2
 ·cases h1
end Go.Proofs.YtpmdfoaadejmkaaGreatDoor
namespace Go.Proofs.YtpmdfoaadejmkaaGreatDoor
open Go.RowKit Go.MapKept
section
variable {P:Program} {fr:c8} {B:Bs} {L:AL}
theorem AO.as {o:Oper} {a b:AV} (h:AO P o fr B L (fun c L'=>c=a∧L'=L)) (hv:∀σ v,VR σ a v→VR σ b v):AO P o fr B L (fun c L'=>c=b∧L'=L):=
 fun σ ρ w hρ hw=>(h σ ρ w hρ hw).mono fun _ _ ⟨τ,c,L',h1,h2,h3,h4,h5⟩=>⟨τ,b,L',h1,hv τ _ (by rw [←h4];exact h2),h3,rfl,h5⟩
end
section
variable {P:Program} {tt:TT} {l:List Oper} {fr:c8} {fin:jO} {sk:mE} {acc:c8} {L:AL} {k:Nat} {dd:Option Tmp} {ty t t':TypeId} {pos:String} {af:Array Edge} {g:Option (Nat×Bool)} {x y z:Operand} {u:AV}
theorem zf (i:Nat) (v0:Value) (a:AV) {b kt et:Nat} {kd:TypeDesc} {q:Value} {m:Value→Option AV} (ht:P.underlying t=some (.map kt et)) (hkt:P.underlying kt=some kd) (hx:bo (cC l.toArray acc fr af.toList) x=some (.sc (.map (some b)))) (hy:bo (cC l.toArray acc fr af.toList) y=some (.sc q)) (hk:IsKey kd q) (hL:L[i]?=some (b,cX kd m)) (hz:lz P et v0=true) (ha:∀σ v,VR σ ((m q).getD (.sc v0)) v→VR σ a v) (hg:iV ⟨dd,.lookup t x y false,ty,pos,af,g⟩ acc) (h:DA P l fr fin sk ((k,a)::acc) L):
  cK P l fr fin k .e ⟨dd,.lookup t x y false,ty,pos,af,g⟩ sk acc L:=
 jY hg (fun B=>(lC i ht hkt hx hy hk hL (g7 hz) fun _=> .sc _).as ha) fun c L' ⟨h1,h2⟩=>by subst h1;subst h2;exact h
theorem f9 (ok:er P tt) (L0:AL) {e sz by_:Nat} {q:Option (Nat×Nat)} {l1 l2:List (List AV)} (ht:jJ tt t=some (e,sz,by_)) (hx:bo (cC l.toArray acc fr af.toList) x=some (.vec q sz l1)) (hy:bo (cC l.toArray acc fr af.toList) y=some u) (hu:ii u=some (sz,l2)) (hL:L.Perm (tok q e sz l1.length++L0)) (h63:l1.length+l2.length≤9223372036854775807) (hby:(l1.length+l2.length) * by_≤140737488355328) (hg:iV ⟨dd,.call ⟨.builtin .append,#[x,y],#[t,t]⟩,ty,pos,af,g⟩ acc)
  (h:∀k',DA P l fr fin sk ((k,.vec k' sz (l1++l2))::acc) (tok k' e sz (l1++l2).length++L0)):
  cK P l fr fin k .e ⟨dd,.call ⟨.builtin .append,#[x,y],#[t,t]⟩,ty,pos,af,g⟩ sk acc L:=
 jY hg (fun _=>nO L0 (bv ok ht).1 (bv ok ht).2 hx hy (cQ hu) hL h63 hby) fun c L' ⟨k',h1,h2⟩=>by subst h1;subst h2;exact h k'
end
section
variable {P:Program} {r:Option Nat} {ops:Array Oper} {Q:Exit→Act→World→Prop} {nt:Nat} {D:List Deferred} {fr:c8} {B:Bs} {L:AL} {rest:List Oper} {d:Nat} {ty t:TypeId} {pos:String} {af:Array Edge} {x y z:Operand} {u:AV}
theorem jy (i:Nat) (v0:Value) (a:AV) {b kt et:Nat} {kd:TypeDesc} {k:Value} {m:Value→Option AV} (ht:P.underlying t=some (.map kt et)) (hkt:P.underlying kt=some kd) (hx:bo fr x=some (.sc (.map (some b)))) (hy:bo fr y=some (.sc k)) (hk:IsKey kd k) (hL:L[i]?=some (b,cX kd m)) (hz:lz P et v0=true) (ha:∀σ v,VR σ ((m k).getD (.sc v0)) v→VR σ a v) (hd:Nat.ble nt d=false)
  (h:bK P r ops Q nt D rest ((d,a)::fr) B L):bK P r ops Q nt D (⟨some d,.lookup t x y false,ty,pos,af,none⟩::rest) fr B L:=
 cP hd rfl ((lC i ht hkt hx hy hk hL (g7 hz) fun _=> .sc _).as ha) fun c L' ⟨h1,h2⟩=>by subst h1;subst h2;exact h
end
noncomputable def od (m:Value→Option AV) (k:Value) (c:AV):Value→Option AV:=fun q=>open Classical in if q=k then some c else m q
theorem jw {m:Value→Option AV} {k:Value} {c:AV}:od m k c k=some c:=by simp [od]
theorem iK {m:Value→Option AV} {k:Value} {c:AV} (q:Value) (h:q≠k):od m k c q=m q:=by simp [od,h]
def nM (m:Value→Option AV) (M:Int→Int):Prop:=∀z,m (.int .i64 z)=none∧M z=0∨m (.int .i64 z)=some (.sc (.int .i64 (M z)))
theorem nM.at {m:Value→Option AV} {M:Int→Int} (h:nM m M) (z:Int):∀(σ:cr) (v:Value),VR σ ((m (.int .i64 z)).getD (.sc (.int .i64 0))) v→VR σ (.sc (.int .i64 (M z))) v:=by
 intro σ v hv
 rcases h z with ⟨h1,h2⟩ | h1
 ·rw [h1] at hv;rw [h2];exact hv
 ·rw [h1] at hv;exact hv
theorem nM.put {m:Value→Option AV} {M:Int→Int} (h:nM m M) (z c:Int):nM (od m (.int .i64 z) (.sc (.int .i64 c))) fun q=>if q=z then c else M q:=by
 intro q
 by_cases e:q=z
 ·subst e;simp only [if_true,jw];exact .inr trivial
 ·simp only [if_neg e];rw [iK _ (by intro h;injection h with _ h;exact e h)];exact h q
def pG (m:Value→Option AV) (K:Int→Option (Nat×Nat)) (U:Int→List Int):Prop:=∀z,(m (.int .i64 z)=none∧U z=[]∧K z=none)∨m (.int .i64 z)=some (.vec (K z) 1 (aW (U z)))
theorem pG.at {m:Value→Option AV} {K:Int→Option (Nat×Nat)} {U:Int→List Int} (h:pG m K U) (z:Int):∀(σ:cr) (v:Value),VR σ ((m (.int .i64 z)).getD (.sc (.slice none 0 0))) v→VR σ (.vec (K z) 1 (aW (U z))) v:=by
 intro σ v hv
 rcases h z with ⟨h1,h2,h3⟩ | h1
 ·rw [h1] at hv;rw [h2,h3];exact cR 1 hv
 ·rw [h1] at hv;exact hv
theorem pG.put {m:Value→Option AV} {K:Int→Option (Nat×Nat)} {U:Int→List Int} (h:pG m K U) (z:Int) (k:Option (Nat×Nat)) (l:List Int):pG (od m (.int .i64 z) (.vec k 1 (aW l))) (fun q=>if q=z then k else K q) fun q=>if q=z then l else U q:=by
 intro q
 by_cases e:q=z
 ·subst e;simp only [if_true,jw];exact .inr trivial
 ·simp only [if_neg e]
  rw [iK _ (by intro h;injection h with _ h;exact e h)]
  exact h q
def mC (e:TypeId) (K:Int→Option (Nat×Nat)) (U:Int→List Int) (zs:List Int):AL:=zs.flatMap fun z=>tok (K z) e 1 (aW (U z)).length
theorem ov {e:TypeId} {K:Int→Option (Nat×Nat)} {U:Int→List Int}:∀{zs:List Int} {z:Int},z∈zs→(mC e K U zs).Perm (tok (K z) e 1 (aW (U z)).length++mC e K U (zs.erase z))
 | y::zs,z,h=>by
  by_cases hz:y=z
  ·subst hz
   rw [List.erase_cons_head]
   exact Jp _
  ·have hm:z∈zs:=by
    rcases List.mem_cons.1 h with h | h
    ·exact absurd h.symm hz
    ·exact h
   rw [List.erase_cons_tail (by simpa using hz)]
   have ih:=ov (e:=e) (K:=K) (U:=U) hm
   unfold mC at ih ⊢
   rw [List.flatMap_cons,List.flatMap_cons]
   refine (List.Perm.append_left _ ih).trans ?_
   rw [←List.append_assoc,←List.append_assoc]
   exact List.Perm.append_right _ List.perm_append_comm
theorem xr {e:TypeId} {K K':Int→Option (Nat×Nat)} {U U':Int→List Int} {zs:List Int} (h:∀z∈zs,K z=K' z∧U z=U' z):mC e K U zs=mC e K' U' zs:=by
 unfold mC
 induction zs with
 | nil=>rfl
 | cons z zs ih=>
  rw [List.flatMap_cons,List.flatMap_cons,ih fun y hy=>h y (Ju _ hy),(h z (List.mem_cons_self ..)).1,(h z (List.mem_cons_self ..)).2]
theorem Dp {e:TypeId} {K:Int→Option (Nat×Nat)} {U:Int→List Int} {zs:List Int} {z:Int} {k:Option (Nat×Nat)} {l:List Int} (hn:zs.Nodup) (h:z∈zs):(tok k e 1 (aW l).length++mC e K U (zs.erase z)).Perm (mC e (fun q=>if q=z then k else K q) (fun q=>if q=z then l else U q) zs):=by
 have h1:=ov (e:=e) (K:=fun q=>if q=z then k else K q) (U:=fun q=>if q=z then l else U q) h
 simp only [if_true] at h1
 refine List.Perm.trans ?_ h1.symm
 rw [xr (K:=K) (U:=U) (K':=fun q=>if q=z then k else K q) (U':=fun q=>if q=z then l else U q) fun y hy=>by
  have hne:y≠z:=fun e=>by subst e;exact (List.Nodup.not_mem_erase hn) hy
  simp only [if_neg hne]
  exact ⟨trivial,trivial⟩]
theorem Au (e:TypeId) (U:Int→List Int) (zs:List Int):mC e (fun _=>none) U zs=[]:=by
 unfold mC tok
 induction zs with
 | nil=>rfl
 | cons z zs ih=>rw [List.flatMap_cons,ih];rfl
end Go.Proofs.YtpmdfoaadejmkaaGreatDoor
namespace Go.Proofs.YtpmdfoaadejmkaaGreatDoor
open Go.RowKit
section
variable {P:Program} {r:Option Nat} {ops:Array Oper} {Q:Exit→Act→World→Prop} {nt:Nat} {D:List Deferred} {fr:c8} {B:Bs} {L:AL} {cd:Code}
def pE (nt:Nat) (B:Bs) {α:Type} (Dx:α→List Deferred) (V:α→c8) (fr0:c8) (C:α→Prop) (Lx:α→AL) (μ:α→Nat) (x:α) (Q:Exit→Act→World→Prop):Exit→Act→World→Prop:=Exit.then (fun a w=>∃σ x',j9 σ nt (Dx x') (V x'++fr0) a∧C x'∧d7 B σ (Lx x') w∧μ x' < μ x) Q
theorem Bj (ks:List Nat) {α:Type} (Dx:α→List Deferred) (V:α→c8) (C:α→Prop) (Lx:α→AL) (μ:α→Nat) (x0:α) {fr0:c8} (hk:gz fr ks=some fr0) (hV:m9 (V x0) fr) (hD:D=Dx x0) (hC:C x0) (hL:∀σ w,d7 B σ L w→d7 B σ (Lx x0) w)
  (hb:∀x,C x→AT P r cd (pE nt B Dx V fr0 C Lx μ x Q) nt (Dx x) (V x++fr0) B (Lx x)):AT P r (.loop cd) Q nt D fr B L:=by
 intro σ a w ha hw
 subst hD
 classical
 let G:Nat→Act→World→Prop:=fun m a w=>∃σ x,j9 σ nt (Dx x) (V x++fr0) a∧C x∧d7 B σ (Lx x) w∧μ x=m
 let M:Act→World→Nat:=fun a w=>if h:∃m,G m a w∧∀m',G m' a w→m≤m' then h.choose else 0
 have least:∀a w,(∃m,G m a w)→G (M a w) a w∧∀m',G m' a w→M a w≤m':=by
  rintro a w ⟨m0,hg0⟩
  have hex:∃m,G m a w∧∀m',G m' a w→m≤m':=by
   have:∀k,∀m,m≤k→G m a w→∃m,G m a w∧∀m',G m' a w→m≤m':=by
    intro k
    induction k with
    | zero=>intro m hm hg;exact ⟨m,hg,fun m' _=>by omega⟩
    | succ k ih=>
     intro m hm hg
     by_cases h:∃m',m' < m∧G m' a w
     ·obtain ⟨m',hlt,hg'⟩:=h
      exact ih m' (by omega) hg'
     ·exact ⟨m,hg,fun m' hg'=>by
       rcases Nat.lt_or_ge m' m with hlt | hge
       ·exact absurd ⟨m',hlt,hg'⟩ h
       ·exact hge⟩
   exact this m0 m0 (Nat.le_refl _) hg0
  have hM:M a w=hex.choose:=dif_pos hex
  rw [hM];exact hex.choose_spec
 refine wpIn_loop (fun a w=>∃m,G m a w) M ⟨_,σ,x0,ha.weak (mK hV (dQ ks hk)),hC,hL σ w hw,rfl⟩ ?_
 intro a w hI
 obtain ⟨⟨σ',x,hx,hj,hst,hm⟩,_⟩:=least a w hI
 refine wpIn_mono (hb x hj σ' a w hx hst) ?_
 intro e a' w' hq
 cases e with
 | normal=>
  obtain ⟨τ,x',hx',hj',hst',hlt⟩:=hq
  have hg:G (μ x') a' w':=⟨τ,x',hx',hj',hst',rfl⟩
  refine ⟨⟨_,hg⟩,?_⟩
  have:=(least a' w' ⟨_,hg⟩).2 (μ x') hg
  omega
 | _=>exact hq
theorem nR {α:Type} {Dx:α→List Deferred} {V:α→c8} {fr0:c8} {C:α→Prop} {Lx:α→AL} {μ:α→Nat} {x:α} (x':α) (hk:gz fr (fr0.map (·.1))=some fr0) (hV:m9 (V x') fr) (hD:D=Dx x') (hC:C x') (hm:μ x' < μ x) (hL:∀σ w,d7 B σ L w→d7 B σ (Lx x') w):
  AX P .normal (pE nt B Dx V fr0 C Lx μ x Q) nt D fr B L:=fun σ a w ha hw=>by
 subst hD
 exact ⟨σ,x',ha.weak (mK hV (dQ _ hk)),hC,hL _ _ hw,hm⟩
theorem rB {α:Type} {Dx:α→List Deferred} {V:α→c8} {fr0:c8} {C:α→Prop} {Lx:α→AL} {μ:α→Nat} {x:α} {id:Nat} (h:AX P (.exit id) Q nt D fr B L):AX P (.exit id) (pE nt B Dx V fr0 C Lx μ x Q) nt D fr B L:=fun σ a w ha hw=>h σ a w ha hw
end
section
variable {nt:Nat} {D:List Deferred} {B:Bs} {fr:c8} {L:AL}
theorem sT {t b e sz n:Nat} {cs:List AV} {l:List (List AV)} (i:Nat) (hl:cj fr t=some (.iptr [.sc (.slice (some ⟨b,0,none⟩) n n)])) (hL:L[i]?=some (b,.box cs e)) (hc:cs=l.flatten) (hs:∀q∈l,q.length=sz) (hn:l.length=n) (h63:n≤9223372036854775807):mJ nt D B fr L ((t,.iptr [.imm sz l])::fr) ((b,.vec e sz n n)::L.eraseIdx i):=by
 intro σ a w ha hw0
 have hw:=hw0.perm (fp hL)
 obtain ⟨o,ho,vs,rfl,hvs,h1⟩:=hw.here _ (List.mem_cons_self ..)
 have hfree:=hw.free _ (List.mem_cons_self ..)
 have hvl:vs.length=n * sz:=by rw [←hvs.1,hc,fc l hs,hn]
 have hst:d7 B σ ((b,.vec e sz 0 n)::L.eraseIdx i) w:=by
  refine ⟨hw.os,hw.tape,hw.output,hw.size,hw.old,fun p hp=>?_,fun p hp=>?_,by simpa using hw.apart,hw.froz,fun p hp off hm=>?_,hw.grow,hw.same⟩
  ·rcases List.mem_cons.1 hp with rfl | hp'
   ·exact ⟨_,ho,_,rfl,by simp [hvl],Nat.zero_le _,by unfold maxLen;omega⟩
   ·exact hw.here p (Ju _ hp')
  ·rcases List.mem_cons.1 hp with rfl | hp'
   ·exact hw.mine (b,.box cs e) (List.mem_cons_self ..)
   ·exact hw.mine p (Ju _ hp')
  ·rcases List.mem_cons.1 hp with rfl | hp'
   ·exact hfree off trivial
   ·exact hw.free p (Ju _ hp') off hm
 obtain ⟨hst',hle⟩:=hst.freezeHead (n':=n) (xs:=vs) (fun j u hj=>by rw [cT ho];simpa using hj) hvl (Nat.zero_le _) (Nat.le_refl _)
 refine ⟨_,?_,hst'⟩
 have hv:VR (σ.add b vs) (.vec (some (b,n)) sz l) (.slice (some ⟨b,0,none⟩) n n):=by
  have:=ly (σ:=σ.add b vs) (b:=b) (cap:=n) hs (by rw [←hc];exact hvs.mono hle) h1 (by omega) (by unfold maxLen;omega) (fun j u hj=>cr.add_at hj)
  rwa [hn] at this
 have ha':=ha.mono hle
 refine ⟨ha'.size,ha'.defers,fun t' v' hl'=>?_⟩
 rw [cw] at hl'
 by_cases e:t=t'
 ·subst e
  simp only [if_true,Option.some.injEq] at hl'
  subst hl'
  have hp:=ha.look t _ hl
  generalize a.tmps.getD t undef=v0 at hp
  generalize hq:AV.iptr [.sc (.slice (some ⟨b,0,none⟩) n n)]=q at hp
  cases hp with
  | iptr cs2 b0 off hx h=>
   injection hq with hq
   subst hq
   refine .iptr _ b0 off (fun j hj=>?_) fun j c u hc hu=>?_
   ·obtain ⟨u,hu,h1⟩:=hx j hj
    exact ⟨u,hle _ _ _ hu,h1⟩
   ·have hj:j=0:=by
     have:=(Jq hc).1
     simp at this
     exact this
    subst hj
    simp at hc
    subst hc
    obtain ⟨u',hu',_⟩:=hx 0 (by simp)
    have h2:=hle _ _ _ hu'
    rw [hu] at h2
    injection h2 with h2
    subst h2
    rw [(h 0 _ u rfl hu').sc_inv]
    exact hv.im
  | _=>cases hq
 ·rw [if_neg e] at hl'
  exact ha'.look t' v' hl'
end
end Go.Proofs.YtpmdfoaadejmkaaGreatDoor
