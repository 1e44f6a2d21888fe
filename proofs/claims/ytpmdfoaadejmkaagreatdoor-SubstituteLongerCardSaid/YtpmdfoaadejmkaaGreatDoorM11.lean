/-
  The program: glyphs, as check looks at them, with anchors and deltas.
-/
import Derived.Test.YtpmdfoaadejmkaaGreatDoorM10
import Derived.Test.YtpmdfoaadejmkaaGreatDoorM07
namespace Go.Proofs.YtpmdfoaadejmkaaGreatDoor
open Go.RowKit
attribute [local irreducible] AT br AX AO Av Kt bb df DA cC
theorem C9:jq Tryz.prog 293:=⟨⟨_,_,Tryz.underlying293,⟨by decide,by decide⟩,⟨rfl,rfl⟩,Tryz.underlying3,Tryz.underlying3⟩,Tryz.stoodInHeld293⟩
theorem FL:jq Tryz.prog 296:=⟨⟨_,_,Tryz.underlying296,⟨by decide,by decide⟩,⟨rfl,rfl⟩,Tryz.underlying3,Tryz.underlying3⟩,Tryz.stoodInHeld296⟩
def nw (l:List dg) (a b:Int):Option AV:=if ∃x∈l,x.Kind=a∧x.Class=b then some (ej true) else none
theorem Be:nw []=fun _ _=>none:=by funext a b;simp [nw]
theorem yi (l:List dg) (a b:Int):(nw l a b).getD (ej false)=ej (decide (∃x∈l,x.Kind=a∧x.Class=b)):=by
 unfold nw
 by_cases h:∃x∈l,x.Kind=a∧x.Class=b
 ·rw [if_pos h,decide_eq_true h];rfl
 ·rw [if_neg h,decide_eq_false h];rfl
theorem yj {l:List dg} {i:Nat} {x:dg} (h:l[i]?=some x):nw (l.take (i+1)) x.Kind x.Class=some (ej true):=by
 unfold nw
 rw [if_pos ⟨x,by rw [List.take_add_one,h];simp,rfl,rfl⟩]
theorem vN {l:List dg} {i:Nat} {x:dg} (h:l[i]?=some x) (p q:Int) (hne:¬(p=x.Kind∧q=x.Class)):nw (l.take (i+1)) p q=nw (l.take i) p q:=by
 unfold nw
 have:(∃y∈l.take (i+1),y.Kind=p∧y.Class=q)↔∃y∈l.take i,y.Kind=p∧y.Class=q:=by
  rw [List.take_add_one,h]
  simp only [Option.toList_some,List.mem_append,List.mem_singleton]
  constructor
  ·rintro ⟨y,hy | rfl,h1⟩
   ·exact ⟨y,hy,h1⟩
   ·exact absurd ⟨h1.1.symm,h1.2.symm⟩ hne
  ·rintro ⟨y,hy,h1⟩
   exact ⟨y,Or.inl hy,h1⟩
 by_cases hc:∃y∈l.take i,y.Kind=p∧y.Class=q
 ·rw [if_pos hc,if_pos (this.2 hc)]
 ·rw [if_neg hc,if_neg (fun h=>hc (this.1 h))]
set_option maxHeartbeats 1000000 in
theorem uP (g:bj) (i:Nat) (a:dg) (ha:g.Anchors[i]?=some a) (m:Nat):AC Tryz.prog 205 [aF i,.agg (cX a),.iptr [ej g.Mark],.iptr [.sc (.map (some m))]] [(m,gQ (nw (g.Anchors.take i)))] fun c L'=>c=aF (lC g i a)∧(lC g i a=0→L'=[(m,gQ (nw (g.Anchors.take (i+1))))]):=by
 refine aN Tryz.func205 rfl Tryz.ntmps205 rfl fun B=>?_
 repeat' (first|refine If ?_|refine IF a5 FN ?_|(apply aM;first|refine IH 7 a5 0 IE ?_|refine IH 7 a5 1 IE ?_|refine IH 7 a5 2 IE ?_|refine IG a5 0 ID ?_|refine IG a5 1 ID ?_|refine IG a5 2 ID ?_|refine IG a5 3 ID ?_|fail)|refine bk ?_|refine bh a5 fun _=>?_|fail)
 refine da (t:=8) [2,3,5,7] (a.Kind=3∨a.Kind=4) rfl (fun Q' K=>?_) ?_
 ·repeat' (first|refine If ?_|refine IF a5 FN ?_|refine IN FN ?_|refine IP IB ?_|refine IR IA (fun _=>?_) (fun _=>?_))
  all_goals exact K _ _ rfl rfl (by clear K;grind)
 repeat' (first|refine If ?_|refine ak ?_|refine IF a5 FN ?_)
 refine da (t:=22) [2,3,5,7,8] (a.Kind < 1∨a.Kind > 4) rfl (fun Q' K=>?_) ?_
 ·repeat' (first|refine If ?_|refine IF a5 FN ?_|refine IN FN ?_|refine IP IB ?_|refine IR IA (fun _=>?_) (fun _=>?_))
  all_goals exact K _ _ rfl rfl (by clear K;grind)
 repeat' (first|refine If ?_|fail)
 refine aq rfl (fun h1=>?_) (fun h1=>?_)
 ·have h0:=h1
  replace h1:=Iy h1
  rw [h0]
  repeat' (first|refine If ?_|refine IF a5 FN ?_|refine bQ rfl ?_)
  refine IL FN ?_
  rw [show lC g i a=35 from if_pos (.inl h1)]
  exact ⟨rfl,fun e=>absurd e (by decide)⟩
 have h0:=h1
 replace h1:=Ix h1
 rw [h0]
 clear h0
 repeat' (first|refine If ?_|refine IF a5 FN ?_)
 refine da (t:=22) [2,3,5,7,8] (a.Class < 0∨a.Class > 15) rfl (fun Q' K=>?_) ?_
 ·repeat' (first|refine If ?_|refine IF a5 FN ?_|refine IN FN ?_|refine IP IB ?_|refine IR IA (fun _=>?_) (fun _=>?_))
  all_goals exact K _ _ rfl rfl (by clear K;grind)
 repeat' (first|refine If ?_|fail)
 refine aq rfl (fun h2=>?_) (fun h2=>?_)
 ·have h0:=h2
  replace h2:=Iy h2
  rw [h0]
  repeat' (first|refine If ?_|refine IF a5 FN ?_|refine bQ rfl ?_)
  refine IL FN ?_
  rw [show lC g i a=35 from if_pos (.inr (.inl h2))]
  exact ⟨rfl,fun e=>absurd e (by decide)⟩
 have h0:=h2
 replace h2:=Ix h2
 rw [h0]
 clear h0
 repeat' (first|refine If ?_|refine IF a5 FN ?_)
 refine da (t:=22) [2,3,5,7] ((a.Kind=3∨a.Kind=4)∧a.Class≠0) rfl (fun Q' K=>?_) ?_
 ·generalize hj:decide (a.Kind=3∨a.Kind=4)=j
  have hj':(a.Kind=3∨a.Kind=4)↔j=true:=by rw [←hj,decide_eq_true_eq]
  repeat' (first|refine If ?_|refine IF a5 FN ?_|refine IN FN ?_|refine IP IB ?_|refine IR IA (fun _=>?_) (fun _=>?_))
  all_goals exact K _ _ (by first | rfl | (subst_vars;rfl)) rfl (by clear K;grind)
 repeat' (first|refine If ?_|fail)
 refine aq rfl (fun h3=>?_) (fun h3=>?_)
 ·have h0:=h3
  replace h3:=Iy h3
  rw [h0]
  repeat' (first|refine If ?_|refine IF a5 FN ?_|refine bQ rfl ?_)
  refine IL FN ?_
  rw [show lC g i a=35 from if_pos (.inr (.inr (.inl h3)))]
  exact ⟨rfl,fun e=>absurd e (by decide)⟩
 have h0:=h3
 replace h3:=Ix h3
 rw [h0]
 clear h0
 repeat' (first|refine If ?_|refine IF a5 FN ?_|refine bG a5 ?_|(apply bv;refine bn ?_)|fail)
 refine aq rfl (fun h4=>?_) (fun h4=>?_)
 ·rw [h4]
  repeat' (first|refine If ?_|refine IF a5 FN ?_|refine bQ rfl ?_)
  refine IL FN ?_
  rw [show lC g i a=35 from if_pos (.inr (.inr (.inr (.inl (by rw [←Bool.not_eq_true',h4])))))]
  exact ⟨rfl,fun e=>absurd e (by decide)⟩
 rw [h4]
 repeat' (first|refine If ?_|refine IF a5 FN ?_)
 refine da (t:=22) [3,7] (a.Kind=2∧g.Mark=false) rfl (fun Q' K=>?_) ?_
 ·repeat' (first|refine If ?_|refine IF a5 FN ?_|refine IN FN ?_|refine IP IB ?_|refine IR IA (fun _=>?_) (fun _=>?_))
  all_goals exact K _ _ rfl rfl (by clear K;grind)
 repeat' (first|refine If ?_|fail)
 refine aq rfl (fun h5=>?_) (fun h5=>?_)
 ·have h0:=h5
  replace h5:=Iy h5
  rw [h0]
  repeat' (first|refine If ?_|refine IF a5 FN ?_|refine bQ rfl ?_)
  refine IL FN ?_
  rw [show lC g i a=35 from if_pos (.inr (.inr (.inr (.inr (.inl h5)))))]
  exact ⟨rfl,fun e=>absurd e (by decide)⟩
 have h0:=h5
 replace h5:=Ix h5
 rw [h0]
 clear h0
 repeat' (first|refine If ?_|refine IF a5 FN ?_)
 refine vQ 0 (.bool false) Tryz.underlying291 C9 rfl rfl rfl (by kernel_rfl) rfl ?_
 rw [yi]
 repeat' (first|refine If ?_|refine IF a5 FN ?_)
 refine aq rfl (fun h6=>?_) (fun h6=>?_)
 ·rw [h6]
  repeat' (first|refine If ?_|refine IF a5 FN ?_)
  refine IL FN ?_
  rw [show lC g i a=35 from if_pos (.inr (.inr (.inr (.inr (.inr (Iy h6))))))]
  exact ⟨rfl,fun e=>absurd e (by decide)⟩
 rw [h6]
 repeat' (first|refine If ?_|refine IF a5 FN ?_)
 refine sw 0 (nw (g.Anchors.take (i+1))) Tryz.underlying291 C9 rfl rfl rfl rfl (yj ha) (vN ha) ?_
 repeat' (first|refine If ?_|refine IF a5 FN ?_)
 refine IL FN ?_
 have h4':[a.X,a.Y].all gc=true:=by simpa using h4
 have h6':=Ix h6
 rw [show lC g i a=0 from if_neg (by
  rintro (h | h | h | h | h | h)
  ·exact h1 h
  ·exact h2 h
  ·exact h3 h
  ·rw [h4'] at h;cases h
  ·exact h5 h
  ·exact h6' h)]
 exact ⟨rfl,fun _=>rfl⟩
def qi (a b c d:Int):Bool:=decide (a < c∨(a=c∧b < d))
theorem v3 (a b c d:Int):bN Tryz.prog 209 [.agg [aF a,aF b],.agg [aF c,aF d]] (ej (qi a b c d)):=by
 refine aN Tryz.func209 rfl Tryz.ntmps209 rfl fun B=>?_
 repeat' (first|refine If ?_|refine IF a5 FN ?_|refine bk ?_|fail)
 refine da (t:=4) [] (qi a b c d=true) rfl (fun Q' K=>?_) ?_
 ·repeat' (first|refine If ?_|refine IF a5 FN ?_|refine IN FN ?_|refine IP IB ?_|refine dl rfl rfl rfl ?_|refine IR IA (fun _=>?_) (fun _=>?_))
  all_goals exact K _ _ rfl rfl (by clear K;unfold qi;grind)
 repeat' (first|refine If ?_|fail)
 refine IL FN ?_
 simp
def fK (l:List dw) (i:Nat):Int×Int:=match i with | 0=>(0,0) | j+1=>match l[j]? with | some b=>(b.Region,b.Point) | none=>(0,0)
def pD (g:bj) (i:Nat) (d:dw):Bool:=decide (0 < i∧((d.Region=(fK g.Deltas i).1∧d.Point=(fK g.Deltas i).2)∨qi d.Region d.Point (fK g.Deltas i).1 (fK g.Deltas i).2=true))
theorem Dk {g:bj} {i:Nat} {d:dw} (hd:g.Deltas[i]?=some d):(match i with | 0=>false | j+1=>match g.Deltas[j]? with | some b=>decide (d.Region < b.Region∨(d.Region=b.Region∧d.Point≤b.Point)) | none=>false)=pD g i d:=by
 unfold pD
 cases i with
 | zero=>simp
 | succ j=>
  have hj:j < g.Deltas.length:=by have:=(Ip hd).1;omega
  obtain ⟨b,hb⟩:∃b,g.Deltas[j]?=some b:=⟨_,Iz hj⟩
  simp only [hb,fK,qi]
  rw [Bool.eq_iff_iff,decide_eq_true_eq,decide_eq_true_eq,decide_eq_true_eq]
  omega
theorem CP {f:aY} {g:bj} {i:Nat} {d:dw} (hd:g.Deltas[i]?=some d):qD f g i d=if d.Region < 0∨d.Region≥f.Regions.length then 61 else if (d.Point < -1∨d.Point≥g.Points.length)∨[d.X,d.Y].all gc=false∨(d.Point= -1∧d.Y≠0) then 30 else if pD g i d=true then 24 else 0:=by
 unfold qD
 rw [←Dk hd]
 cases i <;> rfl
set_option maxHeartbeats 1000000 in
theorem xW (f:aY) (g:bj) (i:Nat) (d:dw) (hd:g.Deltas[i]?=some d) (R N:Int) (hR:R=f.Regions.length) (hN:N=g.Points.length) (b:Nat):AC Tryz.prog 208 [aF i,.agg (dM d),.iptr [aF R],.iptr [aF N],.sc (.pointer (some ⟨b,0,none⟩))] [(b,.box [aF (fK g.Deltas i).1,aF (fK g.Deltas i).2] 296)] fun c L'=>c=aF (qD f g i d)∧(qD f g i d=0→L'=[(b,.box [aF (fK g.Deltas (i+1)).1,aF (fK g.Deltas (i+1)).2] 296)]):=by
 refine aN Tryz.func208 rfl Tryz.ntmps208 rfl fun B=>?_
 rw [CP hd,←hR,←hN]
 have hnext:fK g.Deltas (i+1)=(d.Region,d.Point):=by simp only [fK,hd]
 rw [hnext]
 repeat' (first|refine If ?_|refine ak ?_|refine IF a5 FN ?_|(apply aM;first|refine IH 8 a5 0 IE ?_|refine IH 8 a5 1 IE ?_|refine IH 8 a5 2 IE ?_|refine IG a5 0 ID ?_|refine IG a5 1 ID ?_|refine IG a5 2 ID ?_|refine IG a5 3 ID ?_|fail)|refine bk ?_|refine bh a5 fun _=>?_|fail)
 refine c9 [0,3,4,6,8] (d.Region < 0∨d.Region≥R) rfl (fun Q' K=>?_) (fun h1=>?_) (fun h1=>?_)
 ·repeat' (first|refine If ?_|refine IF a5 FN ?_|refine IN FN ?_|refine IP IB ?_|refine IR IA (fun _=>?_) (fun _=>?_))
  all_goals exact K _ _ rfl rfl (by clear K;grind)
 ·rw [if_pos h1]
  repeat' (first|refine If ?_|refine IF a5 FN ?_)
  exact IL FN ⟨rfl,fun e=>absurd e (by decide)⟩
 rw [if_neg h1]
 repeat' (first|refine If ?_|refine IF a5 FN ?_)
 refine da (t:=24) [0,4,6,8] (d.Point < -1∨d.Point≥N) rfl (fun Q' K=>?_) ?_
 ·repeat' (first|refine If ?_|refine IF a5 FN ?_|refine IN FN ?_|refine IP IB ?_|refine IR IA (fun _=>?_) (fun _=>?_))
  all_goals exact K _ _ rfl rfl (by clear K;grind)
 repeat' (first|refine If ?_|fail)
 refine aq rfl (fun h2=>?_) (fun h2=>?_)
 ·have h0:=h2
  replace h2:=Iy h2
  rw [h0]
  rw [if_pos (.inl h2)]
  repeat' (first|refine If ?_|refine IF a5 FN ?_|refine bQ rfl ?_)
  exact IL FN ⟨rfl,fun e=>absurd e (by decide)⟩
 have h0:=h2
 replace h2:=Ix h2
 rw [h0]
 clear h0
 repeat' (first|refine If ?_|refine IF a5 FN ?_|refine bG a5 ?_|(apply bv;refine bn ?_)|fail)
 refine aq rfl (fun h3=>?_) (fun h3=>?_)
 ·rw [if_pos (.inr (.inl (by rw [←Bool.not_eq_true',h3]))),h3]
  repeat' (first|refine If ?_|refine IF a5 FN ?_|refine bQ rfl ?_)
  exact IL FN ⟨rfl,fun e=>absurd e (by decide)⟩
 rw [h3]
 repeat' (first|refine If ?_|refine IF a5 FN ?_)
 refine da (t:=24) [0,4,8] (d.Point= -1∧d.Y≠0) rfl (fun Q' K=>?_) ?_
 ·repeat' (first|refine If ?_|refine IF a5 FN ?_|refine IN FN ?_|refine IP IB ?_|refine IR IA (fun _=>?_) (fun _=>?_))
  all_goals exact K _ _ rfl rfl (by clear K;grind)
 repeat' (first|refine If ?_|fail)
 refine aq rfl (fun h4=>?_) (fun h4=>?_)
 ·have h0:=h4
  replace h4:=Iy h4
  rw [h0]
  rw [if_pos (.inr (.inr h4))]
  repeat' (first|refine If ?_|refine IF a5 FN ?_)
  exact IL FN ⟨rfl,fun e=>absurd e (by decide)⟩
 have h0:=h4
 replace h4:=Ix h4
 rw [h0]
 clear h0
 have h3':[d.X,d.Y].all gc=true:=by simpa using h3
 rw [if_neg (by
  rintro (h | h | h)
  ·exact h2 h
  ·rw [h3'] at h;cases h
  ·exact h4 h)]
 repeat' (first|refine If ?_|refine IF a5 FN ?_)
 refine c9 [4,8] (pD g i d=true) rfl (fun Q' K=>?_) (fun h5=>?_) (fun h5=>?_)
 ·repeat' (first|refine If ?_|refine IF a5 FN ?_|refine IN FN ?_|refine IP IB ?_|refine dl rfl rfl rfl ?_|(apply bw;first|refine II a5 0 IC ?_|refine II a5 1 IC ?_|refine II a5 2 IC ?_|refine II a5 3 IC ?_|refine IJ a5 0 IC ?_|refine IJ a5 1 IC ?_|refine IJ a5 2 IC ?_|refine IK a5 1 IA (by assumption) rfl ?_|refine IK a5 0 IA (by assumption) rfl ?_|fail)|refine IR IA (fun _=>?_) (fun _=>?_))
  all_goals first
   | exact K _ _ rfl rfl (by clear K;unfold pD;grind)
   | (refine Fs FL Tryz.eqGuardType296 rfl rfl rfl ?_)
  repeat' (first|refine If ?_|refine IF a5 FN ?_|refine IN FN ?_|refine IP IB ?_|(apply bw;first|refine II a5 0 IC ?_|refine II a5 1 IC ?_|refine II a5 2 IC ?_|refine II a5 3 IC ?_|refine IJ a5 0 IC ?_|refine IJ a5 1 IC ?_|refine IJ a5 2 IC ?_|refine IK a5 1 IA (by assumption) rfl ?_|refine IK a5 0 IA (by assumption) rfl ?_|fail)|refine IR IA (fun _=>?_) (fun _=>?_))
  all_goals first
   | exact K _ _ rfl rfl (by clear K;unfold pD;grind)
   | (refine bn (hc:=⟨v3 d.Region d.Point (fK g.Deltas i).1 (fK g.Deltas i).2⟩) ?_)
  repeat' (first|refine If ?_|refine IF a5 FN ?_|refine IN FN ?_)
  all_goals exact K _ _ rfl rfl (by clear K;unfold pD;grind)
 ·rw [if_pos h5]
  repeat' (first|refine If ?_|refine IF a5 FN ?_)
  exact IL FN ⟨rfl,fun e=>absurd e (by decide)⟩
 rw [if_neg h5]
 repeat' (first|refine If ?_|refine IF a5 FN ?_|(apply aM;first|refine IH 8 a5 0 IE ?_|refine IH 8 a5 1 IE ?_|refine IH 8 a5 2 IE ?_|refine IG a5 0 ID ?_|refine IG a5 1 ID ?_|refine IG a5 2 ID ?_|refine IG a5 3 ID ?_|fail))
 refine IL FN ⟨rfl,fun e=>?_⟩
 rfl
set_option maxHeartbeats 2000000 in
theorem y8 (f:aY) (g:bj) (name:Int):bN Tryz.prog 52 [cQ f,.agg (bL g),aF name] (aF (nr f g name)):=by
 refine aN Tryz.func52 rfl Tryz.ntmps52 rfl fun B=>?_
 repeat' (first|refine If ?_|refine IF a5 FN ?_|refine bk ?_|fail)
 refine bz 30 [(0,.v),(1,.v),(2,.v),(3,.v),(4,.v),(5,.v),(6,.v),(7,.v),(8,.v),(9,.v),(12,.v),(13,.v),(14,.v),(15,.v),(16,.v),(17,.v),(18,.v),(19,.v),(20,.v),(23,.v),(10,.e),(11,.v),(21,.e),(22,.v),(24,.v),(25,.e),(26,.v),(27,.v),(28,.v),(29,.v)] none ?_ trivial rfl (by kernel_rfl) (by kernel_rfl) (by kernel_rfl) bT (by kernel_rfl) rfl
 repeat' (first|refine aC ?_|refine b6 a5 ?_|(apply dy;refine eh ?_)|fail)
 refine jx [] [] (uQ g.Mark) rfl rfl (Io _) trivial fun c L1 ⟨m,hc,hL⟩=>?_
 subst hc;subst hL
 repeat' (first|refine aC ?_|(apply dy;refine eh ?_)|fail)
 refine jx [] _ (xX (f.Regions.map bH).length (g.Points.map dm).length) rfl rfl (Io _) trivial fun c L1 ⟨b,hc,hL⟩=>?_
 subst hc;subst hL
 repeat' (first|refine aC ?_|(apply dy;refine eh ?_)|refine dS a5 ?_|fail)
 refine jx (L:=[(b,.box [aF 0,aF 0] 296),(m,gQ fun _ _=>none)]) _ [] (j3 [⟨114,[.iptr [aF name]],[],name,0⟩,⟨115,[.iptr (bL g)],[],ix g,0⟩,⟨201,[.iptr [.imm 3 (g.Parts.map eo)],.iptr [aF 8],.iptr [.fn 118 [.iptr (cx f)]]],[],(ci 8 g.Parts (lr f)).1,(ci 8 g.Parts (lr f)).2⟩,⟨203,[.iptr [.imm 4 (g.Anchors.map cX)],.iptr [aF 16],.iptr [.fn 205 [.iptr [ej g.Mark],.iptr [.sc (.map (some m))]]]],[(m,gQ fun _ _=>none)],(ci 16 g.Anchors (lC g)).1,(ci 16 g.Anchors (lC g)).2⟩,⟨206,[.iptr [.imm 4 (g.Deltas.map dM)],.iptr [aF 400],.iptr [.fn 208 [.iptr [aF (f.Regions.map bH).length],.iptr [aF (g.Points.map dm).length],.sc (.pointer (some ⟨b,0,none⟩))]]],[(b,.box [aF 0,aF 0] 296)],(ci 400 g.Deltas (qD f g)).1,(ci 400 g.Deltas (qD f g)).2⟩,⟨124,[.iptr (bL g)],[],mF g.Hint,0⟩] ?_) rfl rfl (List.Perm.swap ..) trivial fun c L1 hc=>?_
 ·refine ⟨⟨inferInstance,vr name⟩,fun _=>⟨⟨inferInstance,vt g⟩,fun _=>⟨⟨inferInstance,DP rfl g.Parts 8 _ (fun _ _=>True) [] trivial (fun _=>d3 fun i x _=>vu f i x)⟩,fun _=>⟨⟨inferInstance,DQ rfl g.Anchors 16 (fM g.Anchors (lC g)) (fun i L=>L=[(m,gQ (nw (g.Anchors.take i)))]) _ (by rw [List.take_zero,Be]) ?_⟩,fun _=>⟨⟨inferInstance,DR rfl g.Deltas 400 (fM g.Deltas (qD f g)) (fun i L=>L=[(b,.box [aF (fK g.Deltas i).1,aF (fK g.Deltas i).2] 296)]) _ rfl ?_⟩,fun _=>⟨⟨inferInstance,vv g⟩,fun _=>trivial⟩⟩⟩⟩⟩⟩
  ·intro _ i x L hx hL
   subst hL
   rw [hQ hx]
   exact uP g i x hx m
  ·intro _ i x L hx hL
   subst hL
   rw [hQ hx]
   exact xW f g i x hx _ _ (by rw [Iu]) (by rw [Iu]) b
 ·rw [jJ] at hc
  subst hc
  unfold ck
  repeat' (first|refine aC ?_|refine b6 a5 ?_|fail)
  refine IQ [7,37] FN ?_
  repeat' (first|refine If ?_|refine a7 ?_|refine IF a5 FN ?_)
  exact IM IA
instance (f:aY) (g:bj) (name:Int):AD Tryz.prog 52 [cQ f,.agg (bL g),aF name] (aF (nr f g name)):=⟨y8 f g name⟩
section
variable {P:Program} {l:List Oper} {fr:bW} {fin:jn} {sk:lW} {acc:bW} {L:AL} {k:Nat} {dd:Option Tmp} {ty t:TypeId} {pos:String} {af:Array Edge} {g:Option (Nat×Bool)} {x y:Operand}
theorem pq (i:Nat) (v0:Value) {b kt et:Nat} {kd:TypeDesc} {q:Value} {m:Value→Option AV} (ht:P.underlying t=some (.map kt et)) (hkt:P.underlying kt=some kd) (hx:bc (ct l.toArray acc fr af.toList) x=some (.sc (.map (some b)))) (hy:bc (ct l.toArray acc fr af.toList) y=some (.sc q)) (hk:MapKept.IsKey kd q) (hL:L[i]?=some (b,cN kd m)) (hz:kU P et v0=true) (hg:iA ⟨dd,.lookup t x y false,ty,pos,af,g⟩ acc) (h:DA P l fr fin sk ((k,(m q).getD (.sc v0))::acc) L):
  cC P l fr fin k .e ⟨dd,.lookup t x y false,ty,pos,af,g⟩ sk acc L:=
 jy hg (fun B=>kX i ht hkt hx hy hk hL (fR hz) fun _=> .sc _) fun c L' ⟨h1,h2⟩=>by subst h1;subst h2;exact h
end
def tw (f:aY) (c:fV) (late:Bool):Int:=if c.Rune < 0∨c.Rune > 1114111 then 1 else if kF f c.Glyph=false then 32 else dK late 24
theorem zW (f:aY) (c:fV) (late:Bool):bN Tryz.prog 59 [cQ f,.agg (dQ c),ej late] (aF (tw f c late)):=by
 refine aN Tryz.func59 rfl Tryz.ntmps59 rfl fun B=>?_
 unfold tw
 repeat' (first|refine If ?_|refine ak ?_|refine IF a5 FN ?_|refine bk ?_|fail)
 refine c9 [2,3,4] (c.Rune < 0∨c.Rune > 1114111) rfl (fun Q' K=>?_) (fun hC=>?_) (fun hC=>?_)
 ·repeat' (first|refine If ?_|refine IF a5 FN ?_|refine IN FN ?_|refine IP IB ?_|refine IR IA (fun _=>?_) (fun _=>?_))
  all_goals exact K _ _ rfl rfl (by clear K;grind)
 ·rw [if_pos hC]
  repeat' (first|refine If ?_|refine IF a5 FN ?_)
  exact IM IA
 rw [if_neg hC]
 repeat' (first|refine If ?_|refine IF a5 FN ?_|(apply bv;refine bn ?_)|fail)
 refine aq rfl (fun h=>?_) (fun h=>?_)
 ·rw [if_pos (by simpa using h)]
  repeat' (first|refine If ?_|refine IF a5 FN ?_)
  exact IM IA
 rw [if_neg (by simpa using h)]
 repeat' (first|refine If ?_|refine IF a5 FN ?_|(apply bv;refine bn ?_)|fail)
 exact IM IA
instance (f:aY) (c:fV) (late:Bool):AD Tryz.prog 59 [cQ f,.agg (dQ c),ej late] (aF (tw f c late)):=⟨zW f c late⟩
def wP (f:aY) (i:Nat) (c:fV):Bool:=match i with | 0=>false | j+1=>match f.Chars[j]? with | some b=>decide (c.Rune≤b.Rune) | none=>false
def iF (f:aY) (i:Nat) (c:fV):Int:=tw f c (wP f i c)
theorem xL (f:aY) (i:Nat) (c:fV) (hc:f.Chars[i]?=some c) (hm:(f.Chars.length:Int)≤1000):bN Tryz.prog 58 [aF i,.agg (dQ c),.iptr (cx f)] (aF (iF f i c)):=by
 refine aN Tryz.func58 rfl Tryz.ntmps58 rfl fun B=>?_
 have hil:=(Ip hc).1
 unfold iF
 cases i with
 | zero=>
  repeat' (first|refine If ?_|refine IF a5 FN ?_|refine bk ?_|fail)
  refine bz 17 [(0,.v),(1,.v),(2,.v),(3,.v),(4,.v),(5,.v),(6,.v),(7,.v),(8,.v),(9,.v),(10,.v),(11,.v),(12,.v),(13,.v),(14,.v),(15,.v),(16,.v)] none ?_ trivial rfl (by kernel_rfl) (by kernel_rfl) (by kernel_rfl) bT (by kernel_rfl) rfl
  repeat' (first|refine aC ?_|refine b6 a5 ?_|(apply dy;refine eh ?_)|refine qX rfl rfl ?_)
  refine IQ [22] FN ?_
  repeat' (first|refine If ?_|refine a7 ?_|refine IF a5 FN ?_)
  exact IM IA
 | succ j=>
  obtain ⟨b,hb⟩:∃b,f.Chars[j]?=some b:=⟨_,Iz (by omega)⟩
  have hbg:(f.Chars.map dQ)[(((j+1:Nat):Int) - 1).toNat]?=some (dQ b):=by rw [show (((j+1:Nat):Int) - 1).toNat=j by omega];exact cw hb
  have hl:wP f (j+1) c=decide (c.Rune≤b.Rune):=by simp [wP,hb]
  have hpos:decide (0 < ((j+1:Nat):Int))=true:=decide_eq_true (by omega)
  rw [hl]
  repeat' (first|refine If ?_|refine IF a5 FN ?_|refine bk ?_|fail)
  refine bz 17 [(0,.v),(1,.v),(2,.v),(3,.v),(4,.v),(5,.v),(6,.v),(7,.v),(8,.v),(9,.v),(10,.v),(11,.v),(12,.v),(13,.v),(14,.v),(15,.v),(16,.v)] none ?_ trivial rfl (by kernel_rfl) (by kernel_rfl) (by kernel_rfl) bT (by kernel_rfl) rfl
  repeat' (first|refine aC ?_|refine b6 a5 ?_|fail)
  rw [hpos]
  repeat' (first|refine aC ?_|refine b6 a5 ?_|(apply dW;refine fz ?_)|(apply cB;refine cS a5 ?_)|(apply dy;refine eh ?_)|fail)
  refine IQ [22] FN ?_
  repeat' (first|refine If ?_|refine a7 ?_|refine IF a5 FN ?_)
  exact IM IA
def tp (a:ee) (name:Int):Int:=if name≠0 then name else dK (!(decide ([a.Min,a.Def,a.Max].all gc=true∧a.Min≤a.Def∧a.Def≤a.Max))) 60
theorem zL (a:ee) (name:Int):bN Tryz.prog 69 [.agg (cE a),aF name] (aF (tp a name)):=by
 refine aN Tryz.func69 rfl Tryz.ntmps69 rfl fun B=>?_
 unfold tp
 repeat' (first|refine If ?_|refine IF a5 FN ?_|refine bk ?_|fail)
 refine aq rfl (fun h=>?_) (fun h=>?_)
 ·rw [if_pos (Iy h)]
  repeat' (first|refine If ?_|refine IF a5 FN ?_)
  exact IM IA
 rw [if_neg (Ix h)]
 repeat' (first|refine If ?_|refine IF a5 FN ?_|refine bG a5 ?_|(apply bv;refine bn ?_)|fail)
 refine da (t:=5) [] ([a.Min,a.Def,a.Max].all gc=true∧a.Min≤a.Def∧a.Def≤a.Max) rfl (fun Q' K=>?_) ?_
 ·repeat' (first|refine If ?_|refine IF a5 FN ?_|refine IN FN ?_|refine IP IB ?_|refine IR IA (fun _=>?_) (fun _=>?_))
  all_goals exact K _ _ rfl rfl (by clear K;grind)
 repeat' (first|refine If ?_|refine IF a5 FN ?_|(apply bv;refine bn ?_)|fail)
 exact IM IA
instance (a:ee) (name:Int):AD Tryz.prog 69 [.agg (cE a),aF name] (aF (tp a name)):=⟨zL a name⟩
def rL (_:Nat) (t:eO):Int:=dK (decide (¬(-64≤t.Start∧t.Start≤t.Peak∧t.Peak≤t.End∧t.End≤64)∨(t.Start < 0∧t.End > 0∧t.Peak≠0))) 61
set_option maxHeartbeats 1000000 in
theorem C6 (i:Nat) (t:eO):bN Tryz.prog 150 [aF i,.agg (jV t)] (aF (rL i t)):=by
 refine aN Tryz.func150 rfl Tryz.ntmps150 rfl fun B=>?_
 repeat' (first|refine If ?_|refine IF a5 FN ?_|refine bk ?_|fail)
 refine da (t:=5) [3] (-64≤t.Start∧t.Start≤t.Peak∧t.Peak≤t.End∧t.End≤64) rfl (fun Q' K=>?_) ?_
 ·repeat' (first|refine If ?_|refine IF a5 FN ?_|refine IN FN ?_|refine IP IB ?_|refine IR IA (fun _=>?_) (fun _=>?_))
  all_goals exact K _ _ rfl rfl (by clear K;grind)
 repeat' (first|refine If ?_|refine IF a5 FN ?_)
 refine da (t:=6) [5] (t.Start < 0∧t.End > 0∧t.Peak≠0) rfl (fun Q' K=>?_) ?_
 ·repeat' (first|refine If ?_|refine IF a5 FN ?_|refine IN FN ?_|refine IP IB ?_|refine IR IA (fun _=>?_) (fun _=>?_))
  all_goals exact K _ _ rfl rfl (by clear K;grind)
 have ht:rL i t=dK (!(decide (-64≤t.Start∧t.Start≤t.Peak∧t.Peak≤t.End∧t.End≤64)) || decide (t.Start < 0∧t.End > 0∧t.Peak≠0)) 61:=by unfold rL;rw [Bool.decide_or,decide_not]
 rw [ht]
 generalize decide (-64≤t.Start∧t.Start≤t.Peak∧t.Peak≤t.End∧t.End≤64)=p
 generalize decide (t.Start < 0∧t.End > 0∧t.Peak≠0)=q
 cases p <;> cases q
 all_goals
  repeat' (first|refine If ?_|refine IF a5 FN ?_|refine IN FN ?_|refine IP IB ?_|(apply bv;refine bn ?_)|fail)
  exact IM IA
def yB (axes:Int) (r:List eO):Int:=if (r.length:Int)≠axes then 61 else (cU r rL).1
theorem w1 (r:List eO) (axes:Int):bN Tryz.prog 72 [.agg (bH r),aF axes] (aF (yB axes r)):=by
 refine aN Tryz.func72 rfl Tryz.ntmps72 rfl fun B=>?_
 unfold yB
 repeat' (first|refine If ?_|refine IF a5 FN ?_|refine bk ?_|fail)
 rw [Iu]
 refine aq rfl (fun h=>?_) (fun h=>?_)
 ·rw [if_pos (Iy h)]
  repeat' (first|refine If ?_|refine IF a5 FN ?_)
  exact IM IA
 rw [if_neg (Ix h)]
 repeat' (first|refine If ?_|refine IF a5 FN ?_)
 refine b9 [] [] (D1 (u:= .sc (.func (.func 150) #[] #[])) (g:=150) (caps:=[]) rfl r _ (fun _ _=>True) [] trivial (d3 (fun i x _=>C6 i x))) rfl rfl (Io _) rfl fun c L1 hc=>?_
 have hc:c=ck (cU r rL):=hc
 subst hc
 unfold ck
 repeat' (first|refine If ?_|refine IF a5 FN ?_)
 exact IM IA
instance (r:List eO) (axes:Int):AD Tryz.prog 72 [.agg (bH r),aF axes] (aF (yB axes r)):=⟨w1 r axes⟩
theorem un (f:aY) (i:Nat) (r:List eO):bN Tryz.prog 71 [aF i,.agg (bH r),.iptr (cx f)] (aF (yB f.Axes.length r)):=by
 refine aN Tryz.func71 rfl Tryz.ntmps71 rfl fun B=>?_
 repeat' (first|refine If ?_|refine IF a5 FN ?_|refine bk ?_|(apply bv;refine bn ?_)|fail)
 rw [Iu]
 repeat' (first|fail)
 exact IM IA
theorem xM (i:Nat) (l:List fS):bN Tryz.prog 74 [aF i,.imm 2 (l.map eI)] (aF (mF l)):=by
 refine aN Tryz.func74 rfl Tryz.ntmps74 rfl fun B=>?_
 repeat' (first|refine If ?_|refine IF a5 FN ?_|(apply bv;refine bn ?_)|fail)
 exact IM IA
def A4 (_:Nat) (n:Int):Int:=dK (!([n].all gc)) 1
theorem zZ (i:Nat) (n:Int):bN Tryz.prog 77 [aF i,aF n] (aF (A4 i n)):=by
 refine aN Tryz.func77 rfl Tryz.ntmps77 rfl fun B=>?_
 repeat' (first|refine If ?_|refine IF a5 FN ?_|refine bG a5 ?_|(apply bv;refine bn ?_)|fail)
 exact IM IA
def nZ (f:aY):Int:=if f.Unit < 16∨f.Unit > 4096 then 1 else if f.Glyphs.length=0 then 32 else 0
theorem AK (f:aY):bN Tryz.prog 49 [cQ f] (aF (nZ f)):=by
 refine aN Tryz.func49 rfl Tryz.ntmps49 rfl fun B=>?_
 unfold nZ
 repeat' (first|refine If ?_|refine ak ?_|refine IF a5 FN ?_|refine bk ?_|fail)
 refine c9 [1] (f.Unit < 16∨f.Unit > 4096) rfl (fun Q' K=>?_) (fun hC=>?_) (fun hC=>?_)
 ·repeat' (first|refine If ?_|refine IF a5 FN ?_|refine IN FN ?_|refine IP IB ?_|refine IR IA (fun _=>?_) (fun _=>?_))
  all_goals exact K _ _ rfl rfl (by clear K;grind)
 ·rw [if_pos hC]
  repeat' (first|refine If ?_|refine IF a5 FN ?_)
  exact IM IA
 rw [if_neg hC]
 repeat' (first|refine If ?_|refine IF a5 FN ?_)
 rw [Iu]
 refine aq rfl (fun h=>?_) (fun h=>?_)
 ·rw [if_pos (by have:=Iy h;omega)]
  repeat' (first|refine If ?_|refine IF a5 FN ?_)
  exact IM IA
 rw [if_neg (by have:=Ix h;omega)]
 repeat' (first|refine If ?_|refine IF a5 FN ?_)
 exact IM IA
instance (f:aY):AD Tryz.prog 49 [cQ f] (aF (nZ f)):=⟨AK f⟩
theorem ya (f:aY):bN Tryz.prog 48 [.iptr (cx f)] (ck (nZ f,0)):=by
 refine aN Tryz.func48 rfl Tryz.ntmps48 rfl fun B=>?_
 repeat' (first|refine If ?_|refine IF a5 FN ?_|(apply bv;refine bn ?_)|fail)
 exact aX rfl rfl rfl rfl
end Go.Proofs.YtpmdfoaadejmkaaGreatDoor
namespace Go.Proofs.YtpmdfoaadejmkaaGreatDoor
open Go.RowKit
section
variable {P:Program} {tt:TT} {l:List Oper} {fr:bW} {fin:jn} {sk:lW} {acc:bW} {L:AL} {k:Nat} {dd:Option Tmp} {ty t t':TypeId} {pos:String} {af:Array Edge} {g:Option (Nat×Bool)} {x y:Operand} {u:AV}
theorem d8 (ok:dY P tt) {e sz by_ b off n cap:Nat} {q:IntKind} {i:Int} (ht:jl tt t=some (e,sz,by_)) (hx:bc (ct l.toArray acc fr af.toList) x=some (.sc (.slice (some ⟨b,off,none⟩) n cap))) (hy:bc (ct l.toArray acc fr af.toList) y=some (.sc (.int q i))) (h0:0≤i∧i < n) (hg:iA ⟨dd,.indexAddr t x y,ty,pos,af,g⟩ acc) (h:DA P l fr fin sk ((k,.sc (.pointer (some ⟨b,off+i.toNat * sz,none⟩)))::acc) L):
  cC P l fr fin k .v ⟨dd,.indexAddr t x y,ty,pos,af,g⟩ sk acc L:=eW hg (fun _ _=>(t4 (bi ok ht).1 hx hy h0).ao) h
theorem A7 (ok:dY P tt) (i:Nat) {b q n:Nat} {cs ys:List AV} {e:TypeId} (ht:FP tt t=some n) (hx:bc (ct l.toArray acc fr af.toList) x=some (.sc (.pointer (some ⟨b,q,none⟩)))) (hy:bc (ct l.toArray acc fr af.toList) y=some u) (hu:u.cells=some ys) (hL:L[i]?=some (b,.box cs e)) (hn:Nat.beq ys.length n=true) (hk:Nat.ble (q+n) cs.length=true) (hg:iA ⟨dd,.store t x y,ty,pos,af,g⟩ acc) (h:∀c,DA P l fr fin sk ((k,c)::acc) (fa L i (.box (f4 cs q ys) e))):
  cC P l fr fin k .e ⟨dd,.store t x y,ty,pos,af,g⟩ sk acc L:=jy hg (fun _=>m7 i (mM ok ht) hx hy hu hL hn hk) fun c L' h1=>by subst h1;exact h c
theorem tD {v:Value} (ht:ir P t=true) (hx:bc (ct l.toArray acc fr af.toList) x=some (.sc (.iface t v))) (hg:iA ⟨dd,.typeAssert x t' t false,ty,pos,af,g⟩ acc) (h:DA P l fr fin sk ((k,.sc v)::acc) L):cC P l fr fin k .v ⟨dd,.typeAssert x t' t false,ty,pos,af,g⟩ sk acc L:=
 eW hg (fun _ _=>(t3 ht hx).ao) h
theorem xP (ok:dY P tt) (i:Nat) {e by_ b n cap:Nat} {cs:List AV} {c:AV} (ht:jl tt t=some (e,1,by_)) (hz:zI tt e=some [.int .i64 0]) (hx:bc (ct l.toArray acc fr af.toList) x=some (.sc (.slice (some ⟨b,0,none⟩) n cap))) (hy:bc (ct l.toArray acc fr af.toList) y=some u) (hu:ij u=some (1,[[c]])) (hL:L[i]?=some (b,.box cs e)) (hcl:cs.length=cap) (hn:n≤cap) (h63:n+1≤9223372036854775807) (hby:(n+1) * by_≤140737488355328) (hg:iA ⟨dd,.call ⟨.builtin .append,#[x,y],#[t,t]⟩,ty,pos,af,g⟩ acc)
  (h:∀b' cs',cs'.take (n+1)=cs.take n++[c]→n+1≤cs'.length→DA P l fr fin sk ((k,.sc (.slice (some ⟨b',0,none⟩) (n+1) cs'.length))::acc) ((b',.box cs' e)::L.eraseIdx i)):
  cC P l fr fin k .e ⟨dd,.call ⟨.builtin .append,#[x,y],#[t,t]⟩,ty,pos,af,g⟩ sk acc L:=
 jy hg (fun _=>p7 i (bi ok ht).1 (ew ok hz) hx hy (cM hu) hL hcl hn h63 hby) fun q L' ⟨b',cs',h1,h2,h3,h4⟩=>by subst h1;subst h4;exact h b' cs' h2 h3
theorem xR (ok:dY P tt) {e by_:Nat} {c:AV} (ht:jl tt t=some (e,1,by_)) (hz:zI tt e=some [.int .i64 0]) (hx:bc (ct l.toArray acc fr af.toList) x=some (.sc (.slice none 0 0))) (hy:bc (ct l.toArray acc fr af.toList) y=some u) (hu:ij u=some (1,[[c]])) (hby:Nat.ble by_ 140737488355328=true) (hg:iA ⟨dd,.call ⟨.builtin .append,#[x,y],#[t,t]⟩,ty,pos,af,g⟩ acc)
  (h:∀b' cs',cs'.take 1=[c]→1≤cs'.length→DA P l fr fin sk ((k,.sc (.slice (some ⟨b',0,none⟩) 1 cs'.length))::acc) ((b',.box cs' e)::L)):
  cC P l fr fin k .e ⟨dd,.call ⟨.builtin .append,#[x,y],#[t,t]⟩,ty,pos,af,g⟩ sk acc L:=
 jy hg (fun _=>p8 (bi ok ht).1 (ew ok hz) hx hy (cM hu) (Nat.ble_eq .. ▸hby)) fun q L' ⟨b',cs',h1,h2,h3,h4⟩=>by subst h1;subst h4;exact h b' cs' h2 h3
end
def Eo (P:Program) (t:TypeId) (name:String) (f:FuncId) (ptr:Bool) (e:TypeId):Bool:=(match P.underlying t with | some (.pointer e')=>Nat.beq e' e | _=>false) && match P.info? t with
 | some ti=>match ti.methods.find? (·.name==name) with
  | some m=>m.path.isEmpty && (match m.func with | some (f',p')=>Nat.beq f' f && (p'==ptr) | none=>false)
  | none=>false
 | none=>false
theorem ip {P:Program} {t:TypeId} {name:String} {f:FuncId} {ptr:Bool} {e:TypeId} (h:Eo P t name f ptr e=true):lY P t name f ptr e:=by
 unfold Eo at h
 rw [Bool.and_eq_true] at h
 obtain ⟨h1,h2⟩:=h
 split at h1
 ·rename_i e' hu
  rw [Nat.beq_eq] at h1
  subst h1
  split at h2
  ·rename_i ti hti
   split at h2
   ·rename_i m hm
    rw [Bool.and_eq_true] at h2
    obtain ⟨h3,h4⟩:=h2
    split at h4
    ·rename_i f' p' hf
     rw [Bool.and_eq_true,Nat.beq_eq,beq_iff_eq] at h4
     refine ⟨hu,ti,m,hti,hm,?_,by rw [hf,h4.1,h4.2]⟩
     simpa using h3
    ·cases h4
   ·cases h2
  ·cases h2
 ·cases h1
end Go.Proofs.YtpmdfoaadejmkaaGreatDoor
namespace Go.Proofs.YtpmdfoaadejmkaaGreatDoor
open Go.RowKit Go.MapKept
section
variable {P:Program} {fr:bW} {B:Bs} {L:AL}
theorem AO.as {o:Oper} {a b:AV} (h:AO P o fr B L (fun c L'=>c=a∧L'=L)) (hv:∀σ v,VR σ a v→VR σ b v):AO P o fr B L (fun c L'=>c=b∧L'=L):=
 fun σ ρ w hρ hw=>(h σ ρ w hρ hw).mono fun _ _ ⟨τ,c,L',h1,h2,h3,h4,h5⟩=>⟨τ,b,L',h1,hv τ _ (by rw [←h4];exact h2),h3,rfl,h5⟩
end
section
variable {P:Program} {tt:TT} {l:List Oper} {fr:bW} {fin:jn} {sk:lW} {acc:bW} {L:AL} {k:Nat} {dd:Option Tmp} {ty t t':TypeId} {pos:String} {af:Array Edge} {g:Option (Nat×Bool)} {x y z:Operand} {u:AV}
theorem xT (i:Nat) (v0:Value) (a:AV) {b kt et:Nat} {kd:TypeDesc} {q:Value} {m:Value→Option AV} (ht:P.underlying t=some (.map kt et)) (hkt:P.underlying kt=some kd) (hx:bc (ct l.toArray acc fr af.toList) x=some (.sc (.map (some b)))) (hy:bc (ct l.toArray acc fr af.toList) y=some (.sc q)) (hk:IsKey kd q) (hL:L[i]?=some (b,cN kd m)) (hz:kU P et v0=true) (ha:∀σ v,VR σ ((m q).getD (.sc v0)) v→VR σ a v) (hg:iA ⟨dd,.lookup t x y false,ty,pos,af,g⟩ acc) (h:DA P l fr fin sk ((k,a)::acc) L):
  cC P l fr fin k .e ⟨dd,.lookup t x y false,ty,pos,af,g⟩ sk acc L:=
 jy hg (fun B=>(kX i ht hkt hx hy hk hL (fR hz) fun _=> .sc _).as ha) fun c L' ⟨h1,h2⟩=>by subst h1;subst h2;exact h
theorem eV (ok:dY P tt) (L0:AL) {e sz by_:Nat} {q:Option (Nat×Nat)} {l1 l2:List (List AV)} (ht:jl tt t=some (e,sz,by_)) (hx:bc (ct l.toArray acc fr af.toList) x=some (.vec q sz l1)) (hy:bc (ct l.toArray acc fr af.toList) y=some u) (hu:ij u=some (sz,l2)) (hL:L.Perm (tok q e sz l1.length++L0)) (h63:l1.length+l2.length≤9223372036854775807) (hby:(l1.length+l2.length) * by_≤140737488355328) (hg:iA ⟨dd,.call ⟨.builtin .append,#[x,y],#[t,t]⟩,ty,pos,af,g⟩ acc)
  (h:∀k',DA P l fr fin sk ((k,.vec k' sz (l1++l2))::acc) (tok k' e sz (l1++l2).length++L0)):
  cC P l fr fin k .e ⟨dd,.call ⟨.builtin .append,#[x,y],#[t,t]⟩,ty,pos,af,g⟩ sk acc L:=
 jy hg (fun _=>n6 L0 (bi ok ht).1 (bi ok ht).2 hx hy (cM hu) hL h63 hby) fun c L' ⟨k',h1,h2⟩=>by subst h1;subst h2;exact h k'
end
section
variable {P:Program} {r:Option Nat} {ops:Array Oper} {Q:Exit→Act→World→Prop} {nt:Nat} {D:List Deferred} {fr:bW} {B:Bs} {L:AL} {rest:List Oper} {d:Nat} {ty t:TypeId} {pos:String} {af:Array Edge} {x y z:Operand} {u:AV}
theorem j8 (i:Nat) (v0:Value) (a:AV) {b kt et:Nat} {kd:TypeDesc} {k:Value} {m:Value→Option AV} (ht:P.underlying t=some (.map kt et)) (hkt:P.underlying kt=some kd) (hx:bc fr x=some (.sc (.map (some b)))) (hy:bc fr y=some (.sc k)) (hk:IsKey kd k) (hL:L[i]?=some (b,cN kd m)) (hz:kU P et v0=true) (ha:∀σ v,VR σ ((m k).getD (.sc v0)) v→VR σ a v) (hd:Nat.ble nt d=false)
  (h:br P r ops Q nt D rest ((d,a)::fr) B L):br P r ops Q nt D (⟨some d,.lookup t x y false,ty,pos,af,none⟩::rest) fr B L:=
 cI hd rfl ((kX i ht hkt hx hy hk hL (fR hz) fun _=> .sc _).as ha) fun c L' ⟨h1,h2⟩=>by subst h1;subst h2;exact h
end
noncomputable def ny (m:Value→Option AV) (k:Value) (c:AV):Value→Option AV:=fun q=>open Classical in if q=k then some c else m q
theorem j6 {m:Value→Option AV} {k:Value} {c:AV}:ny m k c k=some c:=by simp [ny]
theorem iq {m:Value→Option AV} {k:Value} {c:AV} (q:Value) (h:q≠k):ny m k c q=m q:=by simp [ny,h]
def n4 (m:Value→Option AV) (M:Int→Int):Prop:=∀z,m (.int .i64 z)=none∧M z=0∨m (.int .i64 z)=some (.sc (.int .i64 (M z)))
theorem n4.at {m:Value→Option AV} {M:Int→Int} (h:n4 m M) (z:Int):∀(σ:cj) (v:Value),VR σ ((m (.int .i64 z)).getD (.sc (.int .i64 0))) v→VR σ (.sc (.int .i64 (M z))) v:=by
 intro σ v hv
 rcases h z with ⟨h1,h2⟩ | h1
 ·rw [h1] at hv;rw [h2];exact hv
 ·rw [h1] at hv;exact hv
theorem n4.put {m:Value→Option AV} {M:Int→Int} (h:n4 m M) (z c:Int):n4 (ny m (.int .i64 z) (.sc (.int .i64 c))) fun q=>if q=z then c else M q:=by
 intro q
 by_cases e:q=z
 ·subst e;simp only [if_true,j6];exact .inr trivial
 ·simp only [if_neg e];rw [iq _ (by intro h;injection h with _ h;exact e h)];exact h q
def oW (m:Value→Option AV) (K:Int→Option (Nat×Nat)) (U:Int→List Int):Prop:=∀z,(m (.int .i64 z)=none∧U z=[]∧K z=none)∨m (.int .i64 z)=some (.vec (K z) 1 (aT (U z)))
theorem oW.at {m:Value→Option AV} {K:Int→Option (Nat×Nat)} {U:Int→List Int} (h:oW m K U) (z:Int):∀(σ:cj) (v:Value),VR σ ((m (.int .i64 z)).getD (.sc (.slice none 0 0))) v→VR σ (.vec (K z) 1 (aT (U z))) v:=by
 intro σ v hv
 rcases h z with ⟨h1,h2,h3⟩ | h1
 ·rw [h1] at hv;rw [h2,h3];exact cJ 1 hv
 ·rw [h1] at hv;exact hv
theorem oW.put {m:Value→Option AV} {K:Int→Option (Nat×Nat)} {U:Int→List Int} (h:oW m K U) (z:Int) (k:Option (Nat×Nat)) (l:List Int):oW (ny m (.int .i64 z) (.vec k 1 (aT l))) (fun q=>if q=z then k else K q) fun q=>if q=z then l else U q:=by
 intro q
 by_cases e:q=z
 ·subst e;simp only [if_true,j6];exact .inr trivial
 ·simp only [if_neg e]
  rw [iq _ (by intro h;injection h with _ h;exact e h)]
  exact h q
def lU (e:TypeId) (K:Int→Option (Nat×Nat)) (U:Int→List Int) (zs:List Int):AL:=zs.flatMap fun z=>tok (K z) e 1 (aT (U z)).length
theorem nJ {e:TypeId} {K:Int→Option (Nat×Nat)} {U:Int→List Int}:∀{zs:List Int} {z:Int},z∈zs→(lU e K U zs).Perm (tok (K z) e 1 (aT (U z)).length++lU e K U (zs.erase z))
 | y::zs,z,h=>by
  by_cases hz:y=z
  ·subst hz
   rw [List.erase_cons_head]
   exact Io _
  ·have hm:z∈zs:=by
    rcases List.mem_cons.1 h with h | h
    ·exact absurd h.symm hz
    ·exact h
   rw [List.erase_cons_tail (by simpa using hz)]
   have ih:=nJ (e:=e) (K:=K) (U:=U) hm
   unfold lU at ih ⊢
   rw [List.flatMap_cons,List.flatMap_cons]
   refine (List.Perm.append_left _ ih).trans ?_
   rw [←List.append_assoc,←List.append_assoc]
   exact List.Perm.append_right _ List.perm_append_comm
theorem wi {e:TypeId} {K K':Int→Option (Nat×Nat)} {U U':Int→List Int} {zs:List Int} (h:∀z∈zs,K z=K' z∧U z=U' z):lU e K U zs=lU e K' U' zs:=by
 unfold lU
 induction zs with
 | nil=>rfl
 | cons z zs ih=>
  rw [List.flatMap_cons,List.flatMap_cons,ih fun y hy=>h y (It _ hy),(h z (List.mem_cons_self ..)).1,(h z (List.mem_cons_self ..)).2]
theorem C7 {e:TypeId} {K:Int→Option (Nat×Nat)} {U:Int→List Int} {zs:List Int} {z:Int} {k:Option (Nat×Nat)} {l:List Int} (hn:zs.Nodup) (h:z∈zs):(tok k e 1 (aT l).length++lU e K U (zs.erase z)).Perm (lU e (fun q=>if q=z then k else K q) (fun q=>if q=z then l else U q) zs):=by
 have h1:=nJ (e:=e) (K:=fun q=>if q=z then k else K q) (U:=fun q=>if q=z then l else U q) h
 simp only [if_true] at h1
 refine List.Perm.trans ?_ h1.symm
 rw [wi (K:=K) (U:=U) (K':=fun q=>if q=z then k else K q) (U':=fun q=>if q=z then l else U q) fun y hy=>by
  have hne:y≠z:=fun e=>by subst e;exact (List.Nodup.not_mem_erase hn) hy
  simp only [if_neg hne]
  exact ⟨trivial,trivial⟩]
theorem z0 (e:TypeId) (U:Int→List Int) (zs:List Int):lU e (fun _=>none) U zs=[]:=by
 unfold lU tok
 induction zs with
 | nil=>rfl
 | cons z zs ih=>rw [List.flatMap_cons,ih];rfl
end Go.Proofs.YtpmdfoaadejmkaaGreatDoor
namespace Go.Proofs.YtpmdfoaadejmkaaGreatDoor
open Go.RowKit
section
variable {P:Program} {r:Option Nat} {ops:Array Oper} {Q:Exit→Act→World→Prop} {nt:Nat} {D:List Deferred} {fr:bW} {B:Bs} {L:AL} {cd:Code}
def oU (nt:Nat) (B:Bs) {α:Type} (Dx:α→List Deferred) (V:α→bW) (fr0:bW) (C:α→Prop) (Lx:α→AL) (μ:α→Nat) (x:α) (Q:Exit→Act→World→Prop):Exit→Act→World→Prop:=Exit.then (fun a w=>∃σ x',iL σ nt (Dx x') (V x'++fr0) a∧C x'∧cW B σ (Lx x') w∧μ x' < μ x) Q
theorem zG (ks:List Nat) {α:Type} (Dx:α→List Deferred) (V:α→bW) (C:α→Prop) (Lx:α→AL) (μ:α→Nat) (x0:α) {fr0:bW} (hk:gm fr ks=some fr0) (hV:lA (V x0) fr) (hD:D=Dx x0) (hC:C x0) (hL:∀σ w,cW B σ L w→cW B σ (Lx x0) w)
  (hb:∀x,C x→AT P r cd (oU nt B Dx V fr0 C Lx μ x Q) nt (Dx x) (V x++fr0) B (Lx x)):AT P r (.loop cd) Q nt D fr B L:=by
 intro σ a w ha hw
 subst hD
 classical
 let G:Nat→Act→World→Prop:=fun m a w=>∃σ x,iL σ nt (Dx x) (V x++fr0) a∧C x∧cW B σ (Lx x) w∧μ x=m
 let M:Act→World→Nat:=fun a w=>if h:∃m,G m a w∧∀m',G m' a w→m≤m' then h.choose else 0
 have least:∀a w,(∃m,G m a w)→G (M a w) a w∧∀m',G m' a w→M a w≤m':=by
  rintro a w ⟨m0,hg0⟩
  have hex:∃m,G m a w∧∀m',G m' a w→m≤m':=by
   have:∀k,∀m,m≤k→G m a w→∃m,G m a w∧∀m',G m' a w→m≤m':=by
    intro k
    induction k with
    | zero=>intro m hm hg;exact ⟨m,hg,fun m' _=>by omega⟩
    | succ k ih=>
     intro m hm hg
     by_cases h:∃m',m' < m∧G m' a w
     ·obtain ⟨m',hlt,hg'⟩:=h
      exact ih m' (by omega) hg'
     ·exact ⟨m,hg,fun m' hg'=>by
       rcases Nat.lt_or_ge m' m with hlt | hge
       ·exact absurd ⟨m',hlt,hg'⟩ h
       ·exact hge⟩
   exact this m0 m0 (Nat.le_refl _) hg0
  have hM:M a w=hex.choose:=dif_pos hex
  rw [hM];exact hex.choose_spec
 refine wpIn_loop (fun a w=>∃m,G m a w) M ⟨_,σ,x0,ha.weak (m5 hV (dE ks hk)),hC,hL σ w hw,rfl⟩ ?_
 intro a w hI
 obtain ⟨⟨σ',x,hx,hj,hst,hm⟩,_⟩:=least a w hI
 refine wpIn_mono (hb x hj σ' a w hx hst) ?_
 intro e a' w' hq
 cases e with
 | normal=>
  obtain ⟨τ,x',hx',hj',hst',hlt⟩:=hq
  have hg:G (μ x') a' w':=⟨τ,x',hx',hj',hst',rfl⟩
  refine ⟨⟨_,hg⟩,?_⟩
  have:=(least a' w' ⟨_,hg⟩).2 (μ x') hg
  omega
 | _=>exact hq
theorem n9 {α:Type} {Dx:α→List Deferred} {V:α→bW} {fr0:bW} {C:α→Prop} {Lx:α→AL} {μ:α→Nat} {x:α} (x':α) (hk:gm fr (fr0.map (·.1))=some fr0) (hV:lA (V x') fr) (hD:D=Dx x') (hC:C x') (hm:μ x' < μ x) (hL:∀σ w,cW B σ L w→cW B σ (Lx x') w):
  AX P .normal (oU nt B Dx V fr0 C Lx μ x Q) nt D fr B L:=fun σ a w ha hw=>by
 subst hD
 exact ⟨σ,x',ha.weak (m5 hV (dE _ hk)),hC,hL _ _ hw,hm⟩
theorem qA {α:Type} {Dx:α→List Deferred} {V:α→bW} {fr0:bW} {C:α→Prop} {Lx:α→AL} {μ:α→Nat} {x:α} {id:Nat} (h:AX P (.exit id) Q nt D fr B L):AX P (.exit id) (oU nt B Dx V fr0 C Lx μ x Q) nt D fr B L:=fun σ a w ha hw=>h σ a w ha hw
end
section
variable {nt:Nat} {D:List Deferred} {B:Bs} {fr:bW} {L:AL}
theorem rO {t b e sz n:Nat} {cs:List AV} {l:List (List AV)} (i:Nat) (hl:c6 fr t=some (.iptr [.sc (.slice (some ⟨b,0,none⟩) n n)])) (hL:L[i]?=some (b,.box cs e)) (hc:cs=l.flatten) (hs:∀q∈l,q.length=sz) (hn:l.length=n) (h63:n≤9223372036854775807):m4 nt D B fr L ((t,.iptr [.imm sz l])::fr) ((b,.vec e sz n n)::L.eraseIdx i):=by
 intro σ a w ha hw0
 have hw:=hw0.perm (f9 hL)
 obtain ⟨o,ho,vs,rfl,hvs,h1⟩:=hw.here _ (List.mem_cons_self ..)
 have hfree:=hw.free _ (List.mem_cons_self ..)
 have hvl:vs.length=n * sz:=by rw [←hvs.1,hc,eY l hs,hn]
 have hst:cW B σ ((b,.vec e sz 0 n)::L.eraseIdx i) w:=by
  refine ⟨hw.os,hw.tape,hw.output,hw.size,hw.old,fun p hp=>?_,fun p hp=>?_,by simpa using hw.apart,hw.froz,fun p hp off hm=>?_,hw.grow,hw.same⟩
  ·rcases List.mem_cons.1 hp with rfl | hp'
   ·exact ⟨_,ho,_,rfl,by simp [hvl],Nat.zero_le _,by unfold maxLen;omega⟩
   ·exact hw.here p (It _ hp')
  ·rcases List.mem_cons.1 hp with rfl | hp'
   ·exact hw.mine (b,.box cs e) (List.mem_cons_self ..)
   ·exact hw.mine p (It _ hp')
  ·rcases List.mem_cons.1 hp with rfl | hp'
   ·exact hfree off trivial
   ·exact hw.free p (It _ hp') off hm
 obtain ⟨hst',hle⟩:=hst.freezeHead (n':=n) (xs:=vs) (fun j u hj=>by rw [cL ho];simpa using hj) hvl (Nat.zero_le _) (Nat.le_refl _)
 refine ⟨_,?_,hst'⟩
 have hv:VR (σ.add b vs) (.vec (some (b,n)) sz l) (.slice (some ⟨b,0,none⟩) n n):=by
  have:=kT (σ:=σ.add b vs) (b:=b) (cap:=n) hs (by rw [←hc];exact hvs.mono hle) h1 (by omega) (by unfold maxLen;omega) (fun j u hj=>cj.add_at hj)
  rwa [hn] at this
 have ha':=ha.mono hle
 refine ⟨ha'.size,ha'.defers,fun t' v' hl'=>?_⟩
 rw [cm] at hl'
 by_cases e:t=t'
 ·subst e
  simp only [if_true,Option.some.injEq] at hl'
  subst hl'
  have hp:=ha.look t _ hl
  generalize a.tmps.getD t undef=v0 at hp
  generalize hq:AV.iptr [.sc (.slice (some ⟨b,0,none⟩) n n)]=q at hp
  cases hp with
  | iptr cs2 b0 off hx h=>
   injection hq with hq
   subst hq
   refine .iptr _ b0 off (fun j hj=>?_) fun j c u hc hu=>?_
   ·obtain ⟨u,hu,h1⟩:=hx j hj
    exact ⟨u,hle _ _ _ hu,h1⟩
   ·have hj:j=0:=by
     have:=(Ip hc).1
     simp at this
     exact this
    subst hj
    simp at hc
    subst hc
    obtain ⟨u',hu',_⟩:=hx 0 (by simp)
    have h2:=hle _ _ _ hu'
    rw [hu] at h2
    injection h2 with h2
    subst h2
    rw [(h 0 _ u rfl hu').sc_inv]
    exact hv.im
  | _=>cases hq
 ·rw [if_neg e] at hl'
  exact ha'.look t' v' hl'
end
end Go.Proofs.YtpmdfoaadejmkaaGreatDoor
