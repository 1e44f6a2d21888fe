/-
  The program: glyphs, as check looks at them, with anchors and deltas.
-/
import Derived.Test.YtjjpkibjffmceaaGreatM09
import Derived.Test.YtjjpkibjffmceaaGreatM07
namespace Go.Proofs.YtjjpkibjffmceaaGreat
open Go.RowKit
attribute [local irreducible] AT cg AX AO Av Kt bJ eC DA du
theorem CL:jy Tryz.prog 318:=⟨⟨_,_,Tryz.underlying318,⟨by decide,by decide⟩,⟨rfl,rfl⟩,Tryz.underlying3,Tryz.underlying3⟩,Tryz.stoodInHeld318⟩
theorem GB:jy Tryz.prog 321:=⟨⟨_,_,Tryz.underlying321,⟨by decide,by decide⟩,⟨rfl,rfl⟩,Tryz.underlying3,Tryz.underlying3⟩,Tryz.stoodInHeld321⟩
def o5 (l:List dv) (a b:Int):Option AV:=if ∃x∈l,x.Kind=a∧x.Class=b then some (cM true) else none
theorem BT:o5 []=fun _ _=>none:=by funext a b;simp [o5]
theorem zl (l:List dv) (a b:Int):(o5 l a b).getD (cM false)=cM (decide (∃x∈l,x.Kind=a∧x.Class=b)):=by
 unfold o5
 by_cases h:∃x∈l,x.Kind=a∧x.Class=b
 ·rw [if_pos h,decide_eq_true h];rfl
 ·rw [if_neg h,decide_eq_false h];rfl
theorem zm {l:List dv} {i:Nat} {x:dv} (h:l[i]?=some x):o5 (l.take (i+1)) x.Kind x.Class=some (cM true):=by
 unfold o5
 rw [if_pos ⟨x,by rw [List.take_add_one,h];simp,rfl,rfl⟩]
theorem wd {l:List dv} {i:Nat} {x:dv} (h:l[i]?=some x) (p q:Int) (hne:¬(p=x.Kind∧q=x.Class)):o5 (l.take (i+1)) p q=o5 (l.take i) p q:=by
 unfold o5
 have:(∃y∈l.take (i+1),y.Kind=p∧y.Class=q)↔∃y∈l.take i,y.Kind=p∧y.Class=q:=by
  rw [List.take_add_one,h]
  simp only [Option.toList_some,List.mem_append,List.mem_singleton]
  constructor
  ·rintro ⟨y,hy | rfl,h1⟩
   ·exact ⟨y,hy,h1⟩
   ·exact absurd ⟨h1.1.symm,h1.2.symm⟩ hne
  ·rintro ⟨y,hy,h1⟩
   exact ⟨y,Or.inl hy,h1⟩
 by_cases hc:∃y∈l.take i,y.Kind=p∧y.Class=q
 ·rw [if_pos hc,if_pos (this.2 hc)]
 ·rw [if_neg hc,if_neg (fun h=>hc (this.1 h))]
set_option maxHeartbeats 1000000 in
theorem vm (g:bL) (i:Nat) (a:dv) (ha:g.Anchors[i]?=some a) (m:Nat):AC Tryz.prog 221 [aP i,.agg (cB a),.iptr [cM g.Mark],.iptr [.sc (.map (some m))]] [(m,iD (o5 (g.Anchors.take i)))] fun c L'=>c=aP (nL g i a)∧(nL g i a=0→L'=[(m,iD (o5 (g.Anchors.take (i+1))))]):=by
 refine aX Tryz.func221 rfl Tryz.ntmps221 rfl fun B=>?_
 repeat' (first|refine go ?_|refine IG a6 EV ?_|(apply aJ;first|refine II 7 a6 0 IF ?_|refine II 7 a6 1 IF ?_|refine II 7 a6 2 IF ?_|refine IH a6 0 IE ?_|refine IH a6 1 IE ?_|refine IH a6 2 IE ?_|refine IH a6 3 IE ?_|fail)|refine bD ?_|refine bc a6 fun _=>?_|fail)
 refine dH (t:=8) [2,3,5,7] (a.Kind=3∨a.Kind=4) rfl (fun Q' K=>?_) ?_
 ·repeat' (first|refine go ?_|refine IG a6 EV ?_|refine IR EV ?_|refine IT IC ?_|refine bF rfl rfl rfl (fun _=>?_) (fun _=>?_))
  all_goals exact K _ _ rfl rfl (by clear K;grind)
 repeat' (first|refine go ?_|refine am ?_|refine IG a6 EV ?_)
 refine dH (t:=22) [2,3,5,7,8] (a.Kind < 1∨a.Kind > 4) rfl (fun Q' K=>?_) ?_
 ·repeat' (first|refine go ?_|refine IG a6 EV ?_|refine IR EV ?_|refine IT IC ?_|refine bF rfl rfl rfl (fun _=>?_) (fun _=>?_))
  all_goals exact K _ _ rfl rfl (by clear K;grind)
 repeat' (first|refine go ?_|fail)
 refine au rfl (fun h1=>?_) (fun h1=>?_)
 ·have h0:=h1
  replace h1:=Jy h1
  rw [h0]
  repeat' (first|refine go ?_|refine IG a6 EV ?_|refine cf rfl ?_)
  refine IM EV ?_
  rw [show nL g i a=35 from if_pos (.inl h1)]
  exact ⟨rfl,fun e=>absurd e (by decide)⟩
 have h0:=h1
 replace h1:=Jx h1
 rw [h0]
 clear h0
 repeat' (first|refine go ?_|refine IG a6 EV ?_)
 refine dH (t:=22) [2,3,5,7,8] (a.Class < 0∨a.Class > 15) rfl (fun Q' K=>?_) ?_
 ·repeat' (first|refine go ?_|refine IG a6 EV ?_|refine IR EV ?_|refine IT IC ?_|refine bF rfl rfl rfl (fun _=>?_) (fun _=>?_))
  all_goals exact K _ _ rfl rfl (by clear K;grind)
 repeat' (first|refine go ?_|fail)
 refine au rfl (fun h2=>?_) (fun h2=>?_)
 ·have h0:=h2
  replace h2:=Jy h2
  rw [h0]
  repeat' (first|refine go ?_|refine IG a6 EV ?_|refine cf rfl ?_)
  refine IM EV ?_
  rw [show nL g i a=35 from if_pos (.inr (.inl h2))]
  exact ⟨rfl,fun e=>absurd e (by decide)⟩
 have h0:=h2
 replace h2:=Jx h2
 rw [h0]
 clear h0
 repeat' (first|refine go ?_|refine IG a6 EV ?_)
 refine dH (t:=22) [2,3,5,7] ((a.Kind=3∨a.Kind=4)∧a.Class≠0) rfl (fun Q' K=>?_) ?_
 ·generalize hj:decide (a.Kind=3∨a.Kind=4)=j
  have hj':(a.Kind=3∨a.Kind=4)↔j=true:=by rw [←hj,decide_eq_true_eq]
  repeat' (first|refine go ?_|refine IG a6 EV ?_|refine IR EV ?_|refine IT IC ?_|refine bF rfl rfl rfl (fun _=>?_) (fun _=>?_))
  all_goals exact K _ _ (by first | rfl | (subst_vars;rfl)) rfl (by clear K;grind)
 repeat' (first|refine go ?_|fail)
 refine au rfl (fun h3=>?_) (fun h3=>?_)
 ·have h0:=h3
  replace h3:=Jy h3
  rw [h0]
  repeat' (first|refine go ?_|refine IG a6 EV ?_|refine cf rfl ?_)
  refine IM EV ?_
  rw [show nL g i a=35 from if_pos (.inr (.inr (.inl h3)))]
  exact ⟨rfl,fun e=>absurd e (by decide)⟩
 have h0:=h3
 replace h3:=Jx h3
 rw [h0]
 clear h0
 repeat' (first|refine go ?_|refine IG a6 EV ?_|refine bG a6 ?_|(apply bB;refine bq ?_)|fail)
 refine au rfl (fun h4=>?_) (fun h4=>?_)
 ·rw [h4]
  repeat' (first|refine go ?_|refine IG a6 EV ?_|refine cf rfl ?_)
  refine IM EV ?_
  rw [show nL g i a=35 from if_pos (.inr (.inr (.inr (.inl (by rw [←Bool.not_eq_true',h4])))))]
  exact ⟨rfl,fun e=>absurd e (by decide)⟩
 rw [h4]
 repeat' (first|refine go ?_|refine IG a6 EV ?_)
 refine dH (t:=22) [3,7] (a.Kind=2∧g.Mark=false) rfl (fun Q' K=>?_) ?_
 ·repeat' (first|refine go ?_|refine IG a6 EV ?_|refine IR EV ?_|refine IT IC ?_|refine bF rfl rfl rfl (fun _=>?_) (fun _=>?_))
  all_goals exact K _ _ rfl rfl (by clear K;grind)
 repeat' (first|refine go ?_|fail)
 refine au rfl (fun h5=>?_) (fun h5=>?_)
 ·have h0:=h5
  replace h5:=Jy h5
  rw [h0]
  repeat' (first|refine go ?_|refine IG a6 EV ?_|refine cf rfl ?_)
  refine IM EV ?_
  rw [show nL g i a=35 from if_pos (.inr (.inr (.inr (.inr (.inl h5)))))]
  exact ⟨rfl,fun e=>absurd e (by decide)⟩
 have h0:=h5
 replace h5:=Jx h5
 rw [h0]
 clear h0
 repeat' (first|refine go ?_|refine IG a6 EV ?_)
 refine wh 0 (.bool false) Tryz.underlying316 CL rfl rfl rfl (by kernel_rfl) rfl ?_
 rw [zl]
 repeat' (first|refine go ?_|refine IG a6 EV ?_)
 refine au rfl (fun h6=>?_) (fun h6=>?_)
 ·rw [h6]
  repeat' (first|refine go ?_|refine IG a6 EV ?_)
  refine IM EV ?_
  rw [show nL g i a=35 from if_pos (.inr (.inr (.inr (.inr (.inr (Jy h6))))))]
  exact ⟨rfl,fun e=>absurd e (by decide)⟩
 rw [h6]
 repeat' (first|refine go ?_|refine IG a6 EV ?_)
 refine sH 0 (o5 (g.Anchors.take (i+1))) Tryz.underlying316 CL rfl rfl rfl rfl (zm ha) (wd ha) ?_
 repeat' (first|refine go ?_|refine IG a6 EV ?_)
 refine IM EV ?_
 have h4':[a.X,a.Y].all hQ=true:=by simpa using h4
 have h6':=Jx h6
 rw [show nL g i a=0 from if_neg (by
  rintro (h | h | h | h | h | h)
  ·exact h1 h
  ·exact h2 h
  ·exact h3 h
  ·rw [h4'] at h;cases h
  ·exact h5 h
  ·exact h6' h)]
 exact ⟨rfl,fun _=>rfl⟩
def qF (a b c d:Int):Bool:=decide (a < c∨(a=c∧b < d))
theorem vx (a b c d:Int):bZ Tryz.prog 225 [.agg [aP a,aP b],.agg [aP c,aP d]] (cM (qF a b c d)):=by
 refine aX Tryz.func225 rfl Tryz.ntmps225 rfl fun B=>?_
 repeat' (first|refine go ?_|refine IG a6 EV ?_|refine bD ?_|fail)
 refine dH (t:=4) [] (qF a b c d=true) rfl (fun Q' K=>?_) ?_
 ·repeat' (first|refine go ?_|refine IG a6 EV ?_|refine IR EV ?_|refine IT IC ?_|refine dW rfl rfl rfl ?_|refine bF rfl rfl rfl (fun _=>?_) (fun _=>?_))
  all_goals exact K _ _ rfl rfl (by clear K;unfold qF;grind)
 repeat' (first|refine go ?_|fail)
 refine IM EV ?_
 simp
def gw (l:List dK) (i:Nat):Int×Int:=match i with | 0=>(0,0) | j+1=>match l[j]? with | some b=>(b.Region,b.Point) | none=>(0,0)
def qa (g:bL) (i:Nat) (d:dK):Bool:=decide (0 < i∧((d.Region=(gw g.Deltas i).1∧d.Point=(gw g.Deltas i).2)∨qF d.Region d.Point (gw g.Deltas i).1 (gw g.Deltas i).2=true))
theorem E7 {g:bL} {i:Nat} {d:dK} (hd:g.Deltas[i]?=some d):(match i with | 0=>false | j+1=>match g.Deltas[j]? with | some b=>decide (d.Region < b.Region∨(d.Region=b.Region∧d.Point≤b.Point)) | none=>false)=qa g i d:=by
 unfold qa
 cases i with
 | zero=>simp
 | succ j=>
  have hj:j < g.Deltas.length:=by have:=(Jo hd).1;omega
  obtain ⟨b,hb⟩:∃b,g.Deltas[j]?=some b:=⟨_,Jz hj⟩
  simp only [hb,gw,qF]
  rw [Bool.eq_iff_iff,decide_eq_true_eq,decide_eq_true_eq,decide_eq_true_eq]
  omega
theorem Dv {f:aL} {g:bL} {i:Nat} {d:dK} (hd:g.Deltas[i]?=some d):u3 f g i d=if d.Region < 0∨d.Region≥f.Regions.length then 61 else if (d.Point < -1∨d.Point≥g.Points.length)∨[d.X,d.Y].all hQ=false∨(d.Point= -1∧d.Y≠0) then 30 else if qa g i d=true then 24 else 0:=by
 unfold u3
 rw [←E7 hd]
 cases i <;> rfl
set_option maxHeartbeats 1000000 in
theorem yI (f:aL) (g:bL) (i:Nat) (d:dK) (hd:g.Deltas[i]?=some d) (R N:Int) (hR:R=f.Regions.length) (hN:N=g.Points.length) (b:Nat):AC Tryz.prog 224 [aP i,.agg (dm d),.iptr [aP R],.iptr [aP N],.sc (.pointer (some ⟨b,0,none⟩))] [(b,.box [aP (gw g.Deltas i).1,aP (gw g.Deltas i).2] 321)] fun c L'=>c=aP (u3 f g i d)∧(u3 f g i d=0→L'=[(b,.box [aP (gw g.Deltas (i+1)).1,aP (gw g.Deltas (i+1)).2] 321)]):=by
 refine aX Tryz.func224 rfl Tryz.ntmps224 rfl fun B=>?_
 rw [Dv hd,←hR,←hN]
 have hnext:gw g.Deltas (i+1)=(d.Region,d.Point):=by simp only [gw,hd]
 rw [hnext]
 repeat' (first|refine go ?_|refine am ?_|refine IG a6 EV ?_|(apply aJ;first|refine II 8 a6 0 IF ?_|refine II 8 a6 1 IF ?_|refine II 8 a6 2 IF ?_|refine IH a6 0 IE ?_|refine IH a6 1 IE ?_|refine IH a6 2 IE ?_|refine IH a6 3 IE ?_|fail)|refine bD ?_|refine bc a6 fun _=>?_|fail)
 refine ej [0,3,4,6,8] (d.Region < 0∨d.Region≥R) rfl (fun Q' K=>?_) (fun h1=>?_) (fun h1=>?_)
 ·repeat' (first|refine go ?_|refine IG a6 EV ?_|refine IR EV ?_|refine IT IC ?_|refine bF rfl rfl rfl (fun _=>?_) (fun _=>?_))
  all_goals exact K _ _ rfl rfl (by clear K;grind)
 ·rw [if_pos h1]
  repeat' (first|refine go ?_|refine IG a6 EV ?_)
  exact IM EV ⟨rfl,fun e=>absurd e (by decide)⟩
 rw [if_neg h1]
 repeat' (first|refine go ?_|refine IG a6 EV ?_)
 refine dH (t:=24) [0,4,6,8] (d.Point < -1∨d.Point≥N) rfl (fun Q' K=>?_) ?_
 ·repeat' (first|refine go ?_|refine IG a6 EV ?_|refine IR EV ?_|refine IT IC ?_|refine bF rfl rfl rfl (fun _=>?_) (fun _=>?_))
  all_goals exact K _ _ rfl rfl (by clear K;grind)
 repeat' (first|refine go ?_|fail)
 refine au rfl (fun h2=>?_) (fun h2=>?_)
 ·have h0:=h2
  replace h2:=Jy h2
  rw [h0]
  rw [if_pos (.inl h2)]
  repeat' (first|refine go ?_|refine IG a6 EV ?_|refine cf rfl ?_)
  exact IM EV ⟨rfl,fun e=>absurd e (by decide)⟩
 have h0:=h2
 replace h2:=Jx h2
 rw [h0]
 clear h0
 repeat' (first|refine go ?_|refine IG a6 EV ?_|refine bG a6 ?_|(apply bB;refine bq ?_)|fail)
 refine au rfl (fun h3=>?_) (fun h3=>?_)
 ·rw [if_pos (.inr (.inl (by rw [←Bool.not_eq_true',h3]))),h3]
  repeat' (first|refine go ?_|refine IG a6 EV ?_|refine cf rfl ?_)
  exact IM EV ⟨rfl,fun e=>absurd e (by decide)⟩
 rw [h3]
 repeat' (first|refine go ?_|refine IG a6 EV ?_)
 refine dH (t:=24) [0,4,8] (d.Point= -1∧d.Y≠0) rfl (fun Q' K=>?_) ?_
 ·repeat' (first|refine go ?_|refine IG a6 EV ?_|refine IR EV ?_|refine IT IC ?_|refine bF rfl rfl rfl (fun _=>?_) (fun _=>?_))
  all_goals exact K _ _ rfl rfl (by clear K;grind)
 repeat' (first|refine go ?_|fail)
 refine au rfl (fun h4=>?_) (fun h4=>?_)
 ·have h0:=h4
  replace h4:=Jy h4
  rw [h0]
  rw [if_pos (.inr (.inr h4))]
  repeat' (first|refine go ?_|refine IG a6 EV ?_)
  exact IM EV ⟨rfl,fun e=>absurd e (by decide)⟩
 have h0:=h4
 replace h4:=Jx h4
 rw [h0]
 clear h0
 have h3':[d.X,d.Y].all hQ=true:=by simpa using h3
 rw [if_neg (by
  rintro (h | h | h)
  ·exact h2 h
  ·rw [h3'] at h;cases h
  ·exact h4 h)]
 repeat' (first|refine go ?_|refine IG a6 EV ?_)
 refine ej [4,8] (qa g i d=true) rfl (fun Q' K=>?_) (fun h5=>?_) (fun h5=>?_)
 ·repeat' (first|refine go ?_|refine IG a6 EV ?_|refine IR EV ?_|refine IT IC ?_|refine dW rfl rfl rfl ?_|(apply bH;first|refine IJ a6 0 ID ?_|refine IJ a6 1 ID ?_|refine IJ a6 2 ID ?_|refine IJ a6 3 ID ?_|refine IK a6 0 ID ?_|refine IK a6 1 ID ?_|refine IK a6 2 ID ?_|refine IL a6 1 IB (by assumption) rfl ?_|refine IL a6 0 IB (by assumption) rfl ?_|fail)|refine bF rfl rfl rfl (fun _=>?_) (fun _=>?_))
  all_goals first
   | exact K _ _ rfl rfl (by clear K;unfold qa;grind)
   | (refine C2 GB Tryz.eqGuardType321 rfl rfl rfl ?_)
  repeat' (first|refine go ?_|refine IG a6 EV ?_|refine IR EV ?_|refine IT IC ?_|(apply bH;first|refine IJ a6 0 ID ?_|refine IJ a6 1 ID ?_|refine IJ a6 2 ID ?_|refine IJ a6 3 ID ?_|refine IK a6 0 ID ?_|refine IK a6 1 ID ?_|refine IK a6 2 ID ?_|refine IL a6 1 IB (by assumption) rfl ?_|refine IL a6 0 IB (by assumption) rfl ?_|fail)|refine bF rfl rfl rfl (fun _=>?_) (fun _=>?_))
  all_goals first
   | exact K _ _ rfl rfl (by clear K;unfold qa;grind)
   | (refine bq (hc:=⟨vx d.Region d.Point (gw g.Deltas i).1 (gw g.Deltas i).2⟩) ?_)
  repeat' (first|refine go ?_|refine IG a6 EV ?_|refine IR EV ?_)
  all_goals exact K _ _ rfl rfl (by clear K;unfold qa;grind)
 ·rw [if_pos h5]
  repeat' (first|refine go ?_|refine IG a6 EV ?_)
  exact IM EV ⟨rfl,fun e=>absurd e (by decide)⟩
 rw [if_neg h5]
 repeat' (first|refine go ?_|refine IG a6 EV ?_|(apply aJ;first|refine II 8 a6 0 IF ?_|refine II 8 a6 1 IF ?_|refine II 8 a6 2 IF ?_|refine IH a6 0 IE ?_|refine IH a6 1 IE ?_|refine IH a6 2 IE ?_|refine IH a6 3 IE ?_|fail))
 refine IM EV ⟨rfl,fun e=>?_⟩
 rfl
set_option maxHeartbeats 2000000 in
theorem yW (f:aL) (g:bL) (name:Int):bZ Tryz.prog 118 [cr f,.agg (bh g),aP name] (aP (pX f g name)):=by
 refine aX Tryz.func118 rfl Tryz.ntmps118 rfl fun B=>?_
 repeat' (first|refine go ?_|refine IG a6 EV ?_|refine bD ?_|fail)
 refine br 30 [(0,.v),(1,.v),(2,.v),(3,.v),(4,.v),(5,.v),(6,.v),(7,.v),(8,.v),(9,.v),(12,.v),(13,.v),(14,.v),(15,.v),(16,.v),(17,.v),(18,.v),(19,.v),(20,.v),(23,.v),(10,.e),(11,.v),(21,.e),(22,.v),(24,.v),(25,.e),(26,.v),(27,.v),(28,.v),(29,.v)] none ?_ trivial rfl (by kernel_rfl) (by kernel_rfl) (by kernel_rfl) mixed (by kernel_rfl) rfl
 repeat' (first|refine aC ?_|refine aY a6 ?_|(apply bK;refine bR ?_)|fail)
 refine f5 [] [] (vn g.Mark) rfl rfl (Jn _) trivial fun c L1 ⟨m,hc,hL⟩=>?_
 subst hc;subst hL
 repeat' (first|refine aC ?_|(apply bK;refine bR ?_)|fail)
 refine f5 [] _ (yJ (f.Regions.map bI).length (g.Points.map dC).length) rfl rfl (Jn _) trivial fun c L1 ⟨b,hc,hL⟩=>?_
 subst hc;subst hL
 repeat' (first|refine aC ?_|(apply bK;refine bR ?_)|refine dU a6 ?_|fail)
 refine f5 (L:=[(b,.box [aP 0,aP 0] 321),(m,iD fun _ _=>none)]) _ [] (jC [⟨159,[.iptr [aP name]],[],name,0⟩,⟨160,[.iptr (bh g)],[],ky g,0⟩,⟨217,[.iptr [.imm 3 (g.Parts.map ct)],.iptr [aP 8],.iptr [.fn 163 [.iptr (ci f)]]],[],(dq 8 g.Parts (oQ f)).1,(dq 8 g.Parts (oQ f)).2⟩,⟨219,[.iptr [.imm 4 (g.Anchors.map cB)],.iptr [aP 16],.iptr [.fn 221 [.iptr [cM g.Mark],.iptr [.sc (.map (some m))]]]],[(m,iD fun _ _=>none)],(dq 16 g.Anchors (nL g)).1,(dq 16 g.Anchors (nL g)).2⟩,⟨222,[.iptr [.imm 4 (g.Deltas.map dm)],.iptr [aP 400],.iptr [.fn 224 [.iptr [aP (f.Regions.map bI).length],.iptr [aP (g.Points.map dC).length],.sc (.pointer (some ⟨b,0,none⟩))]]],[(b,.box [aP 0,aP 0] 321)],(dq 400 g.Deltas (u3 f g)).1,(dq 400 g.Deltas (u3 f g)).2⟩,⟨169,[.iptr (bh g)],[],qp g.Hint,0⟩] ?_) rfl rfl (List.Perm.swap ..) trivial fun c L1 hc=>?_
 ·refine ⟨⟨inferInstance,vT name⟩,fun _=>⟨⟨inferInstance,vU g⟩,fun _=>⟨⟨inferInstance,EH rfl g.Parts 8 _ (fun _ _=>True) [] trivial (fun _=>dV fun i x _=>vV f i x)⟩,fun _=>⟨⟨inferInstance,EI rfl g.Anchors 16 (gH g.Anchors (nL g)) (fun i L=>L=[(m,iD (o5 (g.Anchors.take i)))]) _ (by rw [List.take_zero,BT]) ?_⟩,fun _=>⟨⟨inferInstance,EJ rfl g.Deltas 400 (gH g.Deltas (u3 f g)) (fun i L=>L=[(b,.box [aP (gw g.Deltas i).1,aP (gw g.Deltas i).2] 321)]) _ rfl ?_⟩,fun _=>⟨⟨inferInstance,vW g⟩,fun _=>trivial⟩⟩⟩⟩⟩⟩
  ·intro _ i x L hx hL
   subst hL
   rw [iM hx]
   exact vm g i x hx m
  ·intro _ i x L hx hL
   subst hL
   rw [iM hx]
   exact yI f g i x hx _ _ (by rw [Jt]) (by rw [Jt]) b
 ·rw [kq] at hc
  subst hc
  unfold cE
  repeat' (first|refine aC ?_|refine aY a6 ?_|fail)
  refine IQ [7,37] EV ?_
  repeat' (first|refine go ?_|refine aa ?_|refine IG a6 EV ?_)
  exact IP IB
instance (f:aL) (g:bL) (name:Int):AD Tryz.prog 118 [cr f,.agg (bh g),aP name] (aP (pX f g name)):=⟨yW f g name⟩
section
variable {P:Program} {l:List Oper} {fr:cw} {fin:jb} {sk:lL} {acc:cw} {L:AL} {k:Nat} {dd:Option Tmp} {ty t:TypeId} {pos:String} {af:Array Edge} {g:Option (Nat×Bool)} {x y:Operand}
theorem pO (i:Nat) (v0:Value) {b kt et:Nat} {kd:TypeDesc} {q:Value} {m:Value→Option AV} (ht:P.underlying t=some (.map kt et)) (hkt:P.underlying kt=some kd) (hx:bU (da l.toArray acc fr af.toList) x=some (.sc (.map (some b)))) (hy:bU (da l.toArray acc fr af.toList) y=some (.sc q)) (hk:MapKept.IsKey kd q) (hL:L[i]?=some (b,cn kd m)) (hz:kD P et v0=true) (hg:iL ⟨dd,.lookup t x y false,ty,pos,af,g⟩ acc) (h:DA P l fr fin sk ((k,(m q).getD (.sc v0))::acc) L):
  du P l fr fin k .e ⟨dd,.lookup t x y false,ty,pos,af,g⟩ sk acc L:=
 iy hg (fun B=>jz i ht hkt hx hy hk hL (fO hz) fun _=> .sc _) fun c L' ⟨h1,h2⟩=>by subst h1;subst h2;exact h
end
def xh (f:aL) (c:ey) (late:Bool):Int:=if c.Rune < 0∨c.Rune > 1114111 then 1 else if jk f c.Glyph=false then 32 else eL late 24
theorem B4 (f:aL) (c:ey) (late:Bool):bZ Tryz.prog 125 [cr f,.agg (cm c),cM late] (aP (xh f c late)):=by
 refine aX Tryz.func125 rfl Tryz.ntmps125 rfl fun B=>?_
 unfold xh
 repeat' (first|refine go ?_|refine am ?_|refine IG a6 EV ?_|refine bD ?_|fail)
 refine ej [2,3,4] (c.Rune < 0∨c.Rune > 1114111) rfl (fun Q' K=>?_) (fun hC=>?_) (fun hC=>?_)
 ·repeat' (first|refine go ?_|refine IG a6 EV ?_|refine IR EV ?_|refine IT IC ?_|refine bF rfl rfl rfl (fun _=>?_) (fun _=>?_))
  all_goals exact K _ _ rfl rfl (by clear K;grind)
 ·rw [if_pos hC]
  repeat' (first|refine go ?_|refine IG a6 EV ?_)
  exact IP IB
 rw [if_neg hC]
 repeat' (first|refine go ?_|refine IG a6 EV ?_|(apply bB;refine bq ?_)|fail)
 refine au rfl (fun h=>?_) (fun h=>?_)
 ·rw [if_pos (by simpa using h)]
  repeat' (first|refine go ?_|refine IG a6 EV ?_)
  exact IP IB
 rw [if_neg (by simpa using h)]
 repeat' (first|refine go ?_|refine IG a6 EV ?_|(apply bB;refine bq ?_)|fail)
 exact IP IB
instance (f:aL) (c:ey) (late:Bool):AD Tryz.prog 125 [cr f,.agg (cm c),cM late] (aP (xh f c late)):=⟨B4 f c late⟩
def BC (f:aL) (i:Nat) (c:ey):Bool:=match i with | 0=>false | j+1=>match f.Chars[j]? with | some b=>decide (c.Rune≤b.Rune) | none=>false
def k9 (f:aL) (i:Nat) (c:ey):Int:=xh f c (BC f i c)
theorem yu (f:aL) (i:Nat) (c:ey) (hc:f.Chars[i]?=some c) (hm:(f.Chars.length:Int)≤1000):bZ Tryz.prog 124 [aP i,.agg (cm c),.iptr (ci f)] (aP (k9 f i c)):=by
 refine aX Tryz.func124 rfl Tryz.ntmps124 rfl fun B=>?_
 have hil:=(Jo hc).1
 unfold k9
 cases i with
 | zero=>
  repeat' (first|refine go ?_|refine IG a6 EV ?_|refine bD ?_|fail)
  refine br 17 [(0,.v),(1,.v),(2,.v),(3,.v),(4,.v),(5,.v),(6,.v),(7,.v),(8,.v),(9,.v),(10,.v),(11,.v),(12,.v),(13,.v),(14,.v),(15,.v),(16,.v)] none ?_ trivial rfl (by kernel_rfl) (by kernel_rfl) (by kernel_rfl) mixed (by kernel_rfl) rfl
  repeat' (first|refine aC ?_|refine aY a6 ?_|(apply bK;refine bR ?_)|refine iU rfl rfl ?_)
  refine IQ [22] EV ?_
  repeat' (first|refine go ?_|refine aa ?_|refine IG a6 EV ?_)
  exact IP IB
 | succ j=>
  obtain ⟨b,hb⟩:∃b,f.Chars[j]?=some b:=⟨_,Jz (by omega)⟩
  have hbg:(f.Chars.map cm)[(((j+1:Nat):Int) - 1).toNat]?=some (cm b):=by rw [show (((j+1:Nat):Int) - 1).toNat=j by omega];exact bA hb
  have hl:BC f (j+1) c=decide (c.Rune≤b.Rune):=by simp [BC,hb]
  have hpos:decide (0 < ((j+1:Nat):Int))=true:=decide_eq_true (by omega)
  rw [hl]
  repeat' (first|refine go ?_|refine IG a6 EV ?_|refine bD ?_|fail)
  refine br 17 [(0,.v),(1,.v),(2,.v),(3,.v),(4,.v),(5,.v),(6,.v),(7,.v),(8,.v),(9,.v),(10,.v),(11,.v),(12,.v),(13,.v),(14,.v),(15,.v),(16,.v)] none ?_ trivial rfl (by kernel_rfl) (by kernel_rfl) (by kernel_rfl) mixed (by kernel_rfl) rfl
  repeat' (first|refine aC ?_|refine aY a6 ?_|fail)
  rw [hpos]
  repeat' (first|refine aC ?_|refine aY a6 ?_|(apply fk;refine gF ?_)|(apply bS;refine ce a6 ?_)|(apply bK;refine bR ?_)|fail)
  refine IQ [22] EV ?_
  repeat' (first|refine go ?_|refine aa ?_|refine IG a6 EV ?_)
  exact IP IB
def xf (a:eB) (name:Int):Int:=if name≠0 then name else eL (!(decide ([a.Min,a.Def,a.Max].all hQ=true∧a.Min≤a.Def∧a.Def≤a.Max))) 60
theorem AS (a:eB) (name:Int):bZ Tryz.prog 135 [.agg (cC a),aP name] (aP (xf a name)):=by
 refine aX Tryz.func135 rfl Tryz.ntmps135 rfl fun B=>?_
 unfold xf
 repeat' (first|refine go ?_|refine IG a6 EV ?_|refine bD ?_|fail)
 refine au rfl (fun h=>?_) (fun h=>?_)
 ·rw [if_pos (Jy h)]
  repeat' (first|refine go ?_|refine IG a6 EV ?_)
  exact IP IB
 rw [if_neg (Jx h)]
 repeat' (first|refine go ?_|refine IG a6 EV ?_|refine bG a6 ?_|(apply bB;refine bq ?_)|fail)
 refine dH (t:=5) [] ([a.Min,a.Def,a.Max].all hQ=true∧a.Min≤a.Def∧a.Def≤a.Max) rfl (fun Q' K=>?_) ?_
 ·repeat' (first|refine go ?_|refine IG a6 EV ?_|refine IR EV ?_|refine IT IC ?_|refine bF rfl rfl rfl (fun _=>?_) (fun _=>?_))
  all_goals exact K _ _ rfl rfl (by clear K;grind)
 repeat' (first|refine go ?_|refine IG a6 EV ?_|(apply bB;refine bq ?_)|fail)
 exact IP IB
instance (a:eB) (name:Int):AD Tryz.prog 135 [.agg (cC a),aP name] (aP (xf a name)):=⟨AS a name⟩
def qP (_:Nat) (t:eo):Int:=eL (decide (¬(-64≤t.Start∧t.Start≤t.Peak∧t.Peak≤t.End∧t.End≤64)∨(t.Start < 0∧t.End > 0∧t.Peak≠0))) 61
set_option maxHeartbeats 1000000 in
theorem CJ (i:Nat) (t:eo):bZ Tryz.prog 195 [aP i,.agg (fX t)] (aP (qP i t)):=by
 refine aX Tryz.func195 rfl Tryz.ntmps195 rfl fun B=>?_
 repeat' (first|refine go ?_|refine IG a6 EV ?_|refine bD ?_|fail)
 refine dH (t:=5) [3] (-64≤t.Start∧t.Start≤t.Peak∧t.Peak≤t.End∧t.End≤64) rfl (fun Q' K=>?_) ?_
 ·repeat' (first|refine go ?_|refine IG a6 EV ?_|refine IR EV ?_|refine IT IC ?_|refine bF rfl rfl rfl (fun _=>?_) (fun _=>?_))
  all_goals exact K _ _ rfl rfl (by clear K;grind)
 repeat' (first|refine go ?_|refine IG a6 EV ?_)
 refine dH (t:=6) [5] (t.Start < 0∧t.End > 0∧t.Peak≠0) rfl (fun Q' K=>?_) ?_
 ·repeat' (first|refine go ?_|refine IG a6 EV ?_|refine IR EV ?_|refine IT IC ?_|refine bF rfl rfl rfl (fun _=>?_) (fun _=>?_))
  all_goals exact K _ _ rfl rfl (by clear K;grind)
 have ht:qP i t=eL (!(decide (-64≤t.Start∧t.Start≤t.Peak∧t.Peak≤t.End∧t.End≤64)) || decide (t.Start < 0∧t.End > 0∧t.Peak≠0)) 61:=by unfold qP;rw [Bool.decide_or,decide_not]
 rw [ht]
 generalize decide (-64≤t.Start∧t.Start≤t.Peak∧t.Peak≤t.End∧t.End≤64)=p
 generalize decide (t.Start < 0∧t.End > 0∧t.Peak≠0)=q
 cases p <;> cases q
 all_goals
  repeat' (first|refine go ?_|refine IG a6 EV ?_|refine IR EV ?_|refine IT IC ?_|(apply bB;refine bq ?_)|fail)
  exact IP IB
def Ck (axes:Int) (r:List eo):Int:=if (r.length:Int)≠axes then 61 else (dM r qP).1
theorem wx (r:List eo) (axes:Int):bZ Tryz.prog 138 [.agg (bI r),aP axes] (aP (Ck axes r)):=by
 refine aX Tryz.func138 rfl Tryz.ntmps138 rfl fun B=>?_
 unfold Ck
 repeat' (first|refine go ?_|refine IG a6 EV ?_|refine bD ?_|fail)
 rw [Jt]
 refine au rfl (fun h=>?_) (fun h=>?_)
 ·rw [if_pos (Jy h)]
  repeat' (first|refine go ?_|refine IG a6 EV ?_)
  exact IP IB
 rw [if_neg (Jx h)]
 repeat' (first|refine go ?_|refine IG a6 EV ?_)
 refine bn [] [] (DJ (u:= .sc (.func (.func 195) #[] #[])) (g:=195) (caps:=[]) rfl r _ (fun _ _=>True) [] trivial (dV (fun i x _=>CJ i x))) rfl rfl (Jn _) rfl fun c L1 hc=>?_
 have hc:c=cE (dM r qP):=hc
 subst hc
 unfold cE
 repeat' (first|refine go ?_|refine IG a6 EV ?_)
 exact IP IB
instance (r:List eo) (axes:Int):AD Tryz.prog 138 [.agg (bI r),aP axes] (aP (Ck axes r)):=⟨wx r axes⟩
theorem uS (f:aL) (i:Nat) (r:List eo):bZ Tryz.prog 137 [aP i,.agg (bI r),.iptr (ci f)] (aP (Ck f.Axes.length r)):=by
 refine aX Tryz.func137 rfl Tryz.ntmps137 rfl fun B=>?_
 repeat' (first|refine go ?_|refine IG a6 EV ?_|refine bD ?_|(apply bB;refine bq ?_)|fail)
 rw [Jt]
 repeat' (first|fail)
 exact IP IB
theorem yw (i:Nat) (l:List ep):bZ Tryz.prog 140 [aP i,.imm 2 (l.map ea)] (aP (qp l)):=by
 refine aX Tryz.func140 rfl Tryz.ntmps140 rfl fun B=>?_
 repeat' (first|refine go ?_|refine IG a6 EV ?_|(apply bB;refine bq ?_)|fail)
 exact IP IB
def B8 (_:Nat) (n:Int):Int:=eL (!([n].all hQ)) 1
theorem B6 (i:Nat) (n:Int):bZ Tryz.prog 143 [aP i,aP n] (aP (B8 i n)):=by
 refine aX Tryz.func143 rfl Tryz.ntmps143 rfl fun B=>?_
 repeat' (first|refine go ?_|refine IG a6 EV ?_|refine bG a6 ?_|(apply bB;refine bq ?_)|fail)
 exact IP IB
def oH (f:aL):Int:=if f.Unit < 16∨f.Unit > 4096 then 1 else if f.Glyphs.length=0 then 32 else 0
theorem Bw (f:aL):bZ Tryz.prog 115 [cr f] (aP (oH f)):=by
 refine aX Tryz.func115 rfl Tryz.ntmps115 rfl fun B=>?_
 unfold oH
 repeat' (first|refine go ?_|refine am ?_|refine IG a6 EV ?_|refine bD ?_|fail)
 refine ej [1] (f.Unit < 16∨f.Unit > 4096) rfl (fun Q' K=>?_) (fun hC=>?_) (fun hC=>?_)
 ·repeat' (first|refine go ?_|refine IG a6 EV ?_|refine IR EV ?_|refine IT IC ?_|refine bF rfl rfl rfl (fun _=>?_) (fun _=>?_))
  all_goals exact K _ _ rfl rfl (by clear K;grind)
 ·rw [if_pos hC]
  repeat' (first|refine go ?_|refine IG a6 EV ?_)
  exact IP IB
 rw [if_neg hC]
 repeat' (first|refine go ?_|refine IG a6 EV ?_)
 rw [Jt]
 refine au rfl (fun h=>?_) (fun h=>?_)
 ·rw [if_pos (by have:=Jy h;omega)]
  repeat' (first|refine go ?_|refine IG a6 EV ?_)
  exact IP IB
 rw [if_neg (by have:=Jx h;omega)]
 repeat' (first|refine go ?_|refine IG a6 EV ?_)
 exact IP IB
instance (f:aL):AD Tryz.prog 115 [cr f] (aP (oH f)):=⟨Bw f⟩
theorem rC (f:aL):bZ Tryz.prog 114 [.iptr (ci f)] (cE (oH f,0)):=by
 refine aX Tryz.func114 rfl Tryz.ntmps114 rfl fun B=>?_
 repeat' (first|refine go ?_|refine IG a6 EV ?_|(apply bB;refine bq ?_)|fail)
 exact bk rfl rfl rfl rfl
end Go.Proofs.YtjjpkibjffmceaaGreat
namespace Go.Proofs.YtjjpkibjffmceaaGreat
open Go.RowKit
section
variable {P:Program} {tt:TT} {l:List Oper} {fr:cw} {fin:jb} {sk:lL} {acc:cw} {L:AL} {k:Nat} {dd:Option Tmp} {ty t t':TypeId} {pos:String} {af:Array Edge} {g:Option (Nat×Bool)} {x y:Operand} {u:AV}
theorem fG (ok:f6 P tt) {e sz by_ b off n cap:Nat} {q:IntKind} {i:Int} (ht:kN tt t=some (e,sz,by_)) (hx:bU (da l.toArray acc fr af.toList) x=some (.sc (.slice (some ⟨b,off,none⟩) n cap))) (hy:bU (da l.toArray acc fr af.toList) y=some (.sc (.int q i))) (h0:0≤i∧i < n) (hg:iL ⟨dd,.indexAddr t x y,ty,pos,af,g⟩ acc) (h:DA P l fr fin sk ((k,.sc (.pointer (some ⟨b,off+i.toNat * sz,none⟩)))::acc) L):
  du P l fr fin k .v ⟨dd,.indexAddr t x y,ty,pos,af,g⟩ sk acc L:=gq hg (fun _ _=>(tx (bW ok ht).1 hx hy h0).ao) h
theorem pP (ok:f6 P tt) (i:Nat) {b q n:Nat} {cs ys:List AV} {e:TypeId} (ht:GH tt t=some n) (hx:bU (da l.toArray acc fr af.toList) x=some (.sc (.pointer (some ⟨b,q,none⟩)))) (hy:bU (da l.toArray acc fr af.toList) y=some u) (hu:u.cells=some ys) (hL:L[i]?=some (b,.box cs e)) (hn:Nat.beq ys.length n=true) (hk:Nat.ble (q+n) cs.length=true) (hg:iL ⟨dd,.store t x y,ty,pos,af,g⟩ acc) (h:∀c,DA P l fr fin sk ((k,c)::acc) (gn L i (.box (iq cs q ys) e))):
  du P l fr fin k .e ⟨dd,.store t x y,ty,pos,af,g⟩ sk acc L:=iy hg (fun _=>mP i (nA ok ht) hx hy hu hL hn hk) fun c L' h1=>by subst h1;exact h c
theorem tY {v:Value} (ht:j7 P t=true) (hx:bU (da l.toArray acc fr af.toList) x=some (.sc (.iface t v))) (hg:iL ⟨dd,.typeAssert x t' t false,ty,pos,af,g⟩ acc) (h:DA P l fr fin sk ((k,.sc v)::acc) L):du P l fr fin k .v ⟨dd,.typeAssert x t' t false,ty,pos,af,g⟩ sk acc L:=
 gq hg (fun _ _=>(tw ht hx).ao) h
theorem yD (ok:f6 P tt) (i:Nat) {e by_ b n cap:Nat} {cs:List AV} {c:AV} (ht:kN tt t=some (e,1,by_)) (hz:zI tt e=some [.int .i64 0]) (hx:bU (da l.toArray acc fr af.toList) x=some (.sc (.slice (some ⟨b,0,none⟩) n cap))) (hy:bU (da l.toArray acc fr af.toList) y=some u) (hu:gZ u=some (1,[[c]])) (hL:L[i]?=some (b,.box cs e)) (hcl:cs.length=cap) (hn:n≤cap) (h63:n+1≤9223372036854775807) (hby:(n+1) * by_≤140737488355328) (hg:iL ⟨dd,.call ⟨.builtin .append,#[x,y],#[t,t]⟩,ty,pos,af,g⟩ acc)
  (h:∀b' cs',cs'.take (n+1)=cs.take n++[c]→n+1≤cs'.length→DA P l fr fin sk ((k,.sc (.slice (some ⟨b',0,none⟩) (n+1) cs'.length))::acc) ((b',.box cs' e)::L.eraseIdx i)):
  du P l fr fin k .e ⟨dd,.call ⟨.builtin .append,#[x,y],#[t,t]⟩,ty,pos,af,g⟩ sk acc L:=
 iy hg (fun _=>py i (bW ok ht).1 (eA ok hz) hx hy (cS hu) hL hcl hn h63 hby) fun q L' ⟨b',cs',h1,h2,h3,h4⟩=>by subst h1;subst h4;exact h b' cs' h2 h3
theorem yF (ok:f6 P tt) {e by_:Nat} {c:AV} (ht:kN tt t=some (e,1,by_)) (hz:zI tt e=some [.int .i64 0]) (hx:bU (da l.toArray acc fr af.toList) x=some (.sc (.slice none 0 0))) (hy:bU (da l.toArray acc fr af.toList) y=some u) (hu:gZ u=some (1,[[c]])) (hby:Nat.ble by_ 140737488355328=true) (hg:iL ⟨dd,.call ⟨.builtin .append,#[x,y],#[t,t]⟩,ty,pos,af,g⟩ acc)
  (h:∀b' cs',cs'.take 1=[c]→1≤cs'.length→DA P l fr fin sk ((k,.sc (.slice (some ⟨b',0,none⟩) 1 cs'.length))::acc) ((b',.box cs' e)::L)):
  du P l fr fin k .e ⟨dd,.call ⟨.builtin .append,#[x,y],#[t,t]⟩,ty,pos,af,g⟩ sk acc L:=
 iy hg (fun _=>pz (bW ok ht).1 (eA ok hz) hx hy (cS hu) (Nat.ble_eq .. ▸hby)) fun q L' ⟨b',cs',h1,h2,h3,h4⟩=>by subst h1;subst h4;exact h b' cs' h2 h3
end
def F8 (P:Program) (t:TypeId) (name:String) (f:FuncId) (ptr:Bool) (e:TypeId):Bool:=(match P.underlying t with | some (.pointer e')=>Nat.beq e' e | _=>false) && match P.info? t with
 | some ti=>match ti.methods.find? (·.name==name) with
  | some m=>m.path.isEmpty && (match m.func with | some (f',p')=>Nat.beq f' f && (p'==ptr) | none=>false)
  | none=>false
 | none=>false
theorem j5 {P:Program} {t:TypeId} {name:String} {f:FuncId} {ptr:Bool} {e:TypeId} (h:F8 P t name f ptr e=true):mK P t name f ptr e:=by
 unfold F8 at h
 rw [Bool.and_eq_true] at h
 obtain ⟨h1,h2⟩:=h
 split at h1
 ·rename_i e' hu
  rw [Nat.beq_eq] at h1
  subst h1
  split at h2
  ·rename_i ti hti
   split at h2
   ·rename_i m hm
    rw [Bool.and_eq_true] at h2
    obtain ⟨h3,h4⟩:=h2
    split at h4
    ·rename_i f' p' hf
     rw [Bool.and_eq_true,Nat.beq_eq,beq_iff_eq] at h4
     refine ⟨hu,ti,m,hti,hm,?_,by rw [hf,h4.1,h4.2]⟩
     simpa using h3
    ·cases h4
   ·cases h2
  ·cases h2
 ·cases h1
end Go.Proofs.YtjjpkibjffmceaaGreat
namespace Go.Proofs.YtjjpkibjffmceaaGreat
open Go.RowKit Go.MapKept
section
variable {P:Program} {fr:cw} {B:Bs} {L:AL}
theorem AO.as {o:Oper} {a b:AV} (h:AO P o fr B L (fun c L'=>c=a∧L'=L)) (hv:∀σ v,VR σ a v→VR σ b v):AO P o fr B L (fun c L'=>c=b∧L'=L):=
 fun σ ρ w hρ hw=>(h σ ρ w hρ hw).mono fun _ _ ⟨τ,c,L',h1,h2,h3,h4,h5⟩=>⟨τ,b,L',h1,hv τ _ (by rw [←h4];exact h2),h3,rfl,h5⟩
end
section
variable {P:Program} {tt:TT} {l:List Oper} {fr:cw} {fin:jb} {sk:lL} {acc:cw} {L:AL} {k:Nat} {dd:Option Tmp} {ty t t':TypeId} {pos:String} {af:Array Edge} {g:Option (Nat×Bool)} {x y z:Operand} {u:AV}
theorem nT (i:Nat) (v0:Value) (a:AV) {b kt et:Nat} {kd:TypeDesc} {q:Value} {m:Value→Option AV} (ht:P.underlying t=some (.map kt et)) (hkt:P.underlying kt=some kd) (hx:bU (da l.toArray acc fr af.toList) x=some (.sc (.map (some b)))) (hy:bU (da l.toArray acc fr af.toList) y=some (.sc q)) (hk:IsKey kd q) (hL:L[i]?=some (b,cn kd m)) (hz:kD P et v0=true) (ha:∀σ v,VR σ ((m q).getD (.sc v0)) v→VR σ a v) (hg:iL ⟨dd,.lookup t x y false,ty,pos,af,g⟩ acc) (h:DA P l fr fin sk ((k,a)::acc) L):
  du P l fr fin k .e ⟨dd,.lookup t x y false,ty,pos,af,g⟩ sk acc L:=
 iy hg (fun B=>(jz i ht hkt hx hy hk hL (fO hz) fun _=> .sc _).as ha) fun c L' ⟨h1,h2⟩=>by subst h1;subst h2;exact h
theorem eI (ok:f6 P tt) (L0:AL) {e sz by_:Nat} {q:Option (Nat×Nat)} {l1 l2:List (List AV)} (ht:kN tt t=some (e,sz,by_)) (hx:bU (da l.toArray acc fr af.toList) x=some (.vec q sz l1)) (hy:bU (da l.toArray acc fr af.toList) y=some u) (hu:gZ u=some (sz,l2)) (hL:L.Perm (tok q e sz l1.length++L0)) (h63:l1.length+l2.length≤9223372036854775807) (hby:(l1.length+l2.length) * by_≤140737488355328) (hg:iL ⟨dd,.call ⟨.builtin .append,#[x,y],#[t,t]⟩,ty,pos,af,g⟩ acc)
  (h:∀k',DA P l fr fin sk ((k,.vec k' sz (l1++l2))::acc) (tok k' e sz (l1++l2).length++L0)):
  du P l fr fin k .e ⟨dd,.call ⟨.builtin .append,#[x,y],#[t,t]⟩,ty,pos,af,g⟩ sk acc L:=
 iy hg (fun _=>nM L0 (bW ok ht).1 (bW ok ht).2 hx hy (cS hu) hL h63 hby) fun c L' ⟨k',h1,h2⟩=>by subst h1;subst h2;exact h k'
end
section
variable {P:Program} {r:Option Nat} {ops:Array Oper} {Q:Exit→Act→World→Prop} {nt:Nat} {D:List Deferred} {fr:cw} {B:Bs} {L:AL} {rest:List Oper} {d:Nat} {ty t:TypeId} {pos:String} {af:Array Edge} {x y z:Operand} {u:AV}
theorem jL (i:Nat) (v0:Value) (a:AV) {b kt et:Nat} {kd:TypeDesc} {k:Value} {m:Value→Option AV} (ht:P.underlying t=some (.map kt et)) (hkt:P.underlying kt=some kd) (hx:bU fr x=some (.sc (.map (some b)))) (hy:bU fr y=some (.sc k)) (hk:IsKey kd k) (hL:L[i]?=some (b,cn kd m)) (hz:kD P et v0=true) (ha:∀σ v,VR σ ((m k).getD (.sc v0)) v→VR σ a v) (hd:Nat.ble nt d=false)
  (h:cg P r ops Q nt D rest ((d,a)::fr) B L):cg P r ops Q nt D (⟨some d,.lookup t x y false,ty,pos,af,none⟩::rest) fr B L:=
 dE hd rfl ((jz i ht hkt hx hy hk hL (fO hz) fun _=> .sc _).as ha) fun c L' ⟨h1,h2⟩=>by subst h1;subst h2;exact h
end
noncomputable def l9 (m:Value→Option AV) (k:Value) (c:AV):Value→Option AV:=fun q=>open Classical in if q=k then some c else m q
theorem iN {m:Value→Option AV} {k:Value} {c:AV}:l9 m k c k=some c:=by simp [l9]
theorem i3 {m:Value→Option AV} {k:Value} {c:AV} (q:Value) (h:q≠k):l9 m k c q=m q:=by simp [l9,h]
def nI (m:Value→Option AV) (M:Int→Int):Prop:=∀z,m (.int .i64 z)=none∧M z=0∨m (.int .i64 z)=some (.sc (.int .i64 (M z)))
theorem nI.at {m:Value→Option AV} {M:Int→Int} (h:nI m M) (z:Int):∀(σ:cP) (v:Value),VR σ ((m (.int .i64 z)).getD (.sc (.int .i64 0))) v→VR σ (.sc (.int .i64 (M z))) v:=by
 intro σ v hv
 rcases h z with ⟨h1,h2⟩ | h1
 ·rw [h1] at hv;rw [h2];exact hv
 ·rw [h1] at hv;exact hv
theorem nI.put {m:Value→Option AV} {M:Int→Int} (h:nI m M) (z c:Int):nI (l9 m (.int .i64 z) (.sc (.int .i64 c))) fun q=>if q=z then c else M q:=by
 intro q
 by_cases e:q=z
 ·subst e;simp only [if_true,iN];exact .inr trivial
 ·simp only [if_neg e];rw [i3 _ (by intro h;injection h with _ h;exact e h)];exact h q
def kK (m:Value→Option AV) (K:Int→Option (Nat×Nat)) (U:Int→List Int):Prop:=∀z,(m (.int .i64 z)=none∧U z=[]∧K z=none)∨m (.int .i64 z)=some (.vec (K z) 1 (aS (U z)))
theorem kK.at {m:Value→Option AV} {K:Int→Option (Nat×Nat)} {U:Int→List Int} (h:kK m K U) (z:Int):∀(σ:cP) (v:Value),VR σ ((m (.int .i64 z)).getD (.sc (.slice none 0 0))) v→VR σ (.vec (K z) 1 (aS (U z))) v:=by
 intro σ v hv
 rcases h z with ⟨h1,h2,h3⟩ | h1
 ·rw [h1] at hv;rw [h2,h3];exact cO 1 hv
 ·rw [h1] at hv;exact hv
theorem kK.put {m:Value→Option AV} {K:Int→Option (Nat×Nat)} {U:Int→List Int} (h:kK m K U) (z:Int) (k:Option (Nat×Nat)) (l:List Int):kK (l9 m (.int .i64 z) (.vec k 1 (aS l))) (fun q=>if q=z then k else K q) fun q=>if q=z then l else U q:=by
 intro q
 by_cases e:q=z
 ·subst e;simp only [if_true,iN];exact .inr trivial
 ·simp only [if_neg e]
  rw [i3 _ (by intro h;injection h with _ h;exact e h)]
  exact h q
def kO (e:TypeId) (K:Int→Option (Nat×Nat)) (U:Int→List Int) (zs:List Int):AL:=zs.flatMap fun z=>tok (K z) e 1 (aS (U z)).length
theorem lI {e:TypeId} {K:Int→Option (Nat×Nat)} {U:Int→List Int}:∀{zs:List Int} {z:Int},z∈zs→(kO e K U zs).Perm (tok (K z) e 1 (aS (U z)).length++kO e K U (zs.erase z))
 | y::zs,z,h=>by
  by_cases hz:y=z
  ·subst hz
   rw [List.erase_cons_head]
   exact Jn _
  ·have hm:z∈zs:=by
    rcases List.mem_cons.1 h with h | h
    ·exact absurd h.symm hz
    ·exact h
   rw [List.erase_cons_tail (by simpa using hz)]
   have ih:=lI (e:=e) (K:=K) (U:=U) hm
   unfold kO at ih ⊢
   rw [List.flatMap_cons,List.flatMap_cons]
   refine (List.Perm.append_left _ ih).trans ?_
   rw [←List.append_assoc,←List.append_assoc]
   exact List.Perm.append_right _ List.perm_append_comm
theorem wQ {e:TypeId} {K K':Int→Option (Nat×Nat)} {U U':Int→List Int} {zs:List Int} (h:∀z∈zs,K z=K' z∧U z=U' z):kO e K U zs=kO e K' U' zs:=by
 unfold kO
 induction zs with
 | nil=>rfl
 | cons z zs ih=>
  rw [List.flatMap_cons,List.flatMap_cons,ih fun y hy=>h y (Js _ hy),(h z (List.mem_cons_self ..)).1,(h z (List.mem_cons_self ..)).2]
theorem vd {e:TypeId} {K:Int→Option (Nat×Nat)} {U:Int→List Int} {zs:List Int} {z:Int} {k:Option (Nat×Nat)} {l:List Int} (hn:zs.Nodup) (h:z∈zs):(tok k e 1 (aS l).length++kO e K U (zs.erase z)).Perm (kO e (fun q=>if q=z then k else K q) (fun q=>if q=z then l else U q) zs):=by
 have h1:=lI (e:=e) (K:=fun q=>if q=z then k else K q) (U:=fun q=>if q=z then l else U q) h
 simp only [if_true] at h1
 refine List.Perm.trans ?_ h1.symm
 rw [wQ (K:=K) (U:=U) (K':=fun q=>if q=z then k else K q) (U':=fun q=>if q=z then l else U q) fun y hy=>by
  have hne:y≠z:=fun e=>by subst e;exact (List.Nodup.not_mem_erase hn) hy
  simp only [if_neg hne]
  exact ⟨trivial,trivial⟩]
theorem rS (e:TypeId) (U:Int→List Int) (zs:List Int):kO e (fun _=>none) U zs=[]:=by
 unfold kO tok
 induction zs with
 | nil=>rfl
 | cons z zs ih=>rw [List.flatMap_cons,ih];rfl
end Go.Proofs.YtjjpkibjffmceaaGreat
namespace Go.Proofs.YtjjpkibjffmceaaGreat
open Go.RowKit
section
variable {P:Program} {r:Option Nat} {ops:Array Oper} {Q:Exit→Act→World→Prop} {nt:Nat} {D:List Deferred} {fr:cw} {B:Bs} {L:AL} {cd:Code}
def nE (nt:Nat) (B:Bs) {α:Type} (Dx:α→List Deferred) (V:α→cw) (fr0:cw) (C:α→Prop) (Lx:α→AL) (μ:α→Nat) (x:α) (Q:Exit→Act→World→Prop):Exit→Act→World→Prop:=Exit.then (fun a w=>∃σ x',jp σ nt (Dx x') (V x'++fr0) a∧C x'∧dQ B σ (Lx x') w∧μ x' < μ x) Q
theorem tL (ks:List Nat) {α:Type} (Dx:α→List Deferred) (V:α→cw) (C:α→Prop) (Lx:α→AL) (μ:α→Nat) (x0:α) {fr0:cw} (hk:gE fr ks=some fr0) (hV:lZ (V x0) fr) (hD:D=Dx x0) (hC:C x0) (hL:∀σ w,dQ B σ L w→dQ B σ (Lx x0) w)
  (hb:∀x,C x→AT P r cd (nE nt B Dx V fr0 C Lx μ x Q) nt (Dx x) (V x++fr0) B (Lx x)):AT P r (.loop cd) Q nt D fr B L:=by
 intro σ a w ha hw
 subst hD
 classical
 let G:Nat→Act→World→Prop:=fun m a w=>∃σ x,jp σ nt (Dx x) (V x++fr0) a∧C x∧dQ B σ (Lx x) w∧μ x=m
 let M:Act→World→Nat:=fun a w=>if h:∃m,G m a w∧∀m',G m' a w→m≤m' then h.choose else 0
 have least:∀a w,(∃m,G m a w)→G (M a w) a w∧∀m',G m' a w→M a w≤m':=by
  rintro a w ⟨m0,hg0⟩
  have hex:∃m,G m a w∧∀m',G m' a w→m≤m':=by
   have:∀k,∀m,m≤k→G m a w→∃m,G m a w∧∀m',G m' a w→m≤m':=by
    intro k
    induction k with
    | zero=>intro m hm hg;exact ⟨m,hg,fun m' _=>by omega⟩
    | succ k ih=>
     intro m hm hg
     by_cases h:∃m',m' < m∧G m' a w
     ·obtain ⟨m',hlt,hg'⟩:=h
      exact ih m' (by omega) hg'
     ·exact ⟨m,hg,fun m' hg'=>by
       rcases Nat.lt_or_ge m' m with hlt | hge
       ·exact absurd ⟨m',hlt,hg'⟩ h
       ·exact hge⟩
   exact this m0 m0 (Nat.le_refl _) hg0
  have hM:M a w=hex.choose:=dif_pos hex
  rw [hM];exact hex.choose_spec
 refine wpIn_loop (fun a w=>∃m,G m a w) M ⟨_,σ,x0,ha.weak (mN hV (eH ks hk)),hC,hL σ w hw,rfl⟩ ?_
 intro a w hI
 obtain ⟨⟨σ',x,hx,hj,hst,hm⟩,_⟩:=least a w hI
 refine wpIn_mono (hb x hj σ' a w hx hst) ?_
 intro e a' w' hq
 cases e with
 | normal=>
  obtain ⟨τ,x',hx',hj',hst',hlt⟩:=hq
  have hg:G (μ x') a' w':=⟨τ,x',hx',hj',hst',rfl⟩
  refine ⟨⟨_,hg⟩,?_⟩
  have:=(least a' w' ⟨_,hg⟩).2 (μ x') hg
  omega
 | _=>exact hq
theorem lp {α:Type} {Dx:α→List Deferred} {V:α→cw} {fr0:cw} {C:α→Prop} {Lx:α→AL} {μ:α→Nat} {x:α} (x':α) (hk:gE fr (fr0.map (·.1))=some fr0) (hV:lZ (V x') fr) (hD:D=Dx x') (hC:C x') (hm:μ x' < μ x) (hL:∀σ w,dQ B σ L w→dQ B σ (Lx x') w):
  AX P .normal (nE nt B Dx V fr0 C Lx μ x Q) nt D fr B L:=fun σ a w ha hw=>by
 subst hD
 exact ⟨σ,x',ha.weak (mN hV (eH _ hk)),hC,hL _ _ hw,hm⟩
theorem lO {α:Type} {Dx:α→List Deferred} {V:α→cw} {fr0:cw} {C:α→Prop} {Lx:α→AL} {μ:α→Nat} {x:α} {id:Nat} (h:AX P (.exit id) Q nt D fr B L):AX P (.exit id) (nE nt B Dx V fr0 C Lx μ x Q) nt D fr B L:=fun σ a w ha hw=>h σ a w ha hw
end
section
variable {nt:Nat} {D:List Deferred} {B:Bs} {fr:cw} {L:AL}
theorem rT {t b e sz n:Nat} {cs:List AV} {l:List (List AV)} (i:Nat) (hl:cF fr t=some (.iptr [.sc (.slice (some ⟨b,0,none⟩) n n)])) (hL:L[i]?=some (b,.box cs e)) (hc:cs=l.flatten) (hs:∀q∈l,q.length=sz) (hn:l.length=n) (h63:n≤9223372036854775807):p6 nt D B fr L ((t,.iptr [.imm sz l])::fr) ((b,.vec e sz n n)::L.eraseIdx i):=by
 intro σ a w ha hw0
 have hw:=hw0.perm (gz hL)
 obtain ⟨o,ho,vs,rfl,hvs,h1⟩:=hw.here _ (List.mem_cons_self ..)
 have hfree:=hw.free _ (List.mem_cons_self ..)
 have hvl:vs.length=n * sz:=by rw [←hvs.1,hc,jD l hs,hn]
 have hst:dQ B σ ((b,.vec e sz 0 n)::L.eraseIdx i) w:=by
  refine ⟨hw.os,hw.tape,hw.output,hw.size,hw.old,fun p hp=>?_,fun p hp=>?_,by simpa using hw.apart,hw.froz,fun p hp off hm=>?_,hw.grow,hw.same⟩
  ·rcases List.mem_cons.1 hp with rfl | hp'
   ·exact ⟨_,ho,_,rfl,by simp [hvl],Nat.zero_le _,by unfold maxLen;omega⟩
   ·exact hw.here p (Js _ hp')
  ·rcases List.mem_cons.1 hp with rfl | hp'
   ·exact hw.mine (b,.box cs e) (List.mem_cons_self ..)
   ·exact hw.mine p (Js _ hp')
  ·rcases List.mem_cons.1 hp with rfl | hp'
   ·exact hfree off trivial
   ·exact hw.free p (Js _ hp') off hm
 obtain ⟨hst',hle⟩:=hst.freezeHead (n':=n) (xs:=vs) (fun j u hj=>by rw [ez ho];simpa using hj) hvl (Nat.zero_le _) (Nat.le_refl _)
 refine ⟨_,?_,hst'⟩
 have hv:VR (σ.add b vs) (.vec (some (b,n)) sz l) (.slice (some ⟨b,0,none⟩) n n):=by
  have:=oh (σ:=σ.add b vs) (b:=b) (cap:=n) hs (by rw [←hc];exact hvs.mono hle) h1 (by omega) (by unfold maxLen;omega) (fun j u hj=>cP.add_at hj)
  rwa [hn] at this
 have ha':=ha.mono hle
 refine ⟨ha'.size,ha'.defers,fun t' v' hl'=>?_⟩
 rw [cX] at hl'
 by_cases e:t=t'
 ·subst e
  simp only [if_true,Option.some.injEq] at hl'
  subst hl'
  have hp:=ha.look t _ hl
  generalize a.tmps.getD t undef=v0 at hp
  generalize hq:AV.iptr [.sc (.slice (some ⟨b,0,none⟩) n n)]=q at hp
  cases hp with
  | iptr cs2 b0 off hx h=>
   injection hq with hq
   subst hq
   refine .iptr _ b0 off (fun j hj=>?_) fun j c u hc hu=>?_
   ·obtain ⟨u,hu,h1⟩:=hx j hj
    exact ⟨u,hle _ _ _ hu,h1⟩
   ·have hj:j=0:=by
     have:=(Jo hc).1
     simp at this
     exact this
    subst hj
    simp at hc
    subst hc
    obtain ⟨u',hu',_⟩:=hx 0 (by simp)
    have h2:=hle _ _ _ hu'
    rw [hu] at h2
    injection h2 with h2
    subst h2
    rw [(h 0 _ u rfl hu').sc_inv]
    exact hv.im
  | _=>cases hq
 ·rw [if_neg e] at hl'
  exact ha'.look t' v' hl'
end
end Go.Proofs.YtjjpkibjffmceaaGreat
