/-
  The program: glyphs, as check looks at them, with anchors and deltas.
-/
import Derived.Test.YtpbinloeemebkaaGreatM09
import Derived.Test.YtpbinloeemebkaaGreatM07
namespace Go.Proofs.YtpbinloeemebkaaGreat
open Go.RowKit
attribute [local irreducible] AT bO AX AO Av Kt bo dU DA cT
theorem BZ:jy Tryz.prog 304:=⟨⟨_,_,Tryz.underlying304,⟨by decide,by decide⟩,⟨rfl,rfl⟩,Tryz.underlying3,Tryz.underlying3⟩,Tryz.stoodInHeld304⟩
theorem F7:jy Tryz.prog 307:=⟨⟨_,_,Tryz.underlying307,⟨by decide,by decide⟩,⟨rfl,rfl⟩,Tryz.underlying3,Tryz.underlying3⟩,Tryz.stoodInHeld307⟩
def nW (l:List dz) (a b:Int):Option AV:=if ∃x∈l,x.Kind=a∧x.Class=b then some (c9 true) else none
theorem Ba:nW []=fun _ _=>none:=by funext a b;simp [nW]
theorem yu (l:List dz) (a b:Int):(nW l a b).getD (c9 false)=c9 (decide (∃x∈l,x.Kind=a∧x.Class=b)):=by
 unfold nW
 by_cases h:∃x∈l,x.Kind=a∧x.Class=b
 ·rw [if_pos h,decide_eq_true h];rfl
 ·rw [if_neg h,decide_eq_false h];rfl
theorem yw {l:List dz} {i:Nat} {x:dz} (h:l[i]?=some x):nW (l.take (i+1)) x.Kind x.Class=some (c9 true):=by
 unfold nW
 rw [if_pos ⟨x,by rw [List.take_add_one,h];simp,rfl,rfl⟩]
theorem vX {l:List dz} {i:Nat} {x:dz} (h:l[i]?=some x) (p q:Int) (hne:¬(p=x.Kind∧q=x.Class)):nW (l.take (i+1)) p q=nW (l.take i) p q:=by
 unfold nW
 have:(∃y∈l.take (i+1),y.Kind=p∧y.Class=q)↔∃y∈l.take i,y.Kind=p∧y.Class=q:=by
  rw [List.take_add_one,h]
  simp only [Option.toList_some,List.mem_append,List.mem_singleton]
  constructor
  ·rintro ⟨y,hy | rfl,h1⟩
   ·exact ⟨y,hy,h1⟩
   ·exact absurd ⟨h1.1.symm,h1.2.symm⟩ hne
  ·rintro ⟨y,hy,h1⟩
   exact ⟨y,Or.inl hy,h1⟩
 by_cases hc:∃y∈l.take i,y.Kind=p∧y.Class=q
 ·rw [if_pos hc,if_pos (this.2 hc)]
 ·rw [if_neg hc,if_neg (fun h=>hc (this.1 h))]
set_option maxHeartbeats 1000000 in
theorem uX (g:bn) (i:Nat) (a:dz) (ha:g.Anchors[i]?=some a) (m:Nat):AC Tryz.prog 229 [aH i,.agg (d9 a),.iptr [c9 g.Mark],.iptr [.sc (.map (some m))]] [(m,i5 (nW (g.Anchors.take i)))] fun c L'=>c=aH (lZ g i a)∧(lZ g i a=0→L'=[(m,i5 (nW (g.Anchors.take (i+1))))]):=by
 refine aT Tryz.func229 rfl Tryz.ntmps229 rfl fun B=>?_
 repeat' (first|refine go ?_|refine HF a1 F8 ?_|(apply aQ;first|refine HH 7 a1 0 HE ?_|refine HH 7 a1 1 HE ?_|refine HH 7 a1 2 HE ?_|refine HG a1 0 HD ?_|refine HG a1 1 HD ?_|refine HG a1 2 HD ?_|refine HG a1 3 HD ?_|fail)|refine bC ?_|refine bl a1 fun _=>?_|fail)
 refine d7 (t:=8) [2,3,5,7] (a.Kind=3∨a.Kind=4) rfl (fun Q' K=>?_) ?_
 ·repeat' (first|refine go ?_|refine HF a1 F8 ?_|refine HO F8 ?_|refine HS HB ?_|refine be rfl rfl rfl (fun _=>?_) (fun _=>?_))
  all_goals exact K _ _ rfl rfl (by clear K;grind)
 repeat' (first|refine go ?_|refine ak ?_|refine HF a1 F8 ?_)
 refine d7 (t:=22) [2,3,5,7,8] (a.Kind < 1∨a.Kind > 4) rfl (fun Q' K=>?_) ?_
 ·repeat' (first|refine go ?_|refine HF a1 F8 ?_|refine HO F8 ?_|refine HS HB ?_|refine be rfl rfl rfl (fun _=>?_) (fun _=>?_))
  all_goals exact K _ _ rfl rfl (by clear K;grind)
 repeat' (first|refine go ?_|fail)
 refine ay rfl (fun h1=>?_) (fun h1=>?_)
 ·have h0:=h1
  replace h1:=Hy h1
  rw [h0]
  repeat' (first|refine go ?_|refine HF a1 F8 ?_|refine bR rfl ?_)
  refine HN F8 ?_
  rw [show lZ g i a=35 from if_pos (.inl h1)]
  exact ⟨rfl,fun e=>absurd e (by decide)⟩
 have h0:=h1
 replace h1:=Hx h1
 rw [h0]
 clear h0
 repeat' (first|refine go ?_|refine HF a1 F8 ?_)
 refine d7 (t:=22) [2,3,5,7,8] (a.Class < 0∨a.Class > 15) rfl (fun Q' K=>?_) ?_
 ·repeat' (first|refine go ?_|refine HF a1 F8 ?_|refine HO F8 ?_|refine HS HB ?_|refine be rfl rfl rfl (fun _=>?_) (fun _=>?_))
  all_goals exact K _ _ rfl rfl (by clear K;grind)
 repeat' (first|refine go ?_|fail)
 refine ay rfl (fun h2=>?_) (fun h2=>?_)
 ·have h0:=h2
  replace h2:=Hy h2
  rw [h0]
  repeat' (first|refine go ?_|refine HF a1 F8 ?_|refine bR rfl ?_)
  refine HN F8 ?_
  rw [show lZ g i a=35 from if_pos (.inr (.inl h2))]
  exact ⟨rfl,fun e=>absurd e (by decide)⟩
 have h0:=h2
 replace h2:=Hx h2
 rw [h0]
 clear h0
 repeat' (first|refine go ?_|refine HF a1 F8 ?_)
 refine d7 (t:=22) [2,3,5,7] ((a.Kind=3∨a.Kind=4)∧a.Class≠0) rfl (fun Q' K=>?_) ?_
 ·generalize hj:decide (a.Kind=3∨a.Kind=4)=j
  have hj':(a.Kind=3∨a.Kind=4)↔j=true:=by rw [←hj,decide_eq_true_eq]
  repeat' (first|refine go ?_|refine HF a1 F8 ?_|refine HO F8 ?_|refine HS HB ?_|refine be rfl rfl rfl (fun _=>?_) (fun _=>?_))
  all_goals exact K _ _ (by first | rfl | (subst_vars;rfl)) rfl (by clear K;grind)
 repeat' (first|refine go ?_|fail)
 refine ay rfl (fun h3=>?_) (fun h3=>?_)
 ·have h0:=h3
  replace h3:=Hy h3
  rw [h0]
  repeat' (first|refine go ?_|refine HF a1 F8 ?_|refine bR rfl ?_)
  refine HN F8 ?_
  rw [show lZ g i a=35 from if_pos (.inr (.inr (.inl h3)))]
  exact ⟨rfl,fun e=>absurd e (by decide)⟩
 have h0:=h3
 replace h3:=Hx h3
 rw [h0]
 clear h0
 repeat' (first|refine go ?_|refine HF a1 F8 ?_|refine bI a1 ?_|(apply bD;refine bf ?_)|fail)
 refine ay rfl (fun h4=>?_) (fun h4=>?_)
 ·rw [h4]
  repeat' (first|refine go ?_|refine HF a1 F8 ?_|refine bR rfl ?_)
  refine HN F8 ?_
  rw [show lZ g i a=35 from if_pos (.inr (.inr (.inr (.inl (by rw [←Bool.not_eq_true',h4])))))]
  exact ⟨rfl,fun e=>absurd e (by decide)⟩
 rw [h4]
 repeat' (first|refine go ?_|refine HF a1 F8 ?_)
 refine d7 (t:=22) [3,7] (a.Kind=2∧g.Mark=false) rfl (fun Q' K=>?_) ?_
 ·repeat' (first|refine go ?_|refine HF a1 F8 ?_|refine HO F8 ?_|refine HS HB ?_|refine be rfl rfl rfl (fun _=>?_) (fun _=>?_))
  all_goals exact K _ _ rfl rfl (by clear K;grind)
 repeat' (first|refine go ?_|fail)
 refine ay rfl (fun h5=>?_) (fun h5=>?_)
 ·have h0:=h5
  replace h5:=Hy h5
  rw [h0]
  repeat' (first|refine go ?_|refine HF a1 F8 ?_|refine bR rfl ?_)
  refine HN F8 ?_
  rw [show lZ g i a=35 from if_pos (.inr (.inr (.inr (.inr (.inl h5)))))]
  exact ⟨rfl,fun e=>absurd e (by decide)⟩
 have h0:=h5
 replace h5:=Hx h5
 rw [h0]
 clear h0
 repeat' (first|refine go ?_|refine HF a1 F8 ?_)
 refine w3 0 (.bool false) Tryz.underlying302 BZ rfl rfl rfl (by kernel_rfl) rfl ?_
 rw [yu]
 repeat' (first|refine go ?_|refine HF a1 F8 ?_)
 refine ay rfl (fun h6=>?_) (fun h6=>?_)
 ·rw [h6]
  repeat' (first|refine go ?_|refine HF a1 F8 ?_)
  refine HN F8 ?_
  rw [show lZ g i a=35 from if_pos (.inr (.inr (.inr (.inr (.inr (Hy h6))))))]
  exact ⟨rfl,fun e=>absurd e (by decide)⟩
 rw [h6]
 repeat' (first|refine go ?_|refine HF a1 F8 ?_)
 refine sA 0 (nW (g.Anchors.take (i+1))) Tryz.underlying302 BZ rfl rfl rfl rfl (yw ha) (vX ha) ?_
 repeat' (first|refine go ?_|refine HF a1 F8 ?_)
 refine HN F8 ?_
 have h4':[a.X,a.Y].all gd=true:=by simpa using h4
 have h6':=Hx h6
 rw [show lZ g i a=0 from if_neg (by
  rintro (h | h | h | h | h | h)
  ·exact h1 h
  ·exact h2 h
  ·exact h3 h
  ·rw [h4'] at h;cases h
  ·exact h5 h
  ·exact h6' h)]
 exact ⟨rfl,fun _=>rfl⟩
def qz (a b c d:Int):Bool:=decide (a < c∨(a=c∧b < d))
theorem vh (a b c d:Int):bM Tryz.prog 233 [.agg [aH a,aH b],.agg [aH c,aH d]] (c9 (qz a b c d)):=by
 refine aT Tryz.func233 rfl Tryz.ntmps233 rfl fun B=>?_
 repeat' (first|refine go ?_|refine HF a1 F8 ?_|refine bC ?_|fail)
 refine d7 (t:=4) [] (qz a b c d=true) rfl (fun Q' K=>?_) ?_
 ·repeat' (first|refine go ?_|refine HF a1 F8 ?_|refine HO F8 ?_|refine HS HB ?_|refine cR rfl rfl rfl ?_|refine be rfl rfl rfl (fun _=>?_) (fun _=>?_))
  all_goals exact K _ _ rfl rfl (by clear K;unfold qz;grind)
 repeat' (first|refine go ?_|fail)
 refine HN F8 ?_
 simp
def fN (l:List dG) (i:Nat):Int×Int:=match i with | 0=>(0,0) | j+1=>match l[j]? with | some b=>(b.Region,b.Point) | none=>(0,0)
def pR (g:bn) (i:Nat) (d:dG):Bool:=decide (0 < i∧((d.Region=(fN g.Deltas i).1∧d.Point=(fN g.Deltas i).2)∨qz d.Region d.Point (fN g.Deltas i).1 (fN g.Deltas i).2=true))
theorem CV {g:bn} {i:Nat} {d:dG} (hd:g.Deltas[i]?=some d):(match i with | 0=>false | j+1=>match g.Deltas[j]? with | some b=>decide (d.Region < b.Region∨(d.Region=b.Region∧d.Point≤b.Point)) | none=>false)=pR g i d:=by
 unfold pR
 cases i with
 | zero=>simp
 | succ j=>
  have hj:j < g.Deltas.length:=by have:=(Hp hd).1;omega
  obtain ⟨b,hb⟩:∃b,g.Deltas[j]?=some b:=⟨_,Hz hj⟩
  simp only [hb,fN,qz]
  rw [Bool.eq_iff_iff,decide_eq_true_eq,decide_eq_true_eq,decide_eq_true_eq]
  omega
theorem CA {f:aL} {g:bn} {i:Nat} {d:dG} (hd:g.Deltas[i]?=some d):qR f g i d=if d.Region < 0∨d.Region≥f.Regions.length then 61 else if (d.Point < -1∨d.Point≥g.Points.length)∨[d.X,d.Y].all gd=false∨(d.Point= -1∧d.Y≠0) then 30 else if pR g i d=true then 24 else 0:=by
 unfold qR
 rw [←CV hd]
 cases i <;> rfl
set_option maxHeartbeats 1000000 in
theorem ya (f:aL) (g:bn) (i:Nat) (d:dG) (hd:g.Deltas[i]?=some d) (R N:Int) (hR:R=f.Regions.length) (hN:N=g.Points.length) (b:Nat):AC Tryz.prog 232 [aH i,.agg (dY d),.iptr [aH R],.iptr [aH N],.sc (.pointer (some ⟨b,0,none⟩))] [(b,.box [aH (fN g.Deltas i).1,aH (fN g.Deltas i).2] 307)] fun c L'=>c=aH (qR f g i d)∧(qR f g i d=0→L'=[(b,.box [aH (fN g.Deltas (i+1)).1,aH (fN g.Deltas (i+1)).2] 307)]):=by
 refine aT Tryz.func232 rfl Tryz.ntmps232 rfl fun B=>?_
 rw [CA hd,←hR,←hN]
 have hnext:fN g.Deltas (i+1)=(d.Region,d.Point):=by simp only [fN,hd]
 rw [hnext]
 repeat' (first|refine go ?_|refine ak ?_|refine HF a1 F8 ?_|(apply aQ;first|refine HH 8 a1 0 HE ?_|refine HH 8 a1 1 HE ?_|refine HH 8 a1 2 HE ?_|refine HG a1 0 HD ?_|refine HG a1 1 HD ?_|refine HG a1 2 HD ?_|refine HG a1 3 HD ?_|fail)|refine bC ?_|refine bl a1 fun _=>?_|fail)
 refine cN [0,3,4,6,8] (d.Region < 0∨d.Region≥R) rfl (fun Q' K=>?_) (fun h1=>?_) (fun h1=>?_)
 ·repeat' (first|refine go ?_|refine HF a1 F8 ?_|refine HO F8 ?_|refine HS HB ?_|refine be rfl rfl rfl (fun _=>?_) (fun _=>?_))
  all_goals exact K _ _ rfl rfl (by clear K;grind)
 ·rw [if_pos h1]
  repeat' (first|refine go ?_|refine HF a1 F8 ?_)
  exact HN F8 ⟨rfl,fun e=>absurd e (by decide)⟩
 rw [if_neg h1]
 repeat' (first|refine go ?_|refine HF a1 F8 ?_)
 refine d7 (t:=24) [0,4,6,8] (d.Point < -1∨d.Point≥N) rfl (fun Q' K=>?_) ?_
 ·repeat' (first|refine go ?_|refine HF a1 F8 ?_|refine HO F8 ?_|refine HS HB ?_|refine be rfl rfl rfl (fun _=>?_) (fun _=>?_))
  all_goals exact K _ _ rfl rfl (by clear K;grind)
 repeat' (first|refine go ?_|fail)
 refine ay rfl (fun h2=>?_) (fun h2=>?_)
 ·have h0:=h2
  replace h2:=Hy h2
  rw [h0]
  rw [if_pos (.inl h2)]
  repeat' (first|refine go ?_|refine HF a1 F8 ?_|refine bR rfl ?_)
  exact HN F8 ⟨rfl,fun e=>absurd e (by decide)⟩
 have h0:=h2
 replace h2:=Hx h2
 rw [h0]
 clear h0
 repeat' (first|refine go ?_|refine HF a1 F8 ?_|refine bI a1 ?_|(apply bD;refine bf ?_)|fail)
 refine ay rfl (fun h3=>?_) (fun h3=>?_)
 ·rw [if_pos (.inr (.inl (by rw [←Bool.not_eq_true',h3]))),h3]
  repeat' (first|refine go ?_|refine HF a1 F8 ?_|refine bR rfl ?_)
  exact HN F8 ⟨rfl,fun e=>absurd e (by decide)⟩
 rw [h3]
 repeat' (first|refine go ?_|refine HF a1 F8 ?_)
 refine d7 (t:=24) [0,4,8] (d.Point= -1∧d.Y≠0) rfl (fun Q' K=>?_) ?_
 ·repeat' (first|refine go ?_|refine HF a1 F8 ?_|refine HO F8 ?_|refine HS HB ?_|refine be rfl rfl rfl (fun _=>?_) (fun _=>?_))
  all_goals exact K _ _ rfl rfl (by clear K;grind)
 repeat' (first|refine go ?_|fail)
 refine ay rfl (fun h4=>?_) (fun h4=>?_)
 ·have h0:=h4
  replace h4:=Hy h4
  rw [h0]
  rw [if_pos (.inr (.inr h4))]
  repeat' (first|refine go ?_|refine HF a1 F8 ?_)
  exact HN F8 ⟨rfl,fun e=>absurd e (by decide)⟩
 have h0:=h4
 replace h4:=Hx h4
 rw [h0]
 clear h0
 have h3':[d.X,d.Y].all gd=true:=by simpa using h3
 rw [if_neg (by
  rintro (h | h | h)
  ·exact h2 h
  ·rw [h3'] at h;cases h
  ·exact h4 h)]
 repeat' (first|refine go ?_|refine HF a1 F8 ?_)
 refine cN [4,8] (pR g i d=true) rfl (fun Q' K=>?_) (fun h5=>?_) (fun h5=>?_)
 ·repeat' (first|refine go ?_|refine HF a1 F8 ?_|refine HO F8 ?_|refine HS HB ?_|refine cR rfl rfl rfl ?_|(apply bh;first|refine HJ a1 0 HC ?_|refine HJ a1 1 HC ?_|refine HJ a1 2 HC ?_|refine HJ a1 3 HC ?_|refine HK a1 0 HC ?_|refine HK a1 1 HC ?_|refine HK a1 2 HC ?_|refine HM a1 1 HA (by assumption) rfl ?_|refine HM a1 0 HA (by assumption) rfl ?_|fail)|refine be rfl rfl rfl (fun _=>?_) (fun _=>?_))
  all_goals first
   | exact K _ _ rfl rfl (by clear K;unfold pR;grind)
   | (refine ES F7 Tryz.eqGuardType307 rfl rfl rfl ?_)
  repeat' (first|refine go ?_|refine HF a1 F8 ?_|refine HO F8 ?_|refine HS HB ?_|(apply bh;first|refine HJ a1 0 HC ?_|refine HJ a1 1 HC ?_|refine HJ a1 2 HC ?_|refine HJ a1 3 HC ?_|refine HK a1 0 HC ?_|refine HK a1 1 HC ?_|refine HK a1 2 HC ?_|refine HM a1 1 HA (by assumption) rfl ?_|refine HM a1 0 HA (by assumption) rfl ?_|fail)|refine be rfl rfl rfl (fun _=>?_) (fun _=>?_))
  all_goals first
   | exact K _ _ rfl rfl (by clear K;unfold pR;grind)
   | (refine bf (hc:=⟨vh d.Region d.Point (fN g.Deltas i).1 (fN g.Deltas i).2⟩) ?_)
  repeat' (first|refine go ?_|refine HF a1 F8 ?_|refine HO F8 ?_)
  all_goals exact K _ _ rfl rfl (by clear K;unfold pR;grind)
 ·rw [if_pos h5]
  repeat' (first|refine go ?_|refine HF a1 F8 ?_)
  exact HN F8 ⟨rfl,fun e=>absurd e (by decide)⟩
 rw [if_neg h5]
 repeat' (first|refine go ?_|refine HF a1 F8 ?_|(apply aQ;first|refine HH 8 a1 0 HE ?_|refine HH 8 a1 1 HE ?_|refine HH 8 a1 2 HE ?_|refine HG a1 0 HD ?_|refine HG a1 1 HD ?_|refine HG a1 2 HD ?_|refine HG a1 3 HD ?_|fail))
 refine HN F8 ⟨rfl,fun e=>?_⟩
 rfl
set_option maxHeartbeats 2000000 in
theorem yl (f:aL) (g:bn) (name:Int):bM Tryz.prog 85 [cx f,.agg (bS g),aH name] (aH (nR f g name)):=by
 refine aT Tryz.func85 rfl Tryz.ntmps85 rfl fun B=>?_
 repeat' (first|refine go ?_|refine HF a1 F8 ?_|refine bC ?_|fail)
 refine bj 30 [(0,.v),(1,.v),(2,.v),(3,.v),(4,.v),(5,.v),(6,.v),(7,.v),(8,.v),(9,.v),(12,.v),(13,.v),(14,.v),(15,.v),(16,.v),(17,.v),(18,.v),(19,.v),(20,.v),(23,.v),(10,.e),(11,.v),(21,.e),(22,.v),(24,.v),(25,.e),(26,.v),(27,.v),(28,.v),(29,.v)] none ?_ trivial rfl (by kernel_rfl) (by kernel_rfl) (by kernel_rfl) mixed (by kernel_rfl) rfl
 repeat' (first|refine aE ?_|refine ba a1 ?_|(apply dm;refine dP ?_)|fail)
 refine fj [] [] (uY g.Mark) rfl rfl (Ho _) trivial fun c L1 ⟨m,hc,hL⟩=>?_
 subst hc;subst hL
 repeat' (first|refine aE ?_|(apply dm;refine dP ?_)|fail)
 refine fj [] _ (yb (f.Regions.map bT).length (g.Points.map dA).length) rfl rfl (Ho _) trivial fun c L1 ⟨b,hc,hL⟩=>?_
 subst hc;subst hL
 repeat' (first|refine aE ?_|(apply dm;refine dP ?_)|refine ek a1 ?_|fail)
 refine fj (L:=[(b,.box [aH 0,aH 0] 307),(m,i5 fun _ _=>none)]) _ [] (jh [⟨150,[.iptr [aH name]],[],name,0⟩,⟨151,[.iptr (bS g)],[],iH g,0⟩,⟨225,[.iptr [.imm 3 (g.Parts.map dW)],.iptr [aH 8],.iptr [.fn 154 [.iptr (cf f)]]],[],(ck 8 g.Parts (lQ f)).1,(ck 8 g.Parts (lQ f)).2⟩,⟨227,[.iptr [.imm 4 (g.Anchors.map d9)],.iptr [aH 16],.iptr [.fn 229 [.iptr [c9 g.Mark],.iptr [.sc (.map (some m))]]]],[(m,i5 fun _ _=>none)],(ck 16 g.Anchors (lZ g)).1,(ck 16 g.Anchors (lZ g)).2⟩,⟨230,[.iptr [.imm 4 (g.Deltas.map dY)],.iptr [aH 400],.iptr [.fn 232 [.iptr [aH (f.Regions.map bT).length],.iptr [aH (g.Points.map dA).length],.sc (.pointer (some ⟨b,0,none⟩))]]],[(b,.box [aH 0,aH 0] 307)],(ck 400 g.Deltas (qR f g)).1,(ck 400 g.Deltas (qR f g)).2⟩,⟨160,[.iptr (bS g)],[],n3 g.Hint,0⟩] ?_) rfl rfl (List.Perm.swap ..) trivial fun c L1 hc=>?_
 ·refine ⟨⟨inferInstance,vD name⟩,fun _=>⟨⟨inferInstance,vE g⟩,fun _=>⟨⟨inferInstance,Dq rfl g.Parts 8 _ (fun _ _=>True) [] trivial (fun _=>dh fun i x _=>vF f i x)⟩,fun _=>⟨⟨inferInstance,Dr rfl g.Anchors 16 (fR g.Anchors (lZ g)) (fun i L=>L=[(m,i5 (nW (g.Anchors.take i)))]) _ (by rw [List.take_zero,Ba]) ?_⟩,fun _=>⟨⟨inferInstance,Ds rfl g.Deltas 400 (fR g.Deltas (qR f g)) (fun i L=>L=[(b,.box [aH (fN g.Deltas i).1,aH (fN g.Deltas i).2] 307)]) _ rfl ?_⟩,fun _=>⟨⟨inferInstance,vG g⟩,fun _=>trivial⟩⟩⟩⟩⟩⟩
  ·intro _ i x L hx hL
   subst hL
   rw [il hx]
   exact uX g i x hx m
  ·intro _ i x L hx hL
   subst hL
   rw [il hx]
   exact ya f g i x hx _ _ (by rw [Hu]) (by rw [Hu]) b
 ·rw [jR] at hc
  subst hc
  unfold ct
  repeat' (first|refine aE ?_|refine ba a1 ?_|fail)
  refine HR [7,37] F8 ?_
  repeat' (first|refine go ?_|refine a8 ?_|refine HF a1 F8 ?_)
  exact HP HA
instance (f:aL) (g:bn) (name:Int):AD Tryz.prog 85 [cx f,.agg (bS g),aH name] (aH (nR f g name)):=⟨yl f g name⟩
section
variable {P:Program} {l:List Oper} {fr:c6} {fin:iq} {sk:ky} {acc:c6} {L:AL} {k:Nat} {dd:Option Tmp} {ty t:TypeId} {pos:String} {af:Array Edge} {g:Option (Nat×Bool)} {x y:Operand}
theorem pz (i:Nat) (v0:Value) {b kt et:Nat} {kd:TypeDesc} {q:Value} {m:Value→Option AV} (ht:P.underlying t=some (.map kt et)) (hkt:P.underlying kt=some kd) (hx:bt (cB l.toArray acc fr af.toList) x=some (.sc (.map (some b)))) (hy:bt (cB l.toArray acc fr af.toList) y=some (.sc q)) (hk:MapKept.IsKey kd q) (hL:L[i]?=some (b,dc kd m)) (hz:lf P et v0=true) (hg:iL ⟨dd,.lookup t x y false,ty,pos,af,g⟩ acc) (h:DA P l fr fin sk ((k,(m q).getD (.sc v0))::acc) L):
  cT P l fr fin k .e ⟨dd,.lookup t x y false,ty,pos,af,g⟩ sk acc L:=
 iv hg (fun B=>lj i ht hkt hx hy hk hL (fS hz) fun _=> .sc _) fun c L' ⟨h1,h2⟩=>by subst h1;subst h2;exact h
end
def tw (f:aL) (c:f0) (late:Bool):Int:=if c.Rune < 0∨c.Rune > 1114111 then 1 else if kU f c.Glyph=false then 32 else dX late 24
theorem A6 (f:aL) (c:f0) (late:Bool):bM Tryz.prog 92 [cx f,.agg (dJ c),c9 late] (aH (tw f c late)):=by
 refine aT Tryz.func92 rfl Tryz.ntmps92 rfl fun B=>?_
 unfold tw
 repeat' (first|refine go ?_|refine ak ?_|refine HF a1 F8 ?_|refine bC ?_|fail)
 refine cN [2,3,4] (c.Rune < 0∨c.Rune > 1114111) rfl (fun Q' K=>?_) (fun hC=>?_) (fun hC=>?_)
 ·repeat' (first|refine go ?_|refine HF a1 F8 ?_|refine HO F8 ?_|refine HS HB ?_|refine be rfl rfl rfl (fun _=>?_) (fun _=>?_))
  all_goals exact K _ _ rfl rfl (by clear K;grind)
 ·rw [if_pos hC]
  repeat' (first|refine go ?_|refine HF a1 F8 ?_)
  exact HP HA
 rw [if_neg hC]
 repeat' (first|refine go ?_|refine HF a1 F8 ?_|(apply bD;refine bf ?_)|fail)
 refine ay rfl (fun h=>?_) (fun h=>?_)
 ·rw [if_pos (by simpa using h)]
  repeat' (first|refine go ?_|refine HF a1 F8 ?_)
  exact HP HA
 rw [if_neg (by simpa using h)]
 repeat' (first|refine go ?_|refine HF a1 F8 ?_|(apply bD;refine bf ?_)|fail)
 exact HP HA
instance (f:aL) (c:f0) (late:Bool):AD Tryz.prog 92 [cx f,.agg (dJ c),c9 late] (aH (tw f c late)):=⟨A6 f c late⟩
def x4 (f:aL) (i:Nat) (c:f0):Bool:=match i with | 0=>false | j+1=>match f.Chars[j]? with | some b=>decide (c.Rune≤b.Rune) | none=>false
def i9 (f:aL) (i:Nat) (c:f0):Int:=tw f c (x4 f i c)
theorem xV (f:aL) (i:Nat) (c:f0) (hc:f.Chars[i]?=some c) (hm:(f.Chars.length:Int)≤1000):bM Tryz.prog 91 [aH i,.agg (dJ c),.iptr (cf f)] (aH (i9 f i c)):=by
 refine aT Tryz.func91 rfl Tryz.ntmps91 rfl fun B=>?_
 have hil:=(Hp hc).1
 unfold i9
 cases i with
 | zero=>
  repeat' (first|refine go ?_|refine HF a1 F8 ?_|refine bC ?_|fail)
  refine bj 17 [(0,.v),(1,.v),(2,.v),(3,.v),(4,.v),(5,.v),(6,.v),(7,.v),(8,.v),(9,.v),(10,.v),(11,.v),(12,.v),(13,.v),(14,.v),(15,.v),(16,.v)] none ?_ trivial rfl (by kernel_rfl) (by kernel_rfl) (by kernel_rfl) mixed (by kernel_rfl) rfl
  repeat' (first|refine aE ?_|refine ba a1 ?_|(apply dm;refine dP ?_)|refine kl rfl rfl ?_)
  refine HR [22] F8 ?_
  repeat' (first|refine go ?_|refine a8 ?_|refine HF a1 F8 ?_)
  exact HP HA
 | succ j=>
  obtain ⟨b,hb⟩:∃b,f.Chars[j]?=some b:=⟨_,Hz (by omega)⟩
  have hbg:(f.Chars.map dJ)[(((j+1:Nat):Int) - 1).toNat]?=some (dJ b):=by rw [show (((j+1:Nat):Int) - 1).toNat=j by omega];exact bA hb
  have hl:x4 f (j+1) c=decide (c.Rune≤b.Rune):=by simp [x4,hb]
  have hpos:decide (0 < ((j+1:Nat):Int))=true:=decide_eq_true (by omega)
  rw [hl]
  repeat' (first|refine go ?_|refine HF a1 F8 ?_|refine bC ?_|fail)
  refine bj 17 [(0,.v),(1,.v),(2,.v),(3,.v),(4,.v),(5,.v),(6,.v),(7,.v),(8,.v),(9,.v),(10,.v),(11,.v),(12,.v),(13,.v),(14,.v),(15,.v),(16,.v)] none ?_ trivial rfl (by kernel_rfl) (by kernel_rfl) (by kernel_rfl) mixed (by kernel_rfl) rfl
  repeat' (first|refine aE ?_|refine ba a1 ?_|fail)
  rw [hpos]
  repeat' (first|refine aE ?_|refine ba a1 ?_|(apply dB;refine eK ?_)|(apply co;refine cJ a1 ?_)|(apply dm;refine dP ?_)|fail)
  refine HR [22] F8 ?_
  repeat' (first|refine go ?_|refine a8 ?_|refine HF a1 F8 ?_)
  exact HP HA
def tp (a:eu) (name:Int):Int:=if name≠0 then name else dX (!(decide ([a.Min,a.Def,a.Max].all gd=true∧a.Min≤a.Def∧a.Def≤a.Max))) 60
theorem A0 (a:eu) (name:Int):bM Tryz.prog 102 [.agg (cO a),aH name] (aH (tp a name)):=by
 refine aT Tryz.func102 rfl Tryz.ntmps102 rfl fun B=>?_
 unfold tp
 repeat' (first|refine go ?_|refine HF a1 F8 ?_|refine bC ?_|fail)
 refine ay rfl (fun h=>?_) (fun h=>?_)
 ·rw [if_pos (Hy h)]
  repeat' (first|refine go ?_|refine HF a1 F8 ?_)
  exact HP HA
 rw [if_neg (Hx h)]
 repeat' (first|refine go ?_|refine HF a1 F8 ?_|refine bI a1 ?_|(apply bD;refine bf ?_)|fail)
 refine d7 (t:=5) [] ([a.Min,a.Def,a.Max].all gd=true∧a.Min≤a.Def∧a.Def≤a.Max) rfl (fun Q' K=>?_) ?_
 ·repeat' (first|refine go ?_|refine HF a1 F8 ?_|refine HO F8 ?_|refine HS HB ?_|refine be rfl rfl rfl (fun _=>?_) (fun _=>?_))
  all_goals exact K _ _ rfl rfl (by clear K;grind)
 repeat' (first|refine go ?_|refine HF a1 F8 ?_|(apply bD;refine bf ?_)|fail)
 exact HP HA
instance (a:eu) (name:Int):AD Tryz.prog 102 [.agg (cO a),aH name] (aH (tp a name)):=⟨A0 a name⟩
def rR (_:Nat) (t:eX):Int:=dX (decide (¬(-64≤t.Start∧t.Start≤t.Peak∧t.Peak≤t.End∧t.End≤64)∨(t.Start < 0∧t.End > 0∧t.Peak≠0))) 61
set_option maxHeartbeats 1000000 in
theorem BV (i:Nat) (t:eX):bM Tryz.prog 186 [aH i,.agg (kf t)] (aH (rR i t)):=by
 refine aT Tryz.func186 rfl Tryz.ntmps186 rfl fun B=>?_
 repeat' (first|refine go ?_|refine HF a1 F8 ?_|refine bC ?_|fail)
 refine d7 (t:=5) [3] (-64≤t.Start∧t.Start≤t.Peak∧t.Peak≤t.End∧t.End≤64) rfl (fun Q' K=>?_) ?_
 ·repeat' (first|refine go ?_|refine HF a1 F8 ?_|refine HO F8 ?_|refine HS HB ?_|refine be rfl rfl rfl (fun _=>?_) (fun _=>?_))
  all_goals exact K _ _ rfl rfl (by clear K;grind)
 repeat' (first|refine go ?_|refine HF a1 F8 ?_)
 refine d7 (t:=6) [5] (t.Start < 0∧t.End > 0∧t.Peak≠0) rfl (fun Q' K=>?_) ?_
 ·repeat' (first|refine go ?_|refine HF a1 F8 ?_|refine HO F8 ?_|refine HS HB ?_|refine be rfl rfl rfl (fun _=>?_) (fun _=>?_))
  all_goals exact K _ _ rfl rfl (by clear K;grind)
 have ht:rR i t=dX (!(decide (-64≤t.Start∧t.Start≤t.Peak∧t.Peak≤t.End∧t.End≤64)) || decide (t.Start < 0∧t.End > 0∧t.Peak≠0)) 61:=by unfold rR;rw [Bool.decide_or,decide_not]
 rw [ht]
 generalize decide (-64≤t.Start∧t.Start≤t.Peak∧t.Peak≤t.End∧t.End≤64)=p
 generalize decide (t.Start < 0∧t.End > 0∧t.Peak≠0)=q
 cases p <;> cases q
 all_goals
  repeat' (first|refine go ?_|refine HF a1 F8 ?_|refine HO F8 ?_|refine HS HB ?_|(apply bD;refine bf ?_)|fail)
  exact HP HA
def yM (axes:Int) (r:List eX):Int:=if (r.length:Int)≠axes then 61 else (d5 r rR).1
theorem wh (r:List eX) (axes:Int):bM Tryz.prog 105 [.agg (bT r),aH axes] (aH (yM axes r)):=by
 refine aT Tryz.func105 rfl Tryz.ntmps105 rfl fun B=>?_
 unfold yM
 repeat' (first|refine go ?_|refine HF a1 F8 ?_|refine bC ?_|fail)
 rw [Hu]
 refine ay rfl (fun h=>?_) (fun h=>?_)
 ·rw [if_pos (Hy h)]
  repeat' (first|refine go ?_|refine HF a1 F8 ?_)
  exact HP HA
 rw [if_neg (Hx h)]
 repeat' (first|refine go ?_|refine HF a1 F8 ?_)
 refine bb [] [] (CJ (u:= .sc (.func (.func 186) #[] #[])) (g:=186) (caps:=[]) rfl r _ (fun _ _=>True) [] trivial (dh (fun i x _=>BV i x))) rfl rfl (Ho _) rfl fun c L1 hc=>?_
 have hc:c=ct (d5 r rR):=hc
 subst hc
 unfold ct
 repeat' (first|refine go ?_|refine HF a1 F8 ?_)
 exact HP HA
instance (r:List eX) (axes:Int):AD Tryz.prog 105 [.agg (bT r),aH axes] (aH (yM axes r)):=⟨wh r axes⟩
theorem uq (f:aL) (i:Nat) (r:List eX):bM Tryz.prog 104 [aH i,.agg (bT r),.iptr (cf f)] (aH (yM f.Axes.length r)):=by
 refine aT Tryz.func104 rfl Tryz.ntmps104 rfl fun B=>?_
 repeat' (first|refine go ?_|refine HF a1 F8 ?_|refine bC ?_|(apply bD;refine bf ?_)|fail)
 rw [Hu]
 repeat' (first|fail)
 exact HP HA
theorem xX (i:Nat) (l:List fT):bM Tryz.prog 107 [aH i,.imm 2 (l.map eU)] (aH (n3 l)):=by
 refine aT Tryz.func107 rfl Tryz.ntmps107 rfl fun B=>?_
 repeat' (first|refine go ?_|refine HF a1 F8 ?_|(apply bD;refine bf ?_)|fail)
 exact HP HA
def A9 (_:Nat) (n:Int):Int:=dX (!([n].all gd)) 1
theorem A7 (i:Nat) (n:Int):bM Tryz.prog 110 [aH i,aH n] (aH (A9 i n)):=by
 refine aT Tryz.func110 rfl Tryz.ntmps110 rfl fun B=>?_
 repeat' (first|refine go ?_|refine HF a1 F8 ?_|refine bI a1 ?_|(apply bD;refine bf ?_)|fail)
 exact HP HA
def lK (f:aL):Int:=if f.Unit < 16∨f.Unit > 4096 then 1 else if f.Glyphs.length=0 then 32 else 0
theorem Aw (f:aL):bM Tryz.prog 82 [cx f] (aH (lK f)):=by
 refine aT Tryz.func82 rfl Tryz.ntmps82 rfl fun B=>?_
 unfold lK
 repeat' (first|refine go ?_|refine ak ?_|refine HF a1 F8 ?_|refine bC ?_|fail)
 refine cN [1] (f.Unit < 16∨f.Unit > 4096) rfl (fun Q' K=>?_) (fun hC=>?_) (fun hC=>?_)
 ·repeat' (first|refine go ?_|refine HF a1 F8 ?_|refine HO F8 ?_|refine HS HB ?_|refine be rfl rfl rfl (fun _=>?_) (fun _=>?_))
  all_goals exact K _ _ rfl rfl (by clear K;grind)
 ·rw [if_pos hC]
  repeat' (first|refine go ?_|refine HF a1 F8 ?_)
  exact HP HA
 rw [if_neg hC]
 repeat' (first|refine go ?_|refine HF a1 F8 ?_)
 rw [Hu]
 refine ay rfl (fun h=>?_) (fun h=>?_)
 ·rw [if_pos (by have:=Hy h;omega)]
  repeat' (first|refine go ?_|refine HF a1 F8 ?_)
  exact HP HA
 rw [if_neg (by have:=Hx h;omega)]
 repeat' (first|refine go ?_|refine HF a1 F8 ?_)
 exact HP HA
instance (f:aL):AD Tryz.prog 82 [cx f] (aH (lK f)):=⟨Aw f⟩
theorem ym (f:aL):bM Tryz.prog 81 [.iptr (cf f)] (ct (lK f,0)):=by
 refine aT Tryz.func81 rfl Tryz.ntmps81 rfl fun B=>?_
 repeat' (first|refine go ?_|refine HF a1 F8 ?_|(apply bD;refine bf ?_)|fail)
 exact bc rfl rfl rfl rfl
end Go.Proofs.YtpbinloeemebkaaGreat
namespace Go.Proofs.YtpbinloeemebkaaGreat
open Go.RowKit
section
variable {P:Program} {tt:TT} {l:List Oper} {fr:c6} {fin:iq} {sk:ky} {acc:c6} {L:AL} {k:Nat} {dd:Option Tmp} {ty t t':TypeId} {pos:String} {af:Array Edge} {g:Option (Nat×Bool)} {x y:Operand} {u:AV}
theorem dx (ok:ev P tt) {e sz by_ b off n cap:Nat} {q:IntKind} {i:Int} (ht:jt tt t=some (e,sz,by_)) (hx:bt (cB l.toArray acc fr af.toList) x=some (.sc (.slice (some ⟨b,off,none⟩) n cap))) (hy:bt (cB l.toArray acc fr af.toList) y=some (.sc (.int q i))) (h0:0≤i∧i < n) (hg:iL ⟨dd,.indexAddr t x y,ty,pos,af,g⟩ acc) (h:DA P l fr fin sk ((k,.sc (.pointer (some ⟨b,off+i.toNat * sz,none⟩)))::acc) L):
  cT P l fr fin k .v ⟨dd,.indexAddr t x y,ty,pos,af,g⟩ sk acc L:=f6 hg (fun _ _=>(sY (bq ok ht).1 hx hy h0).ao) h
theorem tC (ok:ev P tt) (i:Nat) {b q n:Nat} {cs ys:List AV} {e:TypeId} (ht:Gb tt t=some n) (hx:bt (cB l.toArray acc fr af.toList) x=some (.sc (.pointer (some ⟨b,q,none⟩)))) (hy:bt (cB l.toArray acc fr af.toList) y=some u) (hu:u.cells=some ys) (hL:L[i]?=some (b,.box cs e)) (hn:Nat.beq ys.length n=true) (hk:Nat.ble (q+n) cs.length=true) (hg:iL ⟨dd,.store t x y,ty,pos,af,g⟩ acc) (h:∀c,DA P l fr fin sk ((k,c)::acc) (fi L i (.box (gg cs q ys) e))):
  cT P l fr fin k .e ⟨dd,.store t x y,ty,pos,af,g⟩ sk acc L:=iv hg (fun _=>pk i (qE ok ht) hx hy hu hL hn hk) fun c L' h1=>by subst h1;exact h c
theorem tA {v:Value} (ht:iE P t=true) (hx:bt (cB l.toArray acc fr af.toList) x=some (.sc (.iface t v))) (hg:iL ⟨dd,.typeAssert x t' t false,ty,pos,af,g⟩ acc) (h:DA P l fr fin sk ((k,.sc v)::acc) L):cT P l fr fin k .v ⟨dd,.typeAssert x t' t false,ty,pos,af,g⟩ sk acc L:=
 f6 hg (fun _ _=>(sX ht hx).ao) h
theorem y3 (ok:ev P tt) (i:Nat) {e by_ b n cap:Nat} {cs:List AV} {c:AV} (ht:jt tt t=some (e,1,by_)) (hz:zI tt e=some [.int .i64 0]) (hx:bt (cB l.toArray acc fr af.toList) x=some (.sc (.slice (some ⟨b,0,none⟩) n cap))) (hy:bt (cB l.toArray acc fr af.toList) y=some u) (hu:hQ u=some (1,[[c]])) (hL:L[i]?=some (b,.box cs e)) (hcl:cs.length=cap) (hn:n≤cap) (h63:n+1≤9223372036854775807) (hby:(n+1) * by_≤140737488355328) (hg:iL ⟨dd,.call ⟨.builtin .append,#[x,y],#[t,t]⟩,ty,pos,af,g⟩ acc)
  (h:∀b' cs',cs'.take (n+1)=cs.take n++[c]→n+1≤cs'.length→DA P l fr fin sk ((k,.sc (.slice (some ⟨b',0,none⟩) (n+1) cs'.length))::acc) ((b',.box cs' e)::L.eraseIdx i)):
  cT P l fr fin k .e ⟨dd,.call ⟨.builtin .append,#[x,y],#[t,t]⟩,ty,pos,af,g⟩ sk acc L:=
 iv hg (fun _=>ph i (bq ok ht).1 (fw ok hz) hx hy (cM hu) hL hcl hn h63 hby) fun q L' ⟨b',cs',h1,h2,h3,h4⟩=>by subst h1;subst h4;exact h b' cs' h2 h3
theorem y5 (ok:ev P tt) {e by_:Nat} {c:AV} (ht:jt tt t=some (e,1,by_)) (hz:zI tt e=some [.int .i64 0]) (hx:bt (cB l.toArray acc fr af.toList) x=some (.sc (.slice none 0 0))) (hy:bt (cB l.toArray acc fr af.toList) y=some u) (hu:hQ u=some (1,[[c]])) (hby:Nat.ble by_ 140737488355328=true) (hg:iL ⟨dd,.call ⟨.builtin .append,#[x,y],#[t,t]⟩,ty,pos,af,g⟩ acc)
  (h:∀b' cs',cs'.take 1=[c]→1≤cs'.length→DA P l fr fin sk ((k,.sc (.slice (some ⟨b',0,none⟩) 1 cs'.length))::acc) ((b',.box cs' e)::L)):
  cT P l fr fin k .e ⟨dd,.call ⟨.builtin .append,#[x,y],#[t,t]⟩,ty,pos,af,g⟩ sk acc L:=
 iv hg (fun _=>pi (bq ok ht).1 (fw ok hz) hx hy (cM hu) (Nat.ble_eq .. ▸hby)) fun q L' ⟨b',cs',h1,h2,h3,h4⟩=>by subst h1;subst h4;exact h b' cs' h2 h3
end
def DT (P:Program) (t:TypeId) (name:String) (f:FuncId) (ptr:Bool) (e:TypeId):Bool:=(match P.underlying t with | some (.pointer e')=>Nat.beq e' e | _=>false) && match P.info? t with
 | some ti=>match ti.methods.find? (·.name==name) with
  | some m=>m.path.isEmpty && (match m.func with | some (f',p')=>Nat.beq f' f && (p'==ptr) | none=>false)
  | none=>false
 | none=>false
theorem iA {P:Program} {t:TypeId} {name:String} {f:FuncId} {ptr:Bool} {e:TypeId} (h:DT P t name f ptr e=true):mw P t name f ptr e:=by
 unfold DT at h
 rw [Bool.and_eq_true] at h
 obtain ⟨h1,h2⟩:=h
 split at h1
 ·rename_i e' hu
  rw [Nat.beq_eq] at h1
  subst h1
  split at h2
  ·rename_i ti hti
   split at h2
   ·rename_i m hm
    rw [Bool.and_eq_true] at h2
    obtain ⟨h3,h4⟩:=h2
    split at h4
    ·rename_i f' p' hf
     rw [Bool.and_eq_true,Nat.beq_eq,beq_iff_eq] at h4
     refine ⟨hu,ti,m,hti,hm,?_,by rw [hf,h4.1,h4.2]⟩
     simpa using h3
    ·cases h4
   ·cases h2
  ·cases h2
 ·cases h1
end Go.Proofs.YtpbinloeemebkaaGreat
namespace Go.Proofs.YtpbinloeemebkaaGreat
open Go.RowKit Go.MapKept
section
variable {P:Program} {fr:c6} {B:Bs} {L:AL}
theorem AO.as {o:Oper} {a b:AV} (h:AO P o fr B L (fun c L'=>c=a∧L'=L)) (hv:∀σ v,VR σ a v→VR σ b v):AO P o fr B L (fun c L'=>c=b∧L'=L):=
 fun σ ρ w hρ hw=>(h σ ρ w hρ hw).mono fun _ _ ⟨τ,c,L',h1,h2,h3,h4,h5⟩=>⟨τ,b,L',h1,hv τ _ (by rw [←h4];exact h2),h3,rfl,h5⟩
end
section
variable {P:Program} {tt:TT} {l:List Oper} {fr:c6} {fin:iq} {sk:ky} {acc:c6} {L:AL} {k:Nat} {dd:Option Tmp} {ty t t':TypeId} {pos:String} {af:Array Edge} {g:Option (Nat×Bool)} {x y z:Operand} {u:AV}
theorem y7 (i:Nat) (v0:Value) (a:AV) {b kt et:Nat} {kd:TypeDesc} {q:Value} {m:Value→Option AV} (ht:P.underlying t=some (.map kt et)) (hkt:P.underlying kt=some kd) (hx:bt (cB l.toArray acc fr af.toList) x=some (.sc (.map (some b)))) (hy:bt (cB l.toArray acc fr af.toList) y=some (.sc q)) (hk:IsKey kd q) (hL:L[i]?=some (b,dc kd m)) (hz:lf P et v0=true) (ha:∀σ v,VR σ ((m q).getD (.sc v0)) v→VR σ a v) (hg:iL ⟨dd,.lookup t x y false,ty,pos,af,g⟩ acc) (h:DA P l fr fin sk ((k,a)::acc) L):
  cT P l fr fin k .e ⟨dd,.lookup t x y false,ty,pos,af,g⟩ sk acc L:=
 iv hg (fun B=>(lj i ht hkt hx hy hk hL (fS hz) fun _=> .sc _).as ha) fun c L' ⟨h1,h2⟩=>by subst h1;subst h2;exact h
theorem fZ (ok:ev P tt) (L0:AL) {e sz by_:Nat} {q:Option (Nat×Nat)} {l1 l2:List (List AV)} (ht:jt tt t=some (e,sz,by_)) (hx:bt (cB l.toArray acc fr af.toList) x=some (.vec q sz l1)) (hy:bt (cB l.toArray acc fr af.toList) y=some u) (hu:hQ u=some (sz,l2)) (hL:L.Perm (tok q e sz l1.length++L0)) (h63:l1.length+l2.length≤9223372036854775807) (hby:(l1.length+l2.length) * by_≤140737488355328) (hg:iL ⟨dd,.call ⟨.builtin .append,#[x,y],#[t,t]⟩,ty,pos,af,g⟩ acc)
  (h:∀k',DA P l fr fin sk ((k,.vec k' sz (l1++l2))::acc) (tok k' e sz (l1++l2).length++L0)):
  cT P l fr fin k .e ⟨dd,.call ⟨.builtin .append,#[x,y],#[t,t]⟩,ty,pos,af,g⟩ sk acc L:=
 iv hg (fun _=>nw L0 (bq ok ht).1 (bq ok ht).2 hx hy (cM hu) hL h63 hby) fun c L' ⟨k',h1,h2⟩=>by subst h1;subst h2;exact h k'
end
section
variable {P:Program} {r:Option Nat} {ops:Array Oper} {Q:Exit→Act→World→Prop} {nt:Nat} {D:List Deferred} {fr:c6} {B:Bs} {L:AL} {rest:List Oper} {d:Nat} {ty t:TypeId} {pos:String} {af:Array Edge} {x y z:Operand} {u:AV}
theorem jm (i:Nat) (v0:Value) (a:AV) {b kt et:Nat} {kd:TypeDesc} {k:Value} {m:Value→Option AV} (ht:P.underlying t=some (.map kt et)) (hkt:P.underlying kt=some kd) (hx:bt fr x=some (.sc (.map (some b)))) (hy:bt fr y=some (.sc k)) (hk:IsKey kd k) (hL:L[i]?=some (b,dc kd m)) (hz:lf P et v0=true) (ha:∀σ v,VR σ ((m k).getD (.sc v0)) v→VR σ a v) (hd:Nat.ble nt d=false)
  (h:bO P r ops Q nt D rest ((d,a)::fr) B L):bO P r ops Q nt D (⟨some d,.lookup t x y false,ty,pos,af,none⟩::rest) fr B L:=
 cU hd rfl ((lj i ht hkt hx hy hk hL (fS hz) fun _=> .sc _).as ha) fun c L' ⟨h1,h2⟩=>by subst h1;subst h2;exact h
end
noncomputable def mS (m:Value→Option AV) (k:Value) (c:AV):Value→Option AV:=fun q=>open Classical in if q=k then some c else m q
theorem gy {m:Value→Option AV} {k:Value} {c:AV}:mS m k c k=some c:=by simp [mS]
theorem fK {m:Value→Option AV} {k:Value} {c:AV} (q:Value) (h:q≠k):mS m k c q=m q:=by simp [mS,h]
def nq (m:Value→Option AV) (M:Int→Int):Prop:=∀z,m (.int .i64 z)=none∧M z=0∨m (.int .i64 z)=some (.sc (.int .i64 (M z)))
theorem nq.at {m:Value→Option AV} {M:Int→Int} (h:nq m M) (z:Int):∀(σ:ci) (v:Value),VR σ ((m (.int .i64 z)).getD (.sc (.int .i64 0))) v→VR σ (.sc (.int .i64 (M z))) v:=by
 intro σ v hv
 rcases h z with ⟨h1,h2⟩ | h1
 ·rw [h1] at hv;rw [h2];exact hv
 ·rw [h1] at hv;exact hv
theorem nq.put {m:Value→Option AV} {M:Int→Int} (h:nq m M) (z c:Int):nq (mS m (.int .i64 z) (.sc (.int .i64 c))) fun q=>if q=z then c else M q:=by
 intro q
 by_cases e:q=z
 ·subst e;simp only [if_true,gy];exact .inr trivial
 ·simp only [if_neg e];rw [fK _ (by intro h;injection h with _ h;exact e h)];exact h q
def p9 (m:Value→Option AV) (K:Int→Option (Nat×Nat)) (U:Int→List Int):Prop:=∀z,(m (.int .i64 z)=none∧U z=[]∧K z=none)∨m (.int .i64 z)=some (.vec (K z) 1 (aS (U z)))
theorem p9.at {m:Value→Option AV} {K:Int→Option (Nat×Nat)} {U:Int→List Int} (h:p9 m K U) (z:Int):∀(σ:ci) (v:Value),VR σ ((m (.int .i64 z)).getD (.sc (.slice none 0 0))) v→VR σ (.vec (K z) 1 (aS (U z))) v:=by
 intro σ v hv
 rcases h z with ⟨h1,h2,h3⟩ | h1
 ·rw [h1] at hv;rw [h2,h3];exact dg 1 hv
 ·rw [h1] at hv;exact hv
theorem p9.put {m:Value→Option AV} {K:Int→Option (Nat×Nat)} {U:Int→List Int} (h:p9 m K U) (z:Int) (k:Option (Nat×Nat)) (l:List Int):p9 (mS m (.int .i64 z) (.vec k 1 (aS l))) (fun q=>if q=z then k else K q) fun q=>if q=z then l else U q:=by
 intro q
 by_cases e:q=z
 ·subst e;simp only [if_true,gy];exact .inr trivial
 ·simp only [if_neg e]
  rw [fK _ (by intro h;injection h with _ h;exact e h)]
  exact h q
def mo (e:TypeId) (K:Int→Option (Nat×Nat)) (U:Int→List Int) (zs:List Int):AL:=zs.flatMap fun z=>tok (K z) e 1 (aS (U z)).length
theorem oa {e:TypeId} {K:Int→Option (Nat×Nat)} {U:Int→List Int}:∀{zs:List Int} {z:Int},z∈zs→(mo e K U zs).Perm (tok (K z) e 1 (aS (U z)).length++mo e K U (zs.erase z))
 | y::zs,z,h=>by
  by_cases hz:y=z
  ·subst hz
   rw [List.erase_cons_head]
   exact Ho _
  ·have hm:z∈zs:=by
    rcases List.mem_cons.1 h with h | h
    ·exact absurd h.symm hz
    ·exact h
   rw [List.erase_cons_tail (by simpa using hz)]
   have ih:=oa (e:=e) (K:=K) (U:=U) hm
   unfold mo at ih ⊢
   rw [List.flatMap_cons,List.flatMap_cons]
   refine (List.Perm.append_left _ ih).trans ?_
   rw [←List.append_assoc,←List.append_assoc]
   exact List.Perm.append_right _ List.perm_append_comm
theorem wB {e:TypeId} {K K':Int→Option (Nat×Nat)} {U U':Int→List Int} {zs:List Int} (h:∀z∈zs,K z=K' z∧U z=U' z):mo e K U zs=mo e K' U' zs:=by
 unfold mo
 induction zs with
 | nil=>rfl
 | cons z zs ih=>
  rw [List.flatMap_cons,List.flatMap_cons,ih fun y hy=>h y (Ht _ hy),(h z (List.mem_cons_self ..)).1,(h z (List.mem_cons_self ..)).2]
theorem BY {e:TypeId} {K:Int→Option (Nat×Nat)} {U:Int→List Int} {zs:List Int} {z:Int} {k:Option (Nat×Nat)} {l:List Int} (hn:zs.Nodup) (h:z∈zs):(tok k e 1 (aS l).length++mo e K U (zs.erase z)).Perm (mo e (fun q=>if q=z then k else K q) (fun q=>if q=z then l else U q) zs):=by
 have h1:=oa (e:=e) (K:=fun q=>if q=z then k else K q) (U:=fun q=>if q=z then l else U q) h
 simp only [if_true] at h1
 refine List.Perm.trans ?_ h1.symm
 rw [wB (K:=K) (U:=U) (K':=fun q=>if q=z then k else K q) (U':=fun q=>if q=z then l else U q) fun y hy=>by
  have hne:y≠z:=fun e=>by subst e;exact (List.Nodup.not_mem_erase hn) hy
  simp only [if_neg hne]
  exact ⟨trivial,trivial⟩]
theorem zk (e:TypeId) (U:Int→List Int) (zs:List Int):mo e (fun _=>none) U zs=[]:=by
 unfold mo tok
 induction zs with
 | nil=>rfl
 | cons z zs ih=>rw [List.flatMap_cons,ih];rfl
end Go.Proofs.YtpbinloeemebkaaGreat
namespace Go.Proofs.YtpbinloeemebkaaGreat
open Go.RowKit
section
variable {P:Program} {r:Option Nat} {ops:Array Oper} {Q:Exit→Act→World→Prop} {nt:Nat} {D:List Deferred} {fr:c6} {B:Bs} {L:AL} {cd:Code}
def p8 (nt:Nat) (B:Bs) {α:Type} (Dx:α→List Deferred) (V:α→c6) (fr0:c6) (C:α→Prop) (Lx:α→AL) (μ:α→Nat) (x:α) (Q:Exit→Act→World→Prop):Exit→Act→World→Prop:=Exit.then (fun a w=>∃σ x',iM σ nt (Dx x') (V x'++fr0) a∧C x'∧cZ B σ (Lx x') w∧μ x' < μ x) Q
theorem zY (ks:List Nat) {α:Type} (Dx:α→List Deferred) (V:α→c6) (C:α→Prop) (Lx:α→AL) (μ:α→Nat) (x0:α) {fr0:c6} (hk:gJ fr ks=some fr0) (hV:lY (V x0) fr) (hD:D=Dx x0) (hC:C x0) (hL:∀σ w,cZ B σ L w→cZ B σ (Lx x0) w)
  (hb:∀x,C x→AT P r cd (p8 nt B Dx V fr0 C Lx μ x Q) nt (Dx x) (V x++fr0) B (Lx x)):AT P r (.loop cd) Q nt D fr B L:=by
 intro σ a w ha hw
 subst hD
 classical
 let G:Nat→Act→World→Prop:=fun m a w=>∃σ x,iM σ nt (Dx x) (V x++fr0) a∧C x∧cZ B σ (Lx x) w∧μ x=m
 let M:Act→World→Nat:=fun a w=>if h:∃m,G m a w∧∀m',G m' a w→m≤m' then h.choose else 0
 have least:∀a w,(∃m,G m a w)→G (M a w) a w∧∀m',G m' a w→M a w≤m':=by
  rintro a w ⟨m0,hg0⟩
  have hex:∃m,G m a w∧∀m',G m' a w→m≤m':=by
   have:∀k,∀m,m≤k→G m a w→∃m,G m a w∧∀m',G m' a w→m≤m':=by
    intro k
    induction k with
    | zero=>intro m hm hg;exact ⟨m,hg,fun m' _=>by omega⟩
    | succ k ih=>
     intro m hm hg
     by_cases h:∃m',m' < m∧G m' a w
     ·obtain ⟨m',hlt,hg'⟩:=h
      exact ih m' (by omega) hg'
     ·exact ⟨m,hg,fun m' hg'=>by
       rcases Nat.lt_or_ge m' m with hlt | hge
       ·exact absurd ⟨m',hlt,hg'⟩ h
       ·exact hge⟩
   exact this m0 m0 (Nat.le_refl _) hg0
  have hM:M a w=hex.choose:=dif_pos hex
  rw [hM];exact hex.choose_spec
 refine wpIn_loop (fun a w=>∃m,G m a w) M ⟨_,σ,x0,ha.weak (mA hV (dO ks hk)),hC,hL σ w hw,rfl⟩ ?_
 intro a w hI
 obtain ⟨⟨σ',x,hx,hj,hst,hm⟩,_⟩:=least a w hI
 refine wpIn_mono (hb x hj σ' a w hx hst) ?_
 intro e a' w' hq
 cases e with
 | normal=>
  obtain ⟨τ,x',hx',hj',hst',hlt⟩:=hq
  have hg:G (μ x') a' w':=⟨τ,x',hx',hj',hst',rfl⟩
  refine ⟨⟨_,hg⟩,?_⟩
  have:=(least a' w' ⟨_,hg⟩).2 (μ x') hg
  omega
 | _=>exact hq
theorem nA {α:Type} {Dx:α→List Deferred} {V:α→c6} {fr0:c6} {C:α→Prop} {Lx:α→AL} {μ:α→Nat} {x:α} (x':α) (hk:gJ fr (fr0.map (·.1))=some fr0) (hV:lY (V x') fr) (hD:D=Dx x') (hC:C x') (hm:μ x' < μ x) (hL:∀σ w,cZ B σ L w→cZ B σ (Lx x') w):
  AX P .normal (p8 nt B Dx V fr0 C Lx μ x Q) nt D fr B L:=fun σ a w ha hw=>by
 subst hD
 exact ⟨σ,x',ha.weak (mA hV (dO _ hk)),hC,hL _ _ hw,hm⟩
theorem qP {α:Type} {Dx:α→List Deferred} {V:α→c6} {fr0:c6} {C:α→Prop} {Lx:α→AL} {μ:α→Nat} {x:α} {id:Nat} (h:AX P (.exit id) Q nt D fr B L):AX P (.exit id) (p8 nt B Dx V fr0 C Lx μ x Q) nt D fr B L:=fun σ a w ha hw=>h σ a w ha hw
end
section
variable {nt:Nat} {D:List Deferred} {B:Bs} {fr:c6} {L:AL}
theorem rS {t b e sz n:Nat} {cs:List AV} {l:List (List AV)} (i:Nat) (hl:bY fr t=some (.iptr [.sc (.slice (some ⟨b,0,none⟩) n n)])) (hL:L[i]?=some (b,.box cs e)) (hc:cs=l.flatten) (hs:∀q∈l,q.length=sz) (hn:l.length=n) (h63:n≤9223372036854775807):mx nt D B fr L ((t,.iptr [.imm sz l])::fr) ((b,.vec e sz n n)::L.eraseIdx i):=by
 intro σ a w ha hw0
 have hw:=hw0.perm (fh hL)
 obtain ⟨o,ho,vs,rfl,hvs,h1⟩:=hw.here _ (List.mem_cons_self ..)
 have hfree:=hw.free _ (List.mem_cons_self ..)
 have hvl:vs.length=n * sz:=by rw [←hvs.1,hc,eM l hs,hn]
 have hst:cZ B σ ((b,.vec e sz 0 n)::L.eraseIdx i) w:=by
  refine ⟨hw.os,hw.tape,hw.output,hw.size,hw.old,fun p hp=>?_,fun p hp=>?_,by simpa using hw.apart,hw.froz,fun p hp off hm=>?_,hw.grow,hw.same⟩
  ·rcases List.mem_cons.1 hp with rfl | hp'
   ·exact ⟨_,ho,_,rfl,by simp [hvl],Nat.zero_le _,by unfold maxLen;omega⟩
   ·exact hw.here p (Ht _ hp')
  ·rcases List.mem_cons.1 hp with rfl | hp'
   ·exact hw.mine (b,.box cs e) (List.mem_cons_self ..)
   ·exact hw.mine p (Ht _ hp')
  ·rcases List.mem_cons.1 hp with rfl | hp'
   ·exact hfree off trivial
   ·exact hw.free p (Ht _ hp') off hm
 obtain ⟨hst',hle⟩:=hst.freezeHead (n':=n) (xs:=vs) (fun j u hj=>by rw [cY ho];simpa using hj) hvl (Nat.zero_le _) (Nat.le_refl _)
 refine ⟨_,?_,hst'⟩
 have hv:VR (σ.add b vs) (.vec (some (b,n)) sz l) (.slice (some ⟨b,0,none⟩) n n):=by
  have:=mv (σ:=σ.add b vs) (b:=b) (cap:=n) hs (by rw [←hc];exact hvs.mono hle) h1 (by omega) (by unfold maxLen;omega) (fun j u hj=>ci.add_at hj)
  rwa [hn] at this
 have ha':=ha.mono hle
 refine ⟨ha'.size,ha'.defers,fun t' v' hl'=>?_⟩
 rw [cm] at hl'
 by_cases e:t=t'
 ·subst e
  simp only [if_true,Option.some.injEq] at hl'
  subst hl'
  have hp:=ha.look t _ hl
  generalize a.tmps.getD t undef=v0 at hp
  generalize hq:AV.iptr [.sc (.slice (some ⟨b,0,none⟩) n n)]=q at hp
  cases hp with
  | iptr cs2 b0 off hx h=>
   injection hq with hq
   subst hq
   refine .iptr _ b0 off (fun j hj=>?_) fun j c u hc hu=>?_
   ·obtain ⟨u,hu,h1⟩:=hx j hj
    exact ⟨u,hle _ _ _ hu,h1⟩
   ·have hj:j=0:=by
     have:=(Hp hc).1
     simp at this
     exact this
    subst hj
    simp at hc
    subst hc
    obtain ⟨u',hu',_⟩:=hx 0 (by simp)
    have h2:=hle _ _ _ hu'
    rw [hu] at h2
    injection h2 with h2
    subst h2
    rw [(h 0 _ u rfl hu').sc_inv]
    exact hv.im
  | _=>cases hq
 ·rw [if_neg e] at hl'
  exact ha'.look t' v' hl'
end
end Go.Proofs.YtpbinloeemebkaaGreat
