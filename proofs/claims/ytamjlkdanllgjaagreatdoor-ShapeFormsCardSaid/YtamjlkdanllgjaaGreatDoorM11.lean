/-
  The program: glyphs, as check looks at them, with anchors and deltas.
-/
import Derived.Test.YtamjlkdanllgjaaGreatDoorM10
import Derived.Test.YtamjlkdanllgjaaGreatDoorM07
namespace Go.Proofs.YtamjlkdanllgjaaGreatDoor
open Go.RowKit
attribute [local irreducible] AT bz AX AO Av Kt aZ cY DA cu
set_option maxRecDepth 8000
theorem Di:iY Tryz.prog 361:=⟨⟨_,_,Tryz.underlying361,⟨by decide,by decide⟩,⟨rfl,rfl⟩,Tryz.underlying3,Tryz.underlying3⟩,Tryz.stoodInHeld361⟩
theorem I5:iY Tryz.prog 364:=⟨⟨_,_,Tryz.underlying364,⟨by decide,by decide⟩,⟨rfl,rfl⟩,Tryz.underlying3,Tryz.underlying3⟩,Tryz.stoodInHeld364⟩
def nq (l:List dK) (a b:Int):Option AV:=if ∃x∈l,x.Kind=a∧x.Class=b then some (cw true) else none
theorem BZ:nq []=fun _ _=>none:=by funext a b;simp [nq]
theorem yX (l:List dK) (a b:Int):(nq l a b).getD (cw false)=cw (decide (∃x∈l,x.Kind=a∧x.Class=b)):=by
 unfold nq
 by_cases h:∃x∈l,x.Kind=a∧x.Class=b
 ·rw [if_pos h,decide_eq_true h];rfl
 ·rw [if_neg h,decide_eq_false h];rfl
theorem yY {l:List dK} {i:Nat} {x:dK} (h:l[i]?=some x):nq (l.take (i+1)) x.Kind x.Class=some (cw true):=by
 unfold nq
 rw [if_pos ⟨x,by rw [List.take_add_one,h];simp,rfl,rfl⟩]
theorem w7 {l:List dK} {i:Nat} {x:dK} (h:l[i]?=some x) (p q:Int) (hne:¬(p=x.Kind∧q=x.Class)):nq (l.take (i+1)) p q=nq (l.take i) p q:=by
 unfold nq
 have:(∃y∈l.take (i+1),y.Kind=p∧y.Class=q)↔∃y∈l.take i,y.Kind=p∧y.Class=q:=by
  rw [List.take_add_one,h]
  simp only [Option.toList_some,List.mem_append,List.mem_singleton]
  constructor
  ·rintro ⟨y,hy | rfl,h1⟩
   ·exact ⟨y,hy,h1⟩
   ·exact absurd ⟨h1.1.symm,h1.2.symm⟩ hne
  ·rintro ⟨y,hy,h1⟩
   exact ⟨y,Or.inl hy,h1⟩
 by_cases hc:∃y∈l.take i,y.Kind=p∧y.Class=q
 ·rw [if_pos hc,if_pos (this.2 hc)]
 ·rw [if_neg hc,if_neg (fun h=>hc (this.1 h))]
set_option maxHeartbeats 1000000 in
theorem ve (g:bn) (i:Nat) (a:dK) (ha:g.Anchors[i]?=some a) (m:Nat):AC Tryz.prog 251 [aF i,.agg (eD a),.iptr [cw g.Mark],.iptr [.sc (.map (some m))]] [(m,gC (nq (g.Anchors.take i)))] fun c L'=>c=aF (mT g i a)∧(mT g i a=0→L'=[(m,gC (nq (g.Anchors.take (i+1))))]):=by
 refine aI Tryz.func251 rfl Tryz.ntmps251 rfl fun B=>?_
 repeat' (first|refine ae ?_|refine a6 ?_|refine a8 ?_|refine aa ?_|refine LR a7 LL ?_|(apply aU;first|refine LT 7 a7 0 LQ ?_|refine LT 7 a7 1 LQ ?_|refine LT 7 a7 2 LQ ?_|refine LU a7 0 LP ?_|refine LU a7 1 LP ?_|refine LU a7 2 LP ?_|refine LU a7 3 LP ?_|fail)|refine bi ?_|refine bf a7 fun _=>?_|fail)
 refine di (t:=8) [2,3,5,7] (a.Kind=3∨a.Kind=4) rfl (fun Q' K=>?_) ?_
 ·repeat' (first|refine aa ?_|refine LR a7 LL ?_|refine MB LL ?_|refine MC LN ?_|refine MD LM (fun _=>?_) (fun _=>?_))
  all_goals exact K _ _ rfl rfl (by clear K;grind)
 repeat' (first|refine ae ?_|refine a6 ?_|refine ar ?_|refine a8 ?_|refine LR a7 LL ?_)
 refine di (t:=22) [2,3,5,7,8] (a.Kind < 1∨a.Kind > 4) rfl (fun Q' K=>?_) ?_
 ·repeat' (first|refine aa ?_|refine LR a7 LL ?_|refine MB LL ?_|refine MC LN ?_|refine MD LM (fun _=>?_) (fun _=>?_))
  all_goals exact K _ _ rfl rfl (by clear K;grind)
 repeat' (first|refine a8 ?_)
 refine aB rfl (fun h1=>?_) (fun h1=>?_)
 ·have h0:=h1
  replace h1:=Mz h1
  rw [h0]
  repeat' (first|refine ae ?_|refine a6 ?_|refine aq ?_|refine am ?_|refine a8 ?_|refine az ?_|refine aR ?_|refine aa ?_|refine LR a7 LL ?_|refine bI rfl ?_)
  refine MA LL ?_
  rw [show mT g i a=35 from if_pos (.inl h1)]
  exact ⟨rfl,fun e=>absurd e (by decide)⟩
 have h0:=h1
 replace h1:=My h1
 rw [h0]
 clear h0
 repeat' (first|refine ae ?_|refine a6 ?_|refine LR a7 LL ?_)
 refine di (t:=22) [2,3,5,7,8] (a.Class < 0∨a.Class > 15) rfl (fun Q' K=>?_) ?_
 ·repeat' (first|refine aa ?_|refine LR a7 LL ?_|refine MB LL ?_|refine MC LN ?_|refine MD LM (fun _=>?_) (fun _=>?_))
  all_goals exact K _ _ rfl rfl (by clear K;grind)
 repeat' (first|refine a8 ?_)
 refine aB rfl (fun h2=>?_) (fun h2=>?_)
 ·have h0:=h2
  replace h2:=Mz h2
  rw [h0]
  repeat' (first|refine ae ?_|refine a6 ?_|refine aq ?_|refine am ?_|refine a8 ?_|refine az ?_|refine aR ?_|refine aa ?_|refine LR a7 LL ?_|refine bI rfl ?_)
  refine MA LL ?_
  rw [show mT g i a=35 from if_pos (.inr (.inl h2))]
  exact ⟨rfl,fun e=>absurd e (by decide)⟩
 have h0:=h2
 replace h2:=My h2
 rw [h0]
 clear h0
 repeat' (first|refine ae ?_|refine a6 ?_|refine LR a7 LL ?_)
 refine di (t:=22) [2,3,5,7] ((a.Kind=3∨a.Kind=4)∧a.Class≠0) rfl (fun Q' K=>?_) ?_
 ·generalize hj:decide (a.Kind=3∨a.Kind=4)=j
  have hj':(a.Kind=3∨a.Kind=4)↔j=true:=by rw [←hj,decide_eq_true_eq]
  repeat' (first|refine aa ?_|refine LR a7 LL ?_|refine MB LL ?_|refine MC LN ?_|refine MD LM (fun _=>?_) (fun _=>?_))
  all_goals exact K _ _ (by first | rfl | (subst_vars;rfl)) rfl (by clear K;grind)
 repeat' (first|refine a8 ?_)
 refine aB rfl (fun h3=>?_) (fun h3=>?_)
 ·have h0:=h3
  replace h3:=Mz h3
  rw [h0]
  repeat' (first|refine ae ?_|refine a6 ?_|refine aq ?_|refine am ?_|refine a8 ?_|refine az ?_|refine aR ?_|refine aa ?_|refine LR a7 LL ?_|refine bI rfl ?_)
  refine MA LL ?_
  rw [show mT g i a=35 from if_pos (.inr (.inr (.inl h3)))]
  exact ⟨rfl,fun e=>absurd e (by decide)⟩
 have h0:=h3
 replace h3:=My h3
 rw [h0]
 clear h0
 repeat' (first|refine ae ?_|refine a6 ?_|refine a8 ?_|refine aa ?_|refine LR a7 LL ?_|refine cA a7 ?_|(apply bk;refine b9 ?_)|fail)
 refine aB rfl (fun h4=>?_) (fun h4=>?_)
 ·rw [h4]
  repeat' (first|refine ae ?_|refine a6 ?_|refine aq ?_|refine am ?_|refine a8 ?_|refine az ?_|refine aR ?_|refine aa ?_|refine LR a7 LL ?_|refine bI rfl ?_)
  refine MA LL ?_
  rw [show mT g i a=35 from if_pos (.inr (.inr (.inr (.inl (by rw [←Bool.not_eq_true',h4])))))]
  exact ⟨rfl,fun e=>absurd e (by decide)⟩
 rw [h4]
 repeat' (first|refine ae ?_|refine a6 ?_|refine LR a7 LL ?_)
 refine di (t:=22) [3,7] (a.Kind=2∧g.Mark=false) rfl (fun Q' K=>?_) ?_
 ·repeat' (first|refine aa ?_|refine LR a7 LL ?_|refine MB LL ?_|refine MC LN ?_|refine MD LM (fun _=>?_) (fun _=>?_))
  all_goals exact K _ _ rfl rfl (by clear K;grind)
 repeat' (first|refine a8 ?_)
 refine aB rfl (fun h5=>?_) (fun h5=>?_)
 ·have h0:=h5
  replace h5:=Mz h5
  rw [h0]
  repeat' (first|refine ae ?_|refine a6 ?_|refine aq ?_|refine am ?_|refine a8 ?_|refine az ?_|refine aR ?_|refine aa ?_|refine LR a7 LL ?_|refine bI rfl ?_)
  refine MA LL ?_
  rw [show mT g i a=35 from if_pos (.inr (.inr (.inr (.inr (.inl h5)))))]
  exact ⟨rfl,fun e=>absurd e (by decide)⟩
 have h0:=h5
 replace h5:=My h5
 rw [h0]
 clear h0
 repeat' (first|refine a6 ?_|refine LR a7 LL ?_)
 refine wd 0 (.bool false) Tryz.underlying359 Di rfl rfl rfl (by kernel_rfl) rfl ?_
 rw [yX]
 repeat' (first|refine a8 ?_|refine aa ?_|refine LR a7 LL ?_)
 refine aB rfl (fun h6=>?_) (fun h6=>?_)
 ·rw [h6]
  repeat' (first|refine ae ?_|refine a6 ?_|refine am ?_|refine a8 ?_|refine az ?_|refine aR ?_|refine aa ?_|refine LR a7 LL ?_)
  refine MA LL ?_
  rw [show mT g i a=35 from if_pos (.inr (.inr (.inr (.inr (.inr (Mz h6))))))]
  exact ⟨rfl,fun e=>absurd e (by decide)⟩
 rw [h6]
 repeat' (first|refine ae ?_|refine a6 ?_|refine aq ?_|refine a8 ?_|refine aP ?_|refine LR a7 LL ?_)
 refine sG 0 (nq (g.Anchors.take (i+1))) Tryz.underlying359 Di rfl rfl rfl rfl (yY ha) (w7 ha) ?_
 repeat' (first|refine ae ?_|refine a6 ?_|refine am ?_|refine a8 ?_|refine aa ?_|refine LR a7 LL ?_)
 refine MA LL ?_
 have h4':[a.X,a.Y].all gc=true:=by simpa using h4
 have h6':=My h6
 rw [show mT g i a=0 from if_neg (by
  rintro (h | h | h | h | h | h)
  ·exact h1 h
  ·exact h2 h
  ·exact h3 h
  ·rw [h4'] at h;cases h
  ·exact h5 h
  ·exact h6' h)]
 exact ⟨rfl,fun _=>rfl⟩
def qk (a b c d:Int):Bool:=decide (a < c∨(a=c∧b < d))
theorem vp (a b c d:Int):bD Tryz.prog 255 [.agg [aF a,aF b],.agg [aF c,aF d]] (cw (qk a b c d)):=by
 refine aI Tryz.func255 rfl Tryz.ntmps255 rfl fun B=>?_
 repeat' (first|refine ae ?_|refine a6 ?_|refine a8 ?_|refine aa ?_|refine LR a7 LL ?_|refine bi ?_|fail)
 refine di (t:=4) [] (qk a b c d=true) rfl (fun Q' K=>?_) ?_
 ·repeat' (first|refine aa ?_|refine LR a7 LL ?_|refine MB LL ?_|refine MC LN ?_|refine dq rfl rfl rfl ?_|refine MD LM (fun _=>?_) (fun _=>?_))
  all_goals exact K _ _ rfl rfl (by clear K;unfold qk;grind)
 repeat' (first|refine am ?_|refine a8 ?_)
 refine MA LL ?_
 simp
def fv (l:List ez) (i:Nat):Int×Int:=match i with | 0=>(0,0) | j+1=>match l[j]? with | some b=>(b.Region,b.Point) | none=>(0,0)
def pG (g:bn) (i:Nat) (d:ez):Bool:=decide (0 < i∧((d.Region=(fv g.Deltas i).1∧d.Point=(fv g.Deltas i).2)∨qk d.Region d.Point (fv g.Deltas i).1 (fv g.Deltas i).2=true))
theorem EM {g:bn} {i:Nat} {d:ez} (hd:g.Deltas[i]?=some d):(match i with | 0=>false | j+1=>match g.Deltas[j]? with | some b=>decide (d.Region < b.Region∨(d.Region=b.Region∧d.Point≤b.Point)) | none=>false)=pG g i d:=by
 unfold pG
 cases i with
 | zero=>simp
 | succ j=>
  have hj:j < g.Deltas.length:=by have:=(Mq hd).1;omega
  obtain ⟨b,hb⟩:∃b,g.Deltas[j]?=some b:=⟨_,Ia hj⟩
  simp only [hb,fv,qk]
  rw [Bool.eq_iff_iff,decide_eq_true_eq,decide_eq_true_eq,decide_eq_true_eq]
  omega
theorem E8 {f:aS} {g:bn} {i:Nat} {d:ez} (hd:g.Deltas[i]?=some d):tV f g i d=if d.Region < 0∨d.Region≥f.Regions.length then 61 else if (d.Point < -1∨d.Point≥g.Points.length)∨[d.X,d.Y].all gc=false∨(d.Point= -1∧d.Y≠0) then 30 else if pG g i d=true then 24 else 0:=by
 unfold tV
 rw [←EM hd]
 cases i <;> rfl
set_option maxHeartbeats 1000000 in
theorem yz (f:aS) (g:bn) (i:Nat) (d:ez) (hd:g.Deltas[i]?=some d) (R N:Int) (hR:R=f.Regions.length) (hN:N=g.Points.length) (b:Nat):AC Tryz.prog 254 [aF i,.agg (gA d),.iptr [aF R],.iptr [aF N],.sc (.pointer (some ⟨b,0,none⟩))] [(b,.box [aF (fv g.Deltas i).1,aF (fv g.Deltas i).2] 364)] fun c L'=>c=aF (tV f g i d)∧(tV f g i d=0→L'=[(b,.box [aF (fv g.Deltas (i+1)).1,aF (fv g.Deltas (i+1)).2] 364)]):=by
 refine aI Tryz.func254 rfl Tryz.ntmps254 rfl fun B=>?_
 rw [E8 hd,←hR,←hN]
 have hnext:fv g.Deltas (i+1)=(d.Region,d.Point):=by simp only [fv,hd]
 rw [hnext]
 repeat' (first|refine ae ?_|refine a6 ?_|refine ar ?_|refine a8 ?_|refine aa ?_|refine LR a7 LL ?_|(apply aU;first|refine LT 8 a7 0 LQ ?_|refine LT 8 a7 1 LQ ?_|refine LT 8 a7 2 LQ ?_|refine LU a7 0 LP ?_|refine LU a7 1 LP ?_|refine LU a7 2 LP ?_|refine LU a7 3 LP ?_|fail)|refine bi ?_|refine bf a7 fun _=>?_|fail)
 refine bN [0,3,4,6,8] (d.Region < 0∨d.Region≥R) rfl (fun Q' K=>?_) (fun h1=>?_) (fun h1=>?_)
 ·repeat' (first|refine aa ?_|refine LR a7 LL ?_|refine MB LL ?_|refine MC LN ?_|refine MD LM (fun _=>?_) (fun _=>?_))
  all_goals exact K _ _ rfl rfl (by clear K;grind)
 ·rw [if_pos h1]
  repeat' (first|refine ae ?_|refine a6 ?_|refine am ?_|refine a8 ?_|refine az ?_|refine aR ?_|refine aa ?_|refine LR a7 LL ?_)
  exact MA LL ⟨rfl,fun e=>absurd e (by decide)⟩
 rw [if_neg h1]
 repeat' (first|refine ae ?_|refine a6 ?_|refine LR a7 LL ?_)
 refine di (t:=24) [0,4,6,8] (d.Point < -1∨d.Point≥N) rfl (fun Q' K=>?_) ?_
 ·repeat' (first|refine aa ?_|refine LR a7 LL ?_|refine MB LL ?_|refine MC LN ?_|refine MD LM (fun _=>?_) (fun _=>?_))
  all_goals exact K _ _ rfl rfl (by clear K;grind)
 repeat' (first|refine a8 ?_)
 refine aB rfl (fun h2=>?_) (fun h2=>?_)
 ·have h0:=h2
  replace h2:=Mz h2
  rw [h0]
  rw [if_pos (.inl h2)]
  repeat' (first|refine ae ?_|refine a6 ?_|refine aq ?_|refine am ?_|refine a8 ?_|refine az ?_|refine aR ?_|refine aa ?_|refine LR a7 LL ?_|refine bI rfl ?_)
  exact MA LL ⟨rfl,fun e=>absurd e (by decide)⟩
 have h0:=h2
 replace h2:=My h2
 rw [h0]
 clear h0
 repeat' (first|refine ae ?_|refine a6 ?_|refine a8 ?_|refine aa ?_|refine LR a7 LL ?_|refine cA a7 ?_|(apply bk;refine b9 ?_)|fail)
 refine aB rfl (fun h3=>?_) (fun h3=>?_)
 ·rw [if_pos (.inr (.inl (by rw [←Bool.not_eq_true',h3]))),h3]
  repeat' (first|refine ae ?_|refine a6 ?_|refine aq ?_|refine am ?_|refine a8 ?_|refine az ?_|refine aR ?_|refine aa ?_|refine LR a7 LL ?_|refine bI rfl ?_)
  exact MA LL ⟨rfl,fun e=>absurd e (by decide)⟩
 rw [h3]
 repeat' (first|refine a6 ?_|refine LR a7 LL ?_)
 refine di (t:=24) [0,4,8] (d.Point= -1∧d.Y≠0) rfl (fun Q' K=>?_) ?_
 ·repeat' (first|refine aa ?_|refine LR a7 LL ?_|refine MB LL ?_|refine MC LN ?_|refine MD LM (fun _=>?_) (fun _=>?_))
  all_goals exact K _ _ rfl rfl (by clear K;grind)
 repeat' (first|refine a8 ?_)
 refine aB rfl (fun h4=>?_) (fun h4=>?_)
 ·have h0:=h4
  replace h4:=Mz h4
  rw [h0]
  rw [if_pos (.inr (.inr h4))]
  repeat' (first|refine ae ?_|refine a6 ?_|refine am ?_|refine a8 ?_|refine az ?_|refine aR ?_|refine aa ?_|refine LR a7 LL ?_)
  exact MA LL ⟨rfl,fun e=>absurd e (by decide)⟩
 have h0:=h4
 replace h4:=My h4
 rw [h0]
 clear h0
 have h3':[d.X,d.Y].all gc=true:=by simpa using h3
 rw [if_neg (by
  rintro (h | h | h)
  ·exact h2 h
  ·rw [h3'] at h;cases h
  ·exact h4 h)]
 repeat' (first|refine ae ?_|refine a6 ?_|refine LR a7 LL ?_)
 refine bN [4,8] (pG g i d=true) rfl (fun Q' K=>?_) (fun h5=>?_) (fun h5=>?_)
 ·repeat' (first|refine aa ?_|refine LR a7 LL ?_|refine MB LL ?_|refine MC LN ?_|refine dq rfl rfl rfl ?_|(apply bL;first|refine LV a7 0 LO ?_|refine LV a7 1 LO ?_|refine LV a7 2 LO ?_|refine LV a7 3 LO ?_|refine LW a7 0 LO ?_|refine LW a7 1 LO ?_|refine LW a7 2 LO ?_|refine LZ a7 1 LM (by assumption) rfl ?_|refine LZ a7 0 LM (by assumption) rfl ?_|fail)|refine MD LM (fun _=>?_) (fun _=>?_))
  all_goals first
   | exact K _ _ rfl rfl (by clear K;unfold pG;grind)
   | (refine Hv I5 Tryz.eqGuardType364 rfl rfl rfl ?_)
  repeat' (first|refine aa ?_|refine LR a7 LL ?_|refine MB LL ?_|refine MC LN ?_|(apply bL;first|refine LV a7 0 LO ?_|refine LV a7 1 LO ?_|refine LV a7 2 LO ?_|refine LV a7 3 LO ?_|refine LW a7 0 LO ?_|refine LW a7 1 LO ?_|refine LW a7 2 LO ?_|refine LZ a7 1 LM (by assumption) rfl ?_|refine LZ a7 0 LM (by assumption) rfl ?_|fail)|refine MD LM (fun _=>?_) (fun _=>?_))
  all_goals first
   | exact K _ _ rfl rfl (by clear K;unfold pG;grind)
   | (refine b9 (hc:=⟨vp d.Region d.Point (fv g.Deltas i).1 (fv g.Deltas i).2⟩) ?_)
  repeat' (first|refine aa ?_|refine LR a7 LL ?_|refine MB LL ?_)
  all_goals exact K _ _ rfl rfl (by clear K;unfold pG;grind)
 ·rw [if_pos h5]
  repeat' (first|refine ae ?_|refine a6 ?_|refine am ?_|refine a8 ?_|refine az ?_|refine aR ?_|refine aa ?_|refine LR a7 LL ?_)
  exact MA LL ⟨rfl,fun e=>absurd e (by decide)⟩
 rw [if_neg h5]
 repeat' (first|refine ae ?_|refine a6 ?_|refine aq ?_|refine am ?_|refine a8 ?_|refine aP ?_|refine aa ?_|refine LR a7 LL ?_|(apply aU;first|refine LT 8 a7 0 LQ ?_|refine LT 8 a7 1 LQ ?_|refine LT 8 a7 2 LQ ?_|refine LU a7 0 LP ?_|refine LU a7 1 LP ?_|refine LU a7 2 LP ?_|refine LU a7 3 LP ?_|fail))
 refine MA LL ⟨rfl,fun e=>?_⟩
 rfl
set_option maxHeartbeats 2000000 in
theorem yM (f:aS) (g:bn) (name:Int):bD Tryz.prog 109 [cD f,.agg (bK g),aF name] (aF (py f g name)):=by
 refine aI Tryz.func109 rfl Tryz.ntmps109 rfl fun B=>?_
 repeat' (first|refine ae ?_|refine a6 ?_|refine a8 ?_|refine aa ?_|refine LR a7 LL ?_|refine bi ?_|fail)
 refine bB 30 [(0,.v),(1,.v),(2,.v),(3,.v),(4,.v),(5,.v),(6,.v),(7,.v),(8,.v),(9,.v),(12,.v),(13,.v),(14,.v),(15,.v),(16,.v),(17,.v),(18,.v),(19,.v),(20,.v),(23,.v),(10,.e),(11,.v),(21,.e),(22,.v),(24,.v),(25,.e),(26,.v),(27,.v),(28,.v),(29,.v)] none ?_ trivial rfl (by kernel_rfl) (by kernel_rfl) (by kernel_rfl) mixed (by kernel_rfl) rfl
 repeat' (first|refine aJ ?_|refine bw a7 ?_|(apply cM;refine dc ?_)|fail)
 refine ku [] [] (vf g.Mark) rfl rfl (Mp _) trivial fun c L1 ⟨m,hc,hL⟩=>?_
 subst hc;subst hL
 repeat' (first|refine aJ ?_|(apply cM;refine dc ?_)|fail)
 refine ku [] _ (yA (f.Regions.map dV).length (g.Points.map fk).length) rfl rfl (Mp _) trivial fun c L1 ⟨b,hc,hL⟩=>?_
 subst hc;subst hL
 repeat' (first|refine aJ ?_|(apply cM;refine dc ?_)|refine kU a7 ?_|fail)
 refine ku (L:=[(b,.box [aF 0,aF 0] 364),(m,gC fun _ _=>none)]) _ [] (iD [⟨173,[.iptr [aF name]],[],name,0⟩,⟨174,[.iptr (bK g)],[],jo g,0⟩,⟨247,[.iptr [.imm 3 (g.Parts.map fG)],.iptr [aF 8],.iptr [.fn 177 [.iptr (bY f)]]],[],(cB 8 g.Parts (o8 f)).1,(cB 8 g.Parts (o8 f)).2⟩,⟨249,[.iptr [.imm 4 (g.Anchors.map eD)],.iptr [aF 16],.iptr [.fn 251 [.iptr [cw g.Mark],.iptr [.sc (.map (some m))]]]],[(m,gC fun _ _=>none)],(cB 16 g.Anchors (mT g)).1,(cB 16 g.Anchors (mT g)).2⟩,⟨252,[.iptr [.imm 4 (g.Deltas.map gA)],.iptr [aF 400],.iptr [.fn 254 [.iptr [aF (f.Regions.map dV).length],.iptr [aF (g.Points.map fk).length],.sc (.pointer (some ⟨b,0,none⟩))]]],[(b,.box [aF 0,aF 0] 364)],(cB 400 g.Deltas (tV f g)).1,(cB 400 g.Deltas (tV f g)).2⟩,⟨183,[.iptr (bK g)],[],q4 g.Hint,0⟩] ?_) rfl rfl (List.Perm.swap ..) trivial fun c L1 hc=>?_
 ·refine ⟨⟨inferInstance,vM name⟩,fun _=>⟨⟨inferInstance,vN g⟩,fun _=>⟨⟨inferInstance,Fm rfl g.Parts 8 _ (fun _ _=>True) [] trivial (fun _=>cV fun i x _=>vO f i x)⟩,fun _=>⟨⟨inferInstance,Fn rfl g.Anchors 16 (fS g.Anchors (mT g)) (fun i L=>L=[(m,gC (nq (g.Anchors.take i)))]) _ (by rw [List.take_zero,BZ]) ?_⟩,fun _=>⟨⟨inferInstance,Fo rfl g.Deltas 400 (fS g.Deltas (tV f g)) (fun i L=>L=[(b,.box [aF (fv g.Deltas i).1,aF (fv g.Deltas i).2] 364)]) _ rfl ?_⟩,fun _=>⟨⟨inferInstance,vP g⟩,fun _=>trivial⟩⟩⟩⟩⟩⟩
  ·intro _ i x L hx hL
   subst hL
   rw [gJ hx]
   exact ve g i x hx m
  ·intro _ i x L hx hL
   subst hL
   rw [gJ hx]
   exact yz f g i x hx _ _ (by rw [Mv]) (by rw [Mv]) b
 ·rw [jf] at hc
  subst hc
  unfold cf
  repeat' (first|refine aJ ?_|refine bw a7 ?_|fail)
  refine MG [7,37] LL ?_
  repeat' (first|refine ae ?_|refine a6 ?_|refine am ?_|refine a8 ?_|refine aa ?_|refine LR a7 LL ?_)
  exact LY LM
instance (f:aS) (g:bn) (name:Int):AD Tryz.prog 109 [cD f,.agg (bK g),aF name] (aF (py f g name)):=⟨yM f g name⟩
set_option maxRecDepth 8000
section
variable {P:Program} {l:List Oper} {fr:bP} {fin:jz} {sk:lE} {acc:bP} {L:AL} {k:Nat} {dd:Option Tmp} {ty t:TypeId} {pos:String} {af:Array Edge} {g:Option (Nat×Bool)} {x y:Operand}
theorem lX (i:Nat) (v0:Value) {b kt et:Nat} {kd:TypeDesc} {q:Value} {m:Value→Option AV} (ht:P.underlying t=some (.map kt et)) (hkt:P.underlying kt=some kd) (hx:bc (cE l.toArray acc fr af.toList) x=some (.sc (.map (some b)))) (hy:bc (cE l.toArray acc fr af.toList) y=some (.sc q)) (hk:MapKept.IsKey kd q) (hL:L[i]?=some (b,bV kd m)) (hz:ko P et v0=true) (hg:jt ⟨dd,.lookup t x y false,ty,pos,af,g⟩ acc) (h:DA P l fr fin sk ((k,(m q).getD (.sc v0))::acc) L):
  cu P l fr fin k .e ⟨dd,.lookup t x y false,ty,pos,af,g⟩ sk acc L:=
 jQ hg (fun B=>iz i ht hkt hx hy hk hL (fC hz) fun _=> .sc _) fun c L' ⟨h1,h2⟩=>by subst h1;subst h2;exact h
end
def x8 (f:aS) (c:dh) (late:Bool):Int:=if c.Rune < 0∨c.Rune > 1114111 then 1 else if kQ f c.Glyph=false then 32 else dP late 24
theorem B2 (f:aS) (c:dh) (late:Bool):bD Tryz.prog 116 [cD f,.agg (eE c),cw late] (aF (x8 f c late)):=by
 refine aI Tryz.func116 rfl Tryz.ntmps116 rfl fun B=>?_
 unfold x8
 repeat' (first|refine ae ?_|refine a6 ?_|refine ar ?_|refine a8 ?_|refine aa ?_|refine LR a7 LL ?_|refine bi ?_|fail)
 refine bN [2,3,4] (c.Rune < 0∨c.Rune > 1114111) rfl (fun Q' K=>?_) (fun hC=>?_) (fun hC=>?_)
 ·repeat' (first|refine aa ?_|refine LR a7 LL ?_|refine MB LL ?_|refine MC LN ?_|refine MD LM (fun _=>?_) (fun _=>?_))
  all_goals exact K _ _ rfl rfl (by clear K;grind)
 ·rw [if_pos hC]
  repeat' (first|refine ae ?_|refine a6 ?_|refine am ?_|refine a8 ?_|refine az ?_|refine aR ?_|refine aa ?_|refine LR a7 LL ?_)
  exact LY LM
 rw [if_neg hC]
 repeat' (first|refine ae ?_|refine a6 ?_|refine a8 ?_|refine aa ?_|refine LR a7 LL ?_|(apply bk;refine b9 ?_)|fail)
 refine aB rfl (fun h=>?_) (fun h=>?_)
 ·rw [if_pos (by simpa using h)]
  repeat' (first|refine ae ?_|refine a6 ?_|refine am ?_|refine a8 ?_|refine az ?_|refine aR ?_|refine aa ?_|refine LR a7 LL ?_)
  exact LY LM
 rw [if_neg (by simpa using h)]
 repeat' (first|refine ae ?_|refine a6 ?_|refine aq ?_|refine am ?_|refine a8 ?_|refine aP ?_|refine aa ?_|refine LR a7 LL ?_|(apply bk;refine b9 ?_)|fail)
 exact LY LM
instance (f:aS) (c:dh) (late:Bool):AD Tryz.prog 116 [cD f,.agg (eE c),cw late] (aF (x8 f c late)):=⟨B2 f c late⟩
def BP (f:aS) (i:Nat) (c:dh):Bool:=match i with | 0=>false | j+1=>match f.Chars[j]? with | some b=>decide (c.Rune≤b.Rune) | none=>false
def j3 (f:aS) (i:Nat) (c:dh):Int:=x8 f c (BP f i c)
theorem ym (f:aS) (i:Nat) (c:dh) (hc:f.Chars[i]?=some c) (hm:(f.Chars.length:Int)≤1000):bD Tryz.prog 115 [aF i,.agg (eE c),.iptr (bY f)] (aF (j3 f i c)):=by
 refine aI Tryz.func115 rfl Tryz.ntmps115 rfl fun B=>?_
 have hil:=(Mq hc).1
 unfold j3
 cases i with
 | zero=>
  repeat' (first|refine ae ?_|refine a6 ?_|refine a8 ?_|refine aa ?_|refine LR a7 LL ?_|refine bi ?_|fail)
  refine bB 17 [(0,.v),(1,.v),(2,.v),(3,.v),(4,.v),(5,.v),(6,.v),(7,.v),(8,.v),(9,.v),(10,.v),(11,.v),(12,.v),(13,.v),(14,.v),(15,.v),(16,.v)] none ?_ trivial rfl (by kernel_rfl) (by kernel_rfl) (by kernel_rfl) mixed (by kernel_rfl) rfl
  repeat' (first|refine aJ ?_|refine bw a7 ?_|(apply cM;refine dc ?_)|refine tU rfl rfl ?_)
  refine MG [22] LL ?_
  repeat' (first|refine am ?_|refine a8 ?_|refine aa ?_|refine LR a7 LL ?_)
  exact LY LM
 | succ j=>
  obtain ⟨b,hb⟩:∃b,f.Chars[j]?=some b:=⟨_,Ia (by omega)⟩
  have hbg:(f.Chars.map eE)[(((j+1:Nat):Int) - 1).toNat]?=some (eE b):=by rw [show (((j+1:Nat):Int) - 1).toNat=j by omega];exact c6 hb
  have hl:BP f (j+1) c=decide (c.Rune≤b.Rune):=by simp [BP,hb]
  have hpos:decide (0 < ((j+1:Nat):Int))=true:=decide_eq_true (by omega)
  rw [hl]
  repeat' (first|refine ae ?_|refine a6 ?_|refine a8 ?_|refine aa ?_|refine LR a7 LL ?_|refine bi ?_|fail)
  refine bB 17 [(0,.v),(1,.v),(2,.v),(3,.v),(4,.v),(5,.v),(6,.v),(7,.v),(8,.v),(9,.v),(10,.v),(11,.v),(12,.v),(13,.v),(14,.v),(15,.v),(16,.v)] none ?_ trivial rfl (by kernel_rfl) (by kernel_rfl) (by kernel_rfl) mixed (by kernel_rfl) rfl
  repeat' (first|refine aJ ?_|refine bw a7 ?_|fail)
  rw [hpos]
  repeat' (first|refine aJ ?_|refine bw a7 ?_|(apply iq;refine kT ?_)|(apply cq;refine cQ a7 ?_)|(apply cM;refine dc ?_)|fail)
  refine MG [22] LL ?_
  repeat' (first|refine am ?_|refine a8 ?_|refine aa ?_|refine LR a7 LL ?_)
  exact LY LM
def x5 (a:eV) (name:Int):Int:=if name≠0 then name else dP (!(decide ([a.Min,a.Def,a.Max].all gc=true∧a.Min≤a.Def∧a.Def≤a.Max))) 60
theorem AG (a:eV) (name:Int):bD Tryz.prog 126 [.agg (fx a),aF name] (aF (x5 a name)):=by
 refine aI Tryz.func126 rfl Tryz.ntmps126 rfl fun B=>?_
 unfold x5
 repeat' (first|refine ae ?_|refine a6 ?_|refine a8 ?_|refine aa ?_|refine LR a7 LL ?_|refine bi ?_|fail)
 refine aB rfl (fun h=>?_) (fun h=>?_)
 ·rw [if_pos (Mz h)]
  repeat' (first|refine ae ?_|refine a6 ?_|refine am ?_|refine a8 ?_|refine az ?_|refine aa ?_|refine LR a7 LL ?_)
  exact LY LM
 rw [if_neg (My h)]
 repeat' (first|refine ae ?_|refine a6 ?_|refine aq ?_|refine a8 ?_|refine LR a7 LL ?_|refine cA a7 ?_|(apply bk;refine b9 ?_)|fail)
 refine di (t:=5) [] ([a.Min,a.Def,a.Max].all gc=true∧a.Min≤a.Def∧a.Def≤a.Max) rfl (fun Q' K=>?_) ?_
 ·repeat' (first|refine aa ?_|refine LR a7 LL ?_|refine MB LL ?_|refine MC LN ?_|refine MD LM (fun _=>?_) (fun _=>?_))
  all_goals exact K _ _ rfl rfl (by clear K;grind)
 repeat' (first|refine ae ?_|refine a6 ?_|refine am ?_|refine a8 ?_|refine aa ?_|refine LR a7 LL ?_|(apply bk;refine b9 ?_)|fail)
 exact LY LM
instance (a:eV) (name:Int):AD Tryz.prog 126 [.agg (fx a),aF name] (aF (x5 a name)):=⟨AG a name⟩
def rP (_:Nat) (t:fw):Int:=dP (decide (¬(-64≤t.Start∧t.Start≤t.Peak∧t.Peak≤t.End∧t.End≤64)∨(t.Start < 0∧t.End > 0∧t.Peak≠0))) 61
set_option maxHeartbeats 1000000 in
theorem Df (i:Nat) (t:fw):bD Tryz.prog 209 [aF i,.agg (tK t)] (aF (rP i t)):=by
 refine aI Tryz.func209 rfl Tryz.ntmps209 rfl fun B=>?_
 repeat' (first|refine ae ?_|refine a6 ?_|refine a8 ?_|refine aa ?_|refine LR a7 LL ?_|refine bi ?_|fail)
 refine di (t:=5) [3] (-64≤t.Start∧t.Start≤t.Peak∧t.Peak≤t.End∧t.End≤64) rfl (fun Q' K=>?_) ?_
 ·repeat' (first|refine aa ?_|refine LR a7 LL ?_|refine MB LL ?_|refine MC LN ?_|refine MD LM (fun _=>?_) (fun _=>?_))
  all_goals exact K _ _ rfl rfl (by clear K;grind)
 repeat' (first|refine ae ?_|refine a6 ?_|refine a8 ?_|refine LR a7 LL ?_)
 refine di (t:=6) [5] (t.Start < 0∧t.End > 0∧t.Peak≠0) rfl (fun Q' K=>?_) ?_
 ·repeat' (first|refine aa ?_|refine LR a7 LL ?_|refine MB LL ?_|refine MC LN ?_|refine MD LM (fun _=>?_) (fun _=>?_))
  all_goals exact K _ _ rfl rfl (by clear K;grind)
 have ht:rP i t=dP (!(decide (-64≤t.Start∧t.Start≤t.Peak∧t.Peak≤t.End∧t.End≤64)) || decide (t.Start < 0∧t.End > 0∧t.Peak≠0)) 61:=by unfold rP;rw [Bool.decide_or,decide_not]
 rw [ht]
 generalize decide (-64≤t.Start∧t.Start≤t.Peak∧t.Peak≤t.End∧t.End≤64)=p
 generalize decide (t.Start < 0∧t.End > 0∧t.Peak≠0)=q
 cases p <;> cases q
 all_goals
  repeat' (first|refine ae ?_|refine a6 ?_|refine am ?_|refine a8 ?_|refine aa ?_|refine LR a7 LL ?_|refine MB LL ?_|refine MC LN ?_|(apply bk;refine b9 ?_)|fail)
  exact LY LM
def CB (axes:Int) (r:List fw):Int:=if (r.length:Int)≠axes then 61 else (cT r rP).1
theorem wo (r:List fw) (axes:Int):bD Tryz.prog 129 [.agg (dV r),aF axes] (aF (CB axes r)):=by
 refine aI Tryz.func129 rfl Tryz.ntmps129 rfl fun B=>?_
 unfold CB
 repeat' (first|refine ae ?_|refine a6 ?_|refine a8 ?_|refine aa ?_|refine LR a7 LL ?_|refine bi ?_|fail)
 rw [Mv]
 refine aB rfl (fun h=>?_) (fun h=>?_)
 ·rw [if_pos (Mz h)]
  repeat' (first|refine ae ?_|refine a6 ?_|refine am ?_|refine a8 ?_|refine az ?_|refine aa ?_|refine LR a7 LL ?_)
  exact LY LM
 rw [if_neg (My h)]
 repeat' (first|refine ae ?_|refine a6 ?_|refine aq ?_|refine a8 ?_|refine LR a7 LL ?_)
 refine aW [] [] (Ek (u:= .sc (.func (.func 209) #[] #[])) (g:=209) (caps:=[]) rfl r _ (fun _ _=>True) [] trivial (cV (fun i x _=>Df i x))) rfl rfl (Mp _) rfl fun c L1 hc=>?_
 have hc:c=cf (cT r rP):=hc
 subst hc
 unfold cf
 repeat' (first|refine ae ?_|refine a6 ?_|refine am ?_|refine a8 ?_|refine aa ?_|refine LR a7 LL ?_)
 exact LY LM
instance (r:List fw) (axes:Int):AD Tryz.prog 129 [.agg (dV r),aF axes] (aF (CB axes r)):=⟨wo r axes⟩
theorem uC (f:aS) (i:Nat) (r:List fw):bD Tryz.prog 128 [aF i,.agg (dV r),.iptr (bY f)] (aF (CB f.Axes.length r)):=by
 refine aI Tryz.func128 rfl Tryz.ntmps128 rfl fun B=>?_
 repeat' (first|refine ae ?_|refine a6 ?_|refine am ?_|refine a8 ?_|refine aa ?_|refine LR a7 LL ?_|refine bi ?_|(apply bk;refine b9 ?_)|fail)
 rw [Mv]
 repeat' (first|fail)
 exact LY LM
theorem yo (i:Nat) (l:List eJ):bD Tryz.prog 131 [aF i,.imm 2 (l.map fF)] (aF (q4 l)):=by
 refine aI Tryz.func131 rfl Tryz.ntmps131 rfl fun B=>?_
 repeat' (first|refine ae ?_|refine a6 ?_|refine am ?_|refine a8 ?_|refine aa ?_|refine LR a7 LL ?_|(apply bk;refine b9 ?_)|fail)
 exact LY LM
def B6 (_:Nat) (n:Int):Int:=dP (!([n].all gc)) 1
theorem B5 (i:Nat) (n:Int):bD Tryz.prog 134 [aF i,aF n] (aF (B6 i n)):=by
 refine aI Tryz.func134 rfl Tryz.ntmps134 rfl fun B=>?_
 repeat' (first|refine ae ?_|refine a6 ?_|refine am ?_|refine a8 ?_|refine aa ?_|refine LR a7 LL ?_|refine cA a7 ?_|(apply bk;refine b9 ?_)|fail)
 exact LY LM
def kW (f:aS):Int:=if f.Unit < 16∨f.Unit > 4096 then 1 else if f.Glyphs.length=0 then 32 else 0
theorem BE (f:aS):bD Tryz.prog 106 [cD f] (aF (kW f)):=by
 refine aI Tryz.func106 rfl Tryz.ntmps106 rfl fun B=>?_
 unfold kW
 repeat' (first|refine ae ?_|refine a6 ?_|refine ar ?_|refine a8 ?_|refine aa ?_|refine LR a7 LL ?_|refine bi ?_|fail)
 refine bN [1] (f.Unit < 16∨f.Unit > 4096) rfl (fun Q' K=>?_) (fun hC=>?_) (fun hC=>?_)
 ·repeat' (first|refine aa ?_|refine LR a7 LL ?_|refine MB LL ?_|refine MC LN ?_|refine MD LM (fun _=>?_) (fun _=>?_))
  all_goals exact K _ _ rfl rfl (by clear K;grind)
 ·rw [if_pos hC]
  repeat' (first|refine ae ?_|refine a6 ?_|refine am ?_|refine a8 ?_|refine az ?_|refine aR ?_|refine aa ?_|refine LR a7 LL ?_)
  exact LY LM
 rw [if_neg hC]
 repeat' (first|refine ae ?_|refine a6 ?_|refine a8 ?_|refine aa ?_|refine LR a7 LL ?_)
 rw [Mv]
 refine aB rfl (fun h=>?_) (fun h=>?_)
 ·rw [if_pos (by have:=Mz h;omega)]
  repeat' (first|refine ae ?_|refine a6 ?_|refine am ?_|refine a8 ?_|refine az ?_|refine aR ?_|refine aa ?_|refine LR a7 LL ?_)
  exact LY LM
 rw [if_neg (by have:=My h;omega)]
 repeat' (first|refine ae ?_|refine a6 ?_|refine aq ?_|refine am ?_|refine a8 ?_|refine aP ?_|refine aa ?_|refine LR a7 LL ?_)
 exact LY LM
instance (f:aS):AD Tryz.prog 106 [cD f] (aF (kW f)):=⟨BE f⟩
theorem yO (f:aS):bD Tryz.prog 105 [.iptr (bY f)] (cf (kW f,0)):=by
 refine aI Tryz.func105 rfl Tryz.ntmps105 rfl fun B=>?_
 repeat' (first|refine ae ?_|refine a6 ?_|refine am ?_|refine a8 ?_|refine aa ?_|refine LR a7 LL ?_|(apply bk;refine b9 ?_)|fail)
 exact MH LN
end Go.Proofs.YtamjlkdanllgjaaGreatDoor
namespace Go.Proofs.YtamjlkdanllgjaaGreatDoor
open Go.RowKit
section
variable {P:Program} {tt:TT} {l:List Oper} {fr:bP} {fin:jz} {sk:lE} {acc:bP} {L:AL} {k:Nat} {dd:Option Tmp} {ty t t':TypeId} {pos:String} {af:Array Edge} {g:Option (Nat×Bool)} {x y:Operand} {u:AV}
theorem cx (ok:dG P tt) {e sz by_ b off n cap:Nat} {q:IntKind} {i:Int} (ht:iS tt t=some (e,sz,by_)) (hx:bc (cE l.toArray acc fr af.toList) x=some (.sc (.slice (some ⟨b,off,none⟩) n cap))) (hy:bc (cE l.toArray acc fr af.toList) y=some (.sc (.int q i))) (h0:0≤i∧i < n) (hg:jt ⟨dd,.indexAddr t x y,ty,pos,af,g⟩ acc) (h:DA P l fr fin sk ((k,.sc (.pointer (some ⟨b,off+i.toNat * sz,none⟩)))::acc) L):
  cu P l fr fin k .v ⟨dd,.indexAddr t x y,ty,pos,af,g⟩ sk acc L:=fI hg (fun _ _=>(tq (bv ok ht).1 hx hy h0).ao) h
theorem tT (ok:dG P tt) (i:Nat) {b q n:Nat} {cs ys:List AV} {e:TypeId} (ht:Ds tt t=some n) (hx:bc (cE l.toArray acc fr af.toList) x=some (.sc (.pointer (some ⟨b,q,none⟩)))) (hy:bc (cE l.toArray acc fr af.toList) y=some u) (hu:u.cells=some ys) (hL:L[i]?=some (b,.box cs e)) (hn:Nat.beq ys.length n=true) (hk:Nat.ble (q+n) cs.length=true) (hg:jt ⟨dd,.store t x y,ty,pos,af,g⟩ acc) (h:∀c,DA P l fr fin sk ((k,c)::acc) (f3 L i (.box (eK cs q ys) e))):
  cu P l fr fin k .e ⟨dd,.store t x y,ty,pos,af,g⟩ sk acc L:=jQ hg (fun _=>lK i (mC ok ht) hx hy hu hL hn hk) fun c L' h1=>by subst h1;exact h c
theorem tS {v:Value} (ht:gw P t=true) (hx:bc (cE l.toArray acc fr af.toList) x=some (.sc (.iface t v))) (hg:jt ⟨dd,.typeAssert x t' t false,ty,pos,af,g⟩ acc) (h:DA P l fr fin sk ((k,.sc v)::acc) L):cu P l fr fin k .v ⟨dd,.typeAssert x t' t false,ty,pos,af,g⟩ sk acc L:=
 fI hg (fun _ _=>(tp ht hx).ao) h
theorem yr (ok:dG P tt) (i:Nat) {e by_ b n cap:Nat} {cs:List AV} {c:AV} (ht:iS tt t=some (e,1,by_)) (hz:zI tt e=some [.int .i64 0]) (hx:bc (cE l.toArray acc fr af.toList) x=some (.sc (.slice (some ⟨b,0,none⟩) n cap))) (hy:bc (cE l.toArray acc fr af.toList) y=some u) (hu:iE u=some (1,[[c]])) (hL:L[i]?=some (b,.box cs e)) (hcl:cs.length=cap) (hn:n≤cap) (h63:n+1≤9223372036854775807) (hby:(n+1) * by_≤140737488355328) (hg:jt ⟨dd,.call ⟨.builtin .append,#[x,y],#[t,t]⟩,ty,pos,af,g⟩ acc)
  (h:∀b' cs',cs'.take (n+1)=cs.take n++[c]→n+1≤cs'.length→DA P l fr fin sk ((k,.sc (.slice (some ⟨b',0,none⟩) (n+1) cs'.length))::acc) ((b',.box cs' e)::L.eraseIdx i)):
  cu P l fr fin k .e ⟨dd,.call ⟨.builtin .append,#[x,y],#[t,t]⟩,ty,pos,af,g⟩ sk acc L:=
 jQ hg (fun _=>oX i (bv ok ht).1 (er ok hz) hx hy (d8 hu) hL hcl hn h63 hby) fun q L' ⟨b',cs',h1,h2,h3,h4⟩=>by subst h1;subst h4;exact h b' cs' h2 h3
theorem yt (ok:dG P tt) {e by_:Nat} {c:AV} (ht:iS tt t=some (e,1,by_)) (hz:zI tt e=some [.int .i64 0]) (hx:bc (cE l.toArray acc fr af.toList) x=some (.sc (.slice none 0 0))) (hy:bc (cE l.toArray acc fr af.toList) y=some u) (hu:iE u=some (1,[[c]])) (hby:Nat.ble by_ 140737488355328=true) (hg:jt ⟨dd,.call ⟨.builtin .append,#[x,y],#[t,t]⟩,ty,pos,af,g⟩ acc)
  (h:∀b' cs',cs'.take 1=[c]→1≤cs'.length→DA P l fr fin sk ((k,.sc (.slice (some ⟨b',0,none⟩) 1 cs'.length))::acc) ((b',.box cs' e)::L)):
  cu P l fr fin k .e ⟨dd,.call ⟨.builtin .append,#[x,y],#[t,t]⟩,ty,pos,af,g⟩ sk acc L:=
 jQ hg (fun _=>oY (bv ok ht).1 (er ok hz) hx hy (d8 hu) (Nat.ble_eq .. ▸hby)) fun q L' ⟨b',cs',h1,h2,h3,h4⟩=>by subst h1;subst h4;exact h b' cs' h2 h3
end
def FY (P:Program) (t:TypeId) (name:String) (f:FuncId) (ptr:Bool) (e:TypeId):Bool:=(match P.underlying t with | some (.pointer e')=>Nat.beq e' e | _=>false) && match P.info? t with
 | some ti=>match ti.methods.find? (·.name==name) with
  | some m=>m.path.isEmpty && (match m.func with | some (f',p')=>Nat.beq f' f && (p'==ptr) | none=>false)
  | none=>false
 | none=>false
theorem gV {P:Program} {t:TypeId} {name:String} {f:FuncId} {ptr:Bool} {e:TypeId} (h:FY P t name f ptr e=true):lG P t name f ptr e:=by
 unfold FY at h
 rw [Bool.and_eq_true] at h
 obtain ⟨h1,h2⟩:=h
 split at h1
 ·rename_i e' hu
  rw [Nat.beq_eq] at h1
  subst h1
  split at h2
  ·rename_i ti hti
   split at h2
   ·rename_i m hm
    rw [Bool.and_eq_true] at h2
    obtain ⟨h3,h4⟩:=h2
    split at h4
    ·rename_i f' p' hf
     rw [Bool.and_eq_true,Nat.beq_eq,beq_iff_eq] at h4
     refine ⟨hu,ti,m,hti,hm,?_,by rw [hf,h4.1,h4.2]⟩
     simpa using h3
    ·cases h4
   ·cases h2
  ·cases h2
 ·cases h1
end Go.Proofs.YtamjlkdanllgjaaGreatDoor
namespace Go.Proofs.YtamjlkdanllgjaaGreatDoor
open Go.RowKit Go.MapKept
section
variable {P:Program} {fr:bP} {B:Bs} {L:AL}
theorem AO.as {o:Oper} {a b:AV} (h:AO P o fr B L (fun c L'=>c=a∧L'=L)) (hv:∀σ v,VR σ a v→VR σ b v):AO P o fr B L (fun c L'=>c=b∧L'=L):=
 fun σ ρ w hρ hw=>(h σ ρ w hρ hw).mono fun _ _ ⟨τ,c,L',h1,h2,h3,h4,h5⟩=>⟨τ,b,L',h1,hv τ _ (by rw [←h4];exact h2),h3,rfl,h5⟩
end
section
variable {P:Program} {tt:TT} {l:List Oper} {fr:bP} {fin:jz} {sk:lE} {acc:bP} {L:AL} {k:Nat} {dd:Option Tmp} {ty t t':TypeId} {pos:String} {af:Array Edge} {g:Option (Nat×Bool)} {x y z:Operand} {u:AV}
theorem yu (i:Nat) (v0:Value) (a:AV) {b kt et:Nat} {kd:TypeDesc} {q:Value} {m:Value→Option AV} (ht:P.underlying t=some (.map kt et)) (hkt:P.underlying kt=some kd) (hx:bc (cE l.toArray acc fr af.toList) x=some (.sc (.map (some b)))) (hy:bc (cE l.toArray acc fr af.toList) y=some (.sc q)) (hk:IsKey kd q) (hL:L[i]?=some (b,bV kd m)) (hz:ko P et v0=true) (ha:∀σ v,VR σ ((m q).getD (.sc v0)) v→VR σ a v) (hg:jt ⟨dd,.lookup t x y false,ty,pos,af,g⟩ acc) (h:DA P l fr fin sk ((k,a)::acc) L):
  cu P l fr fin k .e ⟨dd,.lookup t x y false,ty,pos,af,g⟩ sk acc L:=
 jQ hg (fun B=>(iz i ht hkt hx hy hk hL (fC hz) fun _=> .sc _).as ha) fun c L' ⟨h1,h2⟩=>by subst h1;subst h2;exact h
theorem lV (ok:dG P tt) (L0:AL) {e sz by_:Nat} {q:Option (Nat×Nat)} {l1 l2:List (List AV)} (ht:iS tt t=some (e,sz,by_)) (hx:bc (cE l.toArray acc fr af.toList) x=some (.vec q sz l1)) (hy:bc (cE l.toArray acc fr af.toList) y=some u) (hu:iE u=some (sz,l2)) (hL:L.Perm (tok q e sz l1.length++L0)) (h63:l1.length+l2.length≤9223372036854775807) (hby:(l1.length+l2.length) * by_≤140737488355328) (hg:jt ⟨dd,.call ⟨.builtin .append,#[x,y],#[t,t]⟩,ty,pos,af,g⟩ acc)
  (h:∀k',DA P l fr fin sk ((k,.vec k' sz (l1++l2))::acc) (tok k' e sz (l1++l2).length++L0)):
  cu P l fr fin k .e ⟨dd,.call ⟨.builtin .append,#[x,y],#[t,t]⟩,ty,pos,af,g⟩ sk acc L:=
 jQ hg (fun _=>qS L0 (bv ok ht).1 (bv ok ht).2 hx hy (d8 hu) hL h63 hby) fun c L' ⟨k',h1,h2⟩=>by subst h1;subst h2;exact h k'
end
section
variable {P:Program} {r:Option Nat} {ops:Array Oper} {Q:Exit→Act→World→Prop} {nt:Nat} {D:List Deferred} {fr:bP} {B:Bs} {L:AL} {rest:List Oper} {d:Nat} {ty t:TypeId} {pos:String} {af:Array Edge} {x y z:Operand} {u:AV}
theorem iJ (i:Nat) (v0:Value) (a:AV) {b kt et:Nat} {kd:TypeDesc} {k:Value} {m:Value→Option AV} (ht:P.underlying t=some (.map kt et)) (hkt:P.underlying kt=some kd) (hx:bc fr x=some (.sc (.map (some b)))) (hy:bc fr y=some (.sc k)) (hk:IsKey kd k) (hL:L[i]?=some (b,bV kd m)) (hz:ko P et v0=true) (ha:∀σ v,VR σ ((m k).getD (.sc v0)) v→VR σ a v) (hd:Nat.ble nt d=false)
  (h:bz P r ops Q nt D rest ((d,a)::fr) B L):bz P r ops Q nt D (⟨some d,.lookup t x y false,ty,pos,af,none⟩::rest) fr B L:=
 ce hd rfl ((iz i ht hkt hx hy hk hL (fC hz) fun _=> .sc _).as ha) fun c L' ⟨h1,h2⟩=>by subst h1;subst h2;exact h
end
noncomputable def nr (m:Value→Option AV) (k:Value) (c:AV):Value→Option AV:=fun q=>open Classical in if q=k then some c else m q
theorem iG {m:Value→Option AV} {k:Value} {c:AV}:nr m k c k=some c:=by simp [nr]
theorem gW {m:Value→Option AV} {k:Value} {c:AV} (q:Value) (h:q≠k):nr m k c q=m q:=by simp [nr,h]
def mO (m:Value→Option AV) (M:Int→Int):Prop:=∀z,m (.int .i64 z)=none∧M z=0∨m (.int .i64 z)=some (.sc (.int .i64 (M z)))
theorem mO.at {m:Value→Option AV} {M:Int→Int} (h:mO m M) (z:Int):∀(σ:bW) (v:Value),VR σ ((m (.int .i64 z)).getD (.sc (.int .i64 0))) v→VR σ (.sc (.int .i64 (M z))) v:=by
 intro σ v hv
 rcases h z with ⟨h1,h2⟩ | h1
 ·rw [h1] at hv;rw [h2];exact hv
 ·rw [h1] at hv;exact hv
theorem mO.put {m:Value→Option AV} {M:Int→Int} (h:mO m M) (z c:Int):mO (nr m (.int .i64 z) (.sc (.int .i64 c))) fun q=>if q=z then c else M q:=by
 intro q
 by_cases e:q=z
 ·subst e;simp only [if_true,iG];exact .inr trivial
 ·simp only [if_neg e];rw [gW _ (by intro h;injection h with _ h;exact e h)];exact h q
def oQ (m:Value→Option AV) (K:Int→Option (Nat×Nat)) (U:Int→List Int):Prop:=∀z,(m (.int .i64 z)=none∧U z=[]∧K z=none)∨m (.int .i64 z)=some (.vec (K z) 1 (aT (U z)))
theorem oQ.at {m:Value→Option AV} {K:Int→Option (Nat×Nat)} {U:Int→List Int} (h:oQ m K U) (z:Int):∀(σ:bW) (v:Value),VR σ ((m (.int .i64 z)).getD (.sc (.slice none 0 0))) v→VR σ (.vec (K z) 1 (aT (U z))) v:=by
 intro σ v hv
 rcases h z with ⟨h1,h2,h3⟩ | h1
 ·rw [h1] at hv;rw [h2,h3];exact eh 1 hv
 ·rw [h1] at hv;exact hv
theorem oQ.put {m:Value→Option AV} {K:Int→Option (Nat×Nat)} {U:Int→List Int} (h:oQ m K U) (z:Int) (k:Option (Nat×Nat)) (l:List Int):oQ (nr m (.int .i64 z) (.vec k 1 (aT l))) (fun q=>if q=z then k else K q) fun q=>if q=z then l else U q:=by
 intro q
 by_cases e:q=z
 ·subst e;simp only [if_true,iG];exact .inr trivial
 ·simp only [if_neg e]
  rw [gW _ (by intro h;injection h with _ h;exact e h)]
  exact h q
def lD (e:TypeId) (K:Int→Option (Nat×Nat)) (U:Int→List Int) (zs:List Int):AL:=zs.flatMap fun z=>tok (K z) e 1 (aT (U z)).length
theorem nD {e:TypeId} {K:Int→Option (Nat×Nat)} {U:Int→List Int}:∀{zs:List Int} {z:Int},z∈zs→(lD e K U zs).Perm (tok (K z) e 1 (aT (U z)).length++lD e K U (zs.erase z))
 | y::zs,z,h=>by
  by_cases hz:y=z
  ·subst hz
   rw [List.erase_cons_head]
   exact Mp _
  ·have hm:z∈zs:=by
    rcases List.mem_cons.1 h with h | h
    ·exact absurd h.symm hz
    ·exact h
   rw [List.erase_cons_tail (by simpa using hz)]
   have ih:=nD (e:=e) (K:=K) (U:=U) hm
   unfold lD at ih ⊢
   rw [List.flatMap_cons,List.flatMap_cons]
   refine (List.Perm.append_left _ ih).trans ?_
   rw [←List.append_assoc,←List.append_assoc]
   exact List.Perm.append_right _ List.perm_append_comm
theorem wI {e:TypeId} {K K':Int→Option (Nat×Nat)} {U U':Int→List Int} {zs:List Int} (h:∀z∈zs,K z=K' z∧U z=U' z):lD e K U zs=lD e K' U' zs:=by
 unfold lD
 induction zs with
 | nil=>rfl
 | cons z zs ih=>
  rw [List.flatMap_cons,List.flatMap_cons,ih fun y hy=>h y (Mu _ hy),(h z (List.mem_cons_self ..)).1,(h z (List.mem_cons_self ..)).2]
theorem Dg {e:TypeId} {K:Int→Option (Nat×Nat)} {U:Int→List Int} {zs:List Int} {z:Int} {k:Option (Nat×Nat)} {l:List Int} (hn:zs.Nodup) (h:z∈zs):(tok k e 1 (aT l).length++lD e K U (zs.erase z)).Perm (lD e (fun q=>if q=z then k else K q) (fun q=>if q=z then l else U q) zs):=by
 have h1:=nD (e:=e) (K:=fun q=>if q=z then k else K q) (U:=fun q=>if q=z then l else U q) h
 simp only [if_true] at h1
 refine List.Perm.trans ?_ h1.symm
 rw [wI (K:=K) (U:=U) (K':=fun q=>if q=z then k else K q) (U':=fun q=>if q=z then l else U q) fun y hy=>by
  have hne:y≠z:=fun e=>by subst e;exact (List.Nodup.not_mem_erase hn) hy
  simp only [if_neg hne]
  exact ⟨trivial,trivial⟩]
theorem zO (e:TypeId) (U:Int→List Int) (zs:List Int):lD e (fun _=>none) U zs=[]:=by
 unfold lD tok
 induction zs with
 | nil=>rfl
 | cons z zs ih=>rw [List.flatMap_cons,ih];rfl
end Go.Proofs.YtamjlkdanllgjaaGreatDoor
namespace Go.Proofs.YtamjlkdanllgjaaGreatDoor
open Go.RowKit
section
variable {P:Program} {r:Option Nat} {ops:Array Oper} {Q:Exit→Act→World→Prop} {nt:Nat} {D:List Deferred} {fr:bP} {B:Bs} {L:AL} {cd:Code}
def oN (nt:Nat) (B:Bs) {α:Type} (Dx:α→List Deferred) (V:α→bP) (fr0:bP) (C:α→Prop) (Lx:α→AL) (μ:α→Nat) (x:α) (Q:Exit→Act→World→Prop):Exit→Act→World→Prop:=Exit.then (fun a w=>∃σ x',i6 σ nt (Dx x') (V x'++fr0) a∧C x'∧cK B σ (Lx x') w∧μ x' < μ x) Q
theorem Ax (ks:List Nat) {α:Type} (Dx:α→List Deferred) (V:α→bP) (C:α→Prop) (Lx:α→AL) (μ:α→Nat) (x0:α) {fr0:bP} (hk:fE fr ks=some fr0) (hV:lc (V x0) fr) (hD:D=Dx x0) (hC:C x0) (hL:∀σ w,cK B σ L w→cK B σ (Lx x0) w)
  (hb:∀x,C x→AT P r cd (oN nt B Dx V fr0 C Lx μ x Q) nt (Dx x) (V x++fr0) B (Lx x)):AT P r (.loop cd) Q nt D fr B L:=by
 intro σ a w ha hw
 subst hD
 classical
 let G:Nat→Act→World→Prop:=fun m a w=>∃σ x,i6 σ nt (Dx x) (V x++fr0) a∧C x∧cK B σ (Lx x) w∧μ x=m
 let M:Act→World→Nat:=fun a w=>if h:∃m,G m a w∧∀m',G m' a w→m≤m' then h.choose else 0
 have least:∀a w,(∃m,G m a w)→G (M a w) a w∧∀m',G m' a w→M a w≤m':=by
  rintro a w ⟨m0,hg0⟩
  have hex:∃m,G m a w∧∀m',G m' a w→m≤m':=by
   have:∀k,∀m,m≤k→G m a w→∃m,G m a w∧∀m',G m' a w→m≤m':=by
    intro k
    induction k with
    | zero=>intro m hm hg;exact ⟨m,hg,fun m' _=>by omega⟩
    | succ k ih=>
     intro m hm hg
     by_cases h:∃m',m' < m∧G m' a w
     ·obtain ⟨m',hlt,hg'⟩:=h
      exact ih m' (by omega) hg'
     ·exact ⟨m,hg,fun m' hg'=>by
       rcases Nat.lt_or_ge m' m with hlt | hge
       ·exact absurd ⟨m',hlt,hg'⟩ h
       ·exact hge⟩
   exact this m0 m0 (Nat.le_refl _) hg0
  have hM:M a w=hex.choose:=dif_pos hex
  rw [hM];exact hex.choose_spec
 refine wpIn_loop (fun a w=>∃m,G m a w) M ⟨_,σ,x0,ha.weak (lJ hV (dQ ks hk)),hC,hL σ w hw,rfl⟩ ?_
 intro a w hI
 obtain ⟨⟨σ',x,hx,hj,hst,hm⟩,_⟩:=least a w hI
 refine wpIn_mono (hb x hj σ' a w hx hst) ?_
 intro e a' w' hq
 cases e with
 | normal=>
  obtain ⟨τ,x',hx',hj',hst',hlt⟩:=hq
  have hg:G (μ x') a' w':=⟨τ,x',hx',hj',hst',rfl⟩
  refine ⟨⟨_,hg⟩,?_⟩
  have:=(least a' w' ⟨_,hg⟩).2 (μ x') hg
  omega
 | _=>exact hq
theorem mV {α:Type} {Dx:α→List Deferred} {V:α→bP} {fr0:bP} {C:α→Prop} {Lx:α→AL} {μ:α→Nat} {x:α} (x':α) (hk:fE fr (fr0.map (·.1))=some fr0) (hV:lc (V x') fr) (hD:D=Dx x') (hC:C x') (hm:μ x' < μ x) (hL:∀σ w,cK B σ L w→cK B σ (Lx x') w):
  AX P .normal (oN nt B Dx V fr0 C Lx μ x Q) nt D fr B L:=fun σ a w ha hw=>by
 subst hD
 exact ⟨σ,x',ha.weak (lJ hV (dQ _ hk)),hC,hL _ _ hw,hm⟩
theorem qz {α:Type} {Dx:α→List Deferred} {V:α→bP} {fr0:bP} {C:α→Prop} {Lx:α→AL} {μ:α→Nat} {x:α} {id:Nat} (h:AX P (.exit id) Q nt D fr B L):AX P (.exit id) (oN nt B Dx V fr0 C Lx μ x Q) nt D fr B L:=fun σ a w ha hw=>h σ a w ha hw
end
section
variable {nt:Nat} {D:List Deferred} {B:Bs} {fr:bP} {L:AL}
theorem rS {t b e sz n:Nat} {cs:List AV} {l:List (List AV)} (i:Nat) (hl:bX fr t=some (.iptr [.sc (.slice (some ⟨b,0,none⟩) n n)])) (hL:L[i]?=some (b,.box cs e)) (hc:cs=l.flatten) (hs:∀q∈l,q.length=sz) (hn:l.length=n) (h63:n≤9223372036854775807):lb nt D B fr L ((t,.iptr [.imm sz l])::fr) ((b,.vec e sz n n)::L.eraseIdx i):=by
 intro σ a w ha hw0
 have hw:=hw0.perm (eS hL)
 obtain ⟨o,ho,vs,rfl,hvs,h1⟩:=hw.here _ (List.mem_cons_self ..)
 have hfree:=hw.free _ (List.mem_cons_self ..)
 have hvl:vs.length=n * sz:=by rw [←hvs.1,hc,eO l hs,hn]
 have hst:cK B σ ((b,.vec e sz 0 n)::L.eraseIdx i) w:=by
  refine ⟨hw.os,hw.tape,hw.output,hw.size,hw.old,fun p hp=>?_,fun p hp=>?_,by simpa using hw.apart,hw.froz,fun p hp off hm=>?_,hw.grow,hw.same⟩
  ·rcases List.mem_cons.1 hp with rfl | hp'
   ·exact ⟨_,ho,_,rfl,by simp [hvl],Nat.zero_le _,by unfold maxLen;omega⟩
   ·exact hw.here p (Mu _ hp')
  ·rcases List.mem_cons.1 hp with rfl | hp'
   ·exact hw.mine (b,.box cs e) (List.mem_cons_self ..)
   ·exact hw.mine p (Mu _ hp')
  ·rcases List.mem_cons.1 hp with rfl | hp'
   ·exact hfree off trivial
   ·exact hw.free p (Mu _ hp') off hm
 obtain ⟨hst',hle⟩:=hst.freezeHead (n':=n) (xs:=vs) (fun j u hj=>by rw [cI ho];simpa using hj) hvl (Nat.zero_le _) (Nat.le_refl _)
 refine ⟨_,?_,hst'⟩
 have hv:VR (σ.add b vs) (.vec (some (b,n)) sz l) (.slice (some ⟨b,0,none⟩) n n):=by
  have:=km (σ:=σ.add b vs) (b:=b) (cap:=n) hs (by rw [←hc];exact hvs.mono hle) h1 (by omega) (by unfold maxLen;omega) (fun j u hj=>bW.add_at hj)
  rwa [hn] at this
 have ha':=ha.mono hle
 refine ⟨ha'.size,ha'.defers,fun t' v' hl'=>?_⟩
 rw [ca] at hl'
 by_cases e:t=t'
 ·subst e
  simp only [if_true,Option.some.injEq] at hl'
  subst hl'
  have hp:=ha.look t _ hl
  generalize a.tmps.getD t undef=v0 at hp
  generalize hq:AV.iptr [.sc (.slice (some ⟨b,0,none⟩) n n)]=q at hp
  cases hp with
  | iptr cs2 b0 off hx h=>
   injection hq with hq
   subst hq
   refine .iptr _ b0 off (fun j hj=>?_) fun j c u hc hu=>?_
   ·obtain ⟨u,hu,h1⟩:=hx j hj
    exact ⟨u,hle _ _ _ hu,h1⟩
   ·have hj:j=0:=by
     have:=(Mq hc).1
     simp at this
     exact this
    subst hj
    simp at hc
    subst hc
    obtain ⟨u',hu',_⟩:=hx 0 (by simp)
    have h2:=hle _ _ _ hu'
    rw [hu] at h2
    injection h2 with h2
    subst h2
    rw [(h 0 _ u rfl hu').sc_inv]
    exact hv.im
  | _=>cases hq
 ·rw [if_neg e] at hl'
  exact ha'.look t' v' hl'
end
end Go.Proofs.YtamjlkdanllgjaaGreatDoor
