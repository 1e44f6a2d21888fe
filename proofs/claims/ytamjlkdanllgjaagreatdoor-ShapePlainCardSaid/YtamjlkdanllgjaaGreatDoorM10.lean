/-
  The program: glyphs, as check looks at them, with anchors and deltas.
-/
import Derived.Test.YtamjlkdanllgjaaGreatDoorM09
import Derived.Test.YtamjlkdanllgjaaGreatDoorM07
namespace Go.Proofs.YtamjlkdanllgjaaGreatDoor
open Go.RowKit
attribute [local irreducible] AT bB AX AO Av Kt ba dt DA cz
set_option maxRecDepth 8000
theorem E2:jI Tryz.prog 361:=⟨⟨_,_,Tryz.underlying361,⟨by decide,by decide⟩,⟨rfl,rfl⟩,Tryz.underlying3,Tryz.underlying3⟩,Tryz.stoodInHeld361⟩
theorem I8:jI Tryz.prog 364:=⟨⟨_,_,Tryz.underlying364,⟨by decide,by decide⟩,⟨rfl,rfl⟩,Tryz.underlying3,Tryz.underlying3⟩,Tryz.stoodInHeld364⟩
def nU (l:List dA) (a b:Int):Option AV:=if ∃x∈l,x.Kind=a∧x.Class=b then some (cQ true) else none
theorem CM:nU []=fun _ _=>none:=by funext a b;simp [nU]
theorem A3 (l:List dA) (a b:Int):(nU l a b).getD (cQ false)=cQ (decide (∃x∈l,x.Kind=a∧x.Class=b)):=by
 unfold nU
 by_cases h:∃x∈l,x.Kind=a∧x.Class=b
 ·rw [if_pos h,decide_eq_true h];rfl
 ·rw [if_neg h,decide_eq_false h];rfl
theorem A4 {l:List dA} {i:Nat} {x:dA} (h:l[i]?=some x):nU (l.take (i+1)) x.Kind x.Class=some (cQ true):=by
 unfold nU
 rw [if_pos ⟨x,by rw [List.take_add_one,h];simp,rfl,rfl⟩]
theorem x3 {l:List dA} {i:Nat} {x:dA} (h:l[i]?=some x) (p q:Int) (hne:¬(p=x.Kind∧q=x.Class)):nU (l.take (i+1)) p q=nU (l.take i) p q:=by
 unfold nU
 have:(∃y∈l.take (i+1),y.Kind=p∧y.Class=q)↔∃y∈l.take i,y.Kind=p∧y.Class=q:=by
  rw [List.take_add_one,h]
  simp only [Option.toList_some,List.mem_append,List.mem_singleton]
  constructor
  ·rintro ⟨y,hy | rfl,h1⟩
   ·exact ⟨y,hy,h1⟩
   ·exact absurd ⟨h1.1.symm,h1.2.symm⟩ hne
  ·rintro ⟨y,hy,h1⟩
   exact ⟨y,Or.inl hy,h1⟩
 by_cases hc:∃y∈l.take i,y.Kind=p∧y.Class=q
 ·rw [if_pos hc,if_pos (this.2 hc)]
 ·rw [if_neg hc,if_neg (fun h=>hc (this.1 h))]
set_option maxHeartbeats 1000000 in
theorem wd (g:bf) (i:Nat) (a:dA) (ha:g.Anchors[i]?=some a) (m:Nat):AC Tryz.prog 251 [aH i,.agg (cY a),.iptr [cQ g.Mark],.iptr [.sc (.map (some m))]] [(m,i7 (nU (g.Anchors.take i)))] fun c L'=>c=aH (lU g i a)∧(lU g i a=0→L'=[(m,i7 (nU (g.Anchors.take (i+1))))]):=by
 refine aP Tryz.func251 rfl Tryz.ntmps251 rfl fun B=>?_
 repeat' (first|refine ae ?_|refine a6 ?_|refine a8 ?_|refine aa ?_|refine LF a7 I9 ?_|(apply aK;first|refine LH 7 a7 0 LE ?_|refine LH 7 a7 1 LE ?_|refine LH 7 a7 2 LE ?_|refine LG a7 0 LD ?_|refine LG a7 1 LD ?_|refine LG a7 2 LD ?_|refine LG a7 3 LD ?_|fail)|refine bo ?_|refine bg a7 fun _=>?_|fail)
 refine dx (t:=8) [2,3,5,7] (a.Kind=3∨a.Kind=4) rfl (fun Q' K=>?_) ?_
 ·repeat' (first|refine aa ?_|refine LF a7 I9 ?_|refine LN I9 ?_|refine LO LB ?_|refine bc rfl rfl rfl (fun _=>?_) (fun _=>?_))
  all_goals exact K _ _ rfl rfl (by clear K;grind)
 repeat' (first|refine ae ?_|refine a6 ?_|refine am ?_|refine a8 ?_|refine LF a7 I9 ?_)
 refine dx (t:=22) [2,3,5,7,8] (a.Kind < 1∨a.Kind > 4) rfl (fun Q' K=>?_) ?_
 ·repeat' (first|refine aa ?_|refine LF a7 I9 ?_|refine LN I9 ?_|refine LO LB ?_|refine bc rfl rfl rfl (fun _=>?_) (fun _=>?_))
  all_goals exact K _ _ rfl rfl (by clear K;grind)
 repeat' (first|refine a8 ?_)
 refine ay rfl (fun h1=>?_) (fun h1=>?_)
 ·have h0:=h1
  replace h1:=Ly h1
  rw [h0]
  repeat' (first|refine ae ?_|refine a6 ?_|refine au ?_|refine aq ?_|refine a8 ?_|refine aC ?_|refine aQ ?_|refine aa ?_|refine LF a7 I9 ?_|refine bV rfl ?_)
  refine LM I9 ?_
  rw [show lU g i a=35 from if_pos (.inl h1)]
  exact ⟨rfl,fun e=>absurd e (by decide)⟩
 have h0:=h1
 replace h1:=Lw h1
 rw [h0]
 clear h0
 repeat' (first|refine ae ?_|refine a6 ?_|refine LF a7 I9 ?_)
 refine dx (t:=22) [2,3,5,7,8] (a.Class < 0∨a.Class > 15) rfl (fun Q' K=>?_) ?_
 ·repeat' (first|refine aa ?_|refine LF a7 I9 ?_|refine LN I9 ?_|refine LO LB ?_|refine bc rfl rfl rfl (fun _=>?_) (fun _=>?_))
  all_goals exact K _ _ rfl rfl (by clear K;grind)
 repeat' (first|refine a8 ?_)
 refine ay rfl (fun h2=>?_) (fun h2=>?_)
 ·have h0:=h2
  replace h2:=Ly h2
  rw [h0]
  repeat' (first|refine ae ?_|refine a6 ?_|refine au ?_|refine aq ?_|refine a8 ?_|refine aC ?_|refine aQ ?_|refine aa ?_|refine LF a7 I9 ?_|refine bV rfl ?_)
  refine LM I9 ?_
  rw [show lU g i a=35 from if_pos (.inr (.inl h2))]
  exact ⟨rfl,fun e=>absurd e (by decide)⟩
 have h0:=h2
 replace h2:=Lw h2
 rw [h0]
 clear h0
 repeat' (first|refine ae ?_|refine a6 ?_|refine LF a7 I9 ?_)
 refine dx (t:=22) [2,3,5,7] ((a.Kind=3∨a.Kind=4)∧a.Class≠0) rfl (fun Q' K=>?_) ?_
 ·generalize hj:decide (a.Kind=3∨a.Kind=4)=j
  have hj':(a.Kind=3∨a.Kind=4)↔j=true:=by rw [←hj,decide_eq_true_eq]
  repeat' (first|refine aa ?_|refine LF a7 I9 ?_|refine LN I9 ?_|refine LO LB ?_|refine bc rfl rfl rfl (fun _=>?_) (fun _=>?_))
  all_goals exact K _ _ (by first | rfl | (subst_vars;rfl)) rfl (by clear K;grind)
 repeat' (first|refine a8 ?_)
 refine ay rfl (fun h3=>?_) (fun h3=>?_)
 ·have h0:=h3
  replace h3:=Ly h3
  rw [h0]
  repeat' (first|refine ae ?_|refine a6 ?_|refine au ?_|refine aq ?_|refine a8 ?_|refine aC ?_|refine aQ ?_|refine aa ?_|refine LF a7 I9 ?_|refine bV rfl ?_)
  refine LM I9 ?_
  rw [show lU g i a=35 from if_pos (.inr (.inr (.inl h3)))]
  exact ⟨rfl,fun e=>absurd e (by decide)⟩
 have h0:=h3
 replace h3:=Lw h3
 rw [h0]
 clear h0
 repeat' (first|refine ae ?_|refine a6 ?_|refine a8 ?_|refine aa ?_|refine LF a7 I9 ?_|refine bS a7 ?_|(apply bw;refine bi ?_)|fail)
 refine ay rfl (fun h4=>?_) (fun h4=>?_)
 ·rw [h4]
  repeat' (first|refine ae ?_|refine a6 ?_|refine au ?_|refine aq ?_|refine a8 ?_|refine aC ?_|refine aQ ?_|refine aa ?_|refine LF a7 I9 ?_|refine bV rfl ?_)
  refine LM I9 ?_
  rw [show lU g i a=35 from if_pos (.inr (.inr (.inr (.inl (by rw [←Bool.not_eq_true',h4])))))]
  exact ⟨rfl,fun e=>absurd e (by decide)⟩
 rw [h4]
 repeat' (first|refine ae ?_|refine a6 ?_|refine LF a7 I9 ?_)
 refine dx (t:=22) [3,7] (a.Kind=2∧g.Mark=false) rfl (fun Q' K=>?_) ?_
 ·repeat' (first|refine aa ?_|refine LF a7 I9 ?_|refine LN I9 ?_|refine LO LB ?_|refine bc rfl rfl rfl (fun _=>?_) (fun _=>?_))
  all_goals exact K _ _ rfl rfl (by clear K;grind)
 repeat' (first|refine a8 ?_)
 refine ay rfl (fun h5=>?_) (fun h5=>?_)
 ·have h0:=h5
  replace h5:=Ly h5
  rw [h0]
  repeat' (first|refine ae ?_|refine a6 ?_|refine au ?_|refine aq ?_|refine a8 ?_|refine aC ?_|refine aQ ?_|refine aa ?_|refine LF a7 I9 ?_|refine bV rfl ?_)
  refine LM I9 ?_
  rw [show lU g i a=35 from if_pos (.inr (.inr (.inr (.inr (.inl h5)))))]
  exact ⟨rfl,fun e=>absurd e (by decide)⟩
 have h0:=h5
 replace h5:=Lw h5
 rw [h0]
 clear h0
 repeat' (first|refine a6 ?_|refine LF a7 I9 ?_)
 refine x7 0 (.bool false) Tryz.underlying359 E2 rfl rfl rfl (by kernel_rfl) rfl ?_
 rw [A3]
 repeat' (first|refine a8 ?_|refine aa ?_|refine LF a7 I9 ?_)
 refine ay rfl (fun h6=>?_) (fun h6=>?_)
 ·rw [h6]
  repeat' (first|refine ae ?_|refine a6 ?_|refine aq ?_|refine a8 ?_|refine aC ?_|refine aQ ?_|refine aa ?_|refine LF a7 I9 ?_)
  refine LM I9 ?_
  rw [show lU g i a=35 from if_pos (.inr (.inr (.inr (.inr (.inr (Ly h6))))))]
  exact ⟨rfl,fun e=>absurd e (by decide)⟩
 rw [h6]
 repeat' (first|refine ae ?_|refine a6 ?_|refine au ?_|refine a8 ?_|refine aM ?_|refine LF a7 I9 ?_)
 refine tO 0 (nU (g.Anchors.take (i+1))) Tryz.underlying359 E2 rfl rfl rfl rfl (A4 ha) (x3 ha) ?_
 repeat' (first|refine ae ?_|refine a6 ?_|refine aq ?_|refine a8 ?_|refine aa ?_|refine LF a7 I9 ?_)
 refine LM I9 ?_
 have h4':[a.X,a.Y].all gj=true:=by simpa using h4
 have h6':=Lw h6
 rw [show lU g i a=0 from if_neg (by
  rintro (h | h | h | h | h | h)
  ·exact h1 h
  ·exact h2 h
  ·exact h3 h
  ·rw [h4'] at h;cases h
  ·exact h5 h
  ·exact h6' h)]
 exact ⟨rfl,fun _=>rfl⟩
def rk (a b c d:Int):Bool:=decide (a < c∨(a=c∧b < d))
theorem wn (a b c d:Int):bH Tryz.prog 255 [.agg [aH a,aH b],.agg [aH c,aH d]] (cQ (rk a b c d)):=by
 refine aP Tryz.func255 rfl Tryz.ntmps255 rfl fun B=>?_
 repeat' (first|refine ae ?_|refine a6 ?_|refine a8 ?_|refine aa ?_|refine LF a7 I9 ?_|refine bo ?_|fail)
 refine dx (t:=4) [] (rk a b c d=true) rfl (fun Q' K=>?_) ?_
 ·repeat' (first|refine aa ?_|refine LF a7 I9 ?_|refine LN I9 ?_|refine LO LB ?_|refine dk rfl rfl rfl ?_|refine bc rfl rfl rfl (fun _=>?_) (fun _=>?_))
  all_goals exact K _ _ rfl rfl (by clear K;unfold rk;grind)
 repeat' (first|refine aq ?_|refine a8 ?_)
 refine LM I9 ?_
 simp
def fU (l:List dG) (i:Nat):Int×Int:=match i with | 0=>(0,0) | j+1=>match l[j]? with | some b=>(b.Region,b.Point) | none=>(0,0)
def qF (g:bf) (i:Nat) (d:dG):Bool:=decide (0 < i∧((d.Region=(fU g.Deltas i).1∧d.Point=(fU g.Deltas i).2)∨rk d.Region d.Point (fU g.Deltas i).1 (fU g.Deltas i).2=true))
theorem Fe {g:bf} {i:Nat} {d:dG} (hd:g.Deltas[i]?=some d):(match i with | 0=>false | j+1=>match g.Deltas[j]? with | some b=>decide (d.Region < b.Region∨(d.Region=b.Region∧d.Point≤b.Point)) | none=>false)=qF g i d:=by
 unfold qF
 cases i with
 | zero=>simp
 | succ j=>
  have hj:j < g.Deltas.length:=by have:=(Lm hd).1;omega
  obtain ⟨b,hb⟩:∃b,g.Deltas[j]?=some b:=⟨_,Lz hj⟩
  simp only [hb,fU,rk]
  rw [Bool.eq_iff_iff,decide_eq_true_eq,decide_eq_true_eq,decide_eq_true_eq]
  omega
theorem EG {f:aV} {g:bf} {i:Nat} {d:dG} (hd:g.Deltas[i]?=some d):rK f g i d=if d.Region < 0∨d.Region≥f.Regions.length then 61 else if (d.Point < -1∨d.Point≥g.Points.length)∨[d.X,d.Y].all gj=false∨(d.Point= -1∧d.Y≠0) then 30 else if qF g i d=true then 24 else 0:=by
 unfold rK
 rw [←Fe hd]
 cases i <;> rfl
set_option maxHeartbeats 1000000 in
theorem zB (f:aV) (g:bf) (i:Nat) (d:dG) (hd:g.Deltas[i]?=some d) (R N:Int) (hR:R=f.Regions.length) (hN:N=g.Points.length) (b:Nat):AC Tryz.prog 254 [aH i,.agg (dZ d),.iptr [aH R],.iptr [aH N],.sc (.pointer (some ⟨b,0,none⟩))] [(b,.box [aH (fU g.Deltas i).1,aH (fU g.Deltas i).2] 364)] fun c L'=>c=aH (rK f g i d)∧(rK f g i d=0→L'=[(b,.box [aH (fU g.Deltas (i+1)).1,aH (fU g.Deltas (i+1)).2] 364)]):=by
 refine aP Tryz.func254 rfl Tryz.ntmps254 rfl fun B=>?_
 rw [EG hd,←hR,←hN]
 have hnext:fU g.Deltas (i+1)=(d.Region,d.Point):=by simp only [fU,hd]
 rw [hnext]
 repeat' (first|refine ae ?_|refine a6 ?_|refine am ?_|refine a8 ?_|refine aa ?_|refine LF a7 I9 ?_|(apply aK;first|refine LH 8 a7 0 LE ?_|refine LH 8 a7 1 LE ?_|refine LH 8 a7 2 LE ?_|refine LG a7 0 LD ?_|refine LG a7 1 LD ?_|refine LG a7 2 LD ?_|refine LG a7 3 LD ?_|fail)|refine bo ?_|refine bg a7 fun _=>?_|fail)
 refine cN [0,3,4,6,8] (d.Region < 0∨d.Region≥R) rfl (fun Q' K=>?_) (fun h1=>?_) (fun h1=>?_)
 ·repeat' (first|refine aa ?_|refine LF a7 I9 ?_|refine LN I9 ?_|refine LO LB ?_|refine bc rfl rfl rfl (fun _=>?_) (fun _=>?_))
  all_goals exact K _ _ rfl rfl (by clear K;grind)
 ·rw [if_pos h1]
  repeat' (first|refine ae ?_|refine a6 ?_|refine aq ?_|refine a8 ?_|refine aC ?_|refine aQ ?_|refine aa ?_|refine LF a7 I9 ?_)
  exact LM I9 ⟨rfl,fun e=>absurd e (by decide)⟩
 rw [if_neg h1]
 repeat' (first|refine ae ?_|refine a6 ?_|refine LF a7 I9 ?_)
 refine dx (t:=24) [0,4,6,8] (d.Point < -1∨d.Point≥N) rfl (fun Q' K=>?_) ?_
 ·repeat' (first|refine aa ?_|refine LF a7 I9 ?_|refine LN I9 ?_|refine LO LB ?_|refine bc rfl rfl rfl (fun _=>?_) (fun _=>?_))
  all_goals exact K _ _ rfl rfl (by clear K;grind)
 repeat' (first|refine a8 ?_)
 refine ay rfl (fun h2=>?_) (fun h2=>?_)
 ·have h0:=h2
  replace h2:=Ly h2
  rw [h0]
  rw [if_pos (.inl h2)]
  repeat' (first|refine ae ?_|refine a6 ?_|refine au ?_|refine aq ?_|refine a8 ?_|refine aC ?_|refine aQ ?_|refine aa ?_|refine LF a7 I9 ?_|refine bV rfl ?_)
  exact LM I9 ⟨rfl,fun e=>absurd e (by decide)⟩
 have h0:=h2
 replace h2:=Lw h2
 rw [h0]
 clear h0
 repeat' (first|refine ae ?_|refine a6 ?_|refine a8 ?_|refine aa ?_|refine LF a7 I9 ?_|refine bS a7 ?_|(apply bw;refine bi ?_)|fail)
 refine ay rfl (fun h3=>?_) (fun h3=>?_)
 ·rw [if_pos (.inr (.inl (by rw [←Bool.not_eq_true',h3]))),h3]
  repeat' (first|refine ae ?_|refine a6 ?_|refine au ?_|refine aq ?_|refine a8 ?_|refine aC ?_|refine aQ ?_|refine aa ?_|refine LF a7 I9 ?_|refine bV rfl ?_)
  exact LM I9 ⟨rfl,fun e=>absurd e (by decide)⟩
 rw [h3]
 repeat' (first|refine a6 ?_|refine LF a7 I9 ?_)
 refine dx (t:=24) [0,4,8] (d.Point= -1∧d.Y≠0) rfl (fun Q' K=>?_) ?_
 ·repeat' (first|refine aa ?_|refine LF a7 I9 ?_|refine LN I9 ?_|refine LO LB ?_|refine bc rfl rfl rfl (fun _=>?_) (fun _=>?_))
  all_goals exact K _ _ rfl rfl (by clear K;grind)
 repeat' (first|refine a8 ?_)
 refine ay rfl (fun h4=>?_) (fun h4=>?_)
 ·have h0:=h4
  replace h4:=Ly h4
  rw [h0]
  rw [if_pos (.inr (.inr h4))]
  repeat' (first|refine ae ?_|refine a6 ?_|refine aq ?_|refine a8 ?_|refine aC ?_|refine aQ ?_|refine aa ?_|refine LF a7 I9 ?_)
  exact LM I9 ⟨rfl,fun e=>absurd e (by decide)⟩
 have h0:=h4
 replace h4:=Lw h4
 rw [h0]
 clear h0
 have h3':[d.X,d.Y].all gj=true:=by simpa using h3
 rw [if_neg (by
  rintro (h | h | h)
  ·exact h2 h
  ·rw [h3'] at h;cases h
  ·exact h4 h)]
 repeat' (first|refine ae ?_|refine a6 ?_|refine LF a7 I9 ?_)
 refine cN [4,8] (qF g i d=true) rfl (fun Q' K=>?_) (fun h5=>?_) (fun h5=>?_)
 ·repeat' (first|refine aa ?_|refine LF a7 I9 ?_|refine LN I9 ?_|refine LO LB ?_|refine dk rfl rfl rfl ?_|(apply bL;first|refine LI a7 0 LC ?_|refine LI a7 1 LC ?_|refine LI a7 2 LC ?_|refine LI a7 3 LC ?_|refine LJ a7 0 LC ?_|refine LJ a7 1 LC ?_|refine LJ a7 2 LC ?_|refine LL a7 1 LA (by assumption) rfl ?_|refine LL a7 0 LA (by assumption) rfl ?_|fail)|refine bc rfl rfl rfl (fun _=>?_) (fun _=>?_))
  all_goals first
   | exact K _ _ rfl rfl (by clear K;unfold qF;grind)
   | (refine HO I8 Tryz.eqGuardType364 rfl rfl rfl ?_)
  repeat' (first|refine aa ?_|refine LF a7 I9 ?_|refine LN I9 ?_|refine LO LB ?_|(apply bL;first|refine LI a7 0 LC ?_|refine LI a7 1 LC ?_|refine LI a7 2 LC ?_|refine LI a7 3 LC ?_|refine LJ a7 0 LC ?_|refine LJ a7 1 LC ?_|refine LJ a7 2 LC ?_|refine LL a7 1 LA (by assumption) rfl ?_|refine LL a7 0 LA (by assumption) rfl ?_|fail)|refine bc rfl rfl rfl (fun _=>?_) (fun _=>?_))
  all_goals first
   | exact K _ _ rfl rfl (by clear K;unfold qF;grind)
   | (refine bi (hc:=⟨wn d.Region d.Point (fU g.Deltas i).1 (fU g.Deltas i).2⟩) ?_)
  repeat' (first|refine aa ?_|refine LF a7 I9 ?_|refine LN I9 ?_)
  all_goals exact K _ _ rfl rfl (by clear K;unfold qF;grind)
 ·rw [if_pos h5]
  repeat' (first|refine ae ?_|refine a6 ?_|refine aq ?_|refine a8 ?_|refine aC ?_|refine aQ ?_|refine aa ?_|refine LF a7 I9 ?_)
  exact LM I9 ⟨rfl,fun e=>absurd e (by decide)⟩
 rw [if_neg h5]
 repeat' (first|refine ae ?_|refine a6 ?_|refine au ?_|refine aq ?_|refine a8 ?_|refine aM ?_|refine aa ?_|refine LF a7 I9 ?_|(apply aK;first|refine LH 8 a7 0 LE ?_|refine LH 8 a7 1 LE ?_|refine LH 8 a7 2 LE ?_|refine LG a7 0 LD ?_|refine LG a7 1 LD ?_|refine LG a7 2 LD ?_|refine LG a7 3 LD ?_|fail))
 refine LM I9 ⟨rfl,fun e=>?_⟩
 rfl
set_option maxHeartbeats 2000000 in
theorem zN (f:aV) (g:bf) (name:Int):bH Tryz.prog 109 [cD f,.agg (bj g),aH name] (aH (nN f g name)):=by
 refine aP Tryz.func109 rfl Tryz.ntmps109 rfl fun B=>?_
 repeat' (first|refine ae ?_|refine a6 ?_|refine a8 ?_|refine aa ?_|refine LF a7 I9 ?_|refine bo ?_|fail)
 refine bI 30 [(0,.v),(1,.v),(2,.v),(3,.v),(4,.v),(5,.v),(6,.v),(7,.v),(8,.v),(9,.v),(12,.v),(13,.v),(14,.v),(15,.v),(16,.v),(17,.v),(18,.v),(19,.v),(20,.v),(23,.v),(10,.e),(11,.v),(21,.e),(22,.v),(24,.v),(25,.e),(26,.v),(27,.v),(28,.v),(29,.v)] none ?_ trivial rfl (by kernel_rfl) (by kernel_rfl) (by kernel_rfl) mixed (by kernel_rfl) rfl
 repeat' (first|refine aF ?_|refine b9 a7 ?_|(apply du;refine dT ?_)|fail)
 refine lf [] [] (we g.Mark) rfl rfl (Ll _) trivial fun c L1 ⟨m,hc,hL⟩=>?_
 subst hc;subst hL
 repeat' (first|refine aF ?_|(apply du;refine dT ?_)|fail)
 refine lf [] _ (zC (f.Regions.map bT).length (g.Points.map dw).length) rfl rfl (Ll _) trivial fun c L1 ⟨b,hc,hL⟩=>?_
 subst hc;subst hL
 repeat' (first|refine aF ?_|(apply du;refine dT ?_)|refine dX a7 ?_|fail)
 refine lf (L:=[(b,.box [aH 0,aH 0] 364),(m,i7 fun _ _=>none)]) _ [] (jk [⟨173,[.iptr [aH name]],[],name,0⟩,⟨174,[.iptr (bj g)],[],iK g,0⟩,⟨247,[.iptr [.imm 3 (g.Parts.map er)],.iptr [aH 8],.iptr [.fn 177 [.iptr (c6 f)]]],[],(cg 8 g.Parts (lI f)).1,(cg 8 g.Parts (lI f)).2⟩,⟨249,[.iptr [.imm 4 (g.Anchors.map cY)],.iptr [aH 16],.iptr [.fn 251 [.iptr [cQ g.Mark],.iptr [.sc (.map (some m))]]]],[(m,i7 fun _ _=>none)],(cg 16 g.Anchors (lU g)).1,(cg 16 g.Anchors (lU g)).2⟩,⟨252,[.iptr [.imm 4 (g.Deltas.map dZ)],.iptr [aH 400],.iptr [.fn 254 [.iptr [aH (f.Regions.map bT).length],.iptr [aH (g.Points.map dw).length],.sc (.pointer (some ⟨b,0,none⟩))]]],[(b,.box [aH 0,aH 0] 364)],(cg 400 g.Deltas (rK f g)).1,(cg 400 g.Deltas (rK f g)).2⟩,⟨183,[.iptr (bj g)],[],n4 g.Hint,0⟩] ?_) rfl rfl (List.Perm.swap ..) trivial fun c L1 hc=>?_
 ·refine ⟨⟨inferInstance,wK name⟩,fun _=>⟨⟨inferInstance,wL g⟩,fun _=>⟨⟨inferInstance,FQ rfl g.Parts 8 _ (fun _ _=>True) [] trivial (fun _=>dh fun i x _=>wM f i x)⟩,fun _=>⟨⟨inferInstance,FR rfl g.Anchors 16 (fY g.Anchors (lU g)) (fun i L=>L=[(m,i7 (nU (g.Anchors.take i)))]) _ (by rw [List.take_zero,CM]) ?_⟩,fun _=>⟨⟨inferInstance,FS rfl g.Deltas 400 (fY g.Deltas (rK f g)) (fun i L=>L=[(b,.box [aH (fU g.Deltas i).1,aH (fU g.Deltas i).2] 364)]) _ rfl ?_⟩,fun _=>⟨⟨inferInstance,wN g⟩,fun _=>trivial⟩⟩⟩⟩⟩⟩
  ·intro _ i x L hx hL
   subst hL
   rw [ip hx]
   exact wd g i x hx m
  ·intro _ i x L hx hL
   subst hL
   rw [ip hx]
   exact zB f g i x hx _ _ (by rw [Lr]) (by rw [Lr]) b
 ·rw [jX] at hc
  subst hc
  unfold cm
  repeat' (first|refine aF ?_|refine b9 a7 ?_|fail)
  refine LP [7,37] I9 ?_
  repeat' (first|refine ae ?_|refine a6 ?_|refine aq ?_|refine a8 ?_|refine aa ?_|refine LF a7 I9 ?_)
  exact LK LA
instance (f:aV) (g:bf) (name:Int):AD Tryz.prog 109 [cD f,.agg (bj g),aH name] (aH (nN f g name)):=⟨zN f g name⟩
set_option maxRecDepth 8000
section
variable {P:Program} {l:List Oper} {fr:bY} {fin:lz} {sk:nq} {acc:bY} {L:AL} {k:Nat} {dd:Option Tmp} {ty t:TypeId} {pos:String} {af:Array Edge} {g:Option (Nat×Bool)} {x y:Operand}
theorem mC (i:Nat) (v0:Value) {b kt et:Nat} {kd:TypeDesc} {q:Value} {m:Value→Option AV} (ht:P.underlying t=some (.map kt et)) (hkt:P.underlying kt=some kd) (hx:br (cL l.toArray acc fr af.toList) x=some (.sc (.map (some b)))) (hy:br (cL l.toArray acc fr af.toList) y=some (.sc q)) (hk:MapKept.IsKey kd q) (hL:L[i]?=some (b,ca kd m)) (hz:l9 P et v0=true) (hg:jb ⟨dd,.lookup t x y false,ty,pos,af,g⟩ acc) (h:DA P l fr fin sk ((k,(m q).getD (.sc v0))::acc) L):
  cz P l fr fin k .e ⟨dd,.lookup t x y false,ty,pos,af,g⟩ sk acc L:=
 iZ hg (fun B=>jh i ht hkt hx hy hk hL (g7 hz) fun _=> .sc _) fun c L' ⟨h1,h2⟩=>by subst h1;subst h2;exact h
end
def uF (f:aV) (c:cR) (late:Bool):Int:=if c.Rune < 0∨c.Rune > 1114111 then 1 else if kS f c.Glyph=false then 32 else dY late 24
theorem BZ (f:aV) (c:cR) (late:Bool):bH Tryz.prog 116 [cD f,.agg (dc c),cQ late] (aH (uF f c late)):=by
 refine aP Tryz.func116 rfl Tryz.ntmps116 rfl fun B=>?_
 unfold uF
 repeat' (first|refine ae ?_|refine a6 ?_|refine am ?_|refine a8 ?_|refine aa ?_|refine LF a7 I9 ?_|refine bo ?_|fail)
 refine cN [2,3,4] (c.Rune < 0∨c.Rune > 1114111) rfl (fun Q' K=>?_) (fun hC=>?_) (fun hC=>?_)
 ·repeat' (first|refine aa ?_|refine LF a7 I9 ?_|refine LN I9 ?_|refine LO LB ?_|refine bc rfl rfl rfl (fun _=>?_) (fun _=>?_))
  all_goals exact K _ _ rfl rfl (by clear K;grind)
 ·rw [if_pos hC]
  repeat' (first|refine ae ?_|refine a6 ?_|refine aq ?_|refine a8 ?_|refine aC ?_|refine aQ ?_|refine aa ?_|refine LF a7 I9 ?_)
  exact LK LA
 rw [if_neg hC]
 repeat' (first|refine ae ?_|refine a6 ?_|refine a8 ?_|refine aa ?_|refine LF a7 I9 ?_|(apply bw;refine bi ?_)|fail)
 refine ay rfl (fun h=>?_) (fun h=>?_)
 ·rw [if_pos (by simpa using h)]
  repeat' (first|refine ae ?_|refine a6 ?_|refine aq ?_|refine a8 ?_|refine aC ?_|refine aQ ?_|refine aa ?_|refine LF a7 I9 ?_)
  exact LK LA
 rw [if_neg (by simpa using h)]
 repeat' (first|refine ae ?_|refine a6 ?_|refine au ?_|refine aq ?_|refine a8 ?_|refine aM ?_|refine aa ?_|refine LF a7 I9 ?_|(apply bw;refine bi ?_)|fail)
 exact LK LA
instance (f:aV) (c:cR) (late:Bool):AD Tryz.prog 116 [cD f,.agg (dc c),cQ late] (aH (uF f c late)):=⟨BZ f c late⟩
def yi (f:aV) (i:Nat) (c:cR):Bool:=match i with | 0=>false | j+1=>match f.Chars[j]? with | some b=>decide (c.Rune≤b.Rune) | none=>false
def ie (f:aV) (i:Nat) (c:cR):Int:=uF f c (yi f i c)
theorem zn (f:aV) (i:Nat) (c:cR) (hc:f.Chars[i]?=some c) (hm:(f.Chars.length:Int)≤1000):bH Tryz.prog 115 [aH i,.agg (dc c),.iptr (c6 f)] (aH (ie f i c)):=by
 refine aP Tryz.func115 rfl Tryz.ntmps115 rfl fun B=>?_
 have hil:=(Lm hc).1
 unfold ie
 cases i with
 | zero=>
  repeat' (first|refine ae ?_|refine a6 ?_|refine a8 ?_|refine aa ?_|refine LF a7 I9 ?_|refine bo ?_|fail)
  refine bI 17 [(0,.v),(1,.v),(2,.v),(3,.v),(4,.v),(5,.v),(6,.v),(7,.v),(8,.v),(9,.v),(10,.v),(11,.v),(12,.v),(13,.v),(14,.v),(15,.v),(16,.v)] none ?_ trivial rfl (by kernel_rfl) (by kernel_rfl) (by kernel_rfl) mixed (by kernel_rfl) rfl
  repeat' (first|refine aF ?_|refine b9 a7 ?_|(apply du;refine dT ?_)|refine qj rfl rfl ?_)
  refine LP [22] I9 ?_
  repeat' (first|refine aq ?_|refine a8 ?_|refine aa ?_|refine LF a7 I9 ?_)
  exact LK LA
 | succ j=>
  obtain ⟨b,hb⟩:∃b,f.Chars[j]?=some b:=⟨_,Lz (by omega)⟩
  have hbg:(f.Chars.map dc)[(((j+1:Nat):Int) - 1).toNat]?=some (dc b):=by rw [show (((j+1:Nat):Int) - 1).toNat=j by omega];exact c7 hb
  have hl:yi f (j+1) c=decide (c.Rune≤b.Rune):=by simp [yi,hb]
  have hpos:decide (0 < ((j+1:Nat):Int))=true:=decide_eq_true (by omega)
  rw [hl]
  repeat' (first|refine ae ?_|refine a6 ?_|refine a8 ?_|refine aa ?_|refine LF a7 I9 ?_|refine bo ?_|fail)
  refine bI 17 [(0,.v),(1,.v),(2,.v),(3,.v),(4,.v),(5,.v),(6,.v),(7,.v),(8,.v),(9,.v),(10,.v),(11,.v),(12,.v),(13,.v),(14,.v),(15,.v),(16,.v)] none ?_ trivial rfl (by kernel_rfl) (by kernel_rfl) (by kernel_rfl) mixed (by kernel_rfl) rfl
  repeat' (first|refine aF ?_|refine b9 a7 ?_|fail)
  rw [hpos]
  repeat' (first|refine aF ?_|refine b9 a7 ?_|(apply eA;refine fX ?_)|(apply cE;refine d5 a7 ?_)|(apply du;refine dT ?_)|fail)
  refine LP [22] I9 ?_
  repeat' (first|refine aq ?_|refine a8 ?_|refine aa ?_|refine LF a7 I9 ?_)
  exact LK LA
def uB (a:ey) (name:Int):Int:=if name≠0 then name else dY (!(decide ([a.Min,a.Def,a.Max].all gj=true∧a.Min≤a.Def∧a.Def≤a.Max))) 60
theorem BN (a:ey) (name:Int):bH Tryz.prog 126 [.agg (cG a),aH name] (aH (uB a name)):=by
 refine aP Tryz.func126 rfl Tryz.ntmps126 rfl fun B=>?_
 unfold uB
 repeat' (first|refine ae ?_|refine a6 ?_|refine a8 ?_|refine aa ?_|refine LF a7 I9 ?_|refine bo ?_|fail)
 refine ay rfl (fun h=>?_) (fun h=>?_)
 ·rw [if_pos (Ly h)]
  repeat' (first|refine ae ?_|refine a6 ?_|refine aq ?_|refine a8 ?_|refine aC ?_|refine aa ?_|refine LF a7 I9 ?_)
  exact LK LA
 rw [if_neg (Lw h)]
 repeat' (first|refine ae ?_|refine a6 ?_|refine au ?_|refine a8 ?_|refine LF a7 I9 ?_|refine bS a7 ?_|(apply bw;refine bi ?_)|fail)
 refine dx (t:=5) [] ([a.Min,a.Def,a.Max].all gj=true∧a.Min≤a.Def∧a.Def≤a.Max) rfl (fun Q' K=>?_) ?_
 ·repeat' (first|refine aa ?_|refine LF a7 I9 ?_|refine LN I9 ?_|refine LO LB ?_|refine bc rfl rfl rfl (fun _=>?_) (fun _=>?_))
  all_goals exact K _ _ rfl rfl (by clear K;grind)
 repeat' (first|refine ae ?_|refine a6 ?_|refine aq ?_|refine a8 ?_|refine aa ?_|refine LF a7 I9 ?_|(apply bw;refine bi ?_)|fail)
 exact LK LA
instance (a:ey) (name:Int):AD Tryz.prog 126 [.agg (cG a),aH name] (aH (uB a name)):=⟨BN a name⟩
def sV (_:Nat) (t:f5):Int:=dY (decide (¬(-64≤t.Start∧t.Start≤t.Peak∧t.Peak≤t.End∧t.End≤64)∨(t.Start < 0∧t.End > 0∧t.Peak≠0))) 61
set_option maxHeartbeats 1000000 in
theorem DY (i:Nat) (t:f5):bH Tryz.prog 209 [aH i,.agg (kj t)] (aH (sV i t)):=by
 refine aP Tryz.func209 rfl Tryz.ntmps209 rfl fun B=>?_
 repeat' (first|refine ae ?_|refine a6 ?_|refine a8 ?_|refine aa ?_|refine LF a7 I9 ?_|refine bo ?_|fail)
 refine dx (t:=5) [3] (-64≤t.Start∧t.Start≤t.Peak∧t.Peak≤t.End∧t.End≤64) rfl (fun Q' K=>?_) ?_
 ·repeat' (first|refine aa ?_|refine LF a7 I9 ?_|refine LN I9 ?_|refine LO LB ?_|refine bc rfl rfl rfl (fun _=>?_) (fun _=>?_))
  all_goals exact K _ _ rfl rfl (by clear K;grind)
 repeat' (first|refine ae ?_|refine a6 ?_|refine a8 ?_|refine LF a7 I9 ?_)
 refine dx (t:=6) [5] (t.Start < 0∧t.End > 0∧t.Peak≠0) rfl (fun Q' K=>?_) ?_
 ·repeat' (first|refine aa ?_|refine LF a7 I9 ?_|refine LN I9 ?_|refine LO LB ?_|refine bc rfl rfl rfl (fun _=>?_) (fun _=>?_))
  all_goals exact K _ _ rfl rfl (by clear K;grind)
 have ht:sV i t=dY (!(decide (-64≤t.Start∧t.Start≤t.Peak∧t.Peak≤t.End∧t.End≤64)) || decide (t.Start < 0∧t.End > 0∧t.Peak≠0)) 61:=by unfold sV;rw [Bool.decide_or,decide_not]
 rw [ht]
 generalize decide (-64≤t.Start∧t.Start≤t.Peak∧t.Peak≤t.End∧t.End≤64)=p
 generalize decide (t.Start < 0∧t.End > 0∧t.Peak≠0)=q
 cases p <;> cases q
 all_goals
  repeat' (first|refine ae ?_|refine a6 ?_|refine aq ?_|refine a8 ?_|refine aa ?_|refine LF a7 I9 ?_|refine LN I9 ?_|refine LO LB ?_|(apply bw;refine bi ?_)|fail)
  exact LK LA
def Ao (axes:Int) (r:List f5):Int:=if (r.length:Int)≠axes then 61 else (d9 r sV).1
theorem xg (r:List f5) (axes:Int):bH Tryz.prog 129 [.agg (bT r),aH axes] (aH (Ao axes r)):=by
 refine aP Tryz.func129 rfl Tryz.ntmps129 rfl fun B=>?_
 unfold Ao
 repeat' (first|refine ae ?_|refine a6 ?_|refine a8 ?_|refine aa ?_|refine LF a7 I9 ?_|refine bo ?_|fail)
 rw [Lr]
 refine ay rfl (fun h=>?_) (fun h=>?_)
 ·rw [if_pos (Ly h)]
  repeat' (first|refine ae ?_|refine a6 ?_|refine aq ?_|refine a8 ?_|refine aC ?_|refine aa ?_|refine LF a7 I9 ?_)
  exact LK LA
 rw [if_neg (Lw h)]
 repeat' (first|refine ae ?_|refine a6 ?_|refine au ?_|refine a8 ?_|refine LF a7 I9 ?_)
 refine bh [] [] (ES (u:= .sc (.func (.func 209) #[] #[])) (g:=209) (caps:=[]) rfl r _ (fun _ _=>True) [] trivial (dh (fun i x _=>DY i x))) rfl rfl (Ll _) rfl fun c L1 hc=>?_
 have hc:c=cm (d9 r sV):=hc
 subst hc
 unfold cm
 repeat' (first|refine ae ?_|refine a6 ?_|refine aq ?_|refine a8 ?_|refine aa ?_|refine LF a7 I9 ?_)
 exact LK LA
instance (r:List f5) (axes:Int):AD Tryz.prog 129 [.agg (bT r),aH axes] (aH (Ao axes r)):=⟨xg r axes⟩
theorem vE (f:aV) (i:Nat) (r:List f5):bH Tryz.prog 128 [aH i,.agg (bT r),.iptr (c6 f)] (aH (Ao f.Axes.length r)):=by
 refine aP Tryz.func128 rfl Tryz.ntmps128 rfl fun B=>?_
 repeat' (first|refine ae ?_|refine a6 ?_|refine aq ?_|refine a8 ?_|refine aa ?_|refine LF a7 I9 ?_|refine bo ?_|(apply bw;refine bi ?_)|fail)
 rw [Lr]
 repeat' (first|fail)
 exact LK LA
theorem zp (i:Nat) (l:List eG):bH Tryz.prog 131 [aH i,.imm 2 (l.map dO)] (aH (n4 l)):=by
 refine aP Tryz.func131 rfl Tryz.ntmps131 rfl fun B=>?_
 repeat' (first|refine ae ?_|refine a6 ?_|refine aq ?_|refine a8 ?_|refine aa ?_|refine LF a7 I9 ?_|(apply bw;refine bi ?_)|fail)
 exact LK LA
def C3 (_:Nat) (n:Int):Int:=dY (!([n].all gj)) 1
theorem C1 (i:Nat) (n:Int):bH Tryz.prog 134 [aH i,aH n] (aH (C3 i n)):=by
 refine aP Tryz.func134 rfl Tryz.ntmps134 rfl fun B=>?_
 repeat' (first|refine ae ?_|refine a6 ?_|refine aq ?_|refine a8 ?_|refine aa ?_|refine LF a7 I9 ?_|refine bS a7 ?_|(apply bw;refine bi ?_)|fail)
 exact LK LA
def kp (f:aV):Int:=if f.Unit < 16∨f.Unit > 4096 then 1 else if f.Glyphs.length=0 then 32 else 0
theorem Cq (f:aV):bH Tryz.prog 106 [cD f] (aH (kp f)):=by
 refine aP Tryz.func106 rfl Tryz.ntmps106 rfl fun B=>?_
 unfold kp
 repeat' (first|refine ae ?_|refine a6 ?_|refine am ?_|refine a8 ?_|refine aa ?_|refine LF a7 I9 ?_|refine bo ?_|fail)
 refine cN [1] (f.Unit < 16∨f.Unit > 4096) rfl (fun Q' K=>?_) (fun hC=>?_) (fun hC=>?_)
 ·repeat' (first|refine aa ?_|refine LF a7 I9 ?_|refine LN I9 ?_|refine LO LB ?_|refine bc rfl rfl rfl (fun _=>?_) (fun _=>?_))
  all_goals exact K _ _ rfl rfl (by clear K;grind)
 ·rw [if_pos hC]
  repeat' (first|refine ae ?_|refine a6 ?_|refine aq ?_|refine a8 ?_|refine aC ?_|refine aQ ?_|refine aa ?_|refine LF a7 I9 ?_)
  exact LK LA
 rw [if_neg hC]
 repeat' (first|refine ae ?_|refine a6 ?_|refine a8 ?_|refine aa ?_|refine LF a7 I9 ?_)
 rw [Lr]
 refine ay rfl (fun h=>?_) (fun h=>?_)
 ·rw [if_pos (by have:=Ly h;omega)]
  repeat' (first|refine ae ?_|refine a6 ?_|refine aq ?_|refine a8 ?_|refine aC ?_|refine aQ ?_|refine aa ?_|refine LF a7 I9 ?_)
  exact LK LA
 rw [if_neg (by have:=Lw h;omega)]
 repeat' (first|refine ae ?_|refine a6 ?_|refine au ?_|refine aq ?_|refine a8 ?_|refine aM ?_|refine aa ?_|refine LF a7 I9 ?_)
 exact LK LA
instance (f:aV):AD Tryz.prog 106 [cD f] (aH (kp f)):=⟨Cq f⟩
theorem zP (f:aV):bH Tryz.prog 105 [.iptr (c6 f)] (cm (kp f,0)):=by
 refine aP Tryz.func105 rfl Tryz.ntmps105 rfl fun B=>?_
 repeat' (first|refine ae ?_|refine a6 ?_|refine aq ?_|refine a8 ?_|refine aa ?_|refine LF a7 I9 ?_|(apply bw;refine bi ?_)|fail)
 exact LR LB
end Go.Proofs.YtamjlkdanllgjaaGreatDoor
namespace Go.Proofs.YtamjlkdanllgjaaGreatDoor
open Go.RowKit
section
variable {P:Program} {tt:TT} {l:List Oper} {fr:bY} {fin:lz} {sk:nq} {acc:bY} {L:AL} {k:Nat} {dd:Option Tmp} {ty t t':TypeId} {pos:String} {af:Array Edge} {g:Option (Nat×Bool)} {x y:Operand} {u:AV}
theorem df (ok:ej P tt) {e sz by_ b off n cap:Nat} {q:IntKind} {i:Int} (ht:kz tt t=some (e,sz,by_)) (hx:br (cL l.toArray acc fr af.toList) x=some (.sc (.slice (some ⟨b,off,none⟩) n cap))) (hy:br (cL l.toArray acc fr af.toList) y=some (.sc (.int q i))) (h0:0≤i∧i < n) (hg:jb ⟨dd,.indexAddr t x y,ty,pos,af,g⟩ acc) (h:DA P l fr fin sk ((k,.sc (.pointer (some ⟨b,off+i.toNat * sz,none⟩)))::acc) L):
  cz P l fr fin k .v ⟨dd,.indexAddr t x y,ty,pos,af,g⟩ sk acc L:=gC hg (fun _ _=>(um (bC ok ht).1 hx hy h0).ao) h
theorem uL (ok:ej P tt) (i:Nat) {b q n:Nat} {cs ys:List AV} {e:TypeId} (ht:FX tt t=some n) (hx:br (cL l.toArray acc fr af.toList) x=some (.sc (.pointer (some ⟨b,q,none⟩)))) (hy:br (cL l.toArray acc fr af.toList) y=some u) (hu:u.cells=some ys) (hL:L[i]?=some (b,.box cs e)) (hn:Nat.beq ys.length n=true) (hk:Nat.ble (q+n) cs.length=true) (hg:jb ⟨dd,.store t x y,ty,pos,af,g⟩ acc) (h:∀c,DA P l fr fin sk ((k,c)::acc) (fJ L i (.box (eN cs q ys) e))):
  cz P l fr fin k .e ⟨dd,.store t x y,ty,pos,af,g⟩ sk acc L:=iZ hg (fun _=>pP i (rt ok ht) hx hy hu hL hn hk) fun c L' h1=>by subst h1;exact h c
theorem uK {v:Value} (ht:gT P t=true) (hx:br (cL l.toArray acc fr af.toList) x=some (.sc (.iface t v))) (hg:jb ⟨dd,.typeAssert x t' t false,ty,pos,af,g⟩ acc) (h:DA P l fr fin sk ((k,.sc v)::acc) L):cz P l fr fin k .v ⟨dd,.typeAssert x t' t false,ty,pos,af,g⟩ sk acc L:=
 gC hg (fun _ _=>(ul ht hx).ao) h
theorem zt (ok:ej P tt) (i:Nat) {e by_ b n cap:Nat} {cs:List AV} {c:AV} (ht:kz tt t=some (e,1,by_)) (hz:zI tt e=some [.int .i64 0]) (hx:br (cL l.toArray acc fr af.toList) x=some (.sc (.slice (some ⟨b,0,none⟩) n cap))) (hy:br (cL l.toArray acc fr af.toList) y=some u) (hu:iE u=some (1,[[c]])) (hL:L[i]?=some (b,.box cs e)) (hcl:cs.length=cap) (hn:n≤cap) (h63:n+1≤9223372036854775807) (hby:(n+1) * by_≤140737488355328) (hg:jb ⟨dd,.call ⟨.builtin .append,#[x,y],#[t,t]⟩,ty,pos,af,g⟩ acc)
  (h:∀b' cs',cs'.take (n+1)=cs.take n++[c]→n+1≤cs'.length→DA P l fr fin sk ((k,.sc (.slice (some ⟨b',0,none⟩) (n+1) cs'.length))::acc) ((b',.box cs' e)::L.eraseIdx i)):
  cz P l fr fin k .e ⟨dd,.call ⟨.builtin .append,#[x,y],#[t,t]⟩,ty,pos,af,g⟩ sk acc L:=
 iZ hg (fun _=>pL i (bC ok ht).1 (ew ok hz) hx hy (cO hu) hL hcl hn h63 hby) fun q L' ⟨b',cs',h1,h2,h3,h4⟩=>by subst h1;subst h4;exact h b' cs' h2 h3
theorem zw (ok:ej P tt) {e by_:Nat} {c:AV} (ht:kz tt t=some (e,1,by_)) (hz:zI tt e=some [.int .i64 0]) (hx:br (cL l.toArray acc fr af.toList) x=some (.sc (.slice none 0 0))) (hy:br (cL l.toArray acc fr af.toList) y=some u) (hu:iE u=some (1,[[c]])) (hby:Nat.ble by_ 140737488355328=true) (hg:jb ⟨dd,.call ⟨.builtin .append,#[x,y],#[t,t]⟩,ty,pos,af,g⟩ acc)
  (h:∀b' cs',cs'.take 1=[c]→1≤cs'.length→DA P l fr fin sk ((k,.sc (.slice (some ⟨b',0,none⟩) 1 cs'.length))::acc) ((b',.box cs' e)::L)):
  cz P l fr fin k .e ⟨dd,.call ⟨.builtin .append,#[x,y],#[t,t]⟩,ty,pos,af,g⟩ sk acc L:=
 iZ hg (fun _=>pM (bC ok ht).1 (ew ok hz) hx hy (cO hu) (Nat.ble_eq .. ▸hby)) fun q L' ⟨b',cs',h1,h2,h3,h4⟩=>by subst h1;subst h4;exact h b' cs' h2 h3
end
def Gt (P:Program) (t:TypeId) (name:String) (f:FuncId) (ptr:Bool) (e:TypeId):Bool:=(match P.underlying t with | some (.pointer e')=>Nat.beq e' e | _=>false) && match P.info? t with
 | some ti=>match ti.methods.find? (·.name==name) with
  | some m=>m.path.isEmpty && (match m.func with | some (f',p')=>Nat.beq f' f && (p'==ptr) | none=>false)
  | none=>false
 | none=>false
theorem iH {P:Program} {t:TypeId} {name:String} {f:FuncId} {ptr:Bool} {e:TypeId} (h:Gt P t name f ptr e=true):ml P t name f ptr e:=by
 unfold Gt at h
 rw [Bool.and_eq_true] at h
 obtain ⟨h1,h2⟩:=h
 split at h1
 ·rename_i e' hu
  rw [Nat.beq_eq] at h1
  subst h1
  split at h2
  ·rename_i ti hti
   split at h2
   ·rename_i m hm
    rw [Bool.and_eq_true] at h2
    obtain ⟨h3,h4⟩:=h2
    split at h4
    ·rename_i f' p' hf
     rw [Bool.and_eq_true,Nat.beq_eq,beq_iff_eq] at h4
     refine ⟨hu,ti,m,hti,hm,?_,by rw [hf,h4.1,h4.2]⟩
     simpa using h3
    ·cases h4
   ·cases h2
  ·cases h2
 ·cases h1
end Go.Proofs.YtamjlkdanllgjaaGreatDoor
namespace Go.Proofs.YtamjlkdanllgjaaGreatDoor
open Go.RowKit Go.MapKept
section
variable {P:Program} {fr:bY} {B:Bs} {L:AL}
theorem AO.as {o:Oper} {a b:AV} (h:AO P o fr B L (fun c L'=>c=a∧L'=L)) (hv:∀σ v,VR σ a v→VR σ b v):AO P o fr B L (fun c L'=>c=b∧L'=L):=
 fun σ ρ w hρ hw=>(h σ ρ w hρ hw).mono fun _ _ ⟨τ,c,L',h1,h2,h3,h4,h5⟩=>⟨τ,b,L',h1,hv τ _ (by rw [←h4];exact h2),h3,rfl,h5⟩
end
section
variable {P:Program} {tt:TT} {l:List Oper} {fr:bY} {fin:lz} {sk:nq} {acc:bY} {L:AL} {k:Nat} {dd:Option Tmp} {ty t t':TypeId} {pos:String} {af:Array Edge} {g:Option (Nat×Bool)} {x y z:Operand} {u:AV}
theorem zy (i:Nat) (v0:Value) (a:AV) {b kt et:Nat} {kd:TypeDesc} {q:Value} {m:Value→Option AV} (ht:P.underlying t=some (.map kt et)) (hkt:P.underlying kt=some kd) (hx:br (cL l.toArray acc fr af.toList) x=some (.sc (.map (some b)))) (hy:br (cL l.toArray acc fr af.toList) y=some (.sc q)) (hk:IsKey kd q) (hL:L[i]?=some (b,ca kd m)) (hz:l9 P et v0=true) (ha:∀σ v,VR σ ((m q).getD (.sc v0)) v→VR σ a v) (hg:jb ⟨dd,.lookup t x y false,ty,pos,af,g⟩ acc) (h:DA P l fr fin sk ((k,a)::acc) L):
  cz P l fr fin k .e ⟨dd,.lookup t x y false,ty,pos,af,g⟩ sk acc L:=
 iZ hg (fun B=>(jh i ht hkt hx hy hk hL (g7 hz) fun _=> .sc _).as ha) fun c L' ⟨h1,h2⟩=>by subst h1;subst h2;exact h
theorem fg (ok:ej P tt) (L0:AL) {e sz by_:Nat} {q:Option (Nat×Nat)} {l1 l2:List (List AV)} (ht:kz tt t=some (e,sz,by_)) (hx:br (cL l.toArray acc fr af.toList) x=some (.vec q sz l1)) (hy:br (cL l.toArray acc fr af.toList) y=some u) (hu:iE u=some (sz,l2)) (hL:L.Perm (tok q e sz l1.length++L0)) (h63:l1.length+l2.length≤9223372036854775807) (hby:(l1.length+l2.length) * by_≤140737488355328) (hg:jb ⟨dd,.call ⟨.builtin .append,#[x,y],#[t,t]⟩,ty,pos,af,g⟩ acc)
  (h:∀k',DA P l fr fin sk ((k,.vec k' sz (l1++l2))::acc) (tok k' e sz (l1++l2).length++L0)):
  cz P l fr fin k .e ⟨dd,.call ⟨.builtin .append,#[x,y],#[t,t]⟩,ty,pos,af,g⟩ sk acc L:=
 iZ hg (fun _=>ny L0 (bC ok ht).1 (bC ok ht).2 hx hy (cO hu) hL h63 hby) fun c L' ⟨k',h1,h2⟩=>by subst h1;subst h2;exact h k'
end
section
variable {P:Program} {r:Option Nat} {ops:Array Oper} {Q:Exit→Act→World→Prop} {nt:Nat} {D:List Deferred} {fr:bY} {B:Bs} {L:AL} {rest:List Oper} {d:Nat} {ty t:TypeId} {pos:String} {af:Array Edge} {x y z:Operand} {u:AV}
theorem jq (i:Nat) (v0:Value) (a:AV) {b kt et:Nat} {kd:TypeDesc} {k:Value} {m:Value→Option AV} (ht:P.underlying t=some (.map kt et)) (hkt:P.underlying kt=some kd) (hx:br fr x=some (.sc (.map (some b)))) (hy:br fr y=some (.sc k)) (hk:IsKey kd k) (hL:L[i]?=some (b,ca kd m)) (hz:l9 P et v0=true) (ha:∀σ v,VR σ ((m k).getD (.sc v0)) v→VR σ a v) (hd:Nat.ble nt d=false)
  (h:bB P r ops Q nt D rest ((d,a)::fr) B L):bB P r ops Q nt D (⟨some d,.lookup t x y false,ty,pos,af,none⟩::rest) fr B L:=
 cj hd rfl ((jh i ht hkt hx hy hk hL (g7 hz) fun _=> .sc _).as ha) fun c L' ⟨h1,h2⟩=>by subst h1;subst h2;exact h
end
noncomputable def nV (m:Value→Option AV) (k:Value) (c:AV):Value→Option AV:=fun q=>open Classical in if q=k then some c else m q
theorem jo {m:Value→Option AV} {k:Value} {c:AV}:nV m k c k=some c:=by simp [nV]
theorem iI {m:Value→Option AV} {k:Value} {c:AV} (q:Value) (h:q≠k):nV m k c q=m q:=by simp [nV,h]
def nv (m:Value→Option AV) (M:Int→Int):Prop:=∀z,m (.int .i64 z)=none∧M z=0∨m (.int .i64 z)=some (.sc (.int .i64 (M z)))
theorem nv.at {m:Value→Option AV} {M:Int→Int} (h:nv m M) (z:Int):∀(σ:cf) (v:Value),VR σ ((m (.int .i64 z)).getD (.sc (.int .i64 0))) v→VR σ (.sc (.int .i64 (M z))) v:=by
 intro σ v hv
 rcases h z with ⟨h1,h2⟩ | h1
 ·rw [h1] at hv;rw [h2];exact hv
 ·rw [h1] at hv;exact hv
theorem nv.put {m:Value→Option AV} {M:Int→Int} (h:nv m M) (z c:Int):nv (nV m (.int .i64 z) (.sc (.int .i64 c))) fun q=>if q=z then c else M q:=by
 intro q
 by_cases e:q=z
 ·subst e;simp only [if_true,jo];exact .inr trivial
 ·simp only [if_neg e];rw [iI _ (by intro h;injection h with _ h;exact e h)];exact h q
def pB (m:Value→Option AV) (K:Int→Option (Nat×Nat)) (U:Int→List Int):Prop:=∀z,(m (.int .i64 z)=none∧U z=[]∧K z=none)∨m (.int .i64 z)=some (.vec (K z) 1 (aO (U z)))
theorem pB.at {m:Value→Option AV} {K:Int→Option (Nat×Nat)} {U:Int→List Int} (h:pB m K U) (z:Int):∀(σ:cf) (v:Value),VR σ ((m (.int .i64 z)).getD (.sc (.slice none 0 0))) v→VR σ (.vec (K z) 1 (aO (U z))) v:=by
 intro σ v hv
 rcases h z with ⟨h1,h2,h3⟩ | h1
 ·rw [h1] at hv;rw [h2,h3];exact cC 1 hv
 ·rw [h1] at hv;exact hv
theorem pB.put {m:Value→Option AV} {K:Int→Option (Nat×Nat)} {U:Int→List Int} (h:pB m K U) (z:Int) (k:Option (Nat×Nat)) (l:List Int):pB (nV m (.int .i64 z) (.vec k 1 (aO l))) (fun q=>if q=z then k else K q) fun q=>if q=z then l else U q:=by
 intro q
 by_cases e:q=z
 ·subst e;simp only [if_true,jo];exact .inr trivial
 ·simp only [if_neg e]
  rw [iI _ (by intro h;injection h with _ h;exact e h)]
  exact h q
def mi (e:TypeId) (K:Int→Option (Nat×Nat)) (U:Int→List Int) (zs:List Int):AL:=zs.flatMap fun z=>tok (K z) e 1 (aO (U z)).length
theorem oa {e:TypeId} {K:Int→Option (Nat×Nat)} {U:Int→List Int}:∀{zs:List Int} {z:Int},z∈zs→(mi e K U zs).Perm (tok (K z) e 1 (aO (U z)).length++mi e K U (zs.erase z))
 | y::zs,z,h=>by
  by_cases hz:y=z
  ·subst hz
   rw [List.erase_cons_head]
   exact Ll _
  ·have hm:z∈zs:=by
    rcases List.mem_cons.1 h with h | h
    ·exact absurd h.symm hz
    ·exact h
   rw [List.erase_cons_tail (by simpa using hz)]
   have ih:=oa (e:=e) (K:=K) (U:=U) hm
   unfold mi at ih ⊢
   rw [List.flatMap_cons,List.flatMap_cons]
   refine (List.Perm.append_left _ ih).trans ?_
   rw [←List.append_assoc,←List.append_assoc]
   exact List.Perm.append_right _ List.perm_append_comm
theorem xz {e:TypeId} {K K':Int→Option (Nat×Nat)} {U U':Int→List Int} {zs:List Int} (h:∀z∈zs,K z=K' z∧U z=U' z):mi e K U zs=mi e K' U' zs:=by
 unfold mi
 induction zs with
 | nil=>rfl
 | cons z zs ih=>
  rw [List.flatMap_cons,List.flatMap_cons,ih fun y hy=>h y (Lq _ hy),(h z (List.mem_cons_self ..)).1,(h z (List.mem_cons_self ..)).2]
theorem E0 {e:TypeId} {K:Int→Option (Nat×Nat)} {U:Int→List Int} {zs:List Int} {z:Int} {k:Option (Nat×Nat)} {l:List Int} (hn:zs.Nodup) (h:z∈zs):(tok k e 1 (aO l).length++mi e K U (zs.erase z)).Perm (mi e (fun q=>if q=z then k else K q) (fun q=>if q=z then l else U q) zs):=by
 have h1:=oa (e:=e) (K:=fun q=>if q=z then k else K q) (U:=fun q=>if q=z then l else U q) h
 simp only [if_true] at h1
 refine List.Perm.trans ?_ h1.symm
 rw [xz (K:=K) (U:=U) (K':=fun q=>if q=z then k else K q) (U':=fun q=>if q=z then l else U q) fun y hy=>by
  have hne:y≠z:=fun e=>by subst e;exact (List.Nodup.not_mem_erase hn) hy
  simp only [if_neg hne]
  exact ⟨trivial,trivial⟩]
theorem B3 (e:TypeId) (U:Int→List Int) (zs:List Int):mi e (fun _=>none) U zs=[]:=by
 unfold mi tok
 induction zs with
 | nil=>rfl
 | cons z zs ih=>rw [List.flatMap_cons,ih];rfl
end Go.Proofs.YtamjlkdanllgjaaGreatDoor
namespace Go.Proofs.YtamjlkdanllgjaaGreatDoor
open Go.RowKit
section
variable {P:Program} {r:Option Nat} {ops:Array Oper} {Q:Exit→Act→World→Prop} {nt:Nat} {D:List Deferred} {fr:bY} {B:Bs} {L:AL} {cd:Code}
def pw (nt:Nat) (B:Bs) {α:Type} (Dx:α→List Deferred) (V:α→bY) (fr0:bY) (C:α→Prop) (Lx:α→AL) (μ:α→Nat) (x:α) (Q:Exit→Act→World→Prop):Exit→Act→World→Prop:=Exit.then (fun a w=>∃σ x',iN σ nt (Dx x') (V x'++fr0) a∧C x'∧cZ B σ (Lx x') w∧μ x' < μ x) Q
theorem BJ (ks:List Nat) {α:Type} (Dx:α→List Deferred) (V:α→bY) (C:α→Prop) (Lx:α→AL) (μ:α→Nat) (x0:α) {fr0:bY} (hk:fE fr ks=some fr0) (hV:lS (V x0) fr) (hD:D=Dx x0) (hC:C x0) (hL:∀σ w,cZ B σ L w→cZ B σ (Lx x0) w)
  (hb:∀x,C x→AT P r cd (pw nt B Dx V fr0 C Lx μ x Q) nt (Dx x) (V x++fr0) B (Lx x)):AT P r (.loop cd) Q nt D fr B L:=by
 intro σ a w ha hw
 subst hD
 classical
 let G:Nat→Act→World→Prop:=fun m a w=>∃σ x,iN σ nt (Dx x) (V x++fr0) a∧C x∧cZ B σ (Lx x) w∧μ x=m
 let M:Act→World→Nat:=fun a w=>if h:∃m,G m a w∧∀m',G m' a w→m≤m' then h.choose else 0
 have least:∀a w,(∃m,G m a w)→G (M a w) a w∧∀m',G m' a w→M a w≤m':=by
  rintro a w ⟨m0,hg0⟩
  have hex:∃m,G m a w∧∀m',G m' a w→m≤m':=by
   have:∀k,∀m,m≤k→G m a w→∃m,G m a w∧∀m',G m' a w→m≤m':=by
    intro k
    induction k with
    | zero=>intro m hm hg;exact ⟨m,hg,fun m' _=>by omega⟩
    | succ k ih=>
     intro m hm hg
     by_cases h:∃m',m' < m∧G m' a w
     ·obtain ⟨m',hlt,hg'⟩:=h
      exact ih m' (by omega) hg'
     ·exact ⟨m,hg,fun m' hg'=>by
       rcases Nat.lt_or_ge m' m with hlt | hge
       ·exact absurd ⟨m',hlt,hg'⟩ h
       ·exact hge⟩
   exact this m0 m0 (Nat.le_refl _) hg0
  have hM:M a w=hex.choose:=dif_pos hex
  rw [hM];exact hex.choose_spec
 refine wpIn_loop (fun a w=>∃m,G m a w) M ⟨_,σ,x0,ha.weak (mp hV (dS ks hk)),hC,hL σ w hw,rfl⟩ ?_
 intro a w hI
 obtain ⟨⟨σ',x,hx,hj,hst,hm⟩,_⟩:=least a w hI
 refine wpIn_mono (hb x hj σ' a w hx hst) ?_
 intro e a' w' hq
 cases e with
 | normal=>
  obtain ⟨τ,x',hx',hj',hst',hlt⟩:=hq
  have hg:G (μ x') a' w':=⟨τ,x',hx',hj',hst',rfl⟩
  refine ⟨⟨_,hg⟩,?_⟩
  have:=(least a' w' ⟨_,hg⟩).2 (μ x') hg
  omega
 | _=>exact hq
theorem nB {α:Type} {Dx:α→List Deferred} {V:α→bY} {fr0:bY} {C:α→Prop} {Lx:α→AL} {μ:α→Nat} {x:α} (x':α) (hk:fE fr (fr0.map (·.1))=some fr0) (hV:lS (V x') fr) (hD:D=Dx x') (hC:C x') (hm:μ x' < μ x) (hL:∀σ w,cZ B σ L w→cZ B σ (Lx x') w):
  AX P .normal (pw nt B Dx V fr0 C Lx μ x Q) nt D fr B L:=fun σ a w ha hw=>by
 subst hD
 exact ⟨σ,x',ha.weak (mp hV (dS _ hk)),hC,hL _ _ hw,hm⟩
theorem rG {α:Type} {Dx:α→List Deferred} {V:α→bY} {fr0:bY} {C:α→Prop} {Lx:α→AL} {μ:α→Nat} {x:α} {id:Nat} (h:AX P (.exit id) Q nt D fr B L):AX P (.exit id) (pw nt B Dx V fr0 C Lx μ x Q) nt D fr B L:=fun σ a w ha hw=>h σ a w ha hw
end
section
variable {nt:Nat} {D:List Deferred} {B:Bs} {fr:bY} {L:AL}
theorem sY {t b e sz n:Nat} {cs:List AV} {l:List (List AV)} (i:Nat) (hl:c8 fr t=some (.iptr [.sc (.slice (some ⟨b,0,none⟩) n n)])) (hL:L[i]?=some (b,.box cs e)) (hc:cs=l.flatten) (hs:∀q∈l,q.length=sz) (hn:l.length=n) (h63:n≤9223372036854775807):lR nt D B fr L ((t,.iptr [.imm sz l])::fr) ((b,.vec e sz n n)::L.eraseIdx i):=by
 intro σ a w ha hw0
 have hw:=hw0.perm (fy hL)
 obtain ⟨o,ho,vs,rfl,hvs,h1⟩:=hw.here _ (List.mem_cons_self ..)
 have hfree:=hw.free _ (List.mem_cons_self ..)
 have hvl:vs.length=n * sz:=by rw [←hvs.1,hc,fi l hs,hn]
 have hst:cZ B σ ((b,.vec e sz 0 n)::L.eraseIdx i) w:=by
  refine ⟨hw.os,hw.tape,hw.output,hw.size,hw.old,fun p hp=>?_,fun p hp=>?_,by simpa using hw.apart,hw.froz,fun p hp off hm=>?_,hw.grow,hw.same⟩
  ·rcases List.mem_cons.1 hp with rfl | hp'
   ·exact ⟨_,ho,_,rfl,by simp [hvl],Nat.zero_le _,by unfold maxLen;omega⟩
   ·exact hw.here p (Lq _ hp')
  ·rcases List.mem_cons.1 hp with rfl | hp'
   ·exact hw.mine (b,.box cs e) (List.mem_cons_self ..)
   ·exact hw.mine p (Lq _ hp')
  ·rcases List.mem_cons.1 hp with rfl | hp'
   ·exact hfree off trivial
   ·exact hw.free p (Lq _ hp') off hm
 obtain ⟨hst',hle⟩:=hst.freezeHead (n':=n) (xs:=vs) (fun j u hj=>by rw [d4 ho];simpa using hj) hvl (Nat.zero_le _) (Nat.le_refl _)
 refine ⟨_,?_,hst'⟩
 have hv:VR (σ.add b vs) (.vec (some (b,n)) sz l) (.slice (some ⟨b,0,none⟩) n n):=by
  have:=l7 (σ:=σ.add b vs) (b:=b) (cap:=n) hs (by rw [←hc];exact hvs.mono hle) h1 (by omega) (by unfold maxLen;omega) (fun j u hj=>cf.add_at hj)
  rwa [hn] at this
 have ha':=ha.mono hle
 refine ⟨ha'.size,ha'.defers,fun t' v' hl'=>?_⟩
 rw [ci] at hl'
 by_cases e:t=t'
 ·subst e
  simp only [if_true,Option.some.injEq] at hl'
  subst hl'
  have hp:=ha.look t _ hl
  generalize a.tmps.getD t undef=v0 at hp
  generalize hq:AV.iptr [.sc (.slice (some ⟨b,0,none⟩) n n)]=q at hp
  cases hp with
  | iptr cs2 b0 off hx h=>
   injection hq with hq
   subst hq
   refine .iptr _ b0 off (fun j hj=>?_) fun j c u hc hu=>?_
   ·obtain ⟨u,hu,h1⟩:=hx j hj
    exact ⟨u,hle _ _ _ hu,h1⟩
   ·have hj:j=0:=by
     have:=(Lm hc).1
     simp at this
     exact this
    subst hj
    simp at hc
    subst hc
    obtain ⟨u',hu',_⟩:=hx 0 (by simp)
    have h2:=hle _ _ _ hu'
    rw [hu] at h2
    injection h2 with h2
    subst h2
    rw [(h 0 _ u rfl hu').sc_inv]
    exact hv.im
  | _=>cases hq
 ·rw [if_neg e] at hl'
  exact ha'.look t' v' hl'
end
end Go.Proofs.YtamjlkdanllgjaaGreatDoor
