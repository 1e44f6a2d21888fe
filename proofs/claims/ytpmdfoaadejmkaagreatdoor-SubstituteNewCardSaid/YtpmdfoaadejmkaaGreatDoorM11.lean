/-
  The program: glyphs, as check looks at them, with anchors and deltas.
-/
import Derived.Test.YtpmdfoaadejmkaaGreatDoorM10
namespace Go.Proofs.YtpmdfoaadejmkaaGreatDoor
open Go.RowKit
section
attribute [local irreducible] AT bP AX AO Av Kt bb dh DA cG
theorem GA:kS Tryz.prog 293:=⟨⟨_,_,Tryz.underlying293,⟨by decide,by decide⟩,⟨rfl,rfl⟩,Tryz.underlying3,Tryz.underlying3⟩,Tryz.stoodInHeld293⟩
theorem Kr:kS Tryz.prog 296:=⟨⟨_,_,Tryz.underlying296,⟨by decide,by decide⟩,⟨rfl,rfl⟩,Tryz.underlying3,Tryz.underlying3⟩,Tryz.stoodInHeld296⟩
def pK (l:List d9) (a b:Int):Option AV:=if ∃x∈l,x.Kind=a∧x.Class=b then some (dy true) else none
theorem FD:pK []=fun _ _=>none:=by funext a b;simp [pK]
theorem Cx (l:List d9) (a b:Int):(pK l a b).getD (dy false)=dy (decide (∃x∈l,x.Kind=a∧x.Class=b)):=by
 unfold pK
 by_cases h:∃x∈l,x.Kind=a∧x.Class=b
 ·rw [if_pos h,decide_eq_true h];rfl
 ·rw [if_neg h,decide_eq_false h];rfl
theorem Cy {l:List d9} {i:Nat} {x:d9} (h:l[i]?=some x):pK (l.take (i+1)) x.Kind x.Class=some (dy true):=by
 unfold pK
 rw [if_pos ⟨x,by rw [List.take_add_one,h];simp,rfl,rfl⟩]
theorem yW {l:List d9} {i:Nat} {x:d9} (h:l[i]?=some x) (p q:Int) (hne:¬(p=x.Kind∧q=x.Class)):pK (l.take (i+1)) p q=pK (l.take i) p q:=by
 unfold pK
 have:(∃y∈l.take (i+1),y.Kind=p∧y.Class=q)↔∃y∈l.take i,y.Kind=p∧y.Class=q:=by
  rw [List.take_add_one,h]
  simp only [Option.toList_some,List.mem_append,List.mem_singleton]
  constructor
  ·rintro ⟨y,hy | rfl,h1⟩
   ·exact ⟨y,hy,h1⟩
   ·exact absurd ⟨h1.1.symm,h1.2.symm⟩ hne
  ·rintro ⟨y,hy,h1⟩
   exact ⟨y,Or.inl hy,h1⟩
 by_cases hc:∃y∈l.take i,y.Kind=p∧y.Class=q
 ·rw [if_pos hc,if_pos (this.2 hc)]
 ·rw [if_neg hc,if_neg (fun h=>hc (this.1 h))]
set_option maxHeartbeats 1000000 in
theorem xS (g:bj) (i:Nat) (a:d9) (ha:g.Anchors[i]?=some a) (m:Nat):AC Tryz.prog 205 [aK i,.agg (da a),.iptr [dy g.Mark],.iptr [.sc (.map (some m))]] [(m,j9 (pK (g.Anchors.take i)))] fun c L'=>c=aK (iI g i a)∧(iI g i a=0→L'=[(m,j9 (pK (g.Anchors.take (i+1))))]):=by
 refine aV Tryz.func205 rfl Tryz.ntmps205 rfl fun B=>?_
 repeat' (first|refine Ng ?_|refine NG a5 IG ?_|(apply aI;first|refine NI 7 a5 0 NF ?_|refine NI 7 a5 1 NF ?_|refine NI 7 a5 2 NF ?_|refine NH a5 0 NE ?_|refine NH a5 1 NE ?_|refine NH a5 2 NE ?_|refine NH a5 3 NE ?_|fail)|refine bq ?_|refine bn a5 fun _=>?_|fail)
 refine bY (t:=8) [2,3,5,7] (a.Kind=3∨a.Kind=4) rfl (fun Q' K=>?_) ?_
 ·repeat' (first|refine Ng ?_|refine NG a5 IG ?_|refine NN IG ?_|refine NO NB ?_|refine NR NA (fun _=>?_) (fun _=>?_))
  all_goals exact K _ _ rfl rfl (by clear K;grind)
 refine W03 ?_
 refine bY (t:=22) [2,3,5,7,8] (a.Kind < 1∨a.Kind > 4) rfl (fun Q' K=>?_) ?_
 ·repeat' (first|refine Ng ?_|refine NG a5 IG ?_|refine NN IG ?_|refine NO NB ?_|refine NR NA (fun _=>?_) (fun _=>?_))
  all_goals exact K _ _ rfl rfl (by clear K;grind)
 repeat' (first|refine Ng ?_|fail)
 refine aj rfl (fun h1=>?_) (fun h1=>?_)
 ·have h0:=h1
  replace h1:=Ny h1
  rw [h0]
  refine W0s ?_
  refine NM IG ?_
  rw [show iI g i a=35 from if_pos (.inl h1)]
  exact ⟨rfl,fun e=>absurd e (by decide)⟩
 have h0:=h1
 replace h1:=Nx h1
 rw [h0]
 clear h0
 refine W01 ?_
 refine bY (t:=22) [2,3,5,7,8] (a.Class < 0∨a.Class > 15) rfl (fun Q' K=>?_) ?_
 ·repeat' (first|refine Ng ?_|refine NG a5 IG ?_|refine NN IG ?_|refine NO NB ?_|refine NR NA (fun _=>?_) (fun _=>?_))
  all_goals exact K _ _ rfl rfl (by clear K;grind)
 repeat' (first|refine Ng ?_|fail)
 refine aj rfl (fun h2=>?_) (fun h2=>?_)
 ·have h0:=h2
  replace h2:=Ny h2
  rw [h0]
  refine W0s ?_
  refine NM IG ?_
  rw [show iI g i a=35 from if_pos (.inr (.inl h2))]
  exact ⟨rfl,fun e=>absurd e (by decide)⟩
 have h0:=h2
 replace h2:=Nx h2
 rw [h0]
 clear h0
 refine W01 ?_
 refine bY (t:=22) [2,3,5,7] ((a.Kind=3∨a.Kind=4)∧a.Class≠0) rfl (fun Q' K=>?_) ?_
 ·generalize hj:decide (a.Kind=3∨a.Kind=4)=j
  have hj':(a.Kind=3∨a.Kind=4)↔j=true:=by rw [←hj,decide_eq_true_eq]
  repeat' (first|refine Ng ?_|refine NG a5 IG ?_|refine NN IG ?_|refine NO NB ?_|refine NR NA (fun _=>?_) (fun _=>?_))
  all_goals exact K _ _ (by first | rfl | (subst_vars;rfl)) rfl (by clear K;grind)
 repeat' (first|refine Ng ?_|fail)
 refine aj rfl (fun h3=>?_) (fun h3=>?_)
 ·have h0:=h3
  replace h3:=Ny h3
  rw [h0]
  refine W0s ?_
  refine NM IG ?_
  rw [show iI g i a=35 from if_pos (.inr (.inr (.inl h3)))]
  exact ⟨rfl,fun e=>absurd e (by decide)⟩
 have h0:=h3
 replace h3:=Nx h3
 rw [h0]
 clear h0
 refine W0Y ?_
 refine aj rfl (fun h4=>?_) (fun h4=>?_)
 ·rw [h4]
  refine W0s ?_
  refine NM IG ?_
  rw [show iI g i a=35 from if_pos (.inr (.inr (.inr (.inl (by rw [←Bool.not_eq_true',h4])))))]
  exact ⟨rfl,fun e=>absurd e (by decide)⟩
 rw [h4]
 refine W01 ?_
 refine bY (t:=22) [3,7] (a.Kind=2∧g.Mark=false) rfl (fun Q' K=>?_) ?_
 ·repeat' (first|refine Ng ?_|refine NG a5 IG ?_|refine NN IG ?_|refine NO NB ?_|refine NR NA (fun _=>?_) (fun _=>?_))
  all_goals exact K _ _ rfl rfl (by clear K;grind)
 repeat' (first|refine Ng ?_|fail)
 refine aj rfl (fun h5=>?_) (fun h5=>?_)
 ·have h0:=h5
  replace h5:=Ny h5
  rw [h0]
  refine W0s ?_
  refine NM IG ?_
  rw [show iI g i a=35 from if_pos (.inr (.inr (.inr (.inr (.inl h5)))))]
  exact ⟨rfl,fun e=>absurd e (by decide)⟩
 have h0:=h5
 replace h5:=Nx h5
 rw [h0]
 clear h0
 refine W01 ?_
 refine z3 0 (.bool false) Tryz.underlying291 GA rfl rfl rfl (by kernel_rfl) rfl ?_
 rw [Cx]
 refine W01 ?_
 refine aj rfl (fun h6=>?_) (fun h6=>?_)
 ·rw [h6]
  refine W01 ?_
  refine NM IG ?_
  rw [show iI g i a=35 from if_pos (.inr (.inr (.inr (.inr (.inr (Ny h6))))))]
  exact ⟨rfl,fun e=>absurd e (by decide)⟩
 rw [h6]
 refine W01 ?_
 refine v9 0 (pK (g.Anchors.take (i+1))) Tryz.underlying291 GA rfl rfl rfl rfl (Cy ha) (yW ha) ?_
 refine W01 ?_
 refine NM IG ?_
 have h4':[a.X,a.Y].all cY=true:=by simpa using h4
 have h6':=Nx h6
 rw [show iI g i a=0 from if_neg (by
  rintro (h | h | h | h | h | h)
  ·exact h1 h
  ·exact h2 h
  ·exact h3 h
  ·rw [h4'] at h;cases h
  ·exact h5 h
  ·exact h6' h)]
 exact ⟨rfl,fun _=>rfl⟩
def sO (a b c d:Int):Bool:=decide (a < c∨(a=c∧b < d))
theorem y3 (a b c d:Int):bV Tryz.prog 209 [.agg [aK a,aK b],.agg [aK c,aK d]] (dy (sO a b c d)):=by
 refine aV Tryz.func209 rfl Tryz.ntmps209 rfl fun B=>?_
 refine W08 ?_
 refine bY (t:=4) [] (sO a b c d=true) rfl (fun Q' K=>?_) ?_
 ·repeat' (first|refine Ng ?_|refine NG a5 IG ?_|refine NN IG ?_|refine NO NB ?_|refine cq rfl rfl rfl ?_|refine NR NA (fun _=>?_) (fun _=>?_))
  all_goals exact K _ _ rfl rfl (by clear K;unfold sO;grind)
 repeat' (first|refine Ng ?_|fail)
 refine NM IG ?_
 simp
def gN (l:List dk) (i:Nat):Int×Int:=match i with | 0=>(0,0) | j+1=>match l[j]? with | some b=>(b.Region,b.Point) | none=>(0,0)
def rY (g:bj) (i:Nat) (d:dk):Bool:=decide (0 < i∧((d.Region=(gN g.Deltas i).1∧d.Point=(gN g.Deltas i).2)∨sO d.Region d.Point (gN g.Deltas i).1 (gN g.Deltas i).2=true))
theorem HR {g:bj} {i:Nat} {d:dk} (hd:g.Deltas[i]?=some d):(match i with | 0=>false | j+1=>match g.Deltas[j]? with | some b=>decide (d.Region < b.Region∨(d.Region=b.Region∧d.Point≤b.Point)) | none=>false)=rY g i d:=by
 unfold rY
 cases i with
 | zero=>simp
 | succ j=>
  have hj:j < g.Deltas.length:=by have:=(Np hd).1;omega
  obtain ⟨b,hb⟩:∃b,g.Deltas[j]?=some b:=⟨_,Nz hj⟩
  simp only [hb,gN,sO]
  rw [Bool.eq_iff_iff,decide_eq_true_eq,decide_eq_true_eq,decide_eq_true_eq]
  omega
theorem Hk {f:aT} {g:bj} {i:Nat} {d:dk} (hd:g.Deltas[i]?=some d):lF f g i d=if d.Region < 0∨d.Region≥f.Regions.length then 61 else if (d.Point < -1∨d.Point≥g.Points.length)∨[d.X,d.Y].all cY=false∨(d.Point= -1∧d.Y≠0) then 30 else if rY g i d=true then 24 else 0:=by
 unfold lF
 rw [←HR hd]
 cases i <;> rfl
set_option maxHeartbeats 1000000 in
theorem BX (f:aT) (g:bj) (i:Nat) (d:dk) (hd:g.Deltas[i]?=some d) (R N:Int) (hR:R=f.Regions.length) (hN:N=g.Points.length) (b:Nat):AC Tryz.prog 208 [aK i,.agg (dY d),.iptr [aK R],.iptr [aK N],.sc (.pointer (some ⟨b,0,none⟩))] [(b,.box [aK (gN g.Deltas i).1,aK (gN g.Deltas i).2] 296)] fun c L'=>c=aK (lF f g i d)∧(lF f g i d=0→L'=[(b,.box [aK (gN g.Deltas (i+1)).1,aK (gN g.Deltas (i+1)).2] 296)]):=by
 refine aV Tryz.func208 rfl Tryz.ntmps208 rfl fun B=>?_
 rw [Hk hd,←hR,←hN]
 have hnext:gN g.Deltas (i+1)=(d.Region,d.Point):=by simp only [gN,hd]
 rw [hnext]
 repeat' (first|refine Ng ?_|refine ak ?_|refine NG a5 IG ?_|(apply aI;first|refine NI 8 a5 0 NF ?_|refine NI 8 a5 1 NF ?_|refine NI 8 a5 2 NF ?_|refine NH a5 0 NE ?_|refine NH a5 1 NE ?_|refine NH a5 2 NE ?_|refine NH a5 3 NE ?_|fail)|refine bq ?_|refine bn a5 fun _=>?_|fail)
 refine cu [0,3,4,6,8] (d.Region < 0∨d.Region≥R) rfl (fun Q' K=>?_) (fun h1=>?_) (fun h1=>?_)
 ·repeat' (first|refine Ng ?_|refine NG a5 IG ?_|refine NN IG ?_|refine NO NB ?_|refine NR NA (fun _=>?_) (fun _=>?_))
  all_goals exact K _ _ rfl rfl (by clear K;grind)
 ·rw [if_pos h1]
  refine W01 ?_
  exact NM IG ⟨rfl,fun e=>absurd e (by decide)⟩
 rw [if_neg h1]
 refine W01 ?_
 refine bY (t:=24) [0,4,6,8] (d.Point < -1∨d.Point≥N) rfl (fun Q' K=>?_) ?_
 ·repeat' (first|refine Ng ?_|refine NG a5 IG ?_|refine NN IG ?_|refine NO NB ?_|refine NR NA (fun _=>?_) (fun _=>?_))
  all_goals exact K _ _ rfl rfl (by clear K;grind)
 repeat' (first|refine Ng ?_|fail)
 refine aj rfl (fun h2=>?_) (fun h2=>?_)
 ·have h0:=h2
  replace h2:=Ny h2
  rw [h0]
  rw [if_pos (.inl h2)]
  refine W0s ?_
  exact NM IG ⟨rfl,fun e=>absurd e (by decide)⟩
 have h0:=h2
 replace h2:=Nx h2
 rw [h0]
 clear h0
 refine W0Y ?_
 refine aj rfl (fun h3=>?_) (fun h3=>?_)
 ·rw [if_pos (.inr (.inl (by rw [←Bool.not_eq_true',h3]))),h3]
  refine W0s ?_
  exact NM IG ⟨rfl,fun e=>absurd e (by decide)⟩
 rw [h3]
 refine W01 ?_
 refine bY (t:=24) [0,4,8] (d.Point= -1∧d.Y≠0) rfl (fun Q' K=>?_) ?_
 ·repeat' (first|refine Ng ?_|refine NG a5 IG ?_|refine NN IG ?_|refine NO NB ?_|refine NR NA (fun _=>?_) (fun _=>?_))
  all_goals exact K _ _ rfl rfl (by clear K;grind)
 repeat' (first|refine Ng ?_|fail)
 refine aj rfl (fun h4=>?_) (fun h4=>?_)
 ·have h0:=h4
  replace h4:=Ny h4
  rw [h0]
  rw [if_pos (.inr (.inr h4))]
  refine W01 ?_
  exact NM IG ⟨rfl,fun e=>absurd e (by decide)⟩
 have h0:=h4
 replace h4:=Nx h4
 rw [h0]
 clear h0
 have h3':[d.X,d.Y].all cY=true:=by simpa using h3
 rw [if_neg (by
  rintro (h | h | h)
  ·exact h2 h
  ·rw [h3'] at h;cases h
  ·exact h4 h)]
 refine W01 ?_
 refine cu [4,8] (rY g i d=true) rfl (fun Q' K=>?_) (fun h5=>?_) (fun h5=>?_)
 ·repeat' (first|refine Ng ?_|refine NG a5 IG ?_|refine NN IG ?_|refine NO NB ?_|refine cq rfl rfl rfl ?_|(apply bz;first|refine NJ a5 0 NC ?_|refine NJ a5 1 NC ?_|refine NJ a5 2 NC ?_|refine NJ a5 3 NC ?_|refine NK a5 0 NC ?_|refine NK a5 1 NC ?_|refine NK a5 2 NC ?_|refine NL a5 1 NA (by assumption) rfl ?_|refine NL a5 0 NA (by assumption) rfl ?_|fail)|refine NR NA (fun _=>?_) (fun _=>?_))
  all_goals first
   | exact K _ _ rfl rfl (by clear K;unfold rY;grind)
   | (refine K7 Kr Tryz.eqGuardType296 rfl rfl rfl ?_)
  repeat' (first|refine Ng ?_|refine NG a5 IG ?_|refine NN IG ?_|refine NO NB ?_|(apply bz;first|refine NJ a5 0 NC ?_|refine NJ a5 1 NC ?_|refine NJ a5 2 NC ?_|refine NJ a5 3 NC ?_|refine NK a5 0 NC ?_|refine NK a5 1 NC ?_|refine NK a5 2 NC ?_|refine NL a5 1 NA (by assumption) rfl ?_|refine NL a5 0 NA (by assumption) rfl ?_|fail)|refine NR NA (fun _=>?_) (fun _=>?_))
  all_goals first
   | exact K _ _ rfl rfl (by clear K;unfold rY;grind)
   | (refine bw (hc:=⟨y3 d.Region d.Point (gN g.Deltas i).1 (gN g.Deltas i).2⟩) ?_)
  refine W0I ?_
  all_goals exact K _ _ rfl rfl (by clear K;unfold rY;grind)
 ·rw [if_pos h5]
  refine W01 ?_
  exact NM IG ⟨rfl,fun e=>absurd e (by decide)⟩
 rw [if_neg h5]
 repeat' (first|refine Ng ?_|refine NG a5 IG ?_|(apply aI;first|refine NI 8 a5 0 NF ?_|refine NI 8 a5 1 NF ?_|refine NI 8 a5 2 NF ?_|refine NH a5 0 NE ?_|refine NH a5 1 NE ?_|refine NH a5 2 NE ?_|refine NH a5 3 NE ?_|fail))
 refine NM IG ⟨rfl,fun e=>?_⟩
 rfl
set_option maxHeartbeats 2000000 in
theorem Ck (f:aT) (g:bj) (name:Int):bV Tryz.prog 52 [ca f,.agg (bD g),aK name] (aK (nI f g name)):=by
 refine aV Tryz.func52 rfl Tryz.ntmps52 rfl fun B=>?_
 refine W08 ?_
 refine bv 30 [(0,.v),(1,.v),(2,.v),(3,.v),(4,.v),(5,.v),(6,.v),(7,.v),(8,.v),(9,.v),(12,.v),(13,.v),(14,.v),(15,.v),(16,.v),(17,.v),(18,.v),(19,.v),(20,.v),(23,.v),(10,.e),(11,.v),(21,.e),(22,.v),(24,.v),(25,.e),(26,.v),(27,.v),(28,.v),(29,.v)] none ?_ trivial rfl (by kernel_rfl) (by kernel_rfl) (by kernel_rfl) bQ (by kernel_rfl) rfl
 refine W0t ?_
 refine iF [] [] (xT g.Mark) rfl rfl (Nn _) trivial fun c L1 ⟨m,hc,hL⟩=>?_
 subst hc;subst hL
 refine W1K ?_
 refine iF [] _ (BY (f.Regions.map bX).length (g.Points.map dl).length) rfl rfl (Nn _) trivial fun c L1 ⟨b,hc,hL⟩=>?_
 subst hc;subst hL
 repeat' (first|refine aD ?_|(apply d5;refine dz ?_)|refine dQ a5 ?_|fail)
 refine iF (L:=[(b,.box [aK 0,aK 0] 296),(m,j9 fun _ _=>none)]) _ [] (kx [⟨114,[.iptr [aK name]],[],name,0⟩,⟨115,[.iptr (bD g)],[],eX g,0⟩,⟨201,[.iptr [.imm 3 (g.Parts.map dJ)],.iptr [aK 8],.iptr [.fn 118 [.iptr (cn f)]]],[],(bT 8 g.Parts (iS f)).1,(bT 8 g.Parts (iS f)).2⟩,⟨203,[.iptr [.imm 4 (g.Anchors.map da)],.iptr [aK 16],.iptr [.fn 205 [.iptr [dy g.Mark],.iptr [.sc (.map (some m))]]]],[(m,j9 fun _ _=>none)],(bT 16 g.Anchors (iI g)).1,(bT 16 g.Anchors (iI g)).2⟩,⟨206,[.iptr [.imm 4 (g.Deltas.map dY)],.iptr [aK 400],.iptr [.fn 208 [.iptr [aK (f.Regions.map bX).length],.iptr [aK (g.Points.map dl).length],.sc (.pointer (some ⟨b,0,none⟩))]]],[(b,.box [aK 0,aK 0] 296)],(bT 400 g.Deltas (lF f g)).1,(bT 400 g.Deltas (lF f g)).2⟩,⟨124,[.iptr (bD g)],[],il g.Hint,0⟩] ?_) rfl rfl (List.Perm.swap ..) trivial fun c L1 hc=>?_
 ·refine ⟨⟨inferInstance,yB name⟩,fun _=>⟨⟨inferInstance,yC g⟩,fun _=>⟨⟨inferInstance,Io rfl g.Parts 8 _ (fun _ _=>True) [] trivial (fun _=>dH fun i x _=>yD f i x)⟩,fun _=>⟨⟨inferInstance,Ip rfl g.Anchors 16 (gO g.Anchors (iI g)) (fun i L=>L=[(m,j9 (pK (g.Anchors.take i)))]) _ (by rw [List.take_zero,FD]) ?_⟩,fun _=>⟨⟨inferInstance,Iq rfl g.Deltas 400 (gO g.Deltas (lF f g)) (fun i L=>L=[(b,.box [aK (gN g.Deltas i).1,aK (gN g.Deltas i).2] 296)]) _ rfl ?_⟩,fun _=>⟨⟨inferInstance,yE g⟩,fun _=>trivial⟩⟩⟩⟩⟩⟩
  ·intro _ i x L hx hL
   subst hL
   rw [fW hx]
   exact xS g i x hx m
  ·intro _ i x L hx hL
   subst hL
   rw [fW hx]
   exact BX f g i x hx _ _ (by rw [Nu]) (by rw [Nu]) b
 ·rw [lf] at hc
  subst hc
  unfold co
  refine W09 ?_
  refine NP [7,37] IG ?_
  refine W0k ?_
  exact NQ NA
instance (f:aT) (g:bj) (name:Int):AD Tryz.prog 52 [ca f,.agg (bD g),aK name] (aK (nI f g name)):=⟨Ck f g name⟩
section
variable {P:Program} {l:List Oper} {fr:cf} {fin:jR} {sk:n7} {acc:cf} {L:AL} {k:Nat} {dd:Option Tmp} {ty t:TypeId} {pos:String} {af:Array Edge} {g:Option (Nat×Bool)} {x y:Operand}
theorem rL (i:Nat) (v0:Value) {b kt et:Nat} {kd:TypeDesc} {q:Value} {m:Value→Option AV} (ht:P.underlying t=some (.map kt et)) (hkt:P.underlying kt=some kd) (hx:bE (cK l.toArray acc fr af.toList) x=some (.sc (.map (some b)))) (hy:bE (cK l.toArray acc fr af.toList) y=some (.sc q)) (hk:MapKept.IsKey kd q) (hL:L[i]?=some (b,cx kd m)) (hz:mC P et v0=true) (hg:jh ⟨dd,.lookup t x y false,ty,pos,af,g⟩ acc) (h:DA P l fr fin sk ((k,(m q).getD (.sc v0))::acc) L):
  cG P l fr fin k .e ⟨dd,.lookup t x y false,ty,pos,af,g⟩ sk acc L:=
 jz hg (fun B=>mG i ht hkt hx hy hk hL (gS hz) fun _=> .sc _) fun c L' ⟨h1,h2⟩=>by subst h1;subst h2;exact h
end
def Ab (f:aT) (c:gu) (late:Bool):Int:=if c.Rune < 0∨c.Rune > 1114111 then 1 else if gA f c.Glyph=false then 32 else d3 late 24
theorem Ep (f:aT) (c:gu) (late:Bool):bV Tryz.prog 59 [ca f,.agg (ek c),dy late] (aK (Ab f c late)):=by
 refine aV Tryz.func59 rfl Tryz.ntmps59 rfl fun B=>?_
 unfold Ab
 refine W0y ?_
 refine cu [2,3,4] (c.Rune < 0∨c.Rune > 1114111) rfl (fun Q' K=>?_) (fun hC=>?_) (fun hC=>?_)
 ·repeat' (first|refine Ng ?_|refine NG a5 IG ?_|refine NN IG ?_|refine NO NB ?_|refine NR NA (fun _=>?_) (fun _=>?_))
  all_goals exact K _ _ rfl rfl (by clear K;grind)
 ·rw [if_pos hC]
  refine W01 ?_
  exact NQ NA
 rw [if_neg hC]
 refine W0e ?_
 refine aj rfl (fun h=>?_) (fun h=>?_)
 ·rw [if_pos (by simpa using h)]
  refine W01 ?_
  exact NQ NA
 rw [if_neg (by simpa using h)]
 refine W0e ?_
 exact NQ NA
instance (f:aT) (c:gu) (late:Bool):AD Tryz.prog 59 [ca f,.agg (ek c),dy late] (aK (Ab f c late)):=⟨Ep f c late⟩
def rX (f:aT) (i:Nat) (c:gu):Bool:=match i with | 0=>false | j+1=>match f.Chars[j]? with | some b=>decide (c.Rune≤b.Rune) | none=>false
def f7 (f:aT) (i:Nat) (c:gu):Int:=Ab f c (rX f i c)
theorem BL (f:aT) (i:Nat) (c:gu) (hc:f.Chars[i]?=some c) (hm:(f.Chars.length:Int)≤1000):bV Tryz.prog 58 [aK i,.agg (ek c),.iptr (cn f)] (aK (f7 f i c)):=by
 refine aV Tryz.func58 rfl Tryz.ntmps58 rfl fun B=>?_
 have hil:=(Np hc).1
 unfold f7
 cases i with
 | zero=>
  refine W08 ?_
  refine bv 17 [(0,.v),(1,.v),(2,.v),(3,.v),(4,.v),(5,.v),(6,.v),(7,.v),(8,.v),(9,.v),(10,.v),(11,.v),(12,.v),(13,.v),(14,.v),(15,.v),(16,.v)] none ?_ trivial rfl (by kernel_rfl) (by kernel_rfl) (by kernel_rfl) bQ (by kernel_rfl) rfl
  repeat' (first|refine aD ?_|refine aZ a5 ?_|(apply d5;refine dz ?_)|refine gw rfl rfl ?_)
  refine NP [22] IG ?_
  refine W0k ?_
  exact NQ NA
 | succ j=>
  obtain ⟨b,hb⟩:∃b,f.Chars[j]?=some b:=⟨_,Nz (by omega)⟩
  have hbg:(f.Chars.map ek)[(((j+1:Nat):Int) - 1).toNat]?=some (ek b):=by rw [show (((j+1:Nat):Int) - 1).toNat=j by omega];exact bG hb
  have hl:rX f (j+1) c=decide (c.Rune≤b.Rune):=by simp [rX,hb]
  have hpos:decide (0 < ((j+1:Nat):Int))=true:=decide_eq_true (by omega)
  rw [hl]
  refine W08 ?_
  refine bv 17 [(0,.v),(1,.v),(2,.v),(3,.v),(4,.v),(5,.v),(6,.v),(7,.v),(8,.v),(9,.v),(10,.v),(11,.v),(12,.v),(13,.v),(14,.v),(15,.v),(16,.v)] none ?_ trivial rfl (by kernel_rfl) (by kernel_rfl) (by kernel_rfl) bQ (by kernel_rfl) rfl
  refine W09 ?_
  rw [hpos]
  refine W1a ?_
  refine NP [22] IG ?_
  refine W0k ?_
  exact NQ NA
def w7 (a:ej) (name:Int):Int:=if name≠0 then name else d3 (!(decide ([a.Min,a.Def,a.Max].all cY=true∧a.Min≤a.Def∧a.Def≤a.Max))) 60
theorem Ec (a:ej) (name:Int):bV Tryz.prog 69 [.agg (cO a),aK name] (aK (w7 a name)):=by
 refine aV Tryz.func69 rfl Tryz.ntmps69 rfl fun B=>?_
 unfold w7
 refine W08 ?_
 refine aj rfl (fun h=>?_) (fun h=>?_)
 ·rw [if_pos (Ny h)]
  refine W01 ?_
  exact NQ NA
 rw [if_neg (Nx h)]
 refine W0Y ?_
 refine bY (t:=5) [] ([a.Min,a.Def,a.Max].all cY=true∧a.Min≤a.Def∧a.Def≤a.Max) rfl (fun Q' K=>?_) ?_
 ·repeat' (first|refine Ng ?_|refine NG a5 IG ?_|refine NN IG ?_|refine NO NB ?_|refine NR NA (fun _=>?_) (fun _=>?_))
  all_goals exact K _ _ rfl rfl (by clear K;grind)
 refine W0e ?_
 exact NQ NA
instance (a:ej) (name:Int):AD Tryz.prog 69 [.agg (cO a),aK name] (aK (w7 a name)):=⟨Ec a name⟩
def kN (_:Nat) (t:ev):Int:=d3 (decide (¬(-64≤t.Start∧t.Start≤t.Peak∧t.Peak≤t.End∧t.End≤64)∨(t.Start < 0∧t.End > 0∧t.Peak≠0))) 61
set_option maxHeartbeats 1000000 in
theorem Gy (i:Nat) (t:ev):bV Tryz.prog 150 [aK i,.agg (iL t)] (aK (kN i t)):=by
 refine aV Tryz.func150 rfl Tryz.ntmps150 rfl fun B=>?_
 refine W08 ?_
 refine bY (t:=5) [3] (-64≤t.Start∧t.Start≤t.Peak∧t.Peak≤t.End∧t.End≤64) rfl (fun Q' K=>?_) ?_
 ·repeat' (first|refine Ng ?_|refine NG a5 IG ?_|refine NN IG ?_|refine NO NB ?_|refine NR NA (fun _=>?_) (fun _=>?_))
  all_goals exact K _ _ rfl rfl (by clear K;grind)
 refine W01 ?_
 refine bY (t:=6) [5] (t.Start < 0∧t.End > 0∧t.Peak≠0) rfl (fun Q' K=>?_) ?_
 ·repeat' (first|refine Ng ?_|refine NG a5 IG ?_|refine NN IG ?_|refine NO NB ?_|refine NR NA (fun _=>?_) (fun _=>?_))
  all_goals exact K _ _ rfl rfl (by clear K;grind)
 have ht:kN i t=d3 (!(decide (-64≤t.Start∧t.Start≤t.Peak∧t.Peak≤t.End∧t.End≤64)) || decide (t.Start < 0∧t.End > 0∧t.Peak≠0)) 61:=by unfold kN;rw [Bool.decide_or,decide_not]
 rw [ht]
 generalize decide (-64≤t.Start∧t.Start≤t.Peak∧t.Peak≤t.End∧t.End≤64)=p
 generalize decide (t.Start < 0∧t.End > 0∧t.Peak≠0)=q
 cases p <;> cases q
 all_goals
  repeat' (first|refine Ng ?_|refine NG a5 IG ?_|refine NN IG ?_|refine NO NB ?_|(apply bA;refine bw ?_)|fail)
  exact NQ NA
def G4 (axes:Int) (r:List ev):Int:=if (r.length:Int)≠axes then 61 else (cw r kN).1
theorem zm (r:List ev) (axes:Int):bV Tryz.prog 72 [.agg (bX r),aK axes] (aK (G4 axes r)):=by
 refine aV Tryz.func72 rfl Tryz.ntmps72 rfl fun B=>?_
 unfold G4
 refine W08 ?_
 rw [Nu]
 refine aj rfl (fun h=>?_) (fun h=>?_)
 ·rw [if_pos (Ny h)]
  refine W01 ?_
  exact NQ NA
 rw [if_neg (Nx h)]
 refine W01 ?_
 refine b7 [] [] (Hw (u:= .sc (.func (.func 150) #[] #[])) (g:=150) (caps:=[]) rfl r _ (fun _ _=>True) [] trivial (dH (fun i x _=>Gy i x))) rfl rfl (Nn _) rfl fun c L1 hc=>?_
 have hc:c=co (cw r kN):=hc
 subst hc
 unfold co
 refine W01 ?_
 exact NQ NA
instance (r:List ev) (axes:Int):AD Tryz.prog 72 [.agg (bX r),aK axes] (aK (G4 axes r)):=⟨zm r axes⟩
theorem xj (f:aT) (i:Nat) (r:List ev):bV Tryz.prog 71 [aK i,.agg (bX r),.iptr (cn f)] (aK (G4 f.Axes.length r)):=by
 refine aV Tryz.func71 rfl Tryz.ntmps71 rfl fun B=>?_
 refine W0Z ?_
 rw [Nu]
 exact NQ NA
theorem BN (i:Nat) (l:List fh):bV Tryz.prog 74 [aK i,.imm 2 (l.map eS)] (aK (il l)):=by
 refine aV Tryz.func74 rfl Tryz.ntmps74 rfl fun B=>?_
 refine W0e ?_
 exact NQ NA
def t3 (_:Nat) (n:Int):Int:=d3 (!([n].all cY)) 1
theorem Et (i:Nat) (n:Int):bV Tryz.prog 77 [aK i,aK n] (aK (t3 i n)):=by
 refine aV Tryz.func77 rfl Tryz.ntmps77 rfl fun B=>?_
 refine W0Y ?_
 exact NQ NA
def mi (f:aT):Int:=if f.Unit < 16∨f.Unit > 4096 then 1 else if f.Glyphs.length=0 then 32 else 0
theorem Fe (f:aT):bV Tryz.prog 49 [ca f] (aK (mi f)):=by
 refine aV Tryz.func49 rfl Tryz.ntmps49 rfl fun B=>?_
 unfold mi
 refine W0y ?_
 refine cu [1] (f.Unit < 16∨f.Unit > 4096) rfl (fun Q' K=>?_) (fun hC=>?_) (fun hC=>?_)
 ·repeat' (first|refine Ng ?_|refine NG a5 IG ?_|refine NN IG ?_|refine NO NB ?_|refine NR NA (fun _=>?_) (fun _=>?_))
  all_goals exact K _ _ rfl rfl (by clear K;grind)
 ·rw [if_pos hC]
  refine W01 ?_
  exact NQ NA
 rw [if_neg hC]
 refine W01 ?_
 rw [Nu]
 refine aj rfl (fun h=>?_) (fun h=>?_)
 ·rw [if_pos (by have:=Ny h;omega)]
  refine W01 ?_
  exact NQ NA
 rw [if_neg (by have:=Nx h;omega)]
 refine W01 ?_
 exact NQ NA
instance (f:aT):AD Tryz.prog 49 [ca f] (aK (mi f)):=⟨Fe f⟩
theorem tO (f:aT):bV Tryz.prog 48 [.iptr (cn f)] (co (mi f,0)):=by
 refine aV Tryz.func48 rfl Tryz.ntmps48 rfl fun B=>?_
 refine W0e ?_
 exact NW NB
end
section
variable {P:Program} {tt:TT} {l:List Oper} {fr:cf} {fin:jR} {sk:n7} {acc:cf} {L:AL} {k:Nat} {dd:Option Tmp} {ty t t':TypeId} {pos:String} {af:Array Edge} {g:Option (Nat×Bool)} {x y:Operand} {u:AV}
theorem du (ok:eF P tt) {e sz by_ b off n cap:Nat} {q:IntKind} {i:Int} (ht:jP tt t=some (e,sz,by_)) (hx:bE (cK l.toArray acc fr af.toList) x=some (.sc (.slice (some ⟨b,off,none⟩) n cap))) (hy:bE (cK l.toArray acc fr af.toList) y=some (.sc (.int q i))) (h0:0≤i∧i < n) (hg:jh ⟨dd,.indexAddr t x y,ty,pos,af,g⟩ acc) (h:DA P l fr fin sk ((k,.sc (.pointer (some ⟨b,off+i.toNat * sz,none⟩)))::acc) L):
  cG P l fr fin k .v ⟨dd,.indexAddr t x y,ty,pos,af,g⟩ sk acc L:=fA hg (fun _ _=>(vO (bB ok ht).1 hx hy h0).ao) h
theorem EB (ok:eF P tt) (i:Nat) {b q n:Nat} {cs ys:List AV} {e:TypeId} (ht:Ky tt t=some n) (hx:bE (cK l.toArray acc fr af.toList) x=some (.sc (.pointer (some ⟨b,q,none⟩)))) (hy:bE (cK l.toArray acc fr af.toList) y=some u) (hu:u.cells=some ys) (hL:L[i]?=some (b,.box cs e)) (hn:Nat.beq ys.length n=true) (hk:Nat.ble (q+n) cs.length=true) (hg:jh ⟨dd,.store t x y,ty,pos,af,g⟩ acc) (h:∀c,DA P l fr fin sk ((k,c)::acc) (fx L i (.box (fS cs q ys) e))):
  cG P l fr fin k .e ⟨dd,.store t x y,ty,pos,af,g⟩ sk acc L:=jz hg (fun _=>o6 i (oX ok ht) hx hy hu hL hn hk) fun c L' h1=>by subst h1;exact h c
theorem wi {v:Value} (ht:jK P t=true) (hx:bE (cK l.toArray acc fr af.toList) x=some (.sc (.iface t v))) (hg:jh ⟨dd,.typeAssert x t' t false,ty,pos,af,g⟩ acc) (h:DA P l fr fin sk ((k,.sc v)::acc) L):cG P l fr fin k .v ⟨dd,.typeAssert x t' t false,ty,pos,af,g⟩ sk acc L:=
 fA hg (fun _ _=>(vN ht hx).ao) h
theorem BQ (ok:eF P tt) (i:Nat) {e by_ b n cap:Nat} {cs:List AV} {c:AV} (ht:jP tt t=some (e,1,by_)) (hz:zI tt e=some [.int .i64 0]) (hx:bE (cK l.toArray acc fr af.toList) x=some (.sc (.slice (some ⟨b,0,none⟩) n cap))) (hy:bE (cK l.toArray acc fr af.toList) y=some u) (hu:j2 u=some (1,[[c]])) (hL:L[i]?=some (b,.box cs e)) (hcl:cs.length=cap) (hn:n≤cap) (h63:n+1≤9223372036854775807) (hby:(n+1) * by_≤140737488355328) (hg:jh ⟨dd,.call ⟨.builtin .append,#[x,y],#[t,t]⟩,ty,pos,af,g⟩ acc)
  (h:∀b' cs',cs'.take (n+1)=cs.take n++[c]→n+1≤cs'.length→DA P l fr fin sk ((k,.sc (.slice (some ⟨b',0,none⟩) (n+1) cs'.length))::acc) ((b',.box cs' e)::L.eraseIdx i)):
  cG P l fr fin k .e ⟨dd,.call ⟨.builtin .append,#[x,y],#[t,t]⟩,ty,pos,af,g⟩ sk acc L:=
 jz hg (fun _=>rr i (bB ok ht).1 (dX ok hz) hx hy (d4 hu) hL hcl hn h63 hby) fun q L' ⟨b',cs',h1,h2,h3,h4⟩=>by subst h1;subst h4;exact h b' cs' h2 h3
theorem BS (ok:eF P tt) {e by_:Nat} {c:AV} (ht:jP tt t=some (e,1,by_)) (hz:zI tt e=some [.int .i64 0]) (hx:bE (cK l.toArray acc fr af.toList) x=some (.sc (.slice none 0 0))) (hy:bE (cK l.toArray acc fr af.toList) y=some u) (hu:j2 u=some (1,[[c]])) (hby:Nat.ble by_ 140737488355328=true) (hg:jh ⟨dd,.call ⟨.builtin .append,#[x,y],#[t,t]⟩,ty,pos,af,g⟩ acc)
  (h:∀b' cs',cs'.take 1=[c]→1≤cs'.length→DA P l fr fin sk ((k,.sc (.slice (some ⟨b',0,none⟩) 1 cs'.length))::acc) ((b',.box cs' e)::L)):
  cG P l fr fin k .e ⟨dd,.call ⟨.builtin .append,#[x,y],#[t,t]⟩,ty,pos,af,g⟩ sk acc L:=
 jz hg (fun _=>rt (bB ok ht).1 (dX ok hz) hx hy (d4 hu) (Nat.ble_eq .. ▸hby)) fun q L' ⟨b',cs',h1,h2,h3,h4⟩=>by subst h1;subst h4;exact h b' cs' h2 h3
end
def J0 (P:Program) (t:TypeId) (name:String) (f:FuncId) (ptr:Bool) (e:TypeId):Bool:=(match P.underlying t with | some (.pointer e')=>Nat.beq e' e | _=>false) && match P.info? t with
 | some ti=>match ti.methods.find? (·.name==name) with
  | some m=>m.path.isEmpty && (match m.func with | some (f',p')=>Nat.beq f' f && (p'==ptr) | none=>false)
  | none=>false
 | none=>false
theorem jI {P:Program} {t:TypeId} {name:String} {f:FuncId} {ptr:Bool} {e:TypeId} (h:J0 P t name f ptr e=true):o0 P t name f ptr e:=by
 unfold J0 at h
 rw [Bool.and_eq_true] at h
 obtain ⟨h1,h2⟩:=h
 split at h1
 ·rename_i e' hu
  rw [Nat.beq_eq] at h1
  subst h1
  split at h2
  ·rename_i ti hti
   split at h2
   ·rename_i m hm
    rw [Bool.and_eq_true] at h2
    obtain ⟨h3,h4⟩:=h2
    split at h4
    ·rename_i f' p' hf
     rw [Bool.and_eq_true,Nat.beq_eq,beq_iff_eq] at h4
     refine ⟨hu,ti,m,hti,hm,?_,by rw [hf,h4.1,h4.2]⟩
     simpa using h3
    ·cases h4
   ·cases h2
  ·cases h2
 ·cases h1
section
open Go.MapKept
section
variable {P:Program} {fr:cf} {B:Bs} {L:AL}
theorem AO.as {o:Oper} {a b:AV} (h:AO P o fr B L (fun c L'=>c=a∧L'=L)) (hv:∀σ v,VR σ a v→VR σ b v):AO P o fr B L (fun c L'=>c=b∧L'=L):=
 fun σ ρ w hρ hw=>(h σ ρ w hρ hw).mono fun _ _ ⟨τ,c,L',h1,h2,h3,h4,h5⟩=>⟨τ,b,L',h1,hv τ _ (by rw [←h4];exact h2),h3,rfl,h5⟩
end
section
variable {P:Program} {tt:TT} {l:List Oper} {fr:cf} {fin:jR} {sk:n7} {acc:cf} {L:AL} {k:Nat} {dd:Option Tmp} {ty t t':TypeId} {pos:String} {af:Array Edge} {g:Option (Nat×Bool)} {x y z:Operand} {u:AV}
theorem pv (i:Nat) (v0:Value) (a:AV) {b kt et:Nat} {kd:TypeDesc} {q:Value} {m:Value→Option AV} (ht:P.underlying t=some (.map kt et)) (hkt:P.underlying kt=some kd) (hx:bE (cK l.toArray acc fr af.toList) x=some (.sc (.map (some b)))) (hy:bE (cK l.toArray acc fr af.toList) y=some (.sc q)) (hk:IsKey kd q) (hL:L[i]?=some (b,cx kd m)) (hz:mC P et v0=true) (ha:∀σ v,VR σ ((m q).getD (.sc v0)) v→VR σ a v) (hg:jh ⟨dd,.lookup t x y false,ty,pos,af,g⟩ acc) (h:DA P l fr fin sk ((k,a)::acc) L):
  cG P l fr fin k .e ⟨dd,.lookup t x y false,ty,pos,af,g⟩ sk acc L:=
 jz hg (fun B=>(mG i ht hkt hx hy hk hL (gS hz) fun _=> .sc _).as ha) fun c L' ⟨h1,h2⟩=>by subst h1;subst h2;exact h
theorem dP (ok:eF P tt) (L0:AL) {e sz by_:Nat} {q:Option (Nat×Nat)} {l1 l2:List (List AV)} (ht:jP tt t=some (e,sz,by_)) (hx:bE (cK l.toArray acc fr af.toList) x=some (.vec q sz l1)) (hy:bE (cK l.toArray acc fr af.toList) y=some u) (hu:j2 u=some (sz,l2)) (hL:L.Perm (tok q e sz l1.length++L0)) (h63:l1.length+l2.length≤9223372036854775807) (hby:(l1.length+l2.length) * by_≤140737488355328) (hg:jh ⟨dd,.call ⟨.builtin .append,#[x,y],#[t,t]⟩,ty,pos,af,g⟩ acc)
  (h:∀k',DA P l fr fin sk ((k,.vec k' sz (l1++l2))::acc) (tok k' e sz (l1++l2).length++L0)):
  cG P l fr fin k .e ⟨dd,.call ⟨.builtin .append,#[x,y],#[t,t]⟩,ty,pos,af,g⟩ sk acc L:=
 jz hg (fun _=>pn L0 (bB ok ht).1 (bB ok ht).2 hx hy (d4 hu) hL h63 hby) fun c L' ⟨k',h1,h2⟩=>by subst h1;subst h2;exact h k'
end
section
variable {P:Program} {r:Option Nat} {ops:Array Oper} {Q:Exit→Act→World→Prop} {nt:Nat} {D:List Deferred} {fr:cf} {B:Bs} {L:AL} {rest:List Oper} {d:Nat} {ty t:TypeId} {pos:String} {af:Array Edge} {x y z:Operand} {u:AV}
theorem kB (i:Nat) (v0:Value) (a:AV) {b kt et:Nat} {kd:TypeDesc} {k:Value} {m:Value→Option AV} (ht:P.underlying t=some (.map kt et)) (hkt:P.underlying kt=some kd) (hx:bE fr x=some (.sc (.map (some b)))) (hy:bE fr y=some (.sc k)) (hk:IsKey kd k) (hL:L[i]?=some (b,cx kd m)) (hz:mC P et v0=true) (ha:∀σ v,VR σ ((m k).getD (.sc v0)) v→VR σ a v) (hd:Nat.ble nt d=false)
  (h:bP P r ops Q nt D rest ((d,a)::fr) B L):bP P r ops Q nt D (⟨some d,.lookup t x y false,ty,pos,af,none⟩::rest) fr B L:=
 cT hd rfl ((mG i ht hkt hx hy hk hL (gS hz) fun _=> .sc _).as ha) fun c L' ⟨h1,h2⟩=>by subst h1;subst h2;exact h
end
noncomputable def mr (m:Value→Option AV) (k:Value) (c:AV):Value→Option AV:=fun q=>open Classical in if q=k then some c else m q
theorem jp {m:Value→Option AV} {k:Value} {c:AV}:mr m k c k=some c:=by simp [mr]
theorem iw {m:Value→Option AV} {k:Value} {c:AV} (q:Value) (h:q≠k):mr m k c q=m q:=by simp [mr,h]
def pi (m:Value→Option AV) (M:Int→Int):Prop:=∀z,m (.int .i64 z)=none∧M z=0∨m (.int .i64 z)=some (.sc (.int .i64 (M z)))
theorem pi.at {m:Value→Option AV} {M:Int→Int} (h:pi m M) (z:Int):∀(σ:cF) (v:Value),VR σ ((m (.int .i64 z)).getD (.sc (.int .i64 0))) v→VR σ (.sc (.int .i64 (M z))) v:=by
 intro σ v hv
 rcases h z with ⟨h1,h2⟩ | h1
 ·rw [h1] at hv;rw [h2];exact hv
 ·rw [h1] at hv;exact hv
theorem pi.put {m:Value→Option AV} {M:Int→Int} (h:pi m M) (z c:Int):pi (mr m (.int .i64 z) (.sc (.int .i64 c))) fun q=>if q=z then c else M q:=by
 intro q
 by_cases e:q=z
 ·subst e;simp only [if_true,jp];exact .inr trivial
 ·simp only [if_neg e];rw [iw _ (by intro h;injection h with _ h;exact e h)];exact h q
def lE (m:Value→Option AV) (K:Int→Option (Nat×Nat)) (U:Int→List Int):Prop:=∀z,(m (.int .i64 z)=none∧U z=[]∧K z=none)∨m (.int .i64 z)=some (.vec (K z) 1 (aW (U z)))
theorem lE.at {m:Value→Option AV} {K:Int→Option (Nat×Nat)} {U:Int→List Int} (h:lE m K U) (z:Int):∀(σ:cF) (v:Value),VR σ ((m (.int .i64 z)).getD (.sc (.slice none 0 0))) v→VR σ (.vec (K z) 1 (aW (U z))) v:=by
 intro σ v hv
 rcases h z with ⟨h1,h2,h3⟩ | h1
 ·rw [h1] at hv;rw [h2,h3];exact cW 1 hv
 ·rw [h1] at hv;exact hv
theorem lE.put {m:Value→Option AV} {K:Int→Option (Nat×Nat)} {U:Int→List Int} (h:lE m K U) (z:Int) (k:Option (Nat×Nat)) (l:List Int):lE (mr m (.int .i64 z) (.vec k 1 (aW l))) (fun q=>if q=z then k else K q) fun q=>if q=z then l else U q:=by
 intro q
 by_cases e:q=z
 ·subst e;simp only [if_true,jp];exact .inr trivial
 ·simp only [if_neg e]
  rw [iw _ (by intro h;injection h with _ h;exact e h)]
  exact h q
def lJ (e:TypeId) (K:Int→Option (Nat×Nat)) (U:Int→List Int) (zs:List Int):AL:=zs.flatMap fun z=>tok (K z) e 1 (aW (U z)).length
theorem n3 {e:TypeId} {K:Int→Option (Nat×Nat)} {U:Int→List Int}:∀{zs:List Int} {z:Int},z∈zs→(lJ e K U zs).Perm (tok (K z) e 1 (aW (U z)).length++lJ e K U (zs.erase z))
 | y::zs,z,h=>by
  by_cases hz:y=z
  ·subst hz
   rw [List.erase_cons_head]
   exact Nn _
  ·have hm:z∈zs:=by
    rcases List.mem_cons.1 h with h | h
    ·exact absurd h.symm hz
    ·exact h
   rw [List.erase_cons_tail (by simpa using hz)]
   have ih:=n3 (e:=e) (K:=K) (U:=U) hm
   unfold lJ at ih ⊢
   rw [List.flatMap_cons,List.flatMap_cons]
   refine (List.Perm.append_left _ ih).trans ?_
   rw [←List.append_assoc,←List.append_assoc]
   exact List.Perm.append_right _ List.perm_append_comm
theorem zM {e:TypeId} {K K':Int→Option (Nat×Nat)} {U U':Int→List Int} {zs:List Int} (h:∀z∈zs,K z=K' z∧U z=U' z):lJ e K U zs=lJ e K' U' zs:=by
 unfold lJ
 induction zs with
 | nil=>rfl
 | cons z zs ih=>
  rw [List.flatMap_cons,List.flatMap_cons,ih fun y hy=>h y (Nt _ hy),(h z (List.mem_cons_self ..)).1,(h z (List.mem_cons_self ..)).2]
theorem xz {e:TypeId} {K:Int→Option (Nat×Nat)} {U:Int→List Int} {zs:List Int} {z:Int} {k:Option (Nat×Nat)} {l:List Int} (hn:zs.Nodup) (h:z∈zs):(tok k e 1 (aW l).length++lJ e K U (zs.erase z)).Perm (lJ e (fun q=>if q=z then k else K q) (fun q=>if q=z then l else U q) zs):=by
 have h1:=n3 (e:=e) (K:=fun q=>if q=z then k else K q) (U:=fun q=>if q=z then l else U q) h
 simp only [if_true] at h1
 refine List.Perm.trans ?_ h1.symm
 rw [zM (K:=K) (U:=U) (K':=fun q=>if q=z then k else K q) (U':=fun q=>if q=z then l else U q) fun y hy=>by
  have hne:y≠z:=fun e=>by subst e;exact (List.Nodup.not_mem_erase hn) hy
  simp only [if_neg hne]
  exact ⟨trivial,trivial⟩]
theorem uj (e:TypeId) (U:Int→List Int) (zs:List Int):lJ e (fun _=>none) U zs=[]:=by
 unfold lJ tok
 induction zs with
 | nil=>rfl
 | cons z zs ih=>rw [List.flatMap_cons,ih];rfl
end
section
variable {P:Program} {r:Option Nat} {ops:Array Oper} {Q:Exit→Act→World→Prop} {nt:Nat} {D:List Deferred} {fr:cf} {B:Bs} {L:AL} {cd:Code}
def pf (nt:Nat) (B:Bs) {α:Type} (Dx:α→List Deferred) (V:α→cf) (fr0:cf) (C:α→Prop) (Lx:α→AL) (μ:α→Nat) (x:α) (Q:Exit→Act→World→Prop):Exit→Act→World→Prop:=Exit.then (fun a w=>∃σ x',k6 σ nt (Dx x') (V x'++fr0) a∧C x'∧dw B σ (Lx x') w∧μ x' < μ x) Q
theorem w4 (ks:List Nat) {α:Type} (Dx:α→List Deferred) (V:α→cf) (C:α→Prop) (Lx:α→AL) (μ:α→Nat) (x0:α) {fr0:cf} (hk:gW fr ks=some fr0) (hV:nw (V x0) fr) (hD:D=Dx x0) (hC:C x0) (hL:∀σ w,dw B σ L w→dw B σ (Lx x0) w)
  (hb:∀x,C x→AT P r cd (pf nt B Dx V fr0 C Lx μ x Q) nt (Dx x) (V x++fr0) B (Lx x)):AT P r (.loop cd) Q nt D fr B L:=by
 intro σ a w ha hw
 subst hD
 classical
 let G:Nat→Act→World→Prop:=fun m a w=>∃σ x,k6 σ nt (Dx x) (V x++fr0) a∧C x∧dw B σ (Lx x) w∧μ x=m
 let M:Act→World→Nat:=fun a w=>if h:∃m,G m a w∧∀m',G m' a w→m≤m' then h.choose else 0
 have least:∀a w,(∃m,G m a w)→G (M a w) a w∧∀m',G m' a w→M a w≤m':=by
  rintro a w ⟨m0,hg0⟩
  have hex:∃m,G m a w∧∀m',G m' a w→m≤m':=by
   have:∀k,∀m,m≤k→G m a w→∃m,G m a w∧∀m',G m' a w→m≤m':=by
    intro k
    induction k with
    | zero=>intro m hm hg;exact ⟨m,hg,fun m' _=>by omega⟩
    | succ k ih=>
     intro m hm hg
     by_cases h:∃m',m' < m∧G m' a w
     ·obtain ⟨m',hlt,hg'⟩:=h
      exact ih m' (by omega) hg'
     ·exact ⟨m,hg,fun m' hg'=>by
       rcases Nat.lt_or_ge m' m with hlt | hge
       ·exact absurd ⟨m',hlt,hg'⟩ h
       ·exact hge⟩
   exact this m0 m0 (Nat.le_refl _) hg0
  have hM:M a w=hex.choose:=dif_pos hex
  rw [hM];exact hex.choose_spec
 refine wpIn_loop (fun a w=>∃m,G m a w) M ⟨_,σ,x0,ha.weak (o5 hV (ez ks hk)),hC,hL σ w hw,rfl⟩ ?_
 intro a w hI
 obtain ⟨⟨σ',x,hx,hj,hst,hm⟩,_⟩:=least a w hI
 refine wpIn_mono (hb x hj σ' a w hx hst) ?_
 intro e a' w' hq
 cases e with
 | normal=>
  obtain ⟨τ,x',hx',hj',hst',hlt⟩:=hq
  have hg:G (μ x') a' w':=⟨τ,x',hx',hj',hst',rfl⟩
  refine ⟨⟨_,hg⟩,?_⟩
  have:=(least a' w' ⟨_,hg⟩).2 (μ x') hg
  omega
 | _=>exact hq
theorem mI {α:Type} {Dx:α→List Deferred} {V:α→cf} {fr0:cf} {C:α→Prop} {Lx:α→AL} {μ:α→Nat} {x:α} (x':α) (hk:gW fr (fr0.map (·.1))=some fr0) (hV:nw (V x') fr) (hD:D=Dx x') (hC:C x') (hm:μ x' < μ x) (hL:∀σ w,dw B σ L w→dw B σ (Lx x') w):
  AX P .normal (pf nt B Dx V fr0 C Lx μ x Q) nt D fr B L:=fun σ a w ha hw=>by
 subst hD
 exact ⟨σ,x',ha.weak (o5 hV (ez _ hk)),hC,hL _ _ hw,hm⟩
theorem nd {α:Type} {Dx:α→List Deferred} {V:α→cf} {fr0:cf} {C:α→Prop} {Lx:α→AL} {μ:α→Nat} {x:α} {id:Nat} (h:AX P (.exit id) Q nt D fr B L):AX P (.exit id) (pf nt B Dx V fr0 C Lx μ x Q) nt D fr B L:=fun σ a w ha hw=>h σ a w ha hw
end
section
variable {nt:Nat} {D:List Deferred} {B:Bs} {fr:cf} {L:AL}
theorem uk {t b e sz n:Nat} {cs:List AV} {l:List (List AV)} (i:Nat) (hl:cB fr t=some (.iptr [.sc (.slice (some ⟨b,0,none⟩) n n)])) (hL:L[i]?=some (b,.box cs e)) (hc:cs=l.flatten) (hs:∀q∈l,q.length=sz) (hn:l.length=n) (h63:n≤9223372036854775807):lP nt D B fr L ((t,.iptr [.imm sz l])::fr) ((b,.vec e sz n n)::L.eraseIdx i):=by
 intro σ a w ha hw0
 have hw:=hw0.perm (fq hL)
 obtain ⟨o,ho,vs,rfl,hvs,h1⟩:=hw.here _ (List.mem_cons_self ..)
 have hfree:=hw.free _ (List.mem_cons_self ..)
 have hvl:vs.length=n * sz:=by rw [←hvs.1,hc,fP l hs,hn]
 have hst:dw B σ ((b,.vec e sz 0 n)::L.eraseIdx i) w:=by
  refine ⟨hw.os,hw.tape,hw.output,hw.size,hw.old,fun p hp=>?_,fun p hp=>?_,by simpa using hw.apart,hw.froz,fun p hp off hm=>?_,hw.grow,hw.same⟩
  ·rcases List.mem_cons.1 hp with rfl | hp'
   ·exact ⟨_,ho,_,rfl,by simp [hvl],Nat.zero_le _,by unfold maxLen;omega⟩
   ·exact hw.here p (Nt _ hp')
  ·rcases List.mem_cons.1 hp with rfl | hp'
   ·exact hw.mine (b,.box cs e) (List.mem_cons_self ..)
   ·exact hw.mine p (Nt _ hp')
  ·rcases List.mem_cons.1 hp with rfl | hp'
   ·exact hfree off trivial
   ·exact hw.free p (Nt _ hp') off hm
 obtain ⟨hst',hle⟩:=hst.freezeHead (n':=n) (xs:=vs) (fun j u hj=>by rw [dc ho];simpa using hj) hvl (Nat.zero_le _) (Nat.le_refl _)
 refine ⟨_,?_,hst'⟩
 have hv:VR (σ.add b vs) (.vec (some (b,n)) sz l) (.slice (some ⟨b,0,none⟩) n n):=by
  have:=mA (σ:=σ.add b vs) (b:=b) (cap:=n) hs (by rw [←hc];exact hvs.mono hle) h1 (by omega) (by unfold maxLen;omega) (fun j u hj=>cF.add_at hj)
  rwa [hn] at this
 have ha':=ha.mono hle
 refine ⟨ha'.size,ha'.defers,fun t' v' hl'=>?_⟩
 rw [cJ] at hl'
 by_cases e:t=t'
 ·subst e
  simp only [if_true,Option.some.injEq] at hl'
  subst hl'
  have hp:=ha.look t _ hl
  generalize a.tmps.getD t undef=v0 at hp
  generalize hq:AV.iptr [.sc (.slice (some ⟨b,0,none⟩) n n)]=q at hp
  cases hp with
  | iptr cs2 b0 off hx h=>
   injection hq with hq
   subst hq
   refine .iptr _ b0 off (fun j hj=>?_) fun j c u hc hu=>?_
   ·obtain ⟨u,hu,h1⟩:=hx j hj
    exact ⟨u,hle _ _ _ hu,h1⟩
   ·have hj:j=0:=by
     have:=(Np hc).1
     simp at this
     exact this
    subst hj
    simp at hc
    subst hc
    obtain ⟨u',hu',_⟩:=hx 0 (by simp)
    have h2:=hle _ _ _ hu'
    rw [hu] at h2
    injection h2 with h2
    subst h2
    rw [(h 0 _ u rfl hu').sc_inv]
    exact hv.im
  | _=>cases hq
 ·rw [if_neg e] at hl'
  exact ha'.look t' v' hl'
end
theorem W1U {A B:Prop} (k:B) (h:W00 B→A:=by intro k;(repeat' (first|refine Ng ?_|refine nd ?_));exact k.g):A:=h ⟨k⟩
end Go.Proofs.YtpmdfoaadejmkaaGreatDoor
