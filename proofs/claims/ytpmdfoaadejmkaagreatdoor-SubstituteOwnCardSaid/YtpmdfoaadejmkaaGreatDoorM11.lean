/-
  The program: glyphs, as check looks at them, with anchors and deltas.
-/
import Derived.Test.YtpmdfoaadejmkaaGreatDoorM10
import Derived.Test.YtpmdfoaadejmkaaGreatDoorM07
namespace Go.Proofs.YtpmdfoaadejmkaaGreatDoor
open Go.RowKit
attribute [local irreducible] AT br AX AO Av Kt b7 dm DA cA
theorem EL:ky Tryz.prog 293:=⟨⟨_,_,Tryz.underlying293,⟨by decide,by decide⟩,⟨rfl,rfl⟩,Tryz.underlying3,Tryz.underlying3⟩,Tryz.stoodInHeld293⟩
theorem Ix:ky Tryz.prog 296:=⟨⟨_,_,Tryz.underlying296,⟨by decide,by decide⟩,⟨rfl,rfl⟩,Tryz.underlying3,Tryz.underlying3⟩,Tryz.stoodInHeld296⟩
def oN (l:List dE) (a b:Int):Option AV:=if ∃x∈l,x.Kind=a∧x.Class=b then some (eo true) else none
theorem DL:oN []=fun _ _=>none:=by funext a b;simp [oN]
theorem AR (l:List dE) (a b:Int):(oN l a b).getD (eo false)=eo (decide (∃x∈l,x.Kind=a∧x.Class=b)):=by
 unfold oN
 by_cases h:∃x∈l,x.Kind=a∧x.Class=b
 ·rw [if_pos h,decide_eq_true h];rfl
 ·rw [if_neg h,decide_eq_false h];rfl
theorem AS {l:List dE} {i:Nat} {x:dE} (h:l[i]?=some x):oN (l.take (i+1)) x.Kind x.Class=some (eo true):=by
 unfold oN
 rw [if_pos ⟨x,by rw [List.take_add_one,h];simp,rfl,rfl⟩]
theorem xI {l:List dE} {i:Nat} {x:dE} (h:l[i]?=some x) (p q:Int) (hne:¬(p=x.Kind∧q=x.Class)):oN (l.take (i+1)) p q=oN (l.take i) p q:=by
 unfold oN
 have:(∃y∈l.take (i+1),y.Kind=p∧y.Class=q)↔∃y∈l.take i,y.Kind=p∧y.Class=q:=by
  rw [List.take_add_one,h]
  simp only [Option.toList_some,List.mem_append,List.mem_singleton]
  constructor
  ·rintro ⟨y,hy | rfl,h1⟩
   ·exact ⟨y,hy,h1⟩
   ·exact absurd ⟨h1.1.symm,h1.2.symm⟩ hne
  ·rintro ⟨y,hy,h1⟩
   exact ⟨y,Or.inl hy,h1⟩
 by_cases hc:∃y∈l.take i,y.Kind=p∧y.Class=q
 ·rw [if_pos hc,if_pos (this.2 hc)]
 ·rw [if_neg hc,if_neg (fun h=>hc (this.1 h))]
set_option maxHeartbeats 1000000 in
theorem wL (g:bi) (i:Nat) (a:dE) (ha:g.Anchors[i]?=some a) (m:Nat):AC Tryz.prog 205 [aI i,.agg (dp a),.iptr [eo g.Mark],.iptr [.sc (.map (some m))]] [(m,iC (oN (g.Anchors.take i)))] fun c L'=>c=aI (mN g i a)∧(mN g i a=0→L'=[(m,iC (oN (g.Anchors.take (i+1))))]):=by
 refine aS Tryz.func205 rfl Tryz.ntmps205 rfl fun B=>?_
 repeat' (first|refine a9 ?_|refine a4 ?_|refine a6 ?_|refine a7 ?_|refine LG a5 KZ ?_|(apply aM;first|refine LI 7 a5 0 LF ?_|refine LI 7 a5 1 LF ?_|refine LI 7 a5 2 LF ?_|refine LH a5 0 LE ?_|refine LH a5 1 LE ?_|refine LH a5 2 LE ?_|refine LH a5 3 LE ?_|fail)|refine bk ?_|refine bf a5 fun _=>?_|fail)
 refine dz (t:=8) [2,3,5,7] (a.Kind=3∨a.Kind=4) rfl (fun Q' K=>?_) ?_
 ·repeat' (first|refine a7 ?_|refine LG a5 KZ ?_|refine LO KZ ?_|refine LP LB ?_|refine LR LA (fun _=>?_) (fun _=>?_))
  all_goals exact K _ _ rfl rfl (by clear K;grind)
 repeat' (first|refine a9 ?_|refine a4 ?_|refine ai ?_|refine a6 ?_|refine LG a5 KZ ?_)
 refine dz (t:=22) [2,3,5,7,8] (a.Kind < 1∨a.Kind > 4) rfl (fun Q' K=>?_) ?_
 ·repeat' (first|refine a7 ?_|refine LG a5 KZ ?_|refine LO KZ ?_|refine LP LB ?_|refine LR LA (fun _=>?_) (fun _=>?_))
  all_goals exact K _ _ rfl rfl (by clear K;grind)
 repeat' (first|refine a6 ?_)
 refine ar rfl (fun h1=>?_) (fun h1=>?_)
 ·have h0:=h1
  replace h1:=Lz h1
  rw [h0]
  refine W0E ?_
  refine LM KZ ?_
  rw [show mN g i a=35 from if_pos (.inl h1)]
  exact ⟨rfl,fun e=>absurd e (by decide)⟩
 have h0:=h1
 replace h1:=Ly h1
 rw [h0]
 clear h0
 refine W0k ?_
 refine dz (t:=22) [2,3,5,7,8] (a.Class < 0∨a.Class > 15) rfl (fun Q' K=>?_) ?_
 ·repeat' (first|refine a7 ?_|refine LG a5 KZ ?_|refine LO KZ ?_|refine LP LB ?_|refine LR LA (fun _=>?_) (fun _=>?_))
  all_goals exact K _ _ rfl rfl (by clear K;grind)
 repeat' (first|refine a6 ?_)
 refine ar rfl (fun h2=>?_) (fun h2=>?_)
 ·have h0:=h2
  replace h2:=Lz h2
  rw [h0]
  refine W0E ?_
  refine LM KZ ?_
  rw [show mN g i a=35 from if_pos (.inr (.inl h2))]
  exact ⟨rfl,fun e=>absurd e (by decide)⟩
 have h0:=h2
 replace h2:=Ly h2
 rw [h0]
 clear h0
 refine W0k ?_
 refine dz (t:=22) [2,3,5,7] ((a.Kind=3∨a.Kind=4)∧a.Class≠0) rfl (fun Q' K=>?_) ?_
 ·generalize hj:decide (a.Kind=3∨a.Kind=4)=j
  have hj':(a.Kind=3∨a.Kind=4)↔j=true:=by rw [←hj,decide_eq_true_eq]
  repeat' (first|refine a7 ?_|refine LG a5 KZ ?_|refine LO KZ ?_|refine LP LB ?_|refine LR LA (fun _=>?_) (fun _=>?_))
  all_goals exact K _ _ (by first | rfl | (subst_vars;rfl)) rfl (by clear K;grind)
 repeat' (first|refine a6 ?_)
 refine ar rfl (fun h3=>?_) (fun h3=>?_)
 ·have h0:=h3
  replace h3:=Lz h3
  rw [h0]
  refine W0E ?_
  refine LM KZ ?_
  rw [show mN g i a=35 from if_pos (.inr (.inr (.inl h3)))]
  exact ⟨rfl,fun e=>absurd e (by decide)⟩
 have h0:=h3
 replace h3:=Ly h3
 rw [h0]
 clear h0
 refine W1Y ?_
 refine ar rfl (fun h4=>?_) (fun h4=>?_)
 ·rw [h4]
  refine W0E ?_
  refine LM KZ ?_
  rw [show mN g i a=35 from if_pos (.inr (.inr (.inr (.inl (by rw [←Bool.not_eq_true',h4])))))]
  exact ⟨rfl,fun e=>absurd e (by decide)⟩
 rw [h4]
 refine W0k ?_
 refine dz (t:=22) [3,7] (a.Kind=2∧g.Mark=false) rfl (fun Q' K=>?_) ?_
 ·repeat' (first|refine a7 ?_|refine LG a5 KZ ?_|refine LO KZ ?_|refine LP LB ?_|refine LR LA (fun _=>?_) (fun _=>?_))
  all_goals exact K _ _ rfl rfl (by clear K;grind)
 repeat' (first|refine a6 ?_)
 refine ar rfl (fun h5=>?_) (fun h5=>?_)
 ·have h0:=h5
  replace h5:=Lz h5
  rw [h0]
  refine W0E ?_
  refine LM KZ ?_
  rw [show mN g i a=35 from if_pos (.inr (.inr (.inr (.inr (.inl h5)))))]
  exact ⟨rfl,fun e=>absurd e (by decide)⟩
 have h0:=h5
 replace h5:=Ly h5
 rw [h0]
 clear h0
 refine W1f ?_
 refine xN 0 (.bool false) Tryz.underlying291 EL rfl rfl rfl (by kernel_rfl) rfl ?_
 rw [AR]
 refine W0r ?_
 refine ar rfl (fun h6=>?_) (fun h6=>?_)
 ·rw [h6]
  refine W0f ?_
  refine LM KZ ?_
  rw [show mN g i a=35 from if_pos (.inr (.inr (.inr (.inr (.inr (Lz h6))))))]
  exact ⟨rfl,fun e=>absurd e (by decide)⟩
 rw [h6]
 refine W1O ?_
 refine ug 0 (oN (g.Anchors.take (i+1))) Tryz.underlying291 EL rfl rfl rfl rfl (AS ha) (xI ha) ?_
 refine W0u ?_
 refine LM KZ ?_
 have h4':[a.X,a.Y].all gK=true:=by simpa using h4
 have h6':=Ly h6
 rw [show mN g i a=0 from if_neg (by
  rintro (h | h | h | h | h | h)
  ·exact h1 h
  ·exact h2 h
  ·exact h3 h
  ·rw [h4'] at h;cases h
  ·exact h5 h
  ·exact h6' h)]
 exact ⟨rfl,fun _=>rfl⟩
def rO (a b c d:Int):Bool:=decide (a < c∨(a=c∧b < d))
theorem wV (a b c d:Int):c5 Tryz.prog 209 [.agg [aI a,aI b],.agg [aI c,aI d]] (eo (rO a b c d)):=by
 refine aS Tryz.func209 rfl Tryz.ntmps209 rfl fun B=>?_
 refine W0b ?_
 refine dz (t:=4) [] (rO a b c d=true) rfl (fun Q' K=>?_) ?_
 ·repeat' (first|refine a7 ?_|refine LG a5 KZ ?_|refine LO KZ ?_|refine LP LB ?_|refine dK rfl rfl rfl ?_|refine LR LA (fun _=>?_) (fun _=>?_))
  all_goals exact K _ _ rfl rfl (by clear K;unfold rO;grind)
 refine W28 ?_
 refine LM KZ ?_
 simp
def gg (l:List dO) (i:Nat):Int×Int:=match i with | 0=>(0,0) | j+1=>match l[j]? with | some b=>(b.Region,b.Point) | none=>(0,0)
def r8 (g:bi) (i:Nat) (d:dO):Bool:=decide (0 < i∧((d.Region=(gg g.Deltas i).1∧d.Point=(gg g.Deltas i).2)∨rO d.Region d.Point (gg g.Deltas i).1 (gg g.Deltas i).2=true))
theorem FW {g:bi} {i:Nat} {d:dO} (hd:g.Deltas[i]?=some d):(match i with | 0=>false | j+1=>match g.Deltas[j]? with | some b=>decide (d.Region < b.Region∨(d.Region=b.Region∧d.Point≤b.Point)) | none=>false)=r8 g i d:=by
 unfold r8
 cases i with
 | zero=>simp
 | succ j=>
  have hj:j < g.Deltas.length:=by have:=(Ln hd).1;omega
  obtain ⟨b,hb⟩:∃b,g.Deltas[j]?=some b:=⟨_,Iy hj⟩
  simp only [hb,gg,rO]
  rw [Bool.eq_iff_iff,decide_eq_true_eq,decide_eq_true_eq,decide_eq_true_eq]
  omega
theorem Fv {f:aY} {g:bi} {i:Nat} {d:dO} (hd:g.Deltas[i]?=some d):sf f g i d=if d.Region < 0∨d.Region≥f.Regions.length then 61 else if (d.Point < -1∨d.Point≥g.Points.length)∨[d.X,d.Y].all gK=false∨(d.Point= -1∧d.Y≠0) then 30 else if r8 g i d=true then 24 else 0:=by
 unfold sf
 rw [←FW hd]
 cases i <;> rfl
set_option maxHeartbeats 1000000 in
theorem Am (f:aY) (g:bi) (i:Nat) (d:dO) (hd:g.Deltas[i]?=some d) (R N:Int) (hR:R=f.Regions.length) (hN:N=g.Points.length) (b:Nat):AC Tryz.prog 208 [aI i,.agg (ev d),.iptr [aI R],.iptr [aI N],.sc (.pointer (some ⟨b,0,none⟩))] [(b,.box [aI (gg g.Deltas i).1,aI (gg g.Deltas i).2] 296)] fun c L'=>c=aI (sf f g i d)∧(sf f g i d=0→L'=[(b,.box [aI (gg g.Deltas (i+1)).1,aI (gg g.Deltas (i+1)).2] 296)]):=by
 refine aS Tryz.func208 rfl Tryz.ntmps208 rfl fun B=>?_
 rw [Fv hd,←hR,←hN]
 have hnext:gg g.Deltas (i+1)=(d.Region,d.Point):=by simp only [gg,hd]
 rw [hnext]
 repeat' (first|refine a9 ?_|refine a4 ?_|refine ai ?_|refine a6 ?_|refine a7 ?_|refine LG a5 KZ ?_|(apply aM;first|refine LI 8 a5 0 LF ?_|refine LI 8 a5 1 LF ?_|refine LI 8 a5 2 LF ?_|refine LH a5 0 LE ?_|refine LH a5 1 LE ?_|refine LH a5 2 LE ?_|refine LH a5 3 LE ?_|fail)|refine bk ?_|refine bf a5 fun _=>?_|fail)
 refine ce [0,3,4,6,8] (d.Region < 0∨d.Region≥R) rfl (fun Q' K=>?_) (fun h1=>?_) (fun h1=>?_)
 ·repeat' (first|refine a7 ?_|refine LG a5 KZ ?_|refine LO KZ ?_|refine LP LB ?_|refine LR LA (fun _=>?_) (fun _=>?_))
  all_goals exact K _ _ rfl rfl (by clear K;grind)
 ·rw [if_pos h1]
  refine W0f ?_
  exact LM KZ ⟨rfl,fun e=>absurd e (by decide)⟩
 rw [if_neg h1]
 refine W0k ?_
 refine dz (t:=24) [0,4,6,8] (d.Point < -1∨d.Point≥N) rfl (fun Q' K=>?_) ?_
 ·repeat' (first|refine a7 ?_|refine LG a5 KZ ?_|refine LO KZ ?_|refine LP LB ?_|refine LR LA (fun _=>?_) (fun _=>?_))
  all_goals exact K _ _ rfl rfl (by clear K;grind)
 repeat' (first|refine a6 ?_)
 refine ar rfl (fun h2=>?_) (fun h2=>?_)
 ·have h0:=h2
  replace h2:=Lz h2
  rw [h0]
  rw [if_pos (.inl h2)]
  refine W0E ?_
  exact LM KZ ⟨rfl,fun e=>absurd e (by decide)⟩
 have h0:=h2
 replace h2:=Ly h2
 rw [h0]
 clear h0
 refine W1Y ?_
 refine ar rfl (fun h3=>?_) (fun h3=>?_)
 ·rw [if_pos (.inr (.inl (by rw [←Bool.not_eq_true',h3]))),h3]
  refine W0E ?_
  exact LM KZ ⟨rfl,fun e=>absurd e (by decide)⟩
 rw [h3]
 refine W1f ?_
 refine dz (t:=24) [0,4,8] (d.Point= -1∧d.Y≠0) rfl (fun Q' K=>?_) ?_
 ·repeat' (first|refine a7 ?_|refine LG a5 KZ ?_|refine LO KZ ?_|refine LP LB ?_|refine LR LA (fun _=>?_) (fun _=>?_))
  all_goals exact K _ _ rfl rfl (by clear K;grind)
 repeat' (first|refine a6 ?_)
 refine ar rfl (fun h4=>?_) (fun h4=>?_)
 ·have h0:=h4
  replace h4:=Lz h4
  rw [h0]
  rw [if_pos (.inr (.inr h4))]
  refine W0f ?_
  exact LM KZ ⟨rfl,fun e=>absurd e (by decide)⟩
 have h0:=h4
 replace h4:=Ly h4
 rw [h0]
 clear h0
 have h3':[d.X,d.Y].all gK=true:=by simpa using h3
 rw [if_neg (by
  rintro (h | h | h)
  ·exact h2 h
  ·rw [h3'] at h;cases h
  ·exact h4 h)]
 refine W0k ?_
 refine ce [4,8] (r8 g i d=true) rfl (fun Q' K=>?_) (fun h5=>?_) (fun h5=>?_)
 ·repeat' (first|refine a7 ?_|refine LG a5 KZ ?_|refine LO KZ ?_|refine LP LB ?_|refine dK rfl rfl rfl ?_|(apply bq;first|refine LJ a5 0 LC ?_|refine LJ a5 1 LC ?_|refine LJ a5 2 LC ?_|refine LJ a5 3 LC ?_|refine LK a5 0 LC ?_|refine LK a5 1 LC ?_|refine LK a5 2 LC ?_|refine LL a5 1 LA (by assumption) rfl ?_|refine LL a5 0 LA (by assumption) rfl ?_|fail)|refine LR LA (fun _=>?_) (fun _=>?_))
  all_goals first
   | exact K _ _ rfl rfl (by clear K;unfold r8;grind)
   | (refine Ic Ix Tryz.eqGuardType296 rfl rfl rfl ?_)
  repeat' (first|refine a7 ?_|refine LG a5 KZ ?_|refine LO KZ ?_|refine LP LB ?_|(apply bq;first|refine LJ a5 0 LC ?_|refine LJ a5 1 LC ?_|refine LJ a5 2 LC ?_|refine LJ a5 3 LC ?_|refine LK a5 0 LC ?_|refine LK a5 1 LC ?_|refine LK a5 2 LC ?_|refine LL a5 1 LA (by assumption) rfl ?_|refine LL a5 0 LA (by assumption) rfl ?_|fail)|refine LR LA (fun _=>?_) (fun _=>?_))
  all_goals first
   | exact K _ _ rfl rfl (by clear K;unfold r8;grind)
   | (refine bn (hc:=⟨wV d.Region d.Point (gg g.Deltas i).1 (gg g.Deltas i).2⟩) ?_)
  refine W2f ?_
  all_goals exact K _ _ rfl rfl (by clear K;unfold r8;grind)
 ·rw [if_pos h5]
  refine W0f ?_
  exact LM KZ ⟨rfl,fun e=>absurd e (by decide)⟩
 rw [if_neg h5]
 repeat' (first|refine a9 ?_|refine a4 ?_|refine aj ?_|refine am ?_|refine a6 ?_|refine aK ?_|refine a7 ?_|refine LG a5 KZ ?_|(apply aM;first|refine LI 8 a5 0 LF ?_|refine LI 8 a5 1 LF ?_|refine LI 8 a5 2 LF ?_|refine LH a5 0 LE ?_|refine LH a5 1 LE ?_|refine LH a5 2 LE ?_|refine LH a5 3 LE ?_|fail))
 refine LM KZ ⟨rfl,fun e=>?_⟩
 rfl
set_option maxHeartbeats 2000000 in
theorem Ay (f:aY) (g:bi) (name:Int):c5 Tryz.prog 52 [d7 f,.agg (bI g),aI name] (aI (oK f g name)):=by
 refine aS Tryz.func52 rfl Tryz.ntmps52 rfl fun B=>?_
 refine W0b ?_
 refine bz 30 [(0,.v),(1,.v),(2,.v),(3,.v),(4,.v),(5,.v),(6,.v),(7,.v),(8,.v),(9,.v),(12,.v),(13,.v),(14,.v),(15,.v),(16,.v),(17,.v),(18,.v),(19,.v),(20,.v),(23,.v),(10,.e),(11,.v),(21,.e),(22,.v),(24,.v),(25,.e),(26,.v),(27,.v),(28,.v),(29,.v)] none ?_ trivial rfl (by kernel_rfl) (by kernel_rfl) (by kernel_rfl) bX (by kernel_rfl) rfl
 refine W0W ?_
 refine kG [] [] (wM g.Mark) rfl rfl (Lm _) trivial fun c L1 ⟨m,hc,hL⟩=>?_
 subst hc;subst hL
 refine W2k ?_
 refine kG [] _ (An (f.Regions.map bN).length (g.Points.map dL).length) rfl rfl (Lm _) trivial fun c L1 ⟨b,hc,hL⟩=>?_
 subst hc;subst hL
 repeat' (first|refine aD ?_|(apply dQ;refine eT ?_)|refine ei a5 ?_|fail)
 refine kG (L:=[(b,.box [aI 0,aI 0] 296),(m,iC fun _ _=>none)]) _ [] (jN [⟨114,[.iptr [aI name]],[],name,0⟩,⟨115,[.iptr (bI g)],[],ji g,0⟩,⟨201,[.iptr [.imm 3 (g.Parts.map f0)],.iptr [aI 8],.iptr [.fn 118 [.iptr (cG f)]]],[],(cr 8 g.Parts (mF f)).1,(cr 8 g.Parts (mF f)).2⟩,⟨203,[.iptr [.imm 4 (g.Anchors.map dp)],.iptr [aI 16],.iptr [.fn 205 [.iptr [eo g.Mark],.iptr [.sc (.map (some m))]]]],[(m,iC fun _ _=>none)],(cr 16 g.Anchors (mN g)).1,(cr 16 g.Anchors (mN g)).2⟩,⟨206,[.iptr [.imm 4 (g.Deltas.map ev)],.iptr [aI 400],.iptr [.fn 208 [.iptr [aI (f.Regions.map bN).length],.iptr [aI (g.Points.map dL).length],.sc (.pointer (some ⟨b,0,none⟩))]]],[(b,.box [aI 0,aI 0] 296)],(cr 400 g.Deltas (sf f g)).1,(cr 400 g.Deltas (sf f g)).2⟩,⟨124,[.iptr (bI g)],[],nV g.Hint,0⟩] ?_) rfl rfl (List.Perm.swap ..) trivial fun c L1 hc=>?_
 ·refine ⟨⟨inferInstance,xn name⟩,fun _=>⟨⟨inferInstance,xo g⟩,fun _=>⟨⟨inferInstance,Gy rfl g.Parts 8 _ (fun _ _=>True) [] trivial (fun _=>du fun i x _=>xp f i x)⟩,fun _=>⟨⟨inferInstance,Gz rfl g.Anchors 16 (gm g.Anchors (mN g)) (fun i L=>L=[(m,iC (oN (g.Anchors.take i)))]) _ (by rw [List.take_zero,DL]) ?_⟩,fun _=>⟨⟨inferInstance,GA rfl g.Deltas 400 (gm g.Deltas (sf f g)) (fun i L=>L=[(b,.box [aI (gg g.Deltas i).1,aI (gg g.Deltas i).2] 296)]) _ rfl ?_⟩,fun _=>⟨⟨inferInstance,xq g⟩,fun _=>trivial⟩⟩⟩⟩⟩⟩
  ·intro _ i x L hx hL
   subst hL
   rw [iO hx]
   exact wL g i x hx m
  ·intro _ i x L hx hL
   subst hL
   rw [iO hx]
   exact Am f g i x hx _ _ (by rw [Lu]) (by rw [Lu]) b
 ·rw [kT] at hc
  subst hc
  unfold cu
  refine W0a ?_
  refine LQ [7,37] KZ ?_
  refine W0u ?_
  exact LN LA
instance (f:aY) (g:bi) (name:Int):AD Tryz.prog 52 [d7 f,.agg (bI g),aI name] (aI (oK f g name)):=⟨Ay f g name⟩
section
variable {P:Program} {l:List Oper} {fr:bT} {fin:iR} {sk:m6} {acc:bT} {L:AL} {k:Nat} {dd:Option Tmp} {ty t:TypeId} {pos:String} {af:Array Edge} {g:Option (Nat×Bool)} {x y:Operand}
theorem qO (i:Nat) (v0:Value) {b kt et:Nat} {kd:TypeDesc} {q:Value} {m:Value→Option AV} (ht:P.underlying t=some (.map kt et)) (hkt:P.underlying kt=some kd) (hx:bh (cx l.toArray acc fr af.toList) x=some (.sc (.map (some b)))) (hy:bh (cx l.toArray acc fr af.toList) y=some (.sc q)) (hk:MapKept.IsKey kd q) (hL:L[i]?=some (b,cR kd m)) (hz:lZ P et v0=true) (hg:it ⟨dd,.lookup t x y false,ty,pos,af,g⟩ acc) (h:DA P l fr fin sk ((k,(m q).getD (.sc v0))::acc) L):
  cA P l fr fin k .e ⟨dd,.lookup t x y false,ty,pos,af,g⟩ sk acc L:=
 kH hg (fun B=>m8 i ht hkt hx hy hk hL (gw hz) fun _=> .sc _) fun c L' ⟨h1,h2⟩=>by subst h1;subst h2;exact h
end
def vn (f:aY) (c:gB) (late:Bool):Int:=if c.Rune < 0∨c.Rune > 1114111 then 1 else if lO f c.Glyph=false then 32 else er late 24
theorem CM (f:aY) (c:gB) (late:Bool):c5 Tryz.prog 59 [d7 f,.agg (ep c),eo late] (aI (vn f c late)):=by
 refine aS Tryz.func59 rfl Tryz.ntmps59 rfl fun B=>?_
 unfold vn
 refine W0V ?_
 refine ce [2,3,4] (c.Rune < 0∨c.Rune > 1114111) rfl (fun Q' K=>?_) (fun hC=>?_) (fun hC=>?_)
 ·repeat' (first|refine a7 ?_|refine LG a5 KZ ?_|refine LO KZ ?_|refine LP LB ?_|refine LR LA (fun _=>?_) (fun _=>?_))
  all_goals exact K _ _ rfl rfl (by clear K;grind)
 ·rw [if_pos hC]
  refine W0f ?_
  exact LN LA
 rw [if_neg hC]
 refine W1l ?_
 refine ar rfl (fun h=>?_) (fun h=>?_)
 ·rw [if_pos (by simpa using h)]
  refine W0f ?_
  exact LN LA
 rw [if_neg (by simpa using h)]
 refine W1K ?_
 exact LN LA
instance (f:aY) (c:gB) (late:Bool):AD Tryz.prog 59 [d7 f,.agg (ep c),eo late] (aI (vn f c late)):=⟨CM f c late⟩
def yW (f:aY) (i:Nat) (c:gB):Bool:=match i with | 0=>false | j+1=>match f.Chars[j]? with | some b=>decide (c.Rune≤b.Rune) | none=>false
def ju (f:aY) (i:Nat) (c:gB):Int:=vn f c (yW f i c)
theorem A8 (f:aY) (i:Nat) (c:gB) (hc:f.Chars[i]?=some c) (hm:(f.Chars.length:Int)≤1000):c5 Tryz.prog 58 [aI i,.agg (ep c),.iptr (cG f)] (aI (ju f i c)):=by
 refine aS Tryz.func58 rfl Tryz.ntmps58 rfl fun B=>?_
 have hil:=(Ln hc).1
 unfold ju
 cases i with
 | zero=>
  refine W0b ?_
  refine bz 17 [(0,.v),(1,.v),(2,.v),(3,.v),(4,.v),(5,.v),(6,.v),(7,.v),(8,.v),(9,.v),(10,.v),(11,.v),(12,.v),(13,.v),(14,.v),(15,.v),(16,.v)] none ?_ trivial rfl (by kernel_rfl) (by kernel_rfl) (by kernel_rfl) bX (by kernel_rfl) rfl
  repeat' (first|refine aD ?_|refine b6 a5 ?_|(apply dQ;refine eT ?_)|refine sI rfl rfl ?_)
  refine LQ [22] KZ ?_
  refine W0c ?_
  exact LN LA
 | succ j=>
  obtain ⟨b,hb⟩:∃b,f.Chars[j]?=some b:=⟨_,Iy (by omega)⟩
  have hbg:(f.Chars.map ep)[(((j+1:Nat):Int) - 1).toNat]?=some (ep b):=by rw [show (((j+1:Nat):Int) - 1).toNat=j by omega];exact cO hb
  have hl:yW f (j+1) c=decide (c.Rune≤b.Rune):=by simp [yW,hb]
  have hpos:decide (0 < ((j+1:Nat):Int))=true:=decide_eq_true (by omega)
  rw [hl]
  refine W0b ?_
  refine bz 17 [(0,.v),(1,.v),(2,.v),(3,.v),(4,.v),(5,.v),(6,.v),(7,.v),(8,.v),(9,.v),(10,.v),(11,.v),(12,.v),(13,.v),(14,.v),(15,.v),(16,.v)] none ?_ trivial rfl (by kernel_rfl) (by kernel_rfl) (by kernel_rfl) bX (by kernel_rfl) rfl
  refine W0a ?_
  rw [hpos]
  refine W20 ?_
  refine LQ [22] KZ ?_
  refine W0c ?_
  exact LN LA
def vh (a:eR) (name:Int):Int:=if name≠0 then name else er (!(decide ([a.Min,a.Def,a.Max].all gK=true∧a.Min≤a.Def∧a.Def≤a.Max))) 60
theorem CC (a:eR) (name:Int):c5 Tryz.prog 69 [.agg (cM a),aI name] (aI (vh a name)):=by
 refine aS Tryz.func69 rfl Tryz.ntmps69 rfl fun B=>?_
 unfold vh
 refine W0b ?_
 refine ar rfl (fun h=>?_) (fun h=>?_)
 ·rw [if_pos (Lz h)]
  refine W07 ?_
  exact LN LA
 rw [if_neg (Ly h)]
 repeat' (first|refine a9 ?_|refine a4 ?_|refine aj ?_|refine a6 ?_|refine LG a5 KZ ?_|refine bQ a5 ?_|(apply bw;refine bn ?_)|fail)
 refine dz (t:=5) [] ([a.Min,a.Def,a.Max].all gK=true∧a.Min≤a.Def∧a.Def≤a.Max) rfl (fun Q' K=>?_) ?_
 ·repeat' (first|refine a7 ?_|refine LG a5 KZ ?_|refine LO KZ ?_|refine LP LB ?_|refine LR LA (fun _=>?_) (fun _=>?_))
  all_goals exact K _ _ rfl rfl (by clear K;grind)
 refine W0l ?_
 exact LN LA
instance (a:eR) (name:Int):AD Tryz.prog 69 [.agg (cM a),aI name] (aI (vh a name)):=⟨CC a name⟩
def tq (_:Nat) (t:fq):Int:=er (decide (¬(-64≤t.Start∧t.Start≤t.Peak∧t.Peak≤t.End∧t.End≤64)∨(t.Start < 0∧t.End > 0∧t.Peak≠0))) 61
set_option maxHeartbeats 1000000 in
theorem EI (i:Nat) (t:fq):c5 Tryz.prog 150 [aI i,.agg (ld t)] (aI (tq i t)):=by
 refine aS Tryz.func150 rfl Tryz.ntmps150 rfl fun B=>?_
 refine W0b ?_
 refine dz (t:=5) [3] (-64≤t.Start∧t.Start≤t.Peak∧t.Peak≤t.End∧t.End≤64) rfl (fun Q' K=>?_) ?_
 ·repeat' (first|refine a7 ?_|refine LG a5 KZ ?_|refine LO KZ ?_|refine LP LB ?_|refine LR LA (fun _=>?_) (fun _=>?_))
  all_goals exact K _ _ rfl rfl (by clear K;grind)
 refine W26 ?_
 refine dz (t:=6) [5] (t.Start < 0∧t.End > 0∧t.Peak≠0) rfl (fun Q' K=>?_) ?_
 ·repeat' (first|refine a7 ?_|refine LG a5 KZ ?_|refine LO KZ ?_|refine LP LB ?_|refine LR LA (fun _=>?_) (fun _=>?_))
  all_goals exact K _ _ rfl rfl (by clear K;grind)
 have ht:tq i t=er (!(decide (-64≤t.Start∧t.Start≤t.Peak∧t.Peak≤t.End∧t.End≤64)) || decide (t.Start < 0∧t.End > 0∧t.Peak≠0)) 61:=by unfold tq;rw [Bool.decide_or,decide_not]
 rw [ht]
 generalize decide (-64≤t.Start∧t.Start≤t.Peak∧t.Peak≤t.End∧t.End≤64)=p
 generalize decide (t.Start < 0∧t.End > 0∧t.Peak≠0)=q
 cases p <;> cases q
 all_goals
  repeat' (first|refine a9 ?_|refine a4 ?_|refine am ?_|refine a6 ?_|refine a7 ?_|refine LG a5 KZ ?_|refine LO KZ ?_|refine LP LB ?_|(apply bw;refine bn ?_)|fail)
  exact LN LA
def Bj (axes:Int) (r:List fq):Int:=if (r.length:Int)≠axes then 61 else (di r tq).1
theorem xX (r:List fq) (axes:Int):c5 Tryz.prog 72 [.agg (bN r),aI axes] (aI (Bj axes r)):=by
 refine aS Tryz.func72 rfl Tryz.ntmps72 rfl fun B=>?_
 unfold Bj
 refine W0b ?_
 rw [Lu]
 refine ar rfl (fun h=>?_) (fun h=>?_)
 ·rw [if_pos (Lz h)]
  refine W07 ?_
  exact LN LA
 rw [if_neg (Ly h)]
 refine W0e ?_
 refine b9 [] [] (FF (u:= .sc (.func (.func 150) #[] #[])) (g:=150) (caps:=[]) rfl r _ (fun _ _=>True) [] trivial (du (fun i x _=>EI i x))) rfl rfl (Lm _) rfl fun c L1 hc=>?_
 have hc:c=cu (di r tq):=hc
 subst hc
 unfold cu
 refine W0u ?_
 exact LN LA
instance (r:List fq) (axes:Int):AD Tryz.prog 72 [.agg (bN r),aI axes] (aI (Bj axes r)):=⟨xX r axes⟩
theorem wi (f:aY) (i:Nat) (r:List fq):c5 Tryz.prog 71 [aI i,.agg (bN r),.iptr (cG f)] (aI (Bj f.Axes.length r)):=by
 refine aS Tryz.func71 rfl Tryz.ntmps71 rfl fun B=>?_
 refine W17 ?_
 rw [Lu]
 repeat' (first|fail)
 exact LN LA
theorem A9 (i:Nat) (l:List gx):c5 Tryz.prog 74 [aI i,.imm 2 (l.map fj)] (aI (nV l)):=by
 refine aS Tryz.func74 rfl Tryz.ntmps74 rfl fun B=>?_
 refine W0l ?_
 exact LN LA
def CQ (_:Nat) (n:Int):Int:=er (!([n].all gK)) 1
theorem CO (i:Nat) (n:Int):c5 Tryz.prog 77 [aI i,aI n] (aI (CQ i n)):=by
 refine aS Tryz.func77 rfl Tryz.ntmps77 rfl fun B=>?_
 refine W1R ?_
 exact LN LA
def pk (f:aY):Int:=if f.Unit < 16∨f.Unit > 4096 then 1 else if f.Glyphs.length=0 then 32 else 0
theorem Dn (f:aY):c5 Tryz.prog 49 [d7 f] (aI (pk f)):=by
 refine aS Tryz.func49 rfl Tryz.ntmps49 rfl fun B=>?_
 unfold pk
 refine W0V ?_
 refine ce [1] (f.Unit < 16∨f.Unit > 4096) rfl (fun Q' K=>?_) (fun hC=>?_) (fun hC=>?_)
 ·repeat' (first|refine a7 ?_|refine LG a5 KZ ?_|refine LO KZ ?_|refine LP LB ?_|refine LR LA (fun _=>?_) (fun _=>?_))
  all_goals exact K _ _ rfl rfl (by clear K;grind)
 ·rw [if_pos hC]
  refine W0f ?_
  exact LN LA
 rw [if_neg hC]
 refine W01 ?_
 rw [Lu]
 refine ar rfl (fun h=>?_) (fun h=>?_)
 ·rw [if_pos (by have:=Lz h;omega)]
  refine W0f ?_
  exact LN LA
 rw [if_neg (by have:=Ly h;omega)]
 refine W1k ?_
 exact LN LA
instance (f:aY):AD Tryz.prog 49 [d7 f] (aI (pk f)):=⟨Dn f⟩
theorem AA (f:aY):c5 Tryz.prog 48 [.iptr (cG f)] (cu (pk f,0)):=by
 refine aS Tryz.func48 rfl Tryz.ntmps48 rfl fun B=>?_
 refine W0l ?_
 exact aZ rfl rfl rfl rfl
end Go.Proofs.YtpmdfoaadejmkaaGreatDoor
namespace Go.Proofs.YtpmdfoaadejmkaaGreatDoor
open Go.RowKit
section
variable {P:Program} {tt:TT} {l:List Oper} {fr:bT} {fin:iR} {sk:m6} {acc:bT} {L:AL} {k:Nat} {dd:Option Tmp} {ty t t':TypeId} {pos:String} {af:Array Edge} {g:Option (Nat×Bool)} {x y:Operand} {u:AV}
theorem d8 (ok:eu P tt) {e sz by_ b off n cap:Nat} {q:IntKind} {i:Int} (ht:kr tt t=some (e,sz,by_)) (hx:bh (cx l.toArray acc fr af.toList) x=some (.sc (.slice (some ⟨b,off,none⟩) n cap))) (hy:bh (cx l.toArray acc fr af.toList) y=some (.sc (.int q i))) (h0:0≤i∧i < n) (hg:it ⟨dd,.indexAddr t x y,ty,pos,af,g⟩ acc) (h:DA P l fr fin sk ((k,.sc (.pointer (some ⟨b,off+i.toNat * sz,none⟩)))::acc) L):
  cA P l fr fin k .v ⟨dd,.indexAddr t x y,ty,pos,af,g⟩ sk acc L:=fA hg (fun _ _=>(uQ (bo ok ht).1 hx hy h0).ao) h
theorem CU (ok:eu P tt) (i:Nat) {b q n:Nat} {cs ys:List AV} {e:TypeId} (ht:Hb tt t=some n) (hx:bh (cx l.toArray acc fr af.toList) x=some (.sc (.pointer (some ⟨b,q,none⟩)))) (hy:bh (cx l.toArray acc fr af.toList) y=some u) (hu:u.cells=some ys) (hL:L[i]?=some (b,.box cs e)) (hn:Nat.beq ys.length n=true) (hk:Nat.ble (q+n) cs.length=true) (hg:it ⟨dd,.store t x y,ty,pos,af,g⟩ acc) (h:∀c,DA P l fr fin sk ((k,c)::acc) (eF L i (.box (fx cs q ys) e))):
  cA P l fr fin k .e ⟨dd,.store t x y,ty,pos,af,g⟩ sk acc L:=kH hg (fun _=>nf i (ki ok ht) hx hy hu hL hn hk) fun c L' h1=>by subst h1;exact h c
theorem vu {v:Value} (ht:jb P t=true) (hx:bh (cx l.toArray acc fr af.toList) x=some (.sc (.iface t v))) (hg:it ⟨dd,.typeAssert x t' t false,ty,pos,af,g⟩ acc) (h:DA P l fr fin sk ((k,.sc v)::acc) L):cA P l fr fin k .v ⟨dd,.typeAssert x t' t false,ty,pos,af,g⟩ sk acc L:=
 fA hg (fun _ _=>(uP ht hx).ao) h
theorem Ac (ok:eu P tt) (i:Nat) {e by_ b n cap:Nat} {cs:List AV} {c:AV} (ht:kr tt t=some (e,1,by_)) (hz:zI tt e=some [.int .i64 0]) (hx:bh (cx l.toArray acc fr af.toList) x=some (.sc (.slice (some ⟨b,0,none⟩) n cap))) (hy:bh (cx l.toArray acc fr af.toList) y=some u) (hu:j6 u=some (1,[[c]])) (hL:L[i]?=some (b,.box cs e)) (hcl:cs.length=cap) (hn:n≤cap) (h63:n+1≤9223372036854775807) (hby:(n+1) * by_≤140737488355328) (hg:it ⟨dd,.call ⟨.builtin .append,#[x,y],#[t,t]⟩,ty,pos,af,g⟩ acc)
  (h:∀b' cs',cs'.take (n+1)=cs.take n++[c]→n+1≤cs'.length→DA P l fr fin sk ((k,.sc (.slice (some ⟨b',0,none⟩) (n+1) cs'.length))::acc) ((b',.box cs' e)::L.eraseIdx i)):
  cA P l fr fin k .e ⟨dd,.call ⟨.builtin .append,#[x,y],#[t,t]⟩,ty,pos,af,g⟩ sk acc L:=
 kH hg (fun _=>qu i (bo ok ht).1 (f5 ok hz) hx hy (cY hu) hL hcl hn h63 hby) fun q L' ⟨b',cs',h1,h2,h3,h4⟩=>by subst h1;subst h4;exact h b' cs' h2 h3
theorem Ae (ok:eu P tt) {e by_:Nat} {c:AV} (ht:kr tt t=some (e,1,by_)) (hz:zI tt e=some [.int .i64 0]) (hx:bh (cx l.toArray acc fr af.toList) x=some (.sc (.slice none 0 0))) (hy:bh (cx l.toArray acc fr af.toList) y=some u) (hu:j6 u=some (1,[[c]])) (hby:Nat.ble by_ 140737488355328=true) (hg:it ⟨dd,.call ⟨.builtin .append,#[x,y],#[t,t]⟩,ty,pos,af,g⟩ acc)
  (h:∀b' cs',cs'.take 1=[c]→1≤cs'.length→DA P l fr fin sk ((k,.sc (.slice (some ⟨b',0,none⟩) 1 cs'.length))::acc) ((b',.box cs' e)::L)):
  cA P l fr fin k .e ⟨dd,.call ⟨.builtin .append,#[x,y],#[t,t]⟩,ty,pos,af,g⟩ sk acc L:=
 kH hg (fun _=>qw (bo ok ht).1 (f5 ok hz) hx hy (cY hu) (Nat.ble_eq .. ▸hby)) fun q L' ⟨b',cs',h1,h2,h3,h4⟩=>by subst h1;subst h4;exact h b' cs' h2 h3
end
def H3 (P:Program) (t:TypeId) (name:String) (f:FuncId) (ptr:Bool) (e:TypeId):Bool:=(match P.underlying t with | some (.pointer e')=>Nat.beq e' e | _=>false) && match P.info? t with
 | some ti=>match ti.methods.find? (·.name==name) with
  | some m=>m.path.isEmpty && (match m.func with | some (f',p')=>Nat.beq f' f && (p'==ptr) | none=>false)
  | none=>false
 | none=>false
theorem j7 {P:Program} {t:TypeId} {name:String} {f:FuncId} {ptr:Bool} {e:TypeId} (h:H3 P t name f ptr e=true):n9 P t name f ptr e:=by
 unfold H3 at h
 rw [Bool.and_eq_true] at h
 obtain ⟨h1,h2⟩:=h
 split at h1
 ·rename_i e' hu
  rw [Nat.beq_eq] at h1
  subst h1
  split at h2
  ·rename_i ti hti
   split at h2
   ·rename_i m hm
    rw [Bool.and_eq_true] at h2
    obtain ⟨h3,h4⟩:=h2
    split at h4
    ·rename_i f' p' hf
     rw [Bool.and_eq_true,Nat.beq_eq,beq_iff_eq] at h4
     refine ⟨hu,ti,m,hti,hm,?_,by rw [hf,h4.1,h4.2]⟩
     simpa using h3
    ·cases h4
   ·cases h2
  ·cases h2
 ·cases h1
end Go.Proofs.YtpmdfoaadejmkaaGreatDoor
namespace Go.Proofs.YtpmdfoaadejmkaaGreatDoor
open Go.RowKit Go.MapKept
section
variable {P:Program} {fr:bT} {B:Bs} {L:AL}
theorem AO.as {o:Oper} {a b:AV} (h:AO P o fr B L (fun c L'=>c=a∧L'=L)) (hv:∀σ v,VR σ a v→VR σ b v):AO P o fr B L (fun c L'=>c=b∧L'=L):=
 fun σ ρ w hρ hw=>(h σ ρ w hρ hw).mono fun _ _ ⟨τ,c,L',h1,h2,h3,h4,h5⟩=>⟨τ,b,L',h1,hv τ _ (by rw [←h4];exact h2),h3,rfl,h5⟩
end
section
variable {P:Program} {tt:TT} {l:List Oper} {fr:bT} {fin:iR} {sk:m6} {acc:bT} {L:AL} {k:Nat} {dd:Option Tmp} {ty t t':TypeId} {pos:String} {af:Array Edge} {g:Option (Nat×Bool)} {x y z:Operand} {u:AV}
theorem Ai (i:Nat) (v0:Value) (a:AV) {b kt et:Nat} {kd:TypeDesc} {q:Value} {m:Value→Option AV} (ht:P.underlying t=some (.map kt et)) (hkt:P.underlying kt=some kd) (hx:bh (cx l.toArray acc fr af.toList) x=some (.sc (.map (some b)))) (hy:bh (cx l.toArray acc fr af.toList) y=some (.sc q)) (hk:IsKey kd q) (hL:L[i]?=some (b,cR kd m)) (hz:lZ P et v0=true) (ha:∀σ v,VR σ ((m q).getD (.sc v0)) v→VR σ a v) (hg:it ⟨dd,.lookup t x y false,ty,pos,af,g⟩ acc) (h:DA P l fr fin sk ((k,a)::acc) L):
  cA P l fr fin k .e ⟨dd,.lookup t x y false,ty,pos,af,g⟩ sk acc L:=
 kH hg (fun B=>(m8 i ht hkt hx hy hk hL (gw hz) fun _=> .sc _).as ha) fun c L' ⟨h1,h2⟩=>by subst h1;subst h2;exact h
theorem eS (ok:eu P tt) (L0:AL) {e sz by_:Nat} {q:Option (Nat×Nat)} {l1 l2:List (List AV)} (ht:kr tt t=some (e,sz,by_)) (hx:bh (cx l.toArray acc fr af.toList) x=some (.vec q sz l1)) (hy:bh (cx l.toArray acc fr af.toList) y=some u) (hu:j6 u=some (sz,l2)) (hL:L.Perm (tok q e sz l1.length++L0)) (h63:l1.length+l2.length≤9223372036854775807) (hby:(l1.length+l2.length) * by_≤140737488355328) (hg:it ⟨dd,.call ⟨.builtin .append,#[x,y],#[t,t]⟩,ty,pos,af,g⟩ acc)
  (h:∀k',DA P l fr fin sk ((k,.vec k' sz (l1++l2))::acc) (tok k' e sz (l1++l2).length++L0)):
  cA P l fr fin k .e ⟨dd,.call ⟨.builtin .append,#[x,y],#[t,t]⟩,ty,pos,af,g⟩ sk acc L:=
 kH hg (fun _=>ox L0 (bo ok ht).1 (bo ok ht).2 hx hy (cY hu) hL h63 hby) fun c L' ⟨k',h1,h2⟩=>by subst h1;subst h2;exact h k'
end
section
variable {P:Program} {r:Option Nat} {ops:Array Oper} {Q:Exit→Act→World→Prop} {nt:Nat} {D:List Deferred} {fr:bT} {B:Bs} {L:AL} {rest:List Oper} {d:Nat} {ty t:TypeId} {pos:String} {af:Array Edge} {x y z:Operand} {u:AV}
theorem jW (i:Nat) (v0:Value) (a:AV) {b kt et:Nat} {kd:TypeDesc} {k:Value} {m:Value→Option AV} (ht:P.underlying t=some (.map kt et)) (hkt:P.underlying kt=some kd) (hx:bh fr x=some (.sc (.map (some b)))) (hy:bh fr y=some (.sc k)) (hk:IsKey kd k) (hL:L[i]?=some (b,cR kd m)) (hz:lZ P et v0=true) (ha:∀σ v,VR σ ((m k).getD (.sc v0)) v→VR σ a v) (hd:Nat.ble nt d=false)
  (h:br P r ops Q nt D rest ((d,a)::fr) B L):br P r ops Q nt D (⟨some d,.lookup t x y false,ty,pos,af,none⟩::rest) fr B L:=
 cw hd rfl ((m8 i ht hkt hx hy hk hL (gw hz) fun _=> .sc _).as ha) fun c L' ⟨h1,h2⟩=>by subst h1;subst h2;exact h
end
noncomputable def oO (m:Value→Option AV) (k:Value) (c:AV):Value→Option AV:=fun q=>open Classical in if q=k then some c else m q
theorem jT {m:Value→Option AV} {k:Value} {c:AV}:oO m k c k=some c:=by simp [oO]
theorem j9 {m:Value→Option AV} {k:Value} {c:AV} (q:Value) (h:q≠k):oO m k c q=m q:=by simp [oO,h]
def ov (m:Value→Option AV) (M:Int→Int):Prop:=∀z,m (.int .i64 z)=none∧M z=0∨m (.int .i64 z)=some (.sc (.int .i64 (M z)))
theorem ov.at {m:Value→Option AV} {M:Int→Int} (h:ov m M) (z:Int):∀(σ:Mem) (v:Value),VR σ ((m (.int .i64 z)).getD (.sc (.int .i64 0))) v→VR σ (.sc (.int .i64 (M z))) v:=by
 intro σ v hv
 rcases h z with ⟨h1,h2⟩ | h1
 ·rw [h1] at hv;rw [h2];exact hv
 ·rw [h1] at hv;exact hv
theorem ov.put {m:Value→Option AV} {M:Int→Int} (h:ov m M) (z c:Int):ov (oO m (.int .i64 z) (.sc (.int .i64 c))) fun q=>if q=z then c else M q:=by
 intro q
 by_cases e:q=z
 ·subst e;simp only [if_true,jT];exact .inr trivial
 ·simp only [if_neg e];rw [j9 _ (by intro h;injection h with _ h;exact e h)];exact h q
def qm (m:Value→Option AV) (K:Int→Option (Nat×Nat)) (U:Int→List Int):Prop:=∀z,(m (.int .i64 z)=none∧U z=[]∧K z=none)∨m (.int .i64 z)=some (.vec (K z) 1 (aQ (U z)))
theorem qm.at {m:Value→Option AV} {K:Int→Option (Nat×Nat)} {U:Int→List Int} (h:qm m K U) (z:Int):∀(σ:Mem) (v:Value),VR σ ((m (.int .i64 z)).getD (.sc (.slice none 0 0))) v→VR σ (.vec (K z) 1 (aQ (U z))) v:=by
 intro σ v hv
 rcases h z with ⟨h1,h2,h3⟩ | h1
 ·rw [h1] at hv;rw [h2,h3];exact cC 1 hv
 ·rw [h1] at hv;exact hv
theorem qm.put {m:Value→Option AV} {K:Int→Option (Nat×Nat)} {U:Int→List Int} (h:qm m K U) (z:Int) (k:Option (Nat×Nat)) (l:List Int):qm (oO m (.int .i64 z) (.vec k 1 (aQ l))) (fun q=>if q=z then k else K q) fun q=>if q=z then l else U q:=by
 intro q
 by_cases e:q=z
 ·subst e;simp only [if_true,jT];exact .inr trivial
 ·simp only [if_neg e]
  rw [j9 _ (by intro h;injection h with _ h;exact e h)]
  exact h q
def n6 (e:TypeId) (K:Int→Option (Nat×Nat)) (U:Int→List Int) (zs:List Int):AL:=zs.flatMap fun z=>tok (K z) e 1 (aQ (U z)).length
theorem oY {e:TypeId} {K:Int→Option (Nat×Nat)} {U:Int→List Int}:∀{zs:List Int} {z:Int},z∈zs→(n6 e K U zs).Perm (tok (K z) e 1 (aQ (U z)).length++n6 e K U (zs.erase z))
 | y::zs,z,h=>by
  by_cases hz:y=z
  ·subst hz
   rw [List.erase_cons_head]
   exact Lm _
  ·have hm:z∈zs:=by
    rcases List.mem_cons.1 h with h | h
    ·exact absurd h.symm hz
    ·exact h
   rw [List.erase_cons_tail (by simpa using hz)]
   have ih:=oY (e:=e) (K:=K) (U:=U) hm
   unfold n6 at ih ⊢
   rw [List.flatMap_cons,List.flatMap_cons]
   refine (List.Perm.append_left _ ih).trans ?_
   rw [←List.append_assoc,←List.append_assoc]
   exact List.Perm.append_right _ List.perm_append_comm
theorem yd {e:TypeId} {K K':Int→Option (Nat×Nat)} {U U':Int→List Int} {zs:List Int} (h:∀z∈zs,K z=K' z∧U z=U' z):n6 e K U zs=n6 e K' U' zs:=by
 unfold n6
 induction zs with
 | nil=>rfl
 | cons z zs ih=>
  rw [List.flatMap_cons,List.flatMap_cons,ih fun y hy=>h y (Ls _ hy),(h z (List.mem_cons_self ..)).1,(h z (List.mem_cons_self ..)).2]
theorem EJ {e:TypeId} {K:Int→Option (Nat×Nat)} {U:Int→List Int} {zs:List Int} {z:Int} {k:Option (Nat×Nat)} {l:List Int} (hn:zs.Nodup) (h:z∈zs):(tok k e 1 (aQ l).length++n6 e K U (zs.erase z)).Perm (n6 e (fun q=>if q=z then k else K q) (fun q=>if q=z then l else U q) zs):=by
 have h1:=oY (e:=e) (K:=fun q=>if q=z then k else K q) (U:=fun q=>if q=z then l else U q) h
 simp only [if_true] at h1
 refine List.Perm.trans ?_ h1.symm
 rw [yd (K:=K) (U:=U) (K':=fun q=>if q=z then k else K q) (U':=fun q=>if q=z then l else U q) fun y hy=>by
  have hne:y≠z:=fun e=>by subst e;exact (List.Nodup.not_mem_erase hn) hy
  simp only [if_neg hne]
  exact ⟨trivial,trivial⟩]
theorem BM (e:TypeId) (U:Int→List Int) (zs:List Int):n6 e (fun _=>none) U zs=[]:=by
 unfold n6 tok
 induction zs with
 | nil=>rfl
 | cons z zs ih=>rw [List.flatMap_cons,ih];rfl
end Go.Proofs.YtpmdfoaadejmkaaGreatDoor
namespace Go.Proofs.YtpmdfoaadejmkaaGreatDoor
open Go.RowKit
section
variable {P:Program} {r:Option Nat} {ops:Array Oper} {Q:Exit→Act→World→Prop} {nt:Nat} {D:List Deferred} {fr:bT} {B:Bs} {L:AL} {cd:Code}
def qj (nt:Nat) (B:Bs) {α:Type} (Dx:α→List Deferred) (V:α→bT) (fr0:bT) (C:α→Prop) (Lx:α→AL) (μ:α→Nat) (x:α) (Q:Exit→Act→World→Prop):Exit→Act→World→Prop:=Exit.then (fun a w=>∃σ x',jz σ nt (Dx x') (V x'++fr0) a∧C x'∧cL B σ (Lx x') w∧μ x' < μ x) Q
theorem Cx (ks:List Nat) {α:Type} (Dx:α→List Deferred) (V:α→bT) (C:α→Prop) (Lx:α→AL) (μ:α→Nat) (x0:α) {fr0:bT} (hk:gP fr ks=some fr0) (hV:mL (V x0) fr) (hD:D=Dx x0) (hC:C x0) (hL:∀σ w,cL B σ L w→cL B σ (Lx x0) w)
  (hb:∀x,C x→AT P r cd (qj nt B Dx V fr0 C Lx μ x Q) nt (Dx x) (V x++fr0) B (Lx x)):AT P r (.loop cd) Q nt D fr B L:=by
 intro σ a w ha hw
 subst hD
 classical
 let G:Nat→Act→World→Prop:=fun m a w=>∃σ x,jz σ nt (Dx x) (V x++fr0) a∧C x∧cL B σ (Lx x) w∧μ x=m
 let M:Act→World→Nat:=fun a w=>if h:∃m,G m a w∧∀m',G m' a w→m≤m' then h.choose else 0
 have least:∀a w,(∃m,G m a w)→G (M a w) a w∧∀m',G m' a w→M a w≤m':=by
  rintro a w ⟨m0,hg0⟩
  have hex:∃m,G m a w∧∀m',G m' a w→m≤m':=by
   have:∀k,∀m,m≤k→G m a w→∃m,G m a w∧∀m',G m' a w→m≤m':=by
    intro k
    induction k with
    | zero=>intro m hm hg;exact ⟨m,hg,fun m' _=>by omega⟩
    | succ k ih=>
     intro m hm hg
     by_cases h:∃m',m' < m∧G m' a w
     ·obtain ⟨m',hlt,hg'⟩:=h
      exact ih m' (by omega) hg'
     ·exact ⟨m,hg,fun m' hg'=>by
       rcases Nat.lt_or_ge m' m with hlt | hge
       ·exact absurd ⟨m',hlt,hg'⟩ h
       ·exact hge⟩
   exact this m0 m0 (Nat.le_refl _) hg0
  have hM:M a w=hex.choose:=dif_pos hex
  rw [hM];exact hex.choose_spec
 refine wpIn_loop (fun a w=>∃m,G m a w) M ⟨_,σ,x0,ha.weak (nc hV (eg ks hk)),hC,hL σ w hw,rfl⟩ ?_
 intro a w hI
 obtain ⟨⟨σ',x,hx,hj,hst,hm⟩,_⟩:=least a w hI
 refine wpIn_mono (hb x hj σ' a w hx hst) ?_
 intro e a' w' hq
 cases e with
 | normal=>
  obtain ⟨τ,x',hx',hj',hst',hlt⟩:=hq
  have hg:G (μ x') a' w':=⟨τ,x',hx',hj',hst',rfl⟩
  refine ⟨⟨_,hg⟩,?_⟩
  have:=(least a' w' ⟨_,hg⟩).2 (μ x') hg
  omega
 | _=>exact hq
theorem oA {α:Type} {Dx:α→List Deferred} {V:α→bT} {fr0:bT} {C:α→Prop} {Lx:α→AL} {μ:α→Nat} {x:α} (x':α) (hk:gP fr (fr0.map (·.1))=some fr0) (hV:mL (V x') fr) (hD:D=Dx x') (hC:C x') (hm:μ x' < μ x) (hL:∀σ w,cL B σ L w→cL B σ (Lx x') w):
  AX P .normal (qj nt B Dx V fr0 C Lx μ x Q) nt D fr B L:=fun σ a w ha hw=>by
 subst hD
 exact ⟨σ,x',ha.weak (nc hV (eg _ hk)),hC,hL _ _ hw,hm⟩
theorem sa {α:Type} {Dx:α→List Deferred} {V:α→bT} {fr0:bT} {C:α→Prop} {Lx:α→AL} {μ:α→Nat} {x:α} {id:Nat} (h:AX P (.exit id) Q nt D fr B L):AX P (.exit id) (qj nt B Dx V fr0 C Lx μ x Q) nt D fr B L:=fun σ a w ha hw=>h σ a w ha hw
end
section
variable {nt:Nat} {D:List Deferred} {B:Bs} {fr:bT} {L:AL}
theorem tw {t b e sz n:Nat} {cs:List AV} {l:List (List AV)} (i:Nat) (hl:ca fr t=some (.iptr [.sc (.slice (some ⟨b,0,none⟩) n n)])) (hL:L[i]?=some (b,.box cs e)) (hc:cs=l.flatten) (hs:∀q∈l,q.length=sz) (hn:l.length=n) (h63:n≤9223372036854775807):jn nt D B fr L ((t,.iptr [.imm sz l])::fr) ((b,.vec e sz n n)::L.eraseIdx i):=by
 intro σ a w ha hw0
 have hw:=hw0.perm (dY hL)
 obtain ⟨o,ho,vs,rfl,hvs,h1⟩:=hw.here _ (List.mem_cons_self ..)
 have hfree:=hw.free _ (List.mem_cons_self ..)
 have hvl:vs.length=n * sz:=by rw [←hvs.1,hc,ej l hs,hn]
 have hst:cL B σ ((b,.vec e sz 0 n)::L.eraseIdx i) w:=by
  refine ⟨hw.os,hw.tape,hw.output,hw.size,hw.old,fun p hp=>?_,fun p hp=>?_,by simpa using hw.apart,hw.froz,fun p hp off hm=>?_,hw.grow,hw.same,hw.cold⟩
  ·rcases List.mem_cons.1 hp with rfl | hp'
   ·exact ⟨_,ho,_,rfl,by simp [hvl],Nat.zero_le _,by unfold maxLen;omega⟩
   ·exact hw.here p (Ls _ hp')
  ·rcases List.mem_cons.1 hp with rfl | hp'
   ·exact hw.mine (b,.box cs e) (List.mem_cons_self ..)
   ·exact hw.mine p (Ls _ hp')
  ·rcases List.mem_cons.1 hp with rfl | hp'
   ·exact hfree off trivial
   ·exact hw.free p (Ls _ hp') off hm
 obtain ⟨hst',hle⟩:=hst.freezeHead (n':=n) (xs:=vs) (fun j u hj=>by rw [cX ho];simpa using hj) hvl (Nat.zero_le _) (Nat.le_refl _)
 refine ⟨_,?_,hst'⟩
 have hv:VR (σ.add b vs) (.vec (some (b,n)) sz l) (.slice (some ⟨b,0,none⟩) n n):=by
  have:=lY (σ:=σ.add b vs) (b:=b) (cap:=n) hs (by rw [←hc];exact hvs.mono hle) h1 (by omega) (by unfold maxLen;omega) (fun j u hj=>Mem.add_at hj)
  rwa [hn] at this
 have ha':=ha.mono hle
 refine ⟨ha'.size,ha'.defers,fun t' v' hl'=>?_⟩
 rw [bY] at hl'
 by_cases e:t=t'
 ·subst e
  simp only [if_true,Option.some.injEq] at hl'
  subst hl'
  have hp:=ha.look t _ hl
  generalize a.tmps.getD t undef=v0 at hp
  generalize hq:AV.iptr [.sc (.slice (some ⟨b,0,none⟩) n n)]=q at hp
  cases hp with
  | iptr cs2 b0 off hx h=>
   injection hq with hq
   subst hq
   refine .iptr _ b0 off (fun j hj=>?_) fun j c u hc hu=>?_
   ·obtain ⟨u,hu,h1⟩:=hx j hj
    exact ⟨u,hle _ _ _ hu,h1⟩
   ·have hj:j=0:=by
     have:=(Ln hc).1
     simp at this
     exact this
    subst hj
    simp at hc
    subst hc
    obtain ⟨u',hu',_⟩:=hx 0 (by simp)
    have h2:=hle _ _ _ hu'
    rw [hu] at h2
    injection h2 with h2
    subst h2
    rw [(h 0 _ u rfl hu').sc_inv]
    exact hv.im
  | _=>cases hq
 ·rw [if_neg e] at hl'
  exact ha'.look t' v' hl'
end
end Go.Proofs.YtpmdfoaadejmkaaGreatDoor
