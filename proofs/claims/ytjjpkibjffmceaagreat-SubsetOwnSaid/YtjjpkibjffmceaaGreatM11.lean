/-
  The program: glyphs, as check looks at them, with anchors and deltas.
-/
import Derived.Test.YtjjpkibjffmceaaGreatM10
import Derived.Test.YtjjpkibjffmceaaGreatM08
namespace Go.Proofs.YtjjpkibjffmceaaGreat
open Go.RowKit
attribute [local irreducible] AT bW AX AO Av Kt bA eI DA dl
theorem Cs:ju Tryz.prog 318:=⟨⟨_,_,Tryz.underlying318,⟨by decide,by decide⟩,⟨rfl,rfl⟩,Tryz.underlying3,Tryz.underlying3⟩,Tryz.stoodInHeld318⟩
theorem FQ:ju Tryz.prog 321:=⟨⟨_,_,Tryz.underlying321,⟨by decide,by decide⟩,⟨rfl,rfl⟩,Tryz.underlying3,Tryz.underlying3⟩,Tryz.stoodInHeld321⟩
def oa (l:List dT) (a b:Int):Option AV:=if ∃x∈l,x.Kind=a∧x.Class=b then some (cx true) else none
theorem BB:oa []=fun _ _=>none:=by funext a b;simp [oa]
theorem yH (l:List dT) (a b:Int):(oa l a b).getD (cx false)=cx (decide (∃x∈l,x.Kind=a∧x.Class=b)):=by
 unfold oa
 by_cases h:∃x∈l,x.Kind=a∧x.Class=b
 ·rw [if_pos h,decide_eq_true h];rfl
 ·rw [if_neg h,decide_eq_false h];rfl
theorem yI {l:List dT} {i:Nat} {x:dT} (h:l[i]?=some x):oa (l.take (i+1)) x.Kind x.Class=some (cx true):=by
 unfold oa
 rw [if_pos ⟨x,by rw [List.take_add_one,h];simp,rfl,rfl⟩]
theorem wj {l:List dT} {i:Nat} {x:dT} (h:l[i]?=some x) (p q:Int) (hne:¬(p=x.Kind∧q=x.Class)):oa (l.take (i+1)) p q=oa (l.take i) p q:=by
 unfold oa
 have:(∃y∈l.take (i+1),y.Kind=p∧y.Class=q)↔∃y∈l.take i,y.Kind=p∧y.Class=q:=by
  rw [List.take_add_one,h]
  simp only [Option.toList_some,List.mem_append,List.mem_singleton]
  constructor
  ·rintro ⟨y,hy | rfl,h1⟩
   ·exact ⟨y,hy,h1⟩
   ·exact absurd ⟨h1.1.symm,h1.2.symm⟩ hne
  ·rintro ⟨y,hy,h1⟩
   exact ⟨y,Or.inl hy,h1⟩
 by_cases hc:∃y∈l.take i,y.Kind=p∧y.Class=q
 ·rw [if_pos hc,if_pos (this.2 hc)]
 ·rw [if_neg hc,if_neg (fun h=>hc (this.1 h))]
set_option maxHeartbeats 1000000 in
theorem vr (g:br) (i:Nat) (a:dT) (ha:g.Anchors[i]?=some a) (m:Nat):AC Tryz.prog 221 [aP i,.agg (cF a),.iptr [cx g.Mark],.iptr [.sc (.map (some m))]] [(m,iz (oa (g.Anchors.take i)))] fun c L'=>c=aP (m7 g i a)∧(m7 g i a=0→L'=[(m,iz (oa (g.Anchors.take (i+1))))]):=by
 refine aS Tryz.func221 rfl Tryz.ntmps221 rfl fun B=>?_
 repeat' (first|refine go ?_|refine HK a6 FS ?_|(apply aG;first|refine HN 7 a6 0 HJ ?_|refine HN 7 a6 1 HJ ?_|refine HN 7 a6 2 HJ ?_|refine HM a6 0 HH ?_|refine HM a6 1 HH ?_|refine HM a6 2 HH ?_|refine HM a6 3 HH ?_|fail)|refine bh ?_|refine aX a6 fun _=>?_|fail)
 refine du (t:=8) [2,3,5,7] (a.Kind=3∨a.Kind=4) rfl (fun Q' K=>?_) ?_
 ·repeat' (first|refine go ?_|refine HK a6 FS ?_|refine HV FS ?_|refine HW HF ?_|refine bk rfl rfl rfl (fun _=>?_) (fun _=>?_))
  all_goals exact K _ _ rfl rfl (by clear K;grind)
 repeat' (first|refine go ?_|refine ak ?_|refine HK a6 FS ?_)
 refine du (t:=22) [2,3,5,7,8] (a.Kind < 1∨a.Kind > 4) rfl (fun Q' K=>?_) ?_
 ·repeat' (first|refine go ?_|refine HK a6 FS ?_|refine HV FS ?_|refine HW HF ?_|refine bk rfl rfl rfl (fun _=>?_) (fun _=>?_))
  all_goals exact K _ _ rfl rfl (by clear K;grind)
 repeat' (first|refine go ?_|fail)
 refine ay rfl (fun h1=>?_) (fun h1=>?_)
 ·have h0:=h1
  replace h1:=Iy h1
  rw [h0]
  repeat' (first|refine go ?_|refine HK a6 FS ?_|refine bP rfl ?_)
  refine HS FS ?_
  rw [show m7 g i a=35 from if_pos (.inl h1)]
  exact ⟨rfl,fun e=>absurd e (by decide)⟩
 have h0:=h1
 replace h1:=Ix h1
 rw [h0]
 clear h0
 repeat' (first|refine go ?_|refine HK a6 FS ?_)
 refine du (t:=22) [2,3,5,7,8] (a.Class < 0∨a.Class > 15) rfl (fun Q' K=>?_) ?_
 ·repeat' (first|refine go ?_|refine HK a6 FS ?_|refine HV FS ?_|refine HW HF ?_|refine bk rfl rfl rfl (fun _=>?_) (fun _=>?_))
  all_goals exact K _ _ rfl rfl (by clear K;grind)
 repeat' (first|refine go ?_|fail)
 refine ay rfl (fun h2=>?_) (fun h2=>?_)
 ·have h0:=h2
  replace h2:=Iy h2
  rw [h0]
  repeat' (first|refine go ?_|refine HK a6 FS ?_|refine bP rfl ?_)
  refine HS FS ?_
  rw [show m7 g i a=35 from if_pos (.inr (.inl h2))]
  exact ⟨rfl,fun e=>absurd e (by decide)⟩
 have h0:=h2
 replace h2:=Ix h2
 rw [h0]
 clear h0
 repeat' (first|refine go ?_|refine HK a6 FS ?_)
 refine du (t:=22) [2,3,5,7] ((a.Kind=3∨a.Kind=4)∧a.Class≠0) rfl (fun Q' K=>?_) ?_
 ·generalize hj:decide (a.Kind=3∨a.Kind=4)=j
  have hj':(a.Kind=3∨a.Kind=4)↔j=true:=by rw [←hj,decide_eq_true_eq]
  repeat' (first|refine go ?_|refine HK a6 FS ?_|refine HV FS ?_|refine HW HF ?_|refine bk rfl rfl rfl (fun _=>?_) (fun _=>?_))
  all_goals exact K _ _ (by first | rfl | (subst_vars;rfl)) rfl (by clear K;grind)
 repeat' (first|refine go ?_|fail)
 refine ay rfl (fun h3=>?_) (fun h3=>?_)
 ·have h0:=h3
  replace h3:=Iy h3
  rw [h0]
  repeat' (first|refine go ?_|refine HK a6 FS ?_|refine bP rfl ?_)
  refine HS FS ?_
  rw [show m7 g i a=35 from if_pos (.inr (.inr (.inl h3)))]
  exact ⟨rfl,fun e=>absurd e (by decide)⟩
 have h0:=h3
 replace h3:=Ix h3
 rw [h0]
 clear h0
 repeat' (first|refine go ?_|refine HK a6 FS ?_|refine bG a6 ?_|(apply bq;refine bg ?_)|fail)
 refine ay rfl (fun h4=>?_) (fun h4=>?_)
 ·rw [h4]
  repeat' (first|refine go ?_|refine HK a6 FS ?_|refine bP rfl ?_)
  refine HS FS ?_
  rw [show m7 g i a=35 from if_pos (.inr (.inr (.inr (.inl (by rw [←Bool.not_eq_true',h4])))))]
  exact ⟨rfl,fun e=>absurd e (by decide)⟩
 rw [h4]
 repeat' (first|refine go ?_|refine HK a6 FS ?_)
 refine du (t:=22) [3,7] (a.Kind=2∧g.Mark=false) rfl (fun Q' K=>?_) ?_
 ·repeat' (first|refine go ?_|refine HK a6 FS ?_|refine HV FS ?_|refine HW HF ?_|refine bk rfl rfl rfl (fun _=>?_) (fun _=>?_))
  all_goals exact K _ _ rfl rfl (by clear K;grind)
 repeat' (first|refine go ?_|fail)
 refine ay rfl (fun h5=>?_) (fun h5=>?_)
 ·have h0:=h5
  replace h5:=Iy h5
  rw [h0]
  repeat' (first|refine go ?_|refine HK a6 FS ?_|refine bP rfl ?_)
  refine HS FS ?_
  rw [show m7 g i a=35 from if_pos (.inr (.inr (.inr (.inr (.inl h5)))))]
  exact ⟨rfl,fun e=>absurd e (by decide)⟩
 have h0:=h5
 replace h5:=Ix h5
 rw [h0]
 clear h0
 repeat' (first|refine go ?_|refine HK a6 FS ?_)
 refine wl 0 (.bool false) Tryz.underlying316 Cs rfl rfl rfl (by kernel_rfl) rfl ?_
 rw [yH]
 repeat' (first|refine go ?_|refine HK a6 FS ?_)
 refine ay rfl (fun h6=>?_) (fun h6=>?_)
 ·rw [h6]
  repeat' (first|refine go ?_|refine HK a6 FS ?_)
  refine HS FS ?_
  rw [show m7 g i a=35 from if_pos (.inr (.inr (.inr (.inr (.inr (Iy h6))))))]
  exact ⟨rfl,fun e=>absurd e (by decide)⟩
 rw [h6]
 repeat' (first|refine go ?_|refine HK a6 FS ?_)
 refine t8 0 (oa (g.Anchors.take (i+1))) Tryz.underlying316 Cs rfl rfl rfl rfl (yI ha) (wj ha) ?_
 repeat' (first|refine go ?_|refine HK a6 FS ?_)
 refine HS FS ?_
 have h4':[a.X,a.Y].all gG=true:=by simpa using h4
 have h6':=Ix h6
 rw [show m7 g i a=0 from if_neg (by
  rintro (h | h | h | h | h | h)
  ·exact h1 h
  ·exact h2 h
  ·exact h3 h
  ·rw [h4'] at h;cases h
  ·exact h5 h
  ·exact h6' h)]
 exact ⟨rfl,fun _=>rfl⟩
def qP (a b c d:Int):Bool:=decide (a < c∨(a=c∧b < d))
theorem vE (a b c d:Int):bV Tryz.prog 225 [.agg [aP a,aP b],.agg [aP c,aP d]] (cx (qP a b c d)):=by
 refine aS Tryz.func225 rfl Tryz.ntmps225 rfl fun B=>?_
 repeat' (first|refine go ?_|refine HK a6 FS ?_|refine bh ?_|fail)
 refine du (t:=4) [] (qP a b c d=true) rfl (fun Q' K=>?_) ?_
 ·repeat' (first|refine go ?_|refine HK a6 FS ?_|refine HV FS ?_|refine HW HF ?_|refine dN rfl rfl rfl ?_|refine bk rfl rfl rfl (fun _=>?_) (fun _=>?_))
  all_goals exact K _ _ rfl rfl (by clear K;unfold qP;grind)
 repeat' (first|refine go ?_|fail)
 refine HS FS ?_
 simp
def gn (l:List eb) (i:Nat):Int×Int:=match i with | 0=>(0,0) | j+1=>match l[j]? with | some b=>(b.Region,b.Point) | none=>(0,0)
def qh (g:br) (i:Nat) (d:eb):Bool:=decide (0 < i∧((d.Region=(gn g.Deltas i).1∧d.Point=(gn g.Deltas i).2)∨qP d.Region d.Point (gn g.Deltas i).1 (gn g.Deltas i).2=true))
theorem DF {g:br} {i:Nat} {d:eb} (hd:g.Deltas[i]?=some d):(match i with | 0=>false | j+1=>match g.Deltas[j]? with | some b=>decide (d.Region < b.Region∨(d.Region=b.Region∧d.Point≤b.Point)) | none=>false)=qh g i d:=by
 unfold qh
 cases i with
 | zero=>simp
 | succ j=>
  have hj:j < g.Deltas.length:=by have:=(Io hd).1;omega
  obtain ⟨b,hb⟩:∃b,g.Deltas[j]?=some b:=⟨_,Iz hj⟩
  simp only [hb,gn,qP]
  rw [Bool.eq_iff_iff,decide_eq_true_eq,decide_eq_true_eq,decide_eq_true_eq]
  omega
theorem D3 {f:aL} {g:br} {i:Nat} {d:eb} (hd:g.Deltas[i]?=some d):rf f g i d=if d.Region < 0∨d.Region≥f.Regions.length then 61 else if (d.Point < -1∨d.Point≥g.Points.length)∨[d.X,d.Y].all gG=false∨(d.Point= -1∧d.Y≠0) then 30 else if qh g i d=true then 24 else 0:=by
 unfold rf
 rw [←DF hd]
 cases i <;> rfl
set_option maxHeartbeats 1000000 in
theorem yd (f:aL) (g:br) (i:Nat) (d:eb) (hd:g.Deltas[i]?=some d) (R N:Int) (hR:R=f.Regions.length) (hN:N=g.Points.length) (b:Nat):AC Tryz.prog 224 [aP i,.agg (dq d),.iptr [aP R],.iptr [aP N],.sc (.pointer (some ⟨b,0,none⟩))] [(b,.box [aP (gn g.Deltas i).1,aP (gn g.Deltas i).2] 321)] fun c L'=>c=aP (rf f g i d)∧(rf f g i d=0→L'=[(b,.box [aP (gn g.Deltas (i+1)).1,aP (gn g.Deltas (i+1)).2] 321)]):=by
 refine aS Tryz.func224 rfl Tryz.ntmps224 rfl fun B=>?_
 rw [D3 hd,←hR,←hN]
 have hnext:gn g.Deltas (i+1)=(d.Region,d.Point):=by simp only [gn,hd]
 rw [hnext]
 repeat' (first|refine go ?_|refine ak ?_|refine HK a6 FS ?_|(apply aG;first|refine HN 8 a6 0 HJ ?_|refine HN 8 a6 1 HJ ?_|refine HN 8 a6 2 HJ ?_|refine HM a6 0 HH ?_|refine HM a6 1 HH ?_|refine HM a6 2 HH ?_|refine HM a6 3 HH ?_|fail)|refine bh ?_|refine aX a6 fun _=>?_|fail)
 refine eo [0,3,4,6,8] (d.Region < 0∨d.Region≥R) rfl (fun Q' K=>?_) (fun h1=>?_) (fun h1=>?_)
 ·repeat' (first|refine go ?_|refine HK a6 FS ?_|refine HV FS ?_|refine HW HF ?_|refine bk rfl rfl rfl (fun _=>?_) (fun _=>?_))
  all_goals exact K _ _ rfl rfl (by clear K;grind)
 ·rw [if_pos h1]
  repeat' (first|refine go ?_|refine HK a6 FS ?_)
  exact HS FS ⟨rfl,fun e=>absurd e (by decide)⟩
 rw [if_neg h1]
 repeat' (first|refine go ?_|refine HK a6 FS ?_)
 refine du (t:=24) [0,4,6,8] (d.Point < -1∨d.Point≥N) rfl (fun Q' K=>?_) ?_
 ·repeat' (first|refine go ?_|refine HK a6 FS ?_|refine HV FS ?_|refine HW HF ?_|refine bk rfl rfl rfl (fun _=>?_) (fun _=>?_))
  all_goals exact K _ _ rfl rfl (by clear K;grind)
 repeat' (first|refine go ?_|fail)
 refine ay rfl (fun h2=>?_) (fun h2=>?_)
 ·have h0:=h2
  replace h2:=Iy h2
  rw [h0]
  rw [if_pos (.inl h2)]
  repeat' (first|refine go ?_|refine HK a6 FS ?_|refine bP rfl ?_)
  exact HS FS ⟨rfl,fun e=>absurd e (by decide)⟩
 have h0:=h2
 replace h2:=Ix h2
 rw [h0]
 clear h0
 repeat' (first|refine go ?_|refine HK a6 FS ?_|refine bG a6 ?_|(apply bq;refine bg ?_)|fail)
 refine ay rfl (fun h3=>?_) (fun h3=>?_)
 ·rw [if_pos (.inr (.inl (by rw [←Bool.not_eq_true',h3]))),h3]
  repeat' (first|refine go ?_|refine HK a6 FS ?_|refine bP rfl ?_)
  exact HS FS ⟨rfl,fun e=>absurd e (by decide)⟩
 rw [h3]
 repeat' (first|refine go ?_|refine HK a6 FS ?_)
 refine du (t:=24) [0,4,8] (d.Point= -1∧d.Y≠0) rfl (fun Q' K=>?_) ?_
 ·repeat' (first|refine go ?_|refine HK a6 FS ?_|refine HV FS ?_|refine HW HF ?_|refine bk rfl rfl rfl (fun _=>?_) (fun _=>?_))
  all_goals exact K _ _ rfl rfl (by clear K;grind)
 repeat' (first|refine go ?_|fail)
 refine ay rfl (fun h4=>?_) (fun h4=>?_)
 ·have h0:=h4
  replace h4:=Iy h4
  rw [h0]
  rw [if_pos (.inr (.inr h4))]
  repeat' (first|refine go ?_|refine HK a6 FS ?_)
  exact HS FS ⟨rfl,fun e=>absurd e (by decide)⟩
 have h0:=h4
 replace h4:=Ix h4
 rw [h0]
 clear h0
 have h3':[d.X,d.Y].all gG=true:=by simpa using h3
 rw [if_neg (by
  rintro (h | h | h)
  ·exact h2 h
  ·rw [h3'] at h;cases h
  ·exact h4 h)]
 repeat' (first|refine go ?_|refine HK a6 FS ?_)
 refine eo [4,8] (qh g i d=true) rfl (fun Q' K=>?_) (fun h5=>?_) (fun h5=>?_)
 ·repeat' (first|refine go ?_|refine HK a6 FS ?_|refine HV FS ?_|refine HW HF ?_|refine dN rfl rfl rfl ?_|(apply bK;first|refine HO a6 0 HG ?_|refine HO a6 1 HG ?_|refine HO a6 2 HG ?_|refine HO a6 3 HG ?_|refine HP a6 0 HG ?_|refine HP a6 1 HG ?_|refine HP a6 2 HG ?_|refine HR a6 1 HE (by assumption) rfl ?_|refine HR a6 0 HE (by assumption) rfl ?_|fail)|refine bk rfl rfl rfl (fun _=>?_) (fun _=>?_))
  all_goals first
   | exact K _ _ rfl rfl (by clear K;unfold qh;grind)
   | (refine BK FQ Tryz.eqGuardType321 rfl rfl rfl ?_)
  repeat' (first|refine go ?_|refine HK a6 FS ?_|refine HV FS ?_|refine HW HF ?_|(apply bK;first|refine HO a6 0 HG ?_|refine HO a6 1 HG ?_|refine HO a6 2 HG ?_|refine HO a6 3 HG ?_|refine HP a6 0 HG ?_|refine HP a6 1 HG ?_|refine HP a6 2 HG ?_|refine HR a6 1 HE (by assumption) rfl ?_|refine HR a6 0 HE (by assumption) rfl ?_|fail)|refine bk rfl rfl rfl (fun _=>?_) (fun _=>?_))
  all_goals first
   | exact K _ _ rfl rfl (by clear K;unfold qh;grind)
   | (refine bg (hc:=⟨vE d.Region d.Point (gn g.Deltas i).1 (gn g.Deltas i).2⟩) ?_)
  repeat' (first|refine go ?_|refine HK a6 FS ?_|refine HV FS ?_)
  all_goals exact K _ _ rfl rfl (by clear K;unfold qh;grind)
 ·rw [if_pos h5]
  repeat' (first|refine go ?_|refine HK a6 FS ?_)
  exact HS FS ⟨rfl,fun e=>absurd e (by decide)⟩
 rw [if_neg h5]
 repeat' (first|refine go ?_|refine HK a6 FS ?_|(apply aG;first|refine HN 8 a6 0 HJ ?_|refine HN 8 a6 1 HJ ?_|refine HN 8 a6 2 HJ ?_|refine HM a6 0 HH ?_|refine HM a6 1 HH ?_|refine HM a6 2 HH ?_|refine HM a6 3 HH ?_|fail))
 refine HS FS ⟨rfl,fun e=>?_⟩
 rfl
set_option maxHeartbeats 2000000 in
theorem yp (f:aL) (g:br) (name:Int):bV Tryz.prog 118 [cr f,.agg (bC g),aP name] (aP (o8 f g name)):=by
 refine aS Tryz.func118 rfl Tryz.ntmps118 rfl fun B=>?_
 repeat' (first|refine go ?_|refine HK a6 FS ?_|refine bh ?_|fail)
 refine bn 30 [(0,.v),(1,.v),(2,.v),(3,.v),(4,.v),(5,.v),(6,.v),(7,.v),(8,.v),(9,.v),(12,.v),(13,.v),(14,.v),(15,.v),(16,.v),(17,.v),(18,.v),(19,.v),(20,.v),(23,.v),(10,.e),(11,.v),(21,.e),(22,.v),(24,.v),(25,.e),(26,.v),(27,.v),(28,.v),(29,.v)] none ?_ trivial rfl (by kernel_rfl) (by kernel_rfl) (by kernel_rfl) mixed (by kernel_rfl) rfl
 repeat' (first|refine aC ?_|refine b7 a6 ?_|(apply bE;refine bS ?_)|fail)
 refine dJ [] [] (vt g.Mark) rfl rfl (Im _) trivial fun c L1 ⟨m,hc,hL⟩=>?_
 subst hc;subst hL
 repeat' (first|refine aC ?_|(apply bE;refine bS ?_)|fail)
 refine dJ [] _ (ye (f.Regions.map bw).length (g.Points.map cM).length) rfl rfl (Im _) trivial fun c L1 ⟨b,hc,hL⟩=>?_
 subst hc;subst hL
 repeat' (first|refine aC ?_|(apply bE;refine bS ?_)|refine eS a6 ?_|fail)
 refine dJ (L:=[(b,.box [aP 0,aP 0] 321),(m,iz fun _ _=>none)]) _ [] (jw [⟨159,[.iptr [aP name]],[],name,0⟩,⟨160,[.iptr (bC g)],[],j5 g,0⟩,⟨217,[.iptr [.imm 3 (g.Parts.map cm)],.iptr [aP 8],.iptr [.fn 163 [.iptr (cb f)]]],[],(cE 8 g.Parts (lQ f)).1,(cE 8 g.Parts (lQ f)).2⟩,⟨219,[.iptr [.imm 4 (g.Anchors.map cF)],.iptr [aP 16],.iptr [.fn 221 [.iptr [cx g.Mark],.iptr [.sc (.map (some m))]]]],[(m,iz fun _ _=>none)],(cE 16 g.Anchors (m7 g)).1,(cE 16 g.Anchors (m7 g)).2⟩,⟨222,[.iptr [.imm 4 (g.Deltas.map dq)],.iptr [aP 400],.iptr [.fn 224 [.iptr [aP (f.Regions.map bw).length],.iptr [aP (g.Points.map cM).length],.sc (.pointer (some ⟨b,0,none⟩))]]],[(b,.box [aP 0,aP 0] 321)],(cE 400 g.Deltas (rf f g)).1,(cE 400 g.Deltas (rf f g)).2⟩,⟨169,[.iptr (bC g)],[],nu g.Hint,0⟩] ?_) rfl rfl (List.Perm.swap ..) trivial fun c L1 hc=>?_
 ·refine ⟨⟨inferInstance,vX name⟩,fun _=>⟨⟨inferInstance,vY g⟩,fun _=>⟨⟨inferInstance,Eb rfl g.Parts 8 _ (fun _ _=>True) [] trivial (fun _=>dM fun i x _=>vZ f i x)⟩,fun _=>⟨⟨inferInstance,Ec rfl g.Anchors 16 (gr g.Anchors (m7 g)) (fun i L=>L=[(m,iz (oa (g.Anchors.take i)))]) _ (by rw [List.take_zero,BB]) ?_⟩,fun _=>⟨⟨inferInstance,Ed rfl g.Deltas 400 (gr g.Deltas (rf f g)) (fun i L=>L=[(b,.box [aP (gn g.Deltas i).1,aP (gn g.Deltas i).2] 321)]) _ rfl ?_⟩,fun _=>⟨⟨inferInstance,w3 g⟩,fun _=>trivial⟩⟩⟩⟩⟩⟩
  ·intro _ i x L hx hL
   subst hL
   rw [iK hx]
   exact vr g i x hx m
  ·intro _ i x L hx hL
   subst hL
   rw [iK hx]
   exact yd f g i x hx _ _ (by rw [It]) (by rw [It]) b
 ·rw [kp] at hc
  subst hc
  unfold cJ
  repeat' (first|refine aC ?_|refine b7 a6 ?_|fail)
  refine HU [7,37] FS ?_
  repeat' (first|refine go ?_|refine aa ?_|refine HK a6 FS ?_)
  exact HT HE
instance (f:aL) (g:br) (name:Int):AD Tryz.prog 118 [cr f,.agg (bC g),aP name] (aP (o8 f g name)):=⟨yp f g name⟩
section
variable {P:Program} {l:List Oper} {fr:cu} {fin:kF} {sk:mF} {acc:cu} {L:AL} {k:Nat} {dd:Option Tmp} {ty t:TypeId} {pos:String} {af:Array Edge} {g:Option (Nat×Bool)} {x y:Operand}
theorem pX (i:Nat) (v0:Value) {b kt et:Nat} {kd:TypeDesc} {q:Value} {m:Value→Option AV} (ht:P.underlying t=some (.map kt et)) (hkt:P.underlying kt=some kd) (hx:bO (dc l.toArray acc fr af.toList) x=some (.sc (.map (some b)))) (hy:bO (dc l.toArray acc fr af.toList) y=some (.sc q)) (hk:MapKept.IsKey kd q) (hL:L[i]?=some (b,cj kd m)) (hz:kz P et v0=true) (hg:jt ⟨dd,.lookup t x y false,ty,pos,af,g⟩ acc) (h:DA P l fr fin sk ((k,(m q).getD (.sc v0))::acc) L):
  dl P l fr fin k .e ⟨dd,.lookup t x y false,ty,pos,af,g⟩ sk acc L:=
 iQ hg (fun B=>jv i ht hkt hx hy hk hL (fO hz) fun _=> .sc _) fun c L' ⟨h1,h2⟩=>by subst h1;subst h2;exact h
end
def tZ (f:aL) (c:eN) (late:Bool):Int:=if c.Rune < 0∨c.Rune > 1114111 then 1 else if l9 f c.Glyph=false then 32 else eH late 24
theorem Ax (f:aL) (c:eN) (late:Bool):bV Tryz.prog 125 [cr f,.agg (cy c),cx late] (aP (tZ f c late)):=by
 refine aS Tryz.func125 rfl Tryz.ntmps125 rfl fun B=>?_
 unfold tZ
 repeat' (first|refine go ?_|refine ak ?_|refine HK a6 FS ?_|refine bh ?_|fail)
 refine eo [2,3,4] (c.Rune < 0∨c.Rune > 1114111) rfl (fun Q' K=>?_) (fun hC=>?_) (fun hC=>?_)
 ·repeat' (first|refine go ?_|refine HK a6 FS ?_|refine HV FS ?_|refine HW HF ?_|refine bk rfl rfl rfl (fun _=>?_) (fun _=>?_))
  all_goals exact K _ _ rfl rfl (by clear K;grind)
 ·rw [if_pos hC]
  repeat' (first|refine go ?_|refine HK a6 FS ?_)
  exact HT HE
 rw [if_neg hC]
 repeat' (first|refine go ?_|refine HK a6 FS ?_|(apply bq;refine bg ?_)|fail)
 refine ay rfl (fun h=>?_) (fun h=>?_)
 ·rw [if_pos (by simpa using h)]
  repeat' (first|refine go ?_|refine HK a6 FS ?_)
  exact HT HE
 rw [if_neg (by simpa using h)]
 repeat' (first|refine go ?_|refine HK a6 FS ?_|(apply bq;refine bg ?_)|fail)
 exact HT HE
instance (f:aL) (c:eN) (late:Bool):AD Tryz.prog 125 [cr f,.agg (cy c),cx late] (aP (tZ f c late)):=⟨Ax f c late⟩
def xa (f:aL) (i:Nat) (c:eN):Bool:=match i with | 0=>false | j+1=>match f.Chars[j]? with | some b=>decide (c.Rune≤b.Rune) | none=>false
def iE (f:aL) (i:Nat) (c:eN):Int:=tZ f c (xa f i c)
theorem xW (f:aL) (i:Nat) (c:eN) (hc:f.Chars[i]?=some c) (hm:(f.Chars.length:Int)≤1000):bV Tryz.prog 124 [aP i,.agg (cy c),.iptr (cb f)] (aP (iE f i c)):=by
 refine aS Tryz.func124 rfl Tryz.ntmps124 rfl fun B=>?_
 have hil:=(Io hc).1
 unfold iE
 cases i with
 | zero=>
  repeat' (first|refine go ?_|refine HK a6 FS ?_|refine bh ?_|fail)
  refine bn 17 [(0,.v),(1,.v),(2,.v),(3,.v),(4,.v),(5,.v),(6,.v),(7,.v),(8,.v),(9,.v),(10,.v),(11,.v),(12,.v),(13,.v),(14,.v),(15,.v),(16,.v)] none ?_ trivial rfl (by kernel_rfl) (by kernel_rfl) (by kernel_rfl) mixed (by kernel_rfl) rfl
  repeat' (first|refine aC ?_|refine b7 a6 ?_|(apply bE;refine bS ?_)|refine lK rfl rfl ?_)
  refine HU [22] FS ?_
  repeat' (first|refine go ?_|refine aa ?_|refine HK a6 FS ?_)
  exact HT HE
 | succ j=>
  obtain ⟨b,hb⟩:∃b,f.Chars[j]?=some b:=⟨_,Iz (by omega)⟩
  have hbg:(f.Chars.map cy)[(((j+1:Nat):Int) - 1).toNat]?=some (cy b):=by rw [show (((j+1:Nat):Int) - 1).toNat=j by omega];exact bi hb
  have hl:xa f (j+1) c=decide (c.Rune≤b.Rune):=by simp [xa,hb]
  have hpos:decide (0 < ((j+1:Nat):Int))=true:=decide_eq_true (by omega)
  rw [hl]
  repeat' (first|refine go ?_|refine HK a6 FS ?_|refine bh ?_|fail)
  refine bn 17 [(0,.v),(1,.v),(2,.v),(3,.v),(4,.v),(5,.v),(6,.v),(7,.v),(8,.v),(9,.v),(10,.v),(11,.v),(12,.v),(13,.v),(14,.v),(15,.v),(16,.v)] none ?_ trivial rfl (by kernel_rfl) (by kernel_rfl) (by kernel_rfl) mixed (by kernel_rfl) rfl
  repeat' (first|refine aC ?_|refine b7 a6 ?_|fail)
  rw [hpos]
  repeat' (first|refine aC ?_|refine b7 a6 ?_|(apply fq;refine gK ?_)|(apply bY;refine cn a6 ?_)|(apply bE;refine bS ?_)|fail)
  refine HU [22] FS ?_
  repeat' (first|refine go ?_|refine aa ?_|refine HK a6 FS ?_)
  exact HT HE
def tS (a:eM) (name:Int):Int:=if name≠0 then name else eH (!(decide ([a.Min,a.Def,a.Max].all gG=true∧a.Min≤a.Def∧a.Def≤a.Max))) 60
theorem Ao (a:eM) (name:Int):bV Tryz.prog 135 [.agg (cD a),aP name] (aP (tS a name)):=by
 refine aS Tryz.func135 rfl Tryz.ntmps135 rfl fun B=>?_
 unfold tS
 repeat' (first|refine go ?_|refine HK a6 FS ?_|refine bh ?_|fail)
 refine ay rfl (fun h=>?_) (fun h=>?_)
 ·rw [if_pos (Iy h)]
  repeat' (first|refine go ?_|refine HK a6 FS ?_)
  exact HT HE
 rw [if_neg (Ix h)]
 repeat' (first|refine go ?_|refine HK a6 FS ?_|refine bG a6 ?_|(apply bq;refine bg ?_)|fail)
 refine du (t:=5) [] ([a.Min,a.Def,a.Max].all gG=true∧a.Min≤a.Def∧a.Def≤a.Max) rfl (fun Q' K=>?_) ?_
 ·repeat' (first|refine go ?_|refine HK a6 FS ?_|refine HV FS ?_|refine HW HF ?_|refine bk rfl rfl rfl (fun _=>?_) (fun _=>?_))
  all_goals exact K _ _ rfl rfl (by clear K;grind)
 repeat' (first|refine go ?_|refine HK a6 FS ?_|(apply bq;refine bg ?_)|fail)
 exact HT HE
instance (a:eM) (name:Int):AD Tryz.prog 135 [.agg (cD a),aP name] (aP (tS a name)):=⟨Ao a name⟩
def qW (_:Nat) (t:eu):Int:=eH (decide (¬(-64≤t.Start∧t.Start≤t.Peak∧t.Peak≤t.End∧t.End≤64)∨(t.Start < 0∧t.End > 0∧t.Peak≠0))) 61
set_option maxHeartbeats 1000000 in
theorem Cp (i:Nat) (t:eu):bV Tryz.prog 195 [aP i,.agg (fY t)] (aP (qW i t)):=by
 refine aS Tryz.func195 rfl Tryz.ntmps195 rfl fun B=>?_
 repeat' (first|refine go ?_|refine HK a6 FS ?_|refine bh ?_|fail)
 refine du (t:=5) [3] (-64≤t.Start∧t.Start≤t.Peak∧t.Peak≤t.End∧t.End≤64) rfl (fun Q' K=>?_) ?_
 ·repeat' (first|refine go ?_|refine HK a6 FS ?_|refine HV FS ?_|refine HW HF ?_|refine bk rfl rfl rfl (fun _=>?_) (fun _=>?_))
  all_goals exact K _ _ rfl rfl (by clear K;grind)
 repeat' (first|refine go ?_|refine HK a6 FS ?_)
 refine du (t:=6) [5] (t.Start < 0∧t.End > 0∧t.Peak≠0) rfl (fun Q' K=>?_) ?_
 ·repeat' (first|refine go ?_|refine HK a6 FS ?_|refine HV FS ?_|refine HW HF ?_|refine bk rfl rfl rfl (fun _=>?_) (fun _=>?_))
  all_goals exact K _ _ rfl rfl (by clear K;grind)
 have ht:qW i t=eH (!(decide (-64≤t.Start∧t.Start≤t.Peak∧t.Peak≤t.End∧t.End≤64)) || decide (t.Start < 0∧t.End > 0∧t.Peak≠0)) 61:=by unfold qW;rw [Bool.decide_or,decide_not]
 rw [ht]
 generalize decide (-64≤t.Start∧t.Start≤t.Peak∧t.Peak≤t.End∧t.End≤64)=p
 generalize decide (t.Start < 0∧t.End > 0∧t.Peak≠0)=q
 cases p <;> cases q
 all_goals
  repeat' (first|refine go ?_|refine HK a6 FS ?_|refine HV FS ?_|refine HW HF ?_|(apply bq;refine bg ?_)|fail)
  exact HT HE
def yW (axes:Int) (r:List eu):Int:=if (r.length:Int)≠axes then 61 else (dE r qW).1
theorem wt (r:List eu) (axes:Int):bV Tryz.prog 138 [.agg (bw r),aP axes] (aP (yW axes r)):=by
 refine aS Tryz.func138 rfl Tryz.ntmps138 rfl fun B=>?_
 unfold yW
 repeat' (first|refine go ?_|refine HK a6 FS ?_|refine bh ?_|fail)
 rw [It]
 refine ay rfl (fun h=>?_) (fun h=>?_)
 ·rw [if_pos (Iy h)]
  repeat' (first|refine go ?_|refine HK a6 FS ?_)
  exact HT HE
 rw [if_neg (Ix h)]
 repeat' (first|refine go ?_|refine HK a6 FS ?_)
 refine ba [] [] (Dd (u:= .sc (.func (.func 195) #[] #[])) (g:=195) (caps:=[]) rfl r _ (fun _ _=>True) [] trivial (dM (fun i x _=>Cp i x))) rfl rfl (Im _) rfl fun c L1 hc=>?_
 have hc:c=cJ (dE r qW):=hc
 subst hc
 unfold cJ
 repeat' (first|refine go ?_|refine HK a6 FS ?_)
 exact HT HE
instance (r:List eu) (axes:Int):AD Tryz.prog 138 [.agg (bw r),aP axes] (aP (yW axes r)):=⟨wt r axes⟩
theorem uR (f:aL) (i:Nat) (r:List eu):bV Tryz.prog 137 [aP i,.agg (bw r),.iptr (cb f)] (aP (yW f.Axes.length r)):=by
 refine aS Tryz.func137 rfl Tryz.ntmps137 rfl fun B=>?_
 repeat' (first|refine go ?_|refine HK a6 FS ?_|refine bh ?_|(apply bq;refine bg ?_)|fail)
 rw [It]
 repeat' (first|fail)
 exact HT HE
theorem xX (i:Nat) (l:List eL):bV Tryz.prog 140 [aP i,.imm 2 (l.map dQ)] (aP (nu l)):=by
 refine aS Tryz.func140 rfl Tryz.ntmps140 rfl fun B=>?_
 repeat' (first|refine go ?_|refine HK a6 FS ?_|(apply bq;refine bg ?_)|fail)
 exact HT HE
def AG (_:Nat) (n:Int):Int:=eH (!([n].all gG)) 1
theorem AE (i:Nat) (n:Int):bV Tryz.prog 143 [aP i,aP n] (aP (AG i n)):=by
 refine aS Tryz.func143 rfl Tryz.ntmps143 rfl fun B=>?_
 repeat' (first|refine go ?_|refine HK a6 FS ?_|refine bG a6 ?_|(apply bq;refine bg ?_)|fail)
 exact HT HE
def n9 (f:aL):Int:=if f.Unit < 16∨f.Unit > 4096 then 1 else if f.Glyphs.length=0 then 32 else 0
theorem Ba (f:aL):bV Tryz.prog 115 [cr f] (aP (n9 f)):=by
 refine aS Tryz.func115 rfl Tryz.ntmps115 rfl fun B=>?_
 unfold n9
 repeat' (first|refine go ?_|refine ak ?_|refine HK a6 FS ?_|refine bh ?_|fail)
 refine eo [1] (f.Unit < 16∨f.Unit > 4096) rfl (fun Q' K=>?_) (fun hC=>?_) (fun hC=>?_)
 ·repeat' (first|refine go ?_|refine HK a6 FS ?_|refine HV FS ?_|refine HW HF ?_|refine bk rfl rfl rfl (fun _=>?_) (fun _=>?_))
  all_goals exact K _ _ rfl rfl (by clear K;grind)
 ·rw [if_pos hC]
  repeat' (first|refine go ?_|refine HK a6 FS ?_)
  exact HT HE
 rw [if_neg hC]
 repeat' (first|refine go ?_|refine HK a6 FS ?_)
 rw [It]
 refine ay rfl (fun h=>?_) (fun h=>?_)
 ·rw [if_pos (by have:=Iy h;omega)]
  repeat' (first|refine go ?_|refine HK a6 FS ?_)
  exact HT HE
 rw [if_neg (by have:=Ix h;omega)]
 repeat' (first|refine go ?_|refine HK a6 FS ?_)
 exact HT HE
instance (f:aL):AD Tryz.prog 115 [cr f] (aP (n9 f)):=⟨Ba f⟩
theorem yq (f:aL):bV Tryz.prog 114 [.iptr (cb f)] (cJ (n9 f,0)):=by
 refine aS Tryz.func114 rfl Tryz.ntmps114 rfl fun B=>?_
 repeat' (first|refine go ?_|refine HK a6 FS ?_|(apply bq;refine bg ?_)|fail)
 exact be rfl rfl rfl rfl
end Go.Proofs.YtjjpkibjffmceaaGreat
namespace Go.Proofs.YtjjpkibjffmceaaGreat
open Go.RowKit
section
variable {P:Program} {tt:TT} {l:List Oper} {fr:cu} {fin:kF} {sk:mF} {acc:cu} {L:AL} {k:Nat} {dd:Option Tmp} {ty t t':TypeId} {pos:String} {af:Array Edge} {g:Option (Nat×Bool)} {x y:Operand} {u:AV}
theorem fC (ok:fp P tt) {e sz by_ b off n cap:Nat} {q:IntKind} {i:Int} (ht:nH tt t=some (e,sz,by_)) (hx:bO (dc l.toArray acc fr af.toList) x=some (.sc (.slice (some ⟨b,off,none⟩) n cap))) (hy:bO (dc l.toArray acc fr af.toList) y=some (.sc (.int q i))) (h0:0≤i∧i < n) (hg:jt ⟨dd,.indexAddr t x y,ty,pos,af,g⟩ acc) (h:DA P l fr fin sk ((k,.sc (.pointer (some ⟨b,off+i.toNat * sz,none⟩)))::acc) L):
  dl P l fr fin k .v ⟨dd,.indexAddr t x y,ty,pos,af,g⟩ sk acc L:=ir hg (fun _ _=>(tE (cf ok ht).1 hx hy h0).ao) h
theorem AI (ok:fp P tt) (i:Nat) {b q n:Nat} {cs ys:List AV} {e:TypeId} (ht:FO tt t=some n) (hx:bO (dc l.toArray acc fr af.toList) x=some (.sc (.pointer (some ⟨b,q,none⟩)))) (hy:bO (dc l.toArray acc fr af.toList) y=some u) (hu:u.cells=some ys) (hL:L[i]?=some (b,.box cs e)) (hn:Nat.beq ys.length n=true) (hk:Nat.ble (q+n) cs.length=true) (hg:jt ⟨dd,.store t x y,ty,pos,af,g⟩ acc) (h:∀c,DA P l fr fin sk ((k,c)::acc) (g7 L i (.box (iw cs q ys) e))):
  dl P l fr fin k .e ⟨dd,.store t x y,ty,pos,af,g⟩ sk acc L:=iQ hg (fun _=>mO i (lm ok ht) hx hy hu hL hn hk) fun c L' h1=>by subst h1;exact h c
theorem ue {v:Value} (ht:j3 P t=true) (hx:bO (dc l.toArray acc fr af.toList) x=some (.sc (.iface t v))) (hg:jt ⟨dd,.typeAssert x t' t false,ty,pos,af,g⟩ acc) (h:DA P l fr fin sk ((k,.sc v)::acc) L):dl P l fr fin k .v ⟨dd,.typeAssert x t' t false,ty,pos,af,g⟩ sk acc L:=
 ir hg (fun _ _=>(tD ht hx).ao) h
theorem y7 (ok:fp P tt) (i:Nat) {e by_ b n cap:Nat} {cs:List AV} {c:AV} (ht:nH tt t=some (e,1,by_)) (hz:zI tt e=some [.int .i64 0]) (hx:bO (dc l.toArray acc fr af.toList) x=some (.sc (.slice (some ⟨b,0,none⟩) n cap))) (hy:bO (dc l.toArray acc fr af.toList) y=some u) (hu:j9 u=some (1,[[c]])) (hL:L[i]?=some (b,.box cs e)) (hcl:cs.length=cap) (hn:n≤cap) (h63:n+1≤9223372036854775807) (hby:(n+1) * by_≤140737488355328) (hg:jt ⟨dd,.call ⟨.builtin .append,#[x,y],#[t,t]⟩,ty,pos,af,g⟩ acc)
  (h:∀b' cs',cs'.take (n+1)=cs.take n++[c]→n+1≤cs'.length→DA P l fr fin sk ((k,.sc (.slice (some ⟨b',0,none⟩) (n+1) cs'.length))::acc) ((b',.box cs' e)::L.eraseIdx i)):
  dl P l fr fin k .e ⟨dd,.call ⟨.builtin .append,#[x,y],#[t,t]⟩,ty,pos,af,g⟩ sk acc L:=
 iQ hg (fun _=>pG i (cf ok ht).1 (f5 ok hz) hx hy (dm hu) hL hcl hn h63 hby) fun q L' ⟨b',cs',h1,h2,h3,h4⟩=>by subst h1;subst h4;exact h b' cs' h2 h3
theorem y9 (ok:fp P tt) {e by_:Nat} {c:AV} (ht:nH tt t=some (e,1,by_)) (hz:zI tt e=some [.int .i64 0]) (hx:bO (dc l.toArray acc fr af.toList) x=some (.sc (.slice none 0 0))) (hy:bO (dc l.toArray acc fr af.toList) y=some u) (hu:j9 u=some (1,[[c]])) (hby:Nat.ble by_ 140737488355328=true) (hg:jt ⟨dd,.call ⟨.builtin .append,#[x,y],#[t,t]⟩,ty,pos,af,g⟩ acc)
  (h:∀b' cs',cs'.take 1=[c]→1≤cs'.length→DA P l fr fin sk ((k,.sc (.slice (some ⟨b',0,none⟩) 1 cs'.length))::acc) ((b',.box cs' e)::L)):
  dl P l fr fin k .e ⟨dd,.call ⟨.builtin .append,#[x,y],#[t,t]⟩,ty,pos,af,g⟩ sk acc L:=
 iQ hg (fun _=>pH (cf ok ht).1 (f5 ok hz) hx hy (dm hu) (Nat.ble_eq .. ▸hby)) fun q L' ⟨b',cs',h1,h2,h3,h4⟩=>by subst h1;subst h4;exact h b' cs' h2 h3
end
def Ex (P:Program) (t:TypeId) (name:String) (f:FuncId) (ptr:Bool) (e:TypeId):Bool:=(match P.underlying t with | some (.pointer e')=>Nat.beq e' e | _=>false) && match P.info? t with
 | some ti=>match ti.methods.find? (·.name==name) with
  | some m=>m.path.isEmpty && (match m.func with | some (f',p')=>Nat.beq f' f && (p'==ptr) | none=>false)
  | none=>false
 | none=>false
theorem iX {P:Program} {t:TypeId} {name:String} {f:FuncId} {ptr:Bool} {e:TypeId} (h:Ex P t name f ptr e=true):mH P t name f ptr e:=by
 unfold Ex at h
 rw [Bool.and_eq_true] at h
 obtain ⟨h1,h2⟩:=h
 split at h1
 ·rename_i e' hu
  rw [Nat.beq_eq] at h1
  subst h1
  split at h2
  ·rename_i ti hti
   split at h2
   ·rename_i m hm
    rw [Bool.and_eq_true] at h2
    obtain ⟨h3,h4⟩:=h2
    split at h4
    ·rename_i f' p' hf
     rw [Bool.and_eq_true,Nat.beq_eq,beq_iff_eq] at h4
     refine ⟨hu,ti,m,hti,hm,?_,by rw [hf,h4.1,h4.2]⟩
     simpa using h3
    ·cases h4
   ·cases h2
  ·cases h2
 ·cases h1
end Go.Proofs.YtjjpkibjffmceaaGreat
namespace Go.Proofs.YtjjpkibjffmceaaGreat
open Go.RowKit Go.MapKept
section
variable {P:Program} {fr:cu} {B:Bs} {L:AL}
theorem AO.as {o:Oper} {a b:AV} (h:AO P o fr B L (fun c L'=>c=a∧L'=L)) (hv:∀σ v,VR σ a v→VR σ b v):AO P o fr B L (fun c L'=>c=b∧L'=L):=
 fun σ ρ w hρ hw=>(h σ ρ w hρ hw).mono fun _ _ ⟨τ,c,L',h1,h2,h3,h4,h5⟩=>⟨τ,b,L',h1,hv τ _ (by rw [←h4];exact h2),h3,rfl,h5⟩
end
section
variable {P:Program} {tt:TT} {l:List Oper} {fr:cu} {fin:kF} {sk:mF} {acc:cu} {L:AL} {k:Nat} {dd:Option Tmp} {ty t t':TypeId} {pos:String} {af:Array Edge} {g:Option (Nat×Bool)} {x y z:Operand} {u:AV}
theorem yb (i:Nat) (v0:Value) (a:AV) {b kt et:Nat} {kd:TypeDesc} {q:Value} {m:Value→Option AV} (ht:P.underlying t=some (.map kt et)) (hkt:P.underlying kt=some kd) (hx:bO (dc l.toArray acc fr af.toList) x=some (.sc (.map (some b)))) (hy:bO (dc l.toArray acc fr af.toList) y=some (.sc q)) (hk:IsKey kd q) (hL:L[i]?=some (b,cj kd m)) (hz:kz P et v0=true) (ha:∀σ v,VR σ ((m q).getD (.sc v0)) v→VR σ a v) (hg:jt ⟨dd,.lookup t x y false,ty,pos,af,g⟩ acc) (h:DA P l fr fin sk ((k,a)::acc) L):
  dl P l fr fin k .e ⟨dd,.lookup t x y false,ty,pos,af,g⟩ sk acc L:=
 iQ hg (fun B=>(jv i ht hkt hx hy hk hL (fO hz) fun _=> .sc _).as ha) fun c L' ⟨h1,h2⟩=>by subst h1;subst h2;exact h
theorem gB (ok:fp P tt) (L0:AL) {e sz by_:Nat} {q:Option (Nat×Nat)} {l1 l2:List (List AV)} (ht:nH tt t=some (e,sz,by_)) (hx:bO (dc l.toArray acc fr af.toList) x=some (.vec q sz l1)) (hy:bO (dc l.toArray acc fr af.toList) y=some u) (hu:j9 u=some (sz,l2)) (hL:L.Perm (tok q e sz l1.length++L0)) (h63:l1.length+l2.length≤9223372036854775807) (hby:(l1.length+l2.length) * by_≤140737488355328) (hg:jt ⟨dd,.call ⟨.builtin .append,#[x,y],#[t,t]⟩,ty,pos,af,g⟩ acc)
  (h:∀k',DA P l fr fin sk ((k,.vec k' sz (l1++l2))::acc) (tok k' e sz (l1++l2).length++L0)):
  dl P l fr fin k .e ⟨dd,.call ⟨.builtin .append,#[x,y],#[t,t]⟩,ty,pos,af,g⟩ sk acc L:=
 iQ hg (fun _=>nP L0 (cf ok ht).1 (cf ok ht).2 hx hy (dm hu) hL h63 hby) fun c L' ⟨k',h1,h2⟩=>by subst h1;subst h2;exact h k'
end
section
variable {P:Program} {r:Option Nat} {ops:Array Oper} {Q:Exit→Act→World→Prop} {nt:Nat} {D:List Deferred} {fr:cu} {B:Bs} {L:AL} {rest:List Oper} {d:Nat} {ty t:TypeId} {pos:String} {af:Array Edge} {x y z:Operand} {u:AV}
theorem jF (i:Nat) (v0:Value) (a:AV) {b kt et:Nat} {kd:TypeDesc} {k:Value} {m:Value→Option AV} (ht:P.underlying t=some (.map kt et)) (hkt:P.underlying kt=some kd) (hx:bO fr x=some (.sc (.map (some b)))) (hy:bO fr y=some (.sc k)) (hk:IsKey kd k) (hL:L[i]?=some (b,cj kd m)) (hz:kz P et v0=true) (ha:∀σ v,VR σ ((m k).getD (.sc v0)) v→VR σ a v) (hd:Nat.ble nt d=false)
  (h:bW P r ops Q nt D rest ((d,a)::fr) B L):bW P r ops Q nt D (⟨some d,.lookup t x y false,ty,pos,af,none⟩::rest) fr B L:=
 dk hd rfl ((jv i ht hkt hx hy hk hL (fO hz) fun _=> .sc _).as ha) fun c L' ⟨h1,h2⟩=>by subst h1;subst h2;exact h
end
noncomputable def od (m:Value→Option AV) (k:Value) (c:AV):Value→Option AV:=fun q=>open Classical in if q=k then some c else m q
theorem jB {m:Value→Option AV} {k:Value} {c:AV}:od m k c k=some c:=by simp [od]
theorem iY {m:Value→Option AV} {k:Value} {c:AV} (q:Value) (h:q≠k):od m k c q=m q:=by simp [od,h]
def nM (m:Value→Option AV) (M:Int→Int):Prop:=∀z,m (.int .i64 z)=none∧M z=0∨m (.int .i64 z)=some (.sc (.int .i64 (M z)))
theorem nM.at {m:Value→Option AV} {M:Int→Int} (h:nM m M) (z:Int):∀(σ:ce) (v:Value),VR σ ((m (.int .i64 z)).getD (.sc (.int .i64 0))) v→VR σ (.sc (.int .i64 (M z))) v:=by
 intro σ v hv
 rcases h z with ⟨h1,h2⟩ | h1
 ·rw [h1] at hv;rw [h2];exact hv
 ·rw [h1] at hv;exact hv
theorem nM.put {m:Value→Option AV} {M:Int→Int} (h:nM m M) (z c:Int):nM (od m (.int .i64 z) (.sc (.int .i64 c))) fun q=>if q=z then c else M q:=by
 intro q
 by_cases e:q=z
 ·subst e;simp only [if_true,jB];exact .inr trivial
 ·simp only [if_neg e];rw [iY _ (by intro h;injection h with _ h;exact e h)];exact h q
def pA (m:Value→Option AV) (K:Int→Option (Nat×Nat)) (U:Int→List Int):Prop:=∀z,(m (.int .i64 z)=none∧U z=[]∧K z=none)∨m (.int .i64 z)=some (.vec (K z) 1 (aZ (U z)))
theorem pA.at {m:Value→Option AV} {K:Int→Option (Nat×Nat)} {U:Int→List Int} (h:pA m K U) (z:Int):∀(σ:ce) (v:Value),VR σ ((m (.int .i64 z)).getD (.sc (.slice none 0 0))) v→VR σ (.vec (K z) 1 (aZ (U z))) v:=by
 intro σ v hv
 rcases h z with ⟨h1,h2,h3⟩ | h1
 ·rw [h1] at hv;rw [h2,h3];exact cq 1 hv
 ·rw [h1] at hv;exact hv
theorem pA.put {m:Value→Option AV} {K:Int→Option (Nat×Nat)} {U:Int→List Int} (h:pA m K U) (z:Int) (k:Option (Nat×Nat)) (l:List Int):pA (od m (.int .i64 z) (.vec k 1 (aZ l))) (fun q=>if q=z then k else K q) fun q=>if q=z then l else U q:=by
 intro q
 by_cases e:q=z
 ·subst e;simp only [if_true,jB];exact .inr trivial
 ·simp only [if_neg e]
  rw [iY _ (by intro h;injection h with _ h;exact e h)]
  exact h q
def mD (e:TypeId) (K:Int→Option (Nat×Nat)) (U:Int→List Int) (zs:List Int):AL:=zs.flatMap fun z=>tok (K z) e 1 (aZ (U z)).length
theorem ox {e:TypeId} {K:Int→Option (Nat×Nat)} {U:Int→List Int}:∀{zs:List Int} {z:Int},z∈zs→(mD e K U zs).Perm (tok (K z) e 1 (aZ (U z)).length++mD e K U (zs.erase z))
 | y::zs,z,h=>by
  by_cases hz:y=z
  ·subst hz
   rw [List.erase_cons_head]
   exact Im _
  ·have hm:z∈zs:=by
    rcases List.mem_cons.1 h with h | h
    ·exact absurd h.symm hz
    ·exact h
   rw [List.erase_cons_tail (by simpa using hz)]
   have ih:=ox (e:=e) (K:=K) (U:=U) hm
   unfold mD at ih ⊢
   rw [List.flatMap_cons,List.flatMap_cons]
   refine (List.Perm.append_left _ ih).trans ?_
   rw [←List.append_assoc,←List.append_assoc]
   exact List.Perm.append_right _ List.perm_append_comm
theorem wH {e:TypeId} {K K':Int→Option (Nat×Nat)} {U U':Int→List Int} {zs:List Int} (h:∀z∈zs,K z=K' z∧U z=U' z):mD e K U zs=mD e K' U' zs:=by
 unfold mD
 induction zs with
 | nil=>rfl
 | cons z zs ih=>
  rw [List.flatMap_cons,List.flatMap_cons,ih fun y hy=>h y (Is _ hy),(h z (List.mem_cons_self ..)).1,(h z (List.mem_cons_self ..)).2]
theorem Cr {e:TypeId} {K:Int→Option (Nat×Nat)} {U:Int→List Int} {zs:List Int} {z:Int} {k:Option (Nat×Nat)} {l:List Int} (hn:zs.Nodup) (h:z∈zs):(tok k e 1 (aZ l).length++mD e K U (zs.erase z)).Perm (mD e (fun q=>if q=z then k else K q) (fun q=>if q=z then l else U q) zs):=by
 have h1:=ox (e:=e) (K:=fun q=>if q=z then k else K q) (U:=fun q=>if q=z then l else U q) h
 simp only [if_true] at h1
 refine List.Perm.trans ?_ h1.symm
 rw [wH (K:=K) (U:=U) (K':=fun q=>if q=z then k else K q) (U':=fun q=>if q=z then l else U q) fun y hy=>by
  have hne:y≠z:=fun e=>by subst e;exact (List.Nodup.not_mem_erase hn) hy
  simp only [if_neg hne]
  exact ⟨trivial,trivial⟩]
theorem zE (e:TypeId) (U:Int→List Int) (zs:List Int):mD e (fun _=>none) U zs=[]:=by
 unfold mD tok
 induction zs with
 | nil=>rfl
 | cons z zs ih=>rw [List.flatMap_cons,ih];rfl
end Go.Proofs.YtjjpkibjffmceaaGreat
namespace Go.Proofs.YtjjpkibjffmceaaGreat
open Go.RowKit
section
variable {P:Program} {r:Option Nat} {ops:Array Oper} {Q:Exit→Act→World→Prop} {nt:Nat} {D:List Deferred} {fr:cu} {B:Bs} {L:AL} {cd:Code}
def pz (nt:Nat) (B:Bs) {α:Type} (Dx:α→List Deferred) (V:α→cu) (fr0:cu) (C:α→Prop) (Lx:α→AL) (μ:α→Nat) (x:α) (Q:Exit→Act→World→Prop):Exit→Act→World→Prop:=Exit.then (fun a w=>∃σ x',jm σ nt (Dx x') (V x'++fr0) a∧C x'∧dC B σ (Lx x') w∧μ x' < μ x) Q
theorem Am (ks:List Nat) {α:Type} (Dx:α→List Deferred) (V:α→cu) (C:α→Prop) (Lx:α→AL) (μ:α→Nat) (x0:α) {fr0:cu} (hk:i6 fr ks=some fr0) (hV:lY (V x0) fr) (hD:D=Dx x0) (hC:C x0) (hL:∀σ w,dC B σ L w→dC B σ (Lx x0) w)
  (hb:∀x,C x→AT P r cd (pz nt B Dx V fr0 C Lx μ x Q) nt (Dx x) (V x++fr0) B (Lx x)):AT P r (.loop cd) Q nt D fr B L:=by
 intro σ a w ha hw
 subst hD
 classical
 let G:Nat→Act→World→Prop:=fun m a w=>∃σ x,jm σ nt (Dx x) (V x++fr0) a∧C x∧dC B σ (Lx x) w∧μ x=m
 let M:Act→World→Nat:=fun a w=>if h:∃m,G m a w∧∀m',G m' a w→m≤m' then h.choose else 0
 have least:∀a w,(∃m,G m a w)→G (M a w) a w∧∀m',G m' a w→M a w≤m':=by
  rintro a w ⟨m0,hg0⟩
  have hex:∃m,G m a w∧∀m',G m' a w→m≤m':=by
   have:∀k,∀m,m≤k→G m a w→∃m,G m a w∧∀m',G m' a w→m≤m':=by
    intro k
    induction k with
    | zero=>intro m hm hg;exact ⟨m,hg,fun m' _=>by omega⟩
    | succ k ih=>
     intro m hm hg
     by_cases h:∃m',m' < m∧G m' a w
     ·obtain ⟨m',hlt,hg'⟩:=h
      exact ih m' (by omega) hg'
     ·exact ⟨m,hg,fun m' hg'=>by
       rcases Nat.lt_or_ge m' m with hlt | hge
       ·exact absurd ⟨m',hlt,hg'⟩ h
       ·exact hge⟩
   exact this m0 m0 (Nat.le_refl _) hg0
  have hM:M a w=hex.choose:=dif_pos hex
  rw [hM];exact hex.choose_spec
 refine wpIn_loop (fun a w=>∃m,G m a w) M ⟨_,σ,x0,ha.weak (mM hV (eC ks hk)),hC,hL σ w hw,rfl⟩ ?_
 intro a w hI
 obtain ⟨⟨σ',x,hx,hj,hst,hm⟩,_⟩:=least a w hI
 refine wpIn_mono (hb x hj σ' a w hx hst) ?_
 intro e a' w' hq
 cases e with
 | normal=>
  obtain ⟨τ,x',hx',hj',hst',hlt⟩:=hq
  have hg:G (μ x') a' w':=⟨τ,x',hx',hj',hst',rfl⟩
  refine ⟨⟨_,hg⟩,?_⟩
  have:=(least a' w' ⟨_,hg⟩).2 (μ x') hg
  omega
 | _=>exact hq
theorem nT {α:Type} {Dx:α→List Deferred} {V:α→cu} {fr0:cu} {C:α→Prop} {Lx:α→AL} {μ:α→Nat} {x:α} (x':α) (hk:i6 fr (fr0.map (·.1))=some fr0) (hV:lY (V x') fr) (hD:D=Dx x') (hC:C x') (hm:μ x' < μ x) (hL:∀σ w,dC B σ L w→dC B σ (Lx x') w):
  AX P .normal (pz nt B Dx V fr0 C Lx μ x Q) nt D fr B L:=fun σ a w ha hw=>by
 subst hD
 exact ⟨σ,x',ha.weak (mM hV (eC _ hk)),hC,hL _ _ hw,hm⟩
theorem re {α:Type} {Dx:α→List Deferred} {V:α→cu} {fr0:cu} {C:α→Prop} {Lx:α→AL} {μ:α→Nat} {x:α} {id:Nat} (h:AX P (.exit id) Q nt D fr B L):AX P (.exit id) (pz nt B Dx V fr0 C Lx μ x Q) nt D fr B L:=fun σ a w ha hw=>h σ a w ha hw
end
section
variable {nt:Nat} {D:List Deferred} {B:Bs} {fr:cu} {L:AL}
theorem sn {t b e sz n:Nat} {cs:List AV} {l:List (List AV)} (i:Nat) (hl:cw fr t=some (.iptr [.sc (.slice (some ⟨b,0,none⟩) n n)])) (hL:L[i]?=some (b,.box cs e)) (hc:cs=l.flatten) (hs:∀q∈l,q.length=sz) (hn:l.length=n) (h63:n≤9223372036854775807):mK nt D B fr L ((t,.iptr [.imm sz l])::fr) ((b,.vec e sz n n)::L.eraseIdx i):=by
 intro σ a w ha hw0
 have hw:=hw0.perm (fP hL)
 obtain ⟨o,ho,vs,rfl,hvs,h1⟩:=hw.here _ (List.mem_cons_self ..)
 have hfree:=hw.free _ (List.mem_cons_self ..)
 have hvl:vs.length=n * sz:=by rw [←hvs.1,hc,jx l hs,hn]
 have hst:dC B σ ((b,.vec e sz 0 n)::L.eraseIdx i) w:=by
  refine ⟨hw.os,hw.tape,hw.output,hw.size,hw.old,fun p hp=>?_,fun p hp=>?_,by simpa using hw.apart,hw.froz,fun p hp off hm=>?_,hw.grow,hw.same,hw.cold⟩
  ·rcases List.mem_cons.1 hp with rfl | hp'
   ·exact ⟨_,ho,_,rfl,by simp [hvl],Nat.zero_le _,by unfold maxLen;omega⟩
   ·exact hw.here p (Is _ hp')
  ·rcases List.mem_cons.1 hp with rfl | hp'
   ·exact hw.mine (b,.box cs e) (List.mem_cons_self ..)
   ·exact hw.mine p (Is _ hp')
  ·rcases List.mem_cons.1 hp with rfl | hp'
   ·exact hfree off trivial
   ·exact hw.free p (Is _ hp') off hm
 obtain ⟨hst',hle⟩:=hst.freezeHead (n':=n) (xs:=vs) (fun j u hj=>by rw [ep ho];simpa using hj) hvl (Nat.zero_le _) (Nat.le_refl _)
 refine ⟨_,?_,hst'⟩
 have hv:VR (σ.add b vs) (.vec (some (b,n)) sz l) (.slice (some ⟨b,0,none⟩) n n):=by
  have:=oB (σ:=σ.add b vs) (b:=b) (cap:=n) hs (by rw [←hc];exact hvs.mono hle) h1 (by omega) (by unfold maxLen;omega) (fun j u hj=>ce.add_at hj)
  rwa [hn] at this
 have ha':=ha.mono hle
 refine ⟨ha'.size,ha'.defers,fun t' v' hl'=>?_⟩
 rw [cG] at hl'
 by_cases e:t=t'
 ·subst e
  simp only [if_true,Option.some.injEq] at hl'
  subst hl'
  have hp:=ha.look t _ hl
  generalize a.tmps.getD t undef=v0 at hp
  generalize hq:AV.iptr [.sc (.slice (some ⟨b,0,none⟩) n n)]=q at hp
  cases hp with
  | iptr cs2 b0 off hx h=>
   injection hq with hq
   subst hq
   refine .iptr _ b0 off (fun j hj=>?_) fun j c u hc hu=>?_
   ·obtain ⟨u,hu,h1⟩:=hx j hj
    exact ⟨u,hle _ _ _ hu,h1⟩
   ·have hj:j=0:=by
     have:=(Io hc).1
     simp at this
     exact this
    subst hj
    simp at hc
    subst hc
    obtain ⟨u',hu',_⟩:=hx 0 (by simp)
    have h2:=hle _ _ _ hu'
    rw [hu] at h2
    injection h2 with h2
    subst h2
    rw [(h 0 _ u rfl hu').sc_inv]
    exact hv.im
  | _=>cases hq
 ·rw [if_neg e] at hl'
  exact ha'.look t' v' hl'
end
end Go.Proofs.YtjjpkibjffmceaaGreat
