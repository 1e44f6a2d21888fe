/-
  The program: glyphs, as check looks at them, with anchors and deltas.
-/
import Derived.Test.YtamjlkdanllgjaaGreatDoorM09
import Derived.Test.YtamjlkdanllgjaaGreatDoorM07
namespace Go.Proofs.YtamjlkdanllgjaaGreatDoor
open Go.RowKit
attribute [local irreducible] AT bF AX AO Av Kt b8 d9 DA cu
set_option maxRecDepth 8000
theorem G1:jY Tryz.prog 361:=⟨⟨_,_,Tryz.underlying361,⟨by decide,by decide⟩,⟨rfl,rfl⟩,Tryz.underlying3,Tryz.underlying3⟩,Tryz.stoodInHeld361⟩
theorem KM:jY Tryz.prog 364:=⟨⟨_,_,Tryz.underlying364,⟨by decide,by decide⟩,⟨rfl,rfl⟩,Tryz.underlying3,Tryz.underlying3⟩,Tryz.stoodInHeld364⟩
def oP (l:List dN) (a b:Int):Option AV:=if ∃x∈l,x.Kind=a∧x.Class=b then some (cU true) else none
theorem EK:oP []=fun _ _=>none:=by funext a b;simp [oP]
theorem BZ (l:List dN) (a b:Int):(oP l a b).getD (cU false)=cU (decide (∃x∈l,x.Kind=a∧x.Class=b)):=by
 unfold oP
 by_cases h:∃x∈l,x.Kind=a∧x.Class=b
 ·rw [if_pos h,decide_eq_true h];rfl
 ·rw [if_neg h,decide_eq_false h];rfl
theorem C0 {l:List dN} {i:Nat} {x:dN} (h:l[i]?=some x):oP (l.take (i+1)) x.Kind x.Class=some (cU true):=by
 unfold oP
 rw [if_pos ⟨x,by rw [List.take_add_one,h];simp,rfl,rfl⟩]
theorem yi {l:List dN} {i:Nat} {x:dN} (h:l[i]?=some x) (p q:Int) (hne:¬(p=x.Kind∧q=x.Class)):oP (l.take (i+1)) p q=oP (l.take i) p q:=by
 unfold oP
 have:(∃y∈l.take (i+1),y.Kind=p∧y.Class=q)↔∃y∈l.take i,y.Kind=p∧y.Class=q:=by
  rw [List.take_add_one,h]
  simp only [Option.toList_some,List.mem_append,List.mem_singleton]
  constructor
  ·rintro ⟨y,hy | rfl,h1⟩
   ·exact ⟨y,hy,h1⟩
   ·exact absurd ⟨h1.1.symm,h1.2.symm⟩ hne
  ·rintro ⟨y,hy,h1⟩
   exact ⟨y,Or.inl hy,h1⟩
 by_cases hc:∃y∈l.take i,y.Kind=p∧y.Class=q
 ·rw [if_pos hc,if_pos (this.2 hc)]
 ·rw [if_neg hc,if_neg (fun h=>hc (this.1 h))]
set_option maxHeartbeats 1000000 in
theorem xh (g:bn) (i:Nat) (a:dN) (ha:g.Anchors[i]?=some a) (m:Nat):AC Tryz.prog 251 [aG i,.agg (df a),.iptr [cU g.Mark],.iptr [.sc (.map (some m))]] [(m,il (oP (g.Anchors.take i)))] fun c L'=>c=aG (oo g i a)∧(oo g i a=0→L'=[(m,il (oP (g.Anchors.take (i+1))))]):=by
 refine aQ Tryz.func251 rfl Tryz.ntmps251 rfl fun B=>?_
 repeat' (first|refine O1 ?_|refine OE a7 KN ?_|(apply aO;first|refine OG 7 a7 0 OD ?_|refine OG 7 a7 1 OD ?_|refine OG 7 a7 2 OD ?_|refine OF a7 0 OC ?_|refine OF a7 1 OC ?_|refine OF a7 2 OC ?_|refine OF a7 3 OC ?_|fail)|refine br ?_|refine bi a7 fun _=>?_|fail)
 refine da (t:=8) [2,3,5,7] (a.Kind=3∨a.Kind=4) rfl (fun Q' K=>?_) ?_
 ·repeat' (first|refine O1 ?_|refine OE a7 KN ?_|refine ON KN ?_|refine OP OA ?_|refine OR NZ (fun _=>?_) (fun _=>?_))
  all_goals exact K _ _ rfl rfl (by clear K;grind)
 refine W03 ?_
 refine da (t:=22) [2,3,5,7,8] (a.Kind < 1∨a.Kind > 4) rfl (fun Q' K=>?_) ?_
 ·repeat' (first|refine O1 ?_|refine OE a7 KN ?_|refine ON KN ?_|refine OP OA ?_|refine OR NZ (fun _=>?_) (fun _=>?_))
  all_goals exact K _ _ rfl rfl (by clear K;grind)
 repeat' (first|refine O1 ?_|fail)
 refine aw rfl (fun h1=>?_) (fun h1=>?_)
 ·have h0:=h1
  replace h1:=Oy h1
  rw [h0]
  refine W0k ?_
  refine OK KN ?_
  rw [show oo g i a=35 from if_pos (.inl h1)]
  exact ⟨rfl,fun e=>absurd e (by decide)⟩
 have h0:=h1
 replace h1:=Ox h1
 rw [h0]
 clear h0
 refine W01 ?_
 refine da (t:=22) [2,3,5,7,8] (a.Class < 0∨a.Class > 15) rfl (fun Q' K=>?_) ?_
 ·repeat' (first|refine O1 ?_|refine OE a7 KN ?_|refine ON KN ?_|refine OP OA ?_|refine OR NZ (fun _=>?_) (fun _=>?_))
  all_goals exact K _ _ rfl rfl (by clear K;grind)
 repeat' (first|refine O1 ?_|fail)
 refine aw rfl (fun h2=>?_) (fun h2=>?_)
 ·have h0:=h2
  replace h2:=Oy h2
  rw [h0]
  refine W0k ?_
  refine OK KN ?_
  rw [show oo g i a=35 from if_pos (.inr (.inl h2))]
  exact ⟨rfl,fun e=>absurd e (by decide)⟩
 have h0:=h2
 replace h2:=Ox h2
 rw [h0]
 clear h0
 refine W01 ?_
 refine da (t:=22) [2,3,5,7] ((a.Kind=3∨a.Kind=4)∧a.Class≠0) rfl (fun Q' K=>?_) ?_
 ·generalize hj:decide (a.Kind=3∨a.Kind=4)=j
  have hj':(a.Kind=3∨a.Kind=4)↔j=true:=by rw [←hj,decide_eq_true_eq]
  repeat' (first|refine O1 ?_|refine OE a7 KN ?_|refine ON KN ?_|refine OP OA ?_|refine OR NZ (fun _=>?_) (fun _=>?_))
  all_goals exact K _ _ (by first | rfl | (subst_vars;rfl)) rfl (by clear K;grind)
 repeat' (first|refine O1 ?_|fail)
 refine aw rfl (fun h3=>?_) (fun h3=>?_)
 ·have h0:=h3
  replace h3:=Oy h3
  rw [h0]
  refine W0k ?_
  refine OK KN ?_
  rw [show oo g i a=35 from if_pos (.inr (.inr (.inl h3)))]
  exact ⟨rfl,fun e=>absurd e (by decide)⟩
 have h0:=h3
 replace h3:=Ox h3
 rw [h0]
 clear h0
 refine W0G ?_
 refine aw rfl (fun h4=>?_) (fun h4=>?_)
 ·rw [h4]
  refine W0k ?_
  refine OK KN ?_
  rw [show oo g i a=35 from if_pos (.inr (.inr (.inr (.inl (by rw [←Bool.not_eq_true',h4])))))]
  exact ⟨rfl,fun e=>absurd e (by decide)⟩
 rw [h4]
 refine W01 ?_
 refine da (t:=22) [3,7] (a.Kind=2∧g.Mark=false) rfl (fun Q' K=>?_) ?_
 ·repeat' (first|refine O1 ?_|refine OE a7 KN ?_|refine ON KN ?_|refine OP OA ?_|refine OR NZ (fun _=>?_) (fun _=>?_))
  all_goals exact K _ _ rfl rfl (by clear K;grind)
 repeat' (first|refine O1 ?_|fail)
 refine aw rfl (fun h5=>?_) (fun h5=>?_)
 ·have h0:=h5
  replace h5:=Oy h5
  rw [h0]
  refine W0k ?_
  refine OK KN ?_
  rw [show oo g i a=35 from if_pos (.inr (.inr (.inr (.inr (.inl h5)))))]
  exact ⟨rfl,fun e=>absurd e (by decide)⟩
 have h0:=h5
 replace h5:=Ox h5
 rw [h0]
 clear h0
 refine W01 ?_
 refine yl 0 (.bool false) Tryz.underlying359 G1 rfl rfl rfl (by kernel_rfl) rfl ?_
 rw [BZ]
 refine W01 ?_
 refine aw rfl (fun h6=>?_) (fun h6=>?_)
 ·rw [h6]
  refine W01 ?_
  refine OK KN ?_
  rw [show oo g i a=35 from if_pos (.inr (.inr (.inr (.inr (.inr (Oy h6))))))]
  exact ⟨rfl,fun e=>absurd e (by decide)⟩
 rw [h6]
 refine W01 ?_
 refine uH 0 (oP (g.Anchors.take (i+1))) Tryz.underlying359 G1 rfl rfl rfl rfl (C0 ha) (yi ha) ?_
 refine W01 ?_
 refine OK KN ?_
 have h4':[a.X,a.Y].all gP=true:=by simpa using h4
 have h6':=Ox h6
 rw [show oo g i a=0 from if_neg (by
  rintro (h | h | h | h | h | h)
  ·exact h1 h
  ·exact h2 h
  ·exact h3 h
  ·rw [h4'] at h;cases h
  ·exact h5 h
  ·exact h6' h)]
 exact ⟨rfl,fun _=>rfl⟩
def sh (a b c d:Int):Bool:=decide (a < c∨(a=c∧b < d))
theorem xv (a b c d:Int):bH Tryz.prog 255 [.agg [aG a,aG b],.agg [aG c,aG d]] (cU (sh a b c d)):=by
 refine aQ Tryz.func255 rfl Tryz.ntmps255 rfl fun B=>?_
 refine W07 ?_
 refine da (t:=4) [] (sh a b c d=true) rfl (fun Q' K=>?_) ?_
 ·repeat' (first|refine O1 ?_|refine OE a7 KN ?_|refine ON KN ?_|refine OP OA ?_|refine dc rfl rfl rfl ?_|refine OR NZ (fun _=>?_) (fun _=>?_))
  all_goals exact K _ _ rfl rfl (by clear K;unfold sh;grind)
 repeat' (first|refine O1 ?_|fail)
 refine OK KN ?_
 simp
def g8 (l:List dT) (i:Nat):Int×Int:=match i with | 0=>(0,0) | j+1=>match l[j]? with | some b=>(b.Region,b.Point) | none=>(0,0)
def rD (g:bn) (i:Nat) (d:dT):Bool:=decide (0 < i∧((d.Region=(g8 g.Deltas i).1∧d.Point=(g8 g.Deltas i).2)∨sh d.Region d.Point (g8 g.Deltas i).1 (g8 g.Deltas i).2=true))
theorem Hx {g:bn} {i:Nat} {d:dT} (hd:g.Deltas[i]?=some d):(match i with | 0=>false | j+1=>match g.Deltas[j]? with | some b=>decide (d.Region < b.Region∨(d.Region=b.Region∧d.Point≤b.Point)) | none=>false)=rD g i d:=by
 unfold rD
 cases i with
 | zero=>simp
 | succ j=>
  have hj:j < g.Deltas.length:=by have:=(Ol hd).1;omega
  obtain ⟨b,hb⟩:∃b,g.Deltas[j]?=some b:=⟨_,Oz hj⟩
  simp only [hb,g8,sh]
  rw [Bool.eq_iff_iff,decide_eq_true_eq,decide_eq_true_eq,decide_eq_true_eq]
  omega
theorem GS {f:aY} {g:bn} {i:Nat} {d:dT} (hd:g.Deltas[i]?=some d):vQ f g i d=if d.Region < 0∨d.Region≥f.Regions.length then 61 else if (d.Point < -1∨d.Point≥g.Points.length)∨[d.X,d.Y].all gP=false∨(d.Point= -1∧d.Y≠0) then 30 else if rD g i d=true then 24 else 0:=by
 unfold vQ
 rw [←Hx hd]
 cases i <;> rfl
set_option maxHeartbeats 1000000 in
theorem Bx (f:aY) (g:bn) (i:Nat) (d:dT) (hd:g.Deltas[i]?=some d) (R N:Int) (hR:R=f.Regions.length) (hN:N=g.Points.length) (b:Nat):AC Tryz.prog 254 [aG i,.agg (ei d),.iptr [aG R],.iptr [aG N],.sc (.pointer (some ⟨b,0,none⟩))] [(b,.box [aG (g8 g.Deltas i).1,aG (g8 g.Deltas i).2] 364)] fun c L'=>c=aG (vQ f g i d)∧(vQ f g i d=0→L'=[(b,.box [aG (g8 g.Deltas (i+1)).1,aG (g8 g.Deltas (i+1)).2] 364)]):=by
 refine aQ Tryz.func254 rfl Tryz.ntmps254 rfl fun B=>?_
 rw [GS hd,←hR,←hN]
 have hnext:g8 g.Deltas (i+1)=(d.Region,d.Point):=by simp only [g8,hd]
 rw [hnext]
 repeat' (first|refine O1 ?_|refine ak ?_|refine OE a7 KN ?_|(apply aO;first|refine OG 8 a7 0 OD ?_|refine OG 8 a7 1 OD ?_|refine OG 8 a7 2 OD ?_|refine OF a7 0 OC ?_|refine OF a7 1 OC ?_|refine OF a7 2 OC ?_|refine OF a7 3 OC ?_|fail)|refine br ?_|refine bi a7 fun _=>?_|fail)
 refine cH [0,3,4,6,8] (d.Region < 0∨d.Region≥R) rfl (fun Q' K=>?_) (fun h1=>?_) (fun h1=>?_)
 ·repeat' (first|refine O1 ?_|refine OE a7 KN ?_|refine ON KN ?_|refine OP OA ?_|refine OR NZ (fun _=>?_) (fun _=>?_))
  all_goals exact K _ _ rfl rfl (by clear K;grind)
 ·rw [if_pos h1]
  refine W01 ?_
  exact OK KN ⟨rfl,fun e=>absurd e (by decide)⟩
 rw [if_neg h1]
 refine W01 ?_
 refine da (t:=24) [0,4,6,8] (d.Point < -1∨d.Point≥N) rfl (fun Q' K=>?_) ?_
 ·repeat' (first|refine O1 ?_|refine OE a7 KN ?_|refine ON KN ?_|refine OP OA ?_|refine OR NZ (fun _=>?_) (fun _=>?_))
  all_goals exact K _ _ rfl rfl (by clear K;grind)
 repeat' (first|refine O1 ?_|fail)
 refine aw rfl (fun h2=>?_) (fun h2=>?_)
 ·have h0:=h2
  replace h2:=Oy h2
  rw [h0]
  rw [if_pos (.inl h2)]
  refine W0k ?_
  exact OK KN ⟨rfl,fun e=>absurd e (by decide)⟩
 have h0:=h2
 replace h2:=Ox h2
 rw [h0]
 clear h0
 refine W0G ?_
 refine aw rfl (fun h3=>?_) (fun h3=>?_)
 ·rw [if_pos (.inr (.inl (by rw [←Bool.not_eq_true',h3]))),h3]
  refine W0k ?_
  exact OK KN ⟨rfl,fun e=>absurd e (by decide)⟩
 rw [h3]
 refine W01 ?_
 refine da (t:=24) [0,4,8] (d.Point= -1∧d.Y≠0) rfl (fun Q' K=>?_) ?_
 ·repeat' (first|refine O1 ?_|refine OE a7 KN ?_|refine ON KN ?_|refine OP OA ?_|refine OR NZ (fun _=>?_) (fun _=>?_))
  all_goals exact K _ _ rfl rfl (by clear K;grind)
 repeat' (first|refine O1 ?_|fail)
 refine aw rfl (fun h4=>?_) (fun h4=>?_)
 ·have h0:=h4
  replace h4:=Oy h4
  rw [h0]
  rw [if_pos (.inr (.inr h4))]
  refine W01 ?_
  exact OK KN ⟨rfl,fun e=>absurd e (by decide)⟩
 have h0:=h4
 replace h4:=Ox h4
 rw [h0]
 clear h0
 have h3':[d.X,d.Y].all gP=true:=by simpa using h3
 rw [if_neg (by
  rintro (h | h | h)
  ·exact h2 h
  ·rw [h3'] at h;cases h
  ·exact h4 h)]
 refine W01 ?_
 refine cH [4,8] (rD g i d=true) rfl (fun Q' K=>?_) (fun h5=>?_) (fun h5=>?_)
 ·repeat' (first|refine O1 ?_|refine OE a7 KN ?_|refine ON KN ?_|refine OP OA ?_|refine dc rfl rfl rfl ?_|(apply bU;first|refine OH a7 0 OB ?_|refine OH a7 1 OB ?_|refine OH a7 2 OB ?_|refine OH a7 3 OB ?_|refine OJ a7 0 OB ?_|refine OJ a7 1 OB ?_|refine OJ a7 2 OB ?_|refine OM a7 1 NZ (by assumption) rfl ?_|refine OM a7 0 NZ (by assumption) rfl ?_|fail)|refine OR NZ (fun _=>?_) (fun _=>?_))
  all_goals first
   | exact K _ _ rfl rfl (by clear K;unfold rD;grind)
   | (refine Kj KM Tryz.eqGuardType364 rfl rfl rfl ?_)
  repeat' (first|refine O1 ?_|refine OE a7 KN ?_|refine ON KN ?_|refine OP OA ?_|(apply bU;first|refine OH a7 0 OB ?_|refine OH a7 1 OB ?_|refine OH a7 2 OB ?_|refine OH a7 3 OB ?_|refine OJ a7 0 OB ?_|refine OJ a7 1 OB ?_|refine OJ a7 2 OB ?_|refine OM a7 1 NZ (by assumption) rfl ?_|refine OM a7 0 NZ (by assumption) rfl ?_|fail)|refine OR NZ (fun _=>?_) (fun _=>?_))
  all_goals first
   | exact K _ _ rfl rfl (by clear K;unfold rD;grind)
   | (refine b9 (hc:=⟨xv d.Region d.Point (g8 g.Deltas i).1 (g8 g.Deltas i).2⟩) ?_)
  refine W0y ?_
  all_goals exact K _ _ rfl rfl (by clear K;unfold rD;grind)
 ·rw [if_pos h5]
  refine W01 ?_
  exact OK KN ⟨rfl,fun e=>absurd e (by decide)⟩
 rw [if_neg h5]
 repeat' (first|refine O1 ?_|refine OE a7 KN ?_|(apply aO;first|refine OG 8 a7 0 OD ?_|refine OG 8 a7 1 OD ?_|refine OG 8 a7 2 OD ?_|refine OF a7 0 OC ?_|refine OF a7 1 OC ?_|refine OF a7 2 OC ?_|refine OF a7 3 OC ?_|fail))
 refine OK KN ⟨rfl,fun e=>?_⟩
 rfl
set_option maxHeartbeats 2000000 in
theorem BL (f:aY) (g:bn) (name:Int):bH Tryz.prog 109 [cR f,.agg (bG g),aG name] (aG (ry f g name)):=by
 refine aQ Tryz.func109 rfl Tryz.ntmps109 rfl fun B=>?_
 refine W07 ?_
 refine bk 30 [(0,.v),(1,.v),(2,.v),(3,.v),(4,.v),(5,.v),(6,.v),(7,.v),(8,.v),(9,.v),(12,.v),(13,.v),(14,.v),(15,.v),(16,.v),(17,.v),(18,.v),(19,.v),(20,.v),(23,.v),(10,.e),(11,.v),(21,.e),(22,.v),(24,.v),(25,.e),(26,.v),(27,.v),(28,.v),(29,.v)] none ?_ trivial rfl (by kernel_rfl) (by kernel_rfl) (by kernel_rfl) mixed (by kernel_rfl) rfl
 refine W0j ?_
 refine ki [] [] (xi g.Mark) rfl rfl (Ok _) trivial fun c L1 ⟨m,hc,hL⟩=>?_
 subst hc;subst hL
 repeat' (first|refine aE ?_|(apply cI;refine d8 ?_)|fail)
 refine ki [] _ (By (f.Regions.map bW).length (g.Points.map dH).length) rfl rfl (Ok _) trivial fun c L1 ⟨b,hc,hL⟩=>?_
 subst hc;subst hL
 repeat' (first|refine aE ?_|(apply cI;refine d8 ?_)|refine ec a7 ?_|fail)
 refine ki (L:=[(b,.box [aG 0,aG 0] 364),(m,il fun _ _=>none)]) _ [] (jA [⟨173,[.iptr [aG name]],[],name,0⟩,⟨174,[.iptr (bG g)],[],kI g,0⟩,⟨247,[.iptr [.imm 3 (g.Parts.map eG)],.iptr [aG 8],.iptr [.fn 177 [.iptr (cf f)]]],[],(cZ 8 g.Parts (pO f)).1,(cZ 8 g.Parts (pO f)).2⟩,⟨249,[.iptr [.imm 4 (g.Anchors.map df)],.iptr [aG 16],.iptr [.fn 251 [.iptr [cU g.Mark],.iptr [.sc (.map (some m))]]]],[(m,il fun _ _=>none)],(cZ 16 g.Anchors (oo g)).1,(cZ 16 g.Anchors (oo g)).2⟩,⟨252,[.iptr [.imm 4 (g.Deltas.map ei)],.iptr [aG 400],.iptr [.fn 254 [.iptr [aG (f.Regions.map bW).length],.iptr [aG (g.Points.map dH).length],.sc (.pointer (some ⟨b,0,none⟩))]]],[(b,.box [aG 0,aG 0] 364)],(cZ 400 g.Deltas (vQ f g)).1,(cZ 400 g.Deltas (vQ f g)).2⟩,⟨183,[.iptr (bG g)],[],rX g.Hint,0⟩] ?_) rfl rfl (List.Perm.swap ..) trivial fun c L1 hc=>?_
 ·refine ⟨⟨inferInstance,xW name⟩,fun _=>⟨⟨inferInstance,xX g⟩,fun _=>⟨⟨inferInstance,Ia rfl g.Parts 8 _ (fun _ _=>True) [] trivial (fun _=>dz fun i x _=>xY f i x)⟩,fun _=>⟨⟨inferInstance,Ib rfl g.Anchors 16 (gG g.Anchors (oo g)) (fun i L=>L=[(m,il (oP (g.Anchors.take i)))]) _ (by rw [List.take_zero,EK]) ?_⟩,fun _=>⟨⟨inferInstance,Ic rfl g.Deltas 400 (gG g.Deltas (vQ f g)) (fun i L=>L=[(b,.box [aG (g8 g.Deltas i).1,aG (g8 g.Deltas i).2] 364)]) _ rfl ?_⟩,fun _=>⟨⟨inferInstance,xZ g⟩,fun _=>trivial⟩⟩⟩⟩⟩⟩
  ·intro _ i x L hx hL
   subst hL
   rw [iB hx]
   exact xh g i x hx m
  ·intro _ i x L hx hL
   subst hL
   rw [iB hx]
   exact Bx f g i x hx _ _ (by rw [Ou]) (by rw [Ou]) b
 ·rw [kw] at hc
  subst hc
  unfold ct
  refine W06 ?_
  refine OO [7,37] KN ?_
  refine W0p ?_
  exact OL NZ
instance (f:aY) (g:bn) (name:Int):AD Tryz.prog 109 [cR f,.agg (bG g),aG name] (aG (ry f g name)):=⟨BL f g name⟩
set_option maxRecDepth 8000
section
variable {P:Program} {l:List Oper} {fr:bZ} {fin:kV} {sk:mT} {acc:bZ} {L:AL} {k:Nat} {dd:Option Tmp} {ty t:TypeId} {pos:String} {af:Array Edge} {g:Option (Nat×Bool)} {x y:Operand}
theorem nd (i:Nat) (v0:Value) {b kt et:Nat} {kd:TypeDesc} {q:Value} {m:Value→Option AV} (ht:P.underlying t=some (.map kt et)) (hkt:P.underlying kt=some kd) (hx:bw (cO l.toArray acc fr af.toList) x=some (.sc (.map (some b)))) (hy:bw (cO l.toArray acc fr af.toList) y=some (.sc q)) (hk:MapKept.IsKey kd q) (hL:L[i]?=some (b,ci kd m)) (hz:lJ P et v0=true) (hg:j6 ⟨dd,.lookup t x y false,ty,pos,af,g⟩ acc) (h:DA P l fr fin sk ((k,(m q).getD (.sc v0))::acc) L):
  cu P l fr fin k .e ⟨dd,.lookup t x y false,ty,pos,af,g⟩ sk acc L:=
 iJ hg (fun B=>jx i ht hkt hx hy hk hL (ge hz) fun _=> .sc _) fun c L' ⟨h1,h2⟩=>by subst h1;subst h2;exact h
end
def zu (f:aY) (c:dt) (late:Bool):Int:=if c.Rune < 0∨c.Rune > 1114111 then 1 else if m7 f c.Glyph=false then 32 else ez late 24
theorem DT (f:aY) (c:dt) (late:Bool):bH Tryz.prog 116 [cR f,.agg (dv c),cU late] (aG (zu f c late)):=by
 refine aQ Tryz.func116 rfl Tryz.ntmps116 rfl fun B=>?_
 unfold zu
 refine W0C ?_
 refine cH [2,3,4] (c.Rune < 0∨c.Rune > 1114111) rfl (fun Q' K=>?_) (fun hC=>?_) (fun hC=>?_)
 ·repeat' (first|refine O1 ?_|refine OE a7 KN ?_|refine ON KN ?_|refine OP OA ?_|refine OR NZ (fun _=>?_) (fun _=>?_))
  all_goals exact K _ _ rfl rfl (by clear K;grind)
 ·rw [if_pos hC]
  refine W01 ?_
  exact OL NZ
 rw [if_neg hC]
 refine W0a ?_
 refine aw rfl (fun h=>?_) (fun h=>?_)
 ·rw [if_pos (by simpa using h)]
  refine W01 ?_
  exact OL NZ
 rw [if_neg (by simpa using h)]
 refine W0a ?_
 exact OL NZ
instance (f:aY) (c:dt) (late:Bool):AD Tryz.prog 116 [cR f,.agg (dv c),cU late] (aG (zu f c late)):=⟨DT f c late⟩
def Ex (f:aY) (i:Nat) (c:dt):Bool:=match i with | 0=>false | j+1=>match f.Chars[j]? with | some b=>decide (c.Rune≤b.Rune) | none=>false
def kc (f:aY) (i:Nat) (c:dt):Int:=zu f c (Ex f i c)
theorem Bj (f:aY) (i:Nat) (c:dt) (hc:f.Chars[i]?=some c) (hm:(f.Chars.length:Int)≤1000):bH Tryz.prog 115 [aG i,.agg (dv c),.iptr (cf f)] (aG (kc f i c)):=by
 refine aQ Tryz.func115 rfl Tryz.ntmps115 rfl fun B=>?_
 have hil:=(Ol hc).1
 unfold kc
 cases i with
 | zero=>
  refine W07 ?_
  refine bk 17 [(0,.v),(1,.v),(2,.v),(3,.v),(4,.v),(5,.v),(6,.v),(7,.v),(8,.v),(9,.v),(10,.v),(11,.v),(12,.v),(13,.v),(14,.v),(15,.v),(16,.v)] none ?_ trivial rfl (by kernel_rfl) (by kernel_rfl) (by kernel_rfl) mixed (by kernel_rfl) rfl
  repeat' (first|refine aE ?_|refine b6 a7 ?_|(apply cI;refine d8 ?_)|refine lc rfl rfl ?_)
  refine OO [22] KN ?_
  refine W0p ?_
  exact OL NZ
 | succ j=>
  obtain ⟨b,hb⟩:∃b,f.Chars[j]?=some b:=⟨_,Oz (by omega)⟩
  have hbg:(f.Chars.map dv)[(((j+1:Nat):Int) - 1).toNat]?=some (dv b):=by rw [show (((j+1:Nat):Int) - 1).toNat=j by omega];exact c7 hb
  have hl:Ex f (j+1) c=decide (c.Rune≤b.Rune):=by simp [Ex,hb]
  have hpos:decide (0 < ((j+1:Nat):Int))=true:=decide_eq_true (by omega)
  rw [hl]
  refine W07 ?_
  refine bk 17 [(0,.v),(1,.v),(2,.v),(3,.v),(4,.v),(5,.v),(6,.v),(7,.v),(8,.v),(9,.v),(10,.v),(11,.v),(12,.v),(13,.v),(14,.v),(15,.v),(16,.v)] none ?_ trivial rfl (by kernel_rfl) (by kernel_rfl) (by kernel_rfl) mixed (by kernel_rfl) rfl
  refine W06 ?_
  rw [hpos]
  refine W19 ?_
  refine OO [22] KN ?_
  refine W0p ?_
  exact OL NZ
def zp (a:eI) (name:Int):Int:=if name≠0 then name else ez (!(decide ([a.Min,a.Def,a.Max].all gP=true∧a.Min≤a.Def∧a.Def≤a.Max))) 60
theorem DD (a:eI) (name:Int):bH Tryz.prog 126 [.agg (cS a),aG name] (aG (zp a name)):=by
 refine aQ Tryz.func126 rfl Tryz.ntmps126 rfl fun B=>?_
 unfold zp
 refine W07 ?_
 refine aw rfl (fun h=>?_) (fun h=>?_)
 ·rw [if_pos (Oy h)]
  refine W01 ?_
  exact OL NZ
 rw [if_neg (Ox h)]
 refine W0G ?_
 refine da (t:=5) [] ([a.Min,a.Def,a.Max].all gP=true∧a.Min≤a.Def∧a.Def≤a.Max) rfl (fun Q' K=>?_) ?_
 ·repeat' (first|refine O1 ?_|refine OE a7 KN ?_|refine ON KN ?_|refine OP OA ?_|refine OR NZ (fun _=>?_) (fun _=>?_))
  all_goals exact K _ _ rfl rfl (by clear K;grind)
 refine W0a ?_
 exact OL NZ
instance (a:eI) (name:Int):AD Tryz.prog 126 [.agg (cS a),aG name] (aG (zp a name)):=⟨DD a name⟩
def tT (_:Nat) (t:f9):Int:=ez (decide (¬(-64≤t.Start∧t.Start≤t.Peak∧t.Peak≤t.End∧t.End≤64)∨(t.Start < 0∧t.End > 0∧t.Peak≠0))) 61
set_option maxHeartbeats 1000000 in
theorem FX (i:Nat) (t:f9):bH Tryz.prog 209 [aG i,.agg (kN t)] (aG (tT i t)):=by
 refine aQ Tryz.func209 rfl Tryz.ntmps209 rfl fun B=>?_
 refine W07 ?_
 refine da (t:=5) [3] (-64≤t.Start∧t.Start≤t.Peak∧t.Peak≤t.End∧t.End≤64) rfl (fun Q' K=>?_) ?_
 ·repeat' (first|refine O1 ?_|refine OE a7 KN ?_|refine ON KN ?_|refine OP OA ?_|refine OR NZ (fun _=>?_) (fun _=>?_))
  all_goals exact K _ _ rfl rfl (by clear K;grind)
 refine W01 ?_
 refine da (t:=6) [5] (t.Start < 0∧t.End > 0∧t.Peak≠0) rfl (fun Q' K=>?_) ?_
 ·repeat' (first|refine O1 ?_|refine OE a7 KN ?_|refine ON KN ?_|refine OP OA ?_|refine OR NZ (fun _=>?_) (fun _=>?_))
  all_goals exact K _ _ rfl rfl (by clear K;grind)
 have ht:tT i t=ez (!(decide (-64≤t.Start∧t.Start≤t.Peak∧t.Peak≤t.End∧t.End≤64)) || decide (t.Start < 0∧t.End > 0∧t.Peak≠0)) 61:=by unfold tT;rw [Bool.decide_or,decide_not]
 rw [ht]
 generalize decide (-64≤t.Start∧t.Start≤t.Peak∧t.Peak≤t.End∧t.End≤64)=p
 generalize decide (t.Start < 0∧t.End > 0∧t.Peak≠0)=q
 cases p <;> cases q
 all_goals
  repeat' (first|refine O1 ?_|refine OE a7 KN ?_|refine ON KN ?_|refine OP OA ?_|(apply bg;refine b9 ?_)|fail)
  exact OL NZ
def Fo (axes:Int) (r:List f9):Int:=if (r.length:Int)≠axes then 61 else (dx r tT).1
theorem yz (r:List f9) (axes:Int):bH Tryz.prog 129 [.agg (bW r),aG axes] (aG (Fo axes r)):=by
 refine aQ Tryz.func129 rfl Tryz.ntmps129 rfl fun B=>?_
 unfold Fo
 refine W07 ?_
 rw [Ou]
 refine aw rfl (fun h=>?_) (fun h=>?_)
 ·rw [if_pos (Oy h)]
  refine W01 ?_
  exact OL NZ
 rw [if_neg (Ox h)]
 refine W01 ?_
 refine bh [] [] (H4 (u:= .sc (.func (.func 209) #[] #[])) (g:=209) (caps:=[]) rfl r _ (fun _ _=>True) [] trivial (dz (fun i x _=>FX i x))) rfl rfl (Ok _) rfl fun c L1 hc=>?_
 have hc:c=ct (dx r tT):=hc
 subst hc
 unfold ct
 refine W01 ?_
 exact OL NZ
instance (r:List f9) (axes:Int):AD Tryz.prog 129 [.agg (bW r),aG axes] (aG (Fo axes r)):=⟨yz r axes⟩
theorem wK (f:aY) (i:Nat) (r:List f9):bH Tryz.prog 128 [aG i,.agg (bW r),.iptr (cf f)] (aG (Fo f.Axes.length r)):=by
 refine aQ Tryz.func128 rfl Tryz.ntmps128 rfl fun B=>?_
 refine W0T ?_
 rw [Ou]
 repeat' (first|fail)
 exact OL NZ
theorem Bn (i:Nat) (l:List eW):bH Tryz.prog 131 [aG i,.imm 2 (l.map dX)] (aG (rX l)):=by
 refine aQ Tryz.func131 rfl Tryz.ntmps131 rfl fun B=>?_
 refine W0a ?_
 exact OL NZ
def DY (_:Nat) (n:Int):Int:=ez (!([n].all gP)) 1
theorem DW (i:Nat) (n:Int):bH Tryz.prog 134 [aG i,aG n] (aG (DY i n)):=by
 refine aQ Tryz.func134 rfl Tryz.ntmps134 rfl fun B=>?_
 refine W0G ?_
 exact OL NZ
def mf (f:aY):Int:=if f.Unit < 16∨f.Unit > 4096 then 1 else if f.Glyphs.length=0 then 32 else 0
theorem Em (f:aY):bH Tryz.prog 106 [cR f] (aG (mf f)):=by
 refine aQ Tryz.func106 rfl Tryz.ntmps106 rfl fun B=>?_
 unfold mf
 refine W0C ?_
 refine cH [1] (f.Unit < 16∨f.Unit > 4096) rfl (fun Q' K=>?_) (fun hC=>?_) (fun hC=>?_)
 ·repeat' (first|refine O1 ?_|refine OE a7 KN ?_|refine ON KN ?_|refine OP OA ?_|refine OR NZ (fun _=>?_) (fun _=>?_))
  all_goals exact K _ _ rfl rfl (by clear K;grind)
 ·rw [if_pos hC]
  refine W01 ?_
  exact OL NZ
 rw [if_neg hC]
 refine W01 ?_
 rw [Ou]
 refine aw rfl (fun h=>?_) (fun h=>?_)
 ·rw [if_pos (by have:=Oy h;omega)]
  refine W01 ?_
  exact OL NZ
 rw [if_neg (by have:=Ox h;omega)]
 refine W01 ?_
 exact OL NZ
instance (f:aY):AD Tryz.prog 106 [cR f] (aG (mf f)):=⟨Em f⟩
theorem BQ (f:aY):bH Tryz.prog 105 [.iptr (cf f)] (ct (mf f,0)):=by
 refine aQ Tryz.func105 rfl Tryz.ntmps105 rfl fun B=>?_
 refine W0a ?_
 exact OS OA
end Go.Proofs.YtamjlkdanllgjaaGreatDoor
namespace Go.Proofs.YtamjlkdanllgjaaGreatDoor
open Go.RowKit
section
variable {P:Program} {tt:TT} {l:List Oper} {fr:bZ} {fin:kV} {sk:mT} {acc:bZ} {L:AL} {k:Nat} {dd:Option Tmp} {ty t t':TypeId} {pos:String} {af:Array Edge} {g:Option (Nat×Bool)} {x y:Operand} {u:AV}
theorem c5 (ok:eh P tt) {e sz by_ b off n cap:Nat} {q:IntKind} {i:Int} (ht:jW tt t=some (e,sz,by_)) (hx:bw (cO l.toArray acc fr af.toList) x=some (.sc (.slice (some ⟨b,off,none⟩) n cap))) (hy:bw (cO l.toArray acc fr af.toList) y=some (.sc (.int q i))) (h0:0≤i∧i < n) (hg:j6 ⟨dd,.indexAddr t x y,ty,pos,af,g⟩ acc) (h:DA P l fr fin sk ((k,.sc (.pointer (some ⟨b,off+i.toNat * sz,none⟩)))::acc) L):
  cu P l fr fin k .v ⟨dd,.indexAddr t x y,ty,pos,af,g⟩ sk acc L:=fW hg (fun _ _=>(vp (bE ok ht).1 hx hy h0).ao) h
theorem vP (ok:eh P tt) (i:Nat) {b q n:Nat} {cs ys:List AV} {e:TypeId} (ht:Il tt t=some n) (hx:bw (cO l.toArray acc fr af.toList) x=some (.sc (.pointer (some ⟨b,q,none⟩)))) (hy:bw (cO l.toArray acc fr af.toList) y=some u) (hu:u.cells=some ys) (hL:L[i]?=some (b,.box cs e)) (hn:Nat.beq ys.length n=true) (hk:Nat.ble (q+n) cs.length=true) (hg:j6 ⟨dd,.store t x y,ty,pos,af,g⟩ acc) (h:∀c,DA P l fr fin sk ((k,c)::acc) (fN L i (.box (eR cs q ys) e))):
  cu P l fr fin k .e ⟨dd,.store t x y,ty,pos,af,g⟩ sk acc L:=iJ hg (fun _=>qR i (sr ok ht) hx hy hu hL hn hk) fun c L' h1=>by subst h1;exact h c
theorem vO {v:Value} (ht:hY P t=true) (hx:bw (cO l.toArray acc fr af.toList) x=some (.sc (.iface t v))) (hg:j6 ⟨dd,.typeAssert x t' t false,ty,pos,af,g⟩ acc) (h:DA P l fr fin sk ((k,.sc v)::acc) L):cu P l fr fin k .v ⟨dd,.typeAssert x t' t false,ty,pos,af,g⟩ sk acc L:=
 fW hg (fun _ _=>(vo ht hx).ao) h
theorem Bq (ok:eh P tt) (i:Nat) {e by_ b n cap:Nat} {cs:List AV} {c:AV} (ht:jW tt t=some (e,1,by_)) (hz:zI tt e=some [.int .i64 0]) (hx:bw (cO l.toArray acc fr af.toList) x=some (.sc (.slice (some ⟨b,0,none⟩) n cap))) (hy:bw (cO l.toArray acc fr af.toList) y=some u) (hu:gZ u=some (1,[[c]])) (hL:L[i]?=some (b,.box cs e)) (hcl:cs.length=cap) (hn:n≤cap) (h63:n+1≤9223372036854775807) (hby:(n+1) * by_≤140737488355328) (hg:j6 ⟨dd,.call ⟨.builtin .append,#[x,y],#[t,t]⟩,ty,pos,af,g⟩ acc)
  (h:∀b' cs',cs'.take (n+1)=cs.take n++[c]→n+1≤cs'.length→DA P l fr fin sk ((k,.sc (.slice (some ⟨b',0,none⟩) (n+1) cs'.length))::acc) ((b',.box cs' e)::L.eraseIdx i)):
  cu P l fr fin k .e ⟨dd,.call ⟨.builtin .append,#[x,y],#[t,t]⟩,ty,pos,af,g⟩ sk acc L:=
 iJ hg (fun _=>qN i (bE ok ht).1 (eA ok hz) hx hy (cG hu) hL hcl hn h63 hby) fun q L' ⟨b',cs',h1,h2,h3,h4⟩=>by subst h1;subst h4;exact h b' cs' h2 h3
theorem Bt (ok:eh P tt) {e by_:Nat} {c:AV} (ht:jW tt t=some (e,1,by_)) (hz:zI tt e=some [.int .i64 0]) (hx:bw (cO l.toArray acc fr af.toList) x=some (.sc (.slice none 0 0))) (hy:bw (cO l.toArray acc fr af.toList) y=some u) (hu:gZ u=some (1,[[c]])) (hby:Nat.ble by_ 140737488355328=true) (hg:j6 ⟨dd,.call ⟨.builtin .append,#[x,y],#[t,t]⟩,ty,pos,af,g⟩ acc)
  (h:∀b' cs',cs'.take 1=[c]→1≤cs'.length→DA P l fr fin sk ((k,.sc (.slice (some ⟨b',0,none⟩) 1 cs'.length))::acc) ((b',.box cs' e)::L)):
  cu P l fr fin k .e ⟨dd,.call ⟨.builtin .append,#[x,y],#[t,t]⟩,ty,pos,af,g⟩ sk acc L:=
 iJ hg (fun _=>qO (bE ok ht).1 (eA ok hz) hx hy (cG hu) (Nat.ble_eq .. ▸hby)) fun q L' ⟨b',cs',h1,h2,h3,h4⟩=>by subst h1;subst h4;exact h b' cs' h2 h3
end
def IU (P:Program) (t:TypeId) (name:String) (f:FuncId) (ptr:Bool) (e:TypeId):Bool:=(match P.underlying t with | some (.pointer e')=>Nat.beq e' e | _=>false) && match P.info? t with
 | some ti=>match ti.methods.find? (·.name==name) with
  | some m=>m.path.isEmpty && (match m.func with | some (f',p')=>Nat.beq f' f && (p'==ptr) | none=>false)
  | none=>false
 | none=>false
theorem iV {P:Program} {t:TypeId} {name:String} {f:FuncId} {ptr:Bool} {e:TypeId} (h:IU P t name f ptr e=true):mU P t name f ptr e:=by
 unfold IU at h
 rw [Bool.and_eq_true] at h
 obtain ⟨h1,h2⟩:=h
 split at h1
 ·rename_i e' hu
  rw [Nat.beq_eq] at h1
  subst h1
  split at h2
  ·rename_i ti hti
   split at h2
   ·rename_i m hm
    rw [Bool.and_eq_true] at h2
    obtain ⟨h3,h4⟩:=h2
    split at h4
    ·rename_i f' p' hf
     rw [Bool.and_eq_true,Nat.beq_eq,beq_iff_eq] at h4
     refine ⟨hu,ti,m,hti,hm,?_,by rw [hf,h4.1,h4.2]⟩
     simpa using h3
    ·cases h4
   ·cases h2
  ·cases h2
 ·cases h1
end Go.Proofs.YtamjlkdanllgjaaGreatDoor
namespace Go.Proofs.YtamjlkdanllgjaaGreatDoor
open Go.RowKit Go.MapKept
section
variable {P:Program} {fr:bZ} {B:Bs} {L:AL}
theorem AO.as {o:Oper} {a b:AV} (h:AO P o fr B L (fun c L'=>c=a∧L'=L)) (hv:∀σ v,VR σ a v→VR σ b v):AO P o fr B L (fun c L'=>c=b∧L'=L):=
 fun σ ρ w hρ hw=>(h σ ρ w hρ hw).mono fun _ _ ⟨τ,c,L',h1,h2,h3,h4,h5⟩=>⟨τ,b,L',h1,hv τ _ (by rw [←h4];exact h2),h3,rfl,h5⟩
end
section
variable {P:Program} {tt:TT} {l:List Oper} {fr:bZ} {fin:kV} {sk:mT} {acc:bZ} {L:AL} {k:Nat} {dd:Option Tmp} {ty t t':TypeId} {pos:String} {af:Array Edge} {g:Option (Nat×Bool)} {x y z:Operand} {u:AV}
theorem Bv (i:Nat) (v0:Value) (a:AV) {b kt et:Nat} {kd:TypeDesc} {q:Value} {m:Value→Option AV} (ht:P.underlying t=some (.map kt et)) (hkt:P.underlying kt=some kd) (hx:bw (cO l.toArray acc fr af.toList) x=some (.sc (.map (some b)))) (hy:bw (cO l.toArray acc fr af.toList) y=some (.sc q)) (hk:IsKey kd q) (hL:L[i]?=some (b,ci kd m)) (hz:lJ P et v0=true) (ha:∀σ v,VR σ ((m q).getD (.sc v0)) v→VR σ a v) (hg:j6 ⟨dd,.lookup t x y false,ty,pos,af,g⟩ acc) (h:DA P l fr fin sk ((k,a)::acc) L):
  cu P l fr fin k .e ⟨dd,.lookup t x y false,ty,pos,af,g⟩ sk acc L:=
 iJ hg (fun B=>(jx i ht hkt hx hy hk hL (ge hz) fun _=> .sc _).as ha) fun c L' ⟨h1,h2⟩=>by subst h1;subst h2;exact h
theorem fj (ok:eh P tt) (L0:AL) {e sz by_:Nat} {q:Option (Nat×Nat)} {l1 l2:List (List AV)} (ht:jW tt t=some (e,sz,by_)) (hx:bw (cO l.toArray acc fr af.toList) x=some (.vec q sz l1)) (hy:bw (cO l.toArray acc fr af.toList) y=some u) (hu:gZ u=some (sz,l2)) (hL:L.Perm (tok q e sz l1.length++L0)) (h63:l1.length+l2.length≤9223372036854775807) (hby:(l1.length+l2.length) * by_≤140737488355328) (hg:j6 ⟨dd,.call ⟨.builtin .append,#[x,y],#[t,t]⟩,ty,pos,af,g⟩ acc)
  (h:∀k',DA P l fr fin sk ((k,.vec k' sz (l1++l2))::acc) (tok k' e sz (l1++l2).length++L0)):
  cu P l fr fin k .e ⟨dd,.call ⟨.builtin .append,#[x,y],#[t,t]⟩,ty,pos,af,g⟩ sk acc L:=
 iJ hg (fun _=>oq L0 (bE ok ht).1 (bE ok ht).2 hx hy (cG hu) hL h63 hby) fun c L' ⟨k',h1,h2⟩=>by subst h1;subst h2;exact h k'
end
section
variable {P:Program} {r:Option Nat} {ops:Array Oper} {Q:Exit→Act→World→Prop} {nt:Nat} {D:List Deferred} {fr:bZ} {B:Bs} {L:AL} {rest:List Oper} {d:Nat} {ty t:TypeId} {pos:String} {af:Array Edge} {x y z:Operand} {u:AV}
theorem jI (i:Nat) (v0:Value) (a:AV) {b kt et:Nat} {kd:TypeDesc} {k:Value} {m:Value→Option AV} (ht:P.underlying t=some (.map kt et)) (hkt:P.underlying kt=some kd) (hx:bw fr x=some (.sc (.map (some b)))) (hy:bw fr y=some (.sc k)) (hk:IsKey kd k) (hL:L[i]?=some (b,ci kd m)) (hz:lJ P et v0=true) (ha:∀σ v,VR σ ((m k).getD (.sc v0)) v→VR σ a v) (hd:Nat.ble nt d=false)
  (h:bF P r ops Q nt D rest ((d,a)::fr) B L):bF P r ops Q nt D (⟨some d,.lookup t x y false,ty,pos,af,none⟩::rest) fr B L:=
 cn hd rfl ((jx i ht hkt hx hy hk hL (ge hz) fun _=> .sc _).as ha) fun c L' ⟨h1,h2⟩=>by subst h1;subst h2;exact h
end
noncomputable def oQ (m:Value→Option AV) (k:Value) (c:AV):Value→Option AV:=fun q=>open Classical in if q=k then some c else m q
theorem jG {m:Value→Option AV} {k:Value} {c:AV}:oQ m k c k=some c:=by simp [oQ]
theorem iW {m:Value→Option AV} {k:Value} {c:AV} (q:Value) (h:q≠k):oQ m k c q=m q:=by simp [oQ,h]
def og (m:Value→Option AV) (M:Int→Int):Prop:=∀z,m (.int .i64 z)=none∧M z=0∨m (.int .i64 z)=some (.sc (.int .i64 (M z)))
theorem og.at {m:Value→Option AV} {M:Int→Int} (h:og m M) (z:Int):∀(σ:cm) (v:Value),VR σ ((m (.int .i64 z)).getD (.sc (.int .i64 0))) v→VR σ (.sc (.int .i64 (M z))) v:=by
 intro σ v hv
 rcases h z with ⟨h1,h2⟩ | h1
 ·rw [h1] at hv;rw [h2];exact hv
 ·rw [h1] at hv;exact hv
theorem og.put {m:Value→Option AV} {M:Int→Int} (h:og m M) (z c:Int):og (oQ m (.int .i64 z) (.sc (.int .i64 c))) fun q=>if q=z then c else M q:=by
 intro q
 by_cases e:q=z
 ·subst e;simp only [if_true,jG];exact .inr trivial
 ·simp only [if_neg e];rw [iW _ (by intro h;injection h with _ h;exact e h)];exact h q
def qH (m:Value→Option AV) (K:Int→Option (Nat×Nat)) (U:Int→List Int):Prop:=∀z,(m (.int .i64 z)=none∧U z=[]∧K z=none)∨m (.int .i64 z)=some (.vec (K z) 1 (aL (U z)))
theorem qH.at {m:Value→Option AV} {K:Int→Option (Nat×Nat)} {U:Int→List Int} (h:qH m K U) (z:Int):∀(σ:cm) (v:Value),VR σ ((m (.int .i64 z)).getD (.sc (.slice none 0 0))) v→VR σ (.vec (K z) 1 (aL (U z))) v:=by
 intro σ v hv
 rcases h z with ⟨h1,h2,h3⟩ | h1
 ·rw [h1] at hv;rw [h2,h3];exact cM 1 hv
 ·rw [h1] at hv;exact hv
theorem qH.put {m:Value→Option AV} {K:Int→Option (Nat×Nat)} {U:Int→List Int} (h:qH m K U) (z:Int) (k:Option (Nat×Nat)) (l:List Int):qH (oQ m (.int .i64 z) (.vec k 1 (aL l))) (fun q=>if q=z then k else K q) fun q=>if q=z then l else U q:=by
 intro q
 by_cases e:q=z
 ·subst e;simp only [if_true,jG];exact .inr trivial
 ·simp only [if_neg e]
  rw [iW _ (by intro h;injection h with _ h;exact e h)]
  exact h q
def mR (e:TypeId) (K:Int→Option (Nat×Nat)) (U:Int→List Int) (zs:List Int):AL:=zs.flatMap fun z=>tok (K z) e 1 (aL (U z)).length
theorem p8 {e:TypeId} {K:Int→Option (Nat×Nat)} {U:Int→List Int}:∀{zs:List Int} {z:Int},z∈zs→(mR e K U zs).Perm (tok (K z) e 1 (aL (U z)).length++mR e K U (zs.erase z))
 | y::zs,z,h=>by
  by_cases hz:y=z
  ·subst hz
   rw [List.erase_cons_head]
   exact Ok _
  ·have hm:z∈zs:=by
    rcases List.mem_cons.1 h with h | h
    ·exact absurd h.symm hz
    ·exact h
   rw [List.erase_cons_tail (by simpa using hz)]
   have ih:=p8 (e:=e) (K:=K) (U:=U) hm
   unfold mR at ih ⊢
   rw [List.flatMap_cons,List.flatMap_cons]
   refine (List.Perm.append_left _ ih).trans ?_
   rw [←List.append_assoc,←List.append_assoc]
   exact List.Perm.append_right _ List.perm_append_comm
theorem yV {e:TypeId} {K K':Int→Option (Nat×Nat)} {U U':Int→List Int} {zs:List Int} (h:∀z∈zs,K z=K' z∧U z=U' z):mR e K U zs=mR e K' U' zs:=by
 unfold mR
 induction zs with
 | nil=>rfl
 | cons z zs ih=>
  rw [List.flatMap_cons,List.flatMap_cons,ih fun y hy=>h y (Ot _ hy),(h z (List.mem_cons_self ..)).1,(h z (List.mem_cons_self ..)).2]
theorem FZ {e:TypeId} {K:Int→Option (Nat×Nat)} {U:Int→List Int} {zs:List Int} {z:Int} {k:Option (Nat×Nat)} {l:List Int} (hn:zs.Nodup) (h:z∈zs):(tok k e 1 (aL l).length++mR e K U (zs.erase z)).Perm (mR e (fun q=>if q=z then k else K q) (fun q=>if q=z then l else U q) zs):=by
 have h1:=p8 (e:=e) (K:=fun q=>if q=z then k else K q) (U:=fun q=>if q=z then l else U q) h
 simp only [if_true] at h1
 refine List.Perm.trans ?_ h1.symm
 rw [yV (K:=K) (U:=U) (K':=fun q=>if q=z then k else K q) (U':=fun q=>if q=z then l else U q) fun y hy=>by
  have hne:y≠z:=fun e=>by subst e;exact (List.Nodup.not_mem_erase hn) hy
  simp only [if_neg hne]
  exact ⟨trivial,trivial⟩]
theorem CN (e:TypeId) (U:Int→List Int) (zs:List Int):mR e (fun _=>none) U zs=[]:=by
 unfold mR tok
 induction zs with
 | nil=>rfl
 | cons z zs ih=>rw [List.flatMap_cons,ih];rfl
end Go.Proofs.YtamjlkdanllgjaaGreatDoor
namespace Go.Proofs.YtamjlkdanllgjaaGreatDoor
open Go.RowKit
section
variable {P:Program} {r:Option Nat} {ops:Array Oper} {Q:Exit→Act→World→Prop} {nt:Nat} {D:List Deferred} {fr:bZ} {B:Bs} {L:AL} {cd:Code}
def qC (nt:Nat) (B:Bs) {α:Type} (Dx:α→List Deferred) (V:α→bZ) (fr0:bZ) (C:α→Prop) (Lx:α→AL) (μ:α→Nat) (x:α) (Q:Exit→Act→World→Prop):Exit→Act→World→Prop:=Exit.then (fun a w=>∃σ x',j3 σ nt (Dx x') (V x'++fr0) a∧C x'∧dg B σ (Lx x') w∧μ x' < μ x) Q
theorem Dw (ks:List Nat) {α:Type} (Dx:α→List Deferred) (V:α→bZ) (C:α→Prop) (Lx:α→AL) (μ:α→Nat) (x0:α) {fr0:bZ} (hk:fL fr ks=some fr0) (hV:mr (V x0) fr) (hD:D=Dx x0) (hC:C x0) (hL:∀σ w,dg B σ L w→dg B σ (Lx x0) w)
  (hb:∀x,C x→AT P r cd (qC nt B Dx V fr0 C Lx μ x Q) nt (Dx x) (V x++fr0) B (Lx x)):AT P r (.loop cd) Q nt D fr B L:=by
 intro σ a w ha hw
 subst hD
 classical
 let G:Nat→Act→World→Prop:=fun m a w=>∃σ x,j3 σ nt (Dx x) (V x++fr0) a∧C x∧dg B σ (Lx x) w∧μ x=m
 let M:Act→World→Nat:=fun a w=>if h:∃m,G m a w∧∀m',G m' a w→m≤m' then h.choose else 0
 have least:∀a w,(∃m,G m a w)→G (M a w) a w∧∀m',G m' a w→M a w≤m':=by
  rintro a w ⟨m0,hg0⟩
  have hex:∃m,G m a w∧∀m',G m' a w→m≤m':=by
   have:∀k,∀m,m≤k→G m a w→∃m,G m a w∧∀m',G m' a w→m≤m':=by
    intro k
    induction k with
    | zero=>intro m hm hg;exact ⟨m,hg,fun m' _=>by omega⟩
    | succ k ih=>
     intro m hm hg
     by_cases h:∃m',m' < m∧G m' a w
     ·obtain ⟨m',hlt,hg'⟩:=h
      exact ih m' (by omega) hg'
     ·exact ⟨m,hg,fun m' hg'=>by
       rcases Nat.lt_or_ge m' m with hlt | hge
       ·exact absurd ⟨m',hlt,hg'⟩ h
       ·exact hge⟩
   exact this m0 m0 (Nat.le_refl _) hg0
  have hM:M a w=hex.choose:=dif_pos hex
  rw [hM];exact hex.choose_spec
 refine wpIn_loop (fun a w=>∃m,G m a w) M ⟨_,σ,x0,ha.weak (mX hV (ea ks hk)),hC,hL σ w hw,rfl⟩ ?_
 intro a w hI
 obtain ⟨⟨σ',x,hx,hj,hst,hm⟩,_⟩:=least a w hI
 refine wpIn_mono (hb x hj σ' a w hx hst) ?_
 intro e a' w' hq
 cases e with
 | normal=>
  obtain ⟨τ,x',hx',hj',hst',hlt⟩:=hq
  have hg:G (μ x') a' w':=⟨τ,x',hx',hj',hst',rfl⟩
  refine ⟨⟨_,hg⟩,?_⟩
  have:=(least a' w' ⟨_,hg⟩).2 (μ x') hg
  omega
 | _=>exact hq
theorem ov {α:Type} {Dx:α→List Deferred} {V:α→bZ} {fr0:bZ} {C:α→Prop} {Lx:α→AL} {μ:α→Nat} {x:α} (x':α) (hk:fL fr (fr0.map (·.1))=some fr0) (hV:mr (V x') fr) (hD:D=Dx x') (hC:C x') (hm:μ x' < μ x) (hL:∀σ w,dg B σ L w→dg B σ (Lx x') w):
  AX P .normal (qC nt B Dx V fr0 C Lx μ x Q) nt D fr B L:=fun σ a w ha hw=>by
 subst hD
 exact ⟨σ,x',ha.weak (mX hV (ea _ hk)),hC,hL _ _ hw,hm⟩
theorem sD {α:Type} {Dx:α→List Deferred} {V:α→bZ} {fr0:bZ} {C:α→Prop} {Lx:α→AL} {μ:α→Nat} {x:α} {id:Nat} (h:AX P (.exit id) Q nt D fr B L):AX P (.exit id) (qC nt B Dx V fr0 C Lx μ x Q) nt D fr B L:=fun σ a w ha hw=>h σ a w ha hw
end
section
variable {nt:Nat} {D:List Deferred} {B:Bs} {fr:bZ} {L:AL}
theorem tW {t b e sz n:Nat} {cs:List AV} {l:List (List AV)} (i:Nat) (hl:ce fr t=some (.iptr [.sc (.slice (some ⟨b,0,none⟩) n n)])) (hL:L[i]?=some (b,.box cs e)) (hc:cs=l.flatten) (hs:∀q∈l,q.length=sz) (hn:l.length=n) (h63:n≤9223372036854775807):mq nt D B fr L ((t,.iptr [.imm sz l])::fr) ((b,.vec e sz n n)::L.eraseIdx i):=by
 intro σ a w ha hw0
 have hw:=hw0.perm (fC hL)
 obtain ⟨o,ho,vs,rfl,hvs,h1⟩:=hw.here _ (List.mem_cons_self ..)
 have hfree:=hw.free _ (List.mem_cons_self ..)
 have hvl:vs.length=n * sz:=by rw [←hvs.1,hc,fm l hs,hn]
 have hst:dg B σ ((b,.vec e sz 0 n)::L.eraseIdx i) w:=by
  refine ⟨hw.os,hw.tape,hw.output,hw.size,hw.old,fun p hp=>?_,fun p hp=>?_,by simpa using hw.apart,hw.froz,fun p hp off hm=>?_,hw.grow,hw.same⟩
  ·rcases List.mem_cons.1 hp with rfl | hp'
   ·exact ⟨_,ho,_,rfl,by simp [hvl],Nat.zero_le _,by unfold maxLen;omega⟩
   ·exact hw.here p (Ot _ hp')
  ·rcases List.mem_cons.1 hp with rfl | hp'
   ·exact hw.mine (b,.box cs e) (List.mem_cons_self ..)
   ·exact hw.mine p (Ot _ hp')
  ·rcases List.mem_cons.1 hp with rfl | hp'
   ·exact hfree off trivial
   ·exact hw.free p (Ot _ hp') off hm
 obtain ⟨hst',hle⟩:=hst.freezeHead (n':=n) (xs:=vs) (fun j u hj=>by rw [dm ho];simpa using hj) hvl (Nat.zero_le _) (Nat.le_refl _)
 refine ⟨_,?_,hst'⟩
 have hv:VR (σ.add b vs) (.vec (some (b,n)) sz l) (.slice (some ⟨b,0,none⟩) n n):=by
  have:=lH (σ:=σ.add b vs) (b:=b) (cap:=n) hs (by rw [←hc];exact hvs.mono hle) h1 (by omega) (by unfold maxLen;omega) (fun j u hj=>cm.add_at hj)
  rwa [hn] at this
 have ha':=ha.mono hle
 refine ⟨ha'.size,ha'.defers,fun t' v' hl'=>?_⟩
 rw [ck] at hl'
 by_cases e:t=t'
 ·subst e
  simp only [if_true,Option.some.injEq] at hl'
  subst hl'
  have hp:=ha.look t _ hl
  generalize a.tmps.getD t undef=v0 at hp
  generalize hq:AV.iptr [.sc (.slice (some ⟨b,0,none⟩) n n)]=q at hp
  cases hp with
  | iptr cs2 b0 off hx h=>
   injection hq with hq
   subst hq
   refine .iptr _ b0 off (fun j hj=>?_) fun j c u hc hu=>?_
   ·obtain ⟨u,hu,h1⟩:=hx j hj
    exact ⟨u,hle _ _ _ hu,h1⟩
   ·have hj:j=0:=by
     have:=(Ol hc).1
     simp at this
     exact this
    subst hj
    simp at hc
    subst hc
    obtain ⟨u',hu',_⟩:=hx 0 (by simp)
    have h2:=hle _ _ _ hu'
    rw [hu] at h2
    injection h2 with h2
    subst h2
    rw [(h 0 _ u rfl hu').sc_inv]
    exact hv.im
  | _=>cases hq
 ·rw [if_neg e] at hl'
  exact ha'.look t' v' hl'
end
end Go.Proofs.YtamjlkdanllgjaaGreatDoor
