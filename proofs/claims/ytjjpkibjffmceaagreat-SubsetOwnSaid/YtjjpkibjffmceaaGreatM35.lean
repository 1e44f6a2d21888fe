/-
  The document: glyphs, lookups and fonts as texts.
-/
import Derived.Test.YtjjpkibjffmceaaGreatM34
namespace Go.Proofs.YtjjpkibjffmceaaGreat
open Go.RowKit
attribute [local irreducible] AT bW AX AO Av Kt bA eI DA dl
theorem yY (l:List (List Int)) (h:pB l):bV Tryz.prog 151 [.imm 1 (bv l)] (gO (nA l)):=by
 refine aS Tryz.func151 rfl Tryz.ntmps151 rfl fun B=>?_
 have hil:(bv l).length=l.length:=It ..
 have hl:=h.1
 haveI:io (((bv l).length:Nat):Int):=jG (by omega)
 have e0:cA (((bv l).length:Nat):Int)=ee l.length:=by rw [hil];rfl
 have h0:=cI (n:=l.length) (by omega)
 repeat' (first|refine go ?_|refine ak ?_|refine HK a6 FS ?_|(apply bq;refine bg ?_)|fail)
 rw [e0]
 repeat' (first|fail)
 refine aJ [0] (α:=Nat) (fun i=>[(4,aP i),(3,gO ((l.take i).foldl ov (ee l.length)))]) (fun i=>i≤l.length) (fun _=>[]) (fun i=>l.length - i) 0 rfl ⟨rfl,rfl,trivial⟩ (Nat.zero_le _) (fun _ _ h=>h) ?_
 intro i hi
 try dsimp only [Ir,Iq,Ip,Ij]
 repeat' (first|refine go ?_|refine HK a6 FS ?_)
 refine ay rfl (fun hh=>?_) (fun hh=>?_)
 ·have hil:i < l.length:=by have:=Iy hh;omega
  obtain ⟨z,hz⟩:∃z,l[i]?=some z:=⟨_,Iz hil⟩
  have hzi:=oo hz
  have hzn:=h.2 z (Iw hz)
  haveI:FT z:=⟨hzn⟩
  have k1:=fV hzn
  have k2:=cO (n:=16) (m:=11) i (p7 h.2) h.1 h0
  have hst:(l.take (i+1)).foldl ov (ee l.length)=(l.take i).foldl ov (ee l.length)++pg z:=dA hz
  repeat' (first|refine go ?_|refine ak ?_|refine HK a6 FS ?_|(apply aU;first|refine aT a6 ?_|refine aM a6 ?_)|(apply bq;refine bg ?_)|fail)
  refine eO rfl rfl (by omega) rfl ?_
  repeat' (first|refine go ?_|refine HK a6 FS ?_|(apply aW;refine aV ?_)|fail)
  exact aB (i+1) rfl ⟨by rw [Iv];rfl,by rw [hst];rfl,trivial⟩ (by omega) (by omega) (fun _ _ h=>h)
 have hil:i=l.length:=by have:=Ix hh;omega
 subst hil
 rw [List.take_length]
 repeat' (first|refine go ?_|refine HK a6 FS ?_)
 exact HT HE
class CI (l:List (List Int)):Prop where
 ok:pB l
instance (l:List (List Int)) [h:CI l]:AD Tryz.prog 151 [.imm 1 (bv l)] (gO (nA l)):=⟨yY l h.ok⟩
class Hl (g:br):Prop where
 ok:tA g
set_option maxHeartbeats 8000000 in
theorem w5 (g:br) (h:tA g):bV Tryz.prog 18 [.agg (bC g)] (gO (o7 g)):=by
 refine aS Tryz.func18 rfl Tryz.ntmps18 rfl fun B=>?_
 have bl:(⟨#[32]⟩:ByteArray).size=1:=rfl
 have m1:(g.Points.map cM).length=g.Points.length:=It ..
 have m2:(g.Parts.map cm).length=g.Parts.length:=It ..
 have m3:(g.Anchors.map cF).length=g.Anchors.length:=It ..
 have m4:(g.Deltas.map dq).length=g.Deltas.length:=It ..
 have b0:=h.name
 have b1:=h.pts.1
 have b2:=h.parts.1
 have b3:=h.anchors.1
 have b4:=h.deltas.1
 haveI c0:io ((g.Name.size:Nat):Int):=jG (by omega)
 haveI c1:io (((g.Points.map cM).length:Nat):Int):=jG (by omega)
 haveI c2:io (((g.Parts.map cm).length:Nat):Int):=jG (by omega)
 haveI c3:io (((g.Anchors.map cF).length:Nat):Int):=jG (by omega)
 haveI c4:io (((g.Deltas.map dq).length:Nat):Int):=jG (by omega)
 haveI c5:io g.Advance:=⟨h.adv⟩
 haveI c6:FT g.Ends:=⟨h.ends⟩
 haveI c7:H4 g.Hint:=⟨h.hint⟩
 have d0:=b9 c0.ok
 have d1:=b9 c1.ok
 have d2:=b9 c2.ok
 have d3:=b9 c3.ok
 have d4:=b9 c4.ok
 have d5:=b9 c5.ok
 have d6:=fV h.ends
 have d7:=jY h.hint
 have d8:=iM g.Mark
 have t1:Dy g=cA ((g.Name.size:Nat):Int)++g.Name++⟨#[32]⟩++cA g.Advance++tv g.Mark++cA (((g.Points.map cM).length:Nat):Int):=by unfold Dy ee;rw [m1];rfl
 have t2:Dz g=g.Points.foldl stPoint (Dy g)++pg g.Ends++cA (((g.Parts.map cm).length:Nat):Int):=by unfold Dz ee;rw [m2]
 have t3:DB g=g.Parts.foldl stPart (Dz g)++cA (((g.Anchors.map cF).length:Nat):Int):=by unfold DB ee;rw [m3]
 have t4:Et g=g.Anchors.foldl stAnchor (DB g)++cA (((g.Deltas.map dq).length:Nat):Int):=by unfold Et ee;rw [m4]
 have z1:=h.s1
 have z2:=h.s2
 have z3:=h.s3
 have z4:=h.s4
 have q1:=cY (n:=16) (m:=86) h.stPoint h.pts.1 h.s1
 have q2:=cY (n:=16) (m:=668) h.stPart h.parts.1 h.s2
 have q3:=cY (n:=16) (m:=1207) h.stAnchor h.anchors.1 h.s3
 have q4:=cY (n:=50) (m:=1922) h.stDelta h.deltas.1 h.s4
 repeat' (first|refine go ?_|refine HK a6 FS ?_|refine bh ?_|fail)
 refine bn 22 [(0,.v),(1,.v),(2,.v),(3,.v),(4,.v),(5,.v),(6,.v),(7,.v),(8,.v),(9,.v),(10,.v),(11,.v),(12,.v),(13,.v),(14,.v),(15,.v),(16,.v),(17,.v),(18,.v),(19,.v),(20,.v),(21,.v)] none ?_ trivial rfl (by kernel_rfl) (by kernel_rfl) (by kernel_rfl) mixed (by kernel_rfl) rfl
 repeat' (first|refine aC ?_|refine b7 a6 ?_|(apply bE;refine bS ?_)|fail)
 refine dy ?_ rfl rfl (by (try simp only [Iu,bl]);omega) (by first | trivial | rfl)
 repeat' (first|refine aC ?_|fail)
 refine dy ?_ rfl rfl (by (try simp only [Iu,bl]);omega) (by first | trivial | rfl)
 repeat' (first|refine aC ?_|refine b7 a6 ?_|(apply bE;refine bS ?_)|fail)
 refine dy ?_ rfl rfl (by (try simp only [Iu,bl]);omega) (by first | trivial | rfl)
 repeat' (first|refine aC ?_|refine b7 a6 ?_|(apply bE;refine bS ?_)|fail)
 refine dy ?_ rfl rfl (by (try simp only [Iu,bl]);omega) (by first | trivial | rfl)
 repeat' (first|refine aC ?_|refine b7 a6 ?_|(apply bE;refine bS ?_)|fail)
 refine dy ?_ rfl rfl (by (try simp only [Iu,bl]);omega) (by first | trivial | rfl)
 repeat' (first|fail)
 refine HU [1,32] FS ?_
 repeat' (first|refine go ?_|refine aa ?_|refine ak ?_|refine HK a6 FS ?_)
 have hml0:(g.Points.map cM).length=g.Points.length:=It ..
 refine aJ [1] (α:=Nat) (fun i=>[(4,aP i),(3,gO ((g.Points.take i).foldl stPoint (Dy g)))]) (fun i=>i≤g.Points.length) (fun _=>[]) (fun i=>g.Points.length - i) 0 rfl ⟨rfl,by rw [t1];rfl,trivial⟩ (Nat.zero_le _) (fun _ _ h=>h) ?_
 intro i hi
 try dsimp only [Ir,Iq,Ip,Ij]
 repeat' (first|refine go ?_|refine HK a6 FS ?_)
 refine ay rfl (fun hh=>?_) (fun hh=>?_)
 ·have hil:i < g.Points.length:=by have:=Iy hh;omega
  obtain ⟨z,hz⟩:∃y,g.Points[i]?=some y:=⟨_,Iz hil⟩
  have hzg:=bi (c:=cM) hz
  have hzm:=Iw hz
  have hzn:=h.pts.2 z hzm
  haveI:io z.X:=⟨hzn.1⟩
  haveI:io z.Y:=⟨hzn.2⟩
  have kk0:=b9 hzn.1
  have kk1:=b9 hzn.2
  have kk9:=iM z.On
  have ki0:=cO (n:=16) (m:=86) i h.stPoint h.pts.1 h.s1
  have hst:(g.Points.take (i+1)).foldl stPoint (Dy g)=(g.Points.take i).foldl stPoint (Dy g)++cA z.X++cA z.Y++tv z.On:=dA hz
  clear hh
  repeat' (first|refine go ?_|refine ak ?_|refine HK a6 FS ?_|(apply aU;first|refine aT a6 ?_|refine aM a6 ?_)|(apply aG;first|refine HN 5 a6 0 HJ ?_|refine HN 5 a6 1 HJ ?_|refine HN 5 a6 2 HJ ?_|refine HN 8 a6 0 HJ ?_|refine HN 8 a6 1 HJ ?_|refine HN 8 a6 2 HJ ?_|refine HN 10 a6 0 HJ ?_|refine HN 10 a6 1 HJ ?_|refine HN 10 a6 2 HJ ?_|refine HM a6 0 HH ?_|refine HM a6 1 HH ?_|refine HM a6 2 HH ?_|refine HM a6 3 HH ?_|fail)|refine aX a6 fun _=>?_|fail)
  refine bn 12 [(0,.v),(1,.v),(2,.v),(3,.v),(4,.v),(5,.v),(6,.v),(7,.v),(8,.v),(9,.v),(10,.v),(11,.v)] none ?_ trivial rfl (by kernel_rfl) (by kernel_rfl) (by kernel_rfl) mixed (by kernel_rfl) rfl
  repeat' (first|refine aC ?_|refine b7 a6 ?_|(apply bE;refine bS ?_)|fail)
  refine dy ?_ rfl rfl (by (try simp only [Iu,bl]);omega) (by first | trivial | rfl)
  repeat' (first|refine aC ?_|refine b7 a6 ?_|(apply bE;refine bS ?_)|fail)
  refine dy ?_ rfl rfl (by (try simp only [Iu,bl]);omega) (by first | trivial | rfl)
  repeat' (first|refine aC ?_|refine b7 a6 ?_|(apply bE;refine bS ?_)|fail)
  refine HU [1,4,55,58] FS ?_
  repeat' (first|fail)
  refine eO rfl rfl (by (try simp only [Iu,bl]);omega) rfl ?_
  repeat' (first|refine go ?_|refine HK a6 FS ?_|(apply aW;refine aV ?_)|fail)
  exact aB (i+1) rfl ⟨by rw [Iv];rfl,by rw [hst];rfl,trivial⟩ (by omega) (by omega) (fun _ _ h=>h)
 have hil:i=g.Points.length:=by have:=Ix hh;omega
 subst hil
 rw [List.take_length]
 clear hh hi
 repeat' (first|refine go ?_|fail)
 refine bn 10 [(0,.v),(1,.v),(2,.v),(3,.v),(4,.v),(5,.v),(6,.v),(7,.v),(8,.v),(9,.v)] none ?_ trivial rfl (by kernel_rfl) (by kernel_rfl) (by kernel_rfl) mixed (by kernel_rfl) rfl
 repeat' (first|refine aC ?_|refine b7 a6 ?_|(apply bE;refine bS ?_)|fail)
 refine dy ?_ rfl rfl (by (try simp only [Iu,bl]);omega) (by first | trivial | rfl)
 repeat' (first|refine aC ?_|refine b7 a6 ?_|(apply bE;refine bS ?_)|fail)
 refine HU [1,65,69] FS ?_
 repeat' (first|fail)
 refine eO rfl rfl (by (try simp only [Iu,bl]);omega) rfl ?_
 repeat' (first|refine go ?_|refine ak ?_|refine HK a6 FS ?_)
 have hml2:(g.Parts.map cm).length=g.Parts.length:=It ..
 refine aJ [1] (α:=Nat) (fun i=>[(6,aP i),(3,gO ((g.Parts.take i).foldl stPart (Dz g)))]) (fun i=>i≤g.Parts.length) (fun _=>[]) (fun i=>g.Parts.length - i) 0 rfl ⟨rfl,by rw [t2];rfl,trivial⟩ (Nat.zero_le _) (fun _ _ h=>h) ?_
 intro i hi
 try dsimp only [Ir,Iq,Ip,Ij]
 repeat' (first|refine go ?_|refine HK a6 FS ?_)
 refine ay rfl (fun hh=>?_) (fun hh=>?_)
 ·have hil:i < g.Parts.length:=by have:=Iy hh;omega
  obtain ⟨z,hz⟩:∃y,g.Parts[i]?=some y:=⟨_,Iz hil⟩
  have hzg:=bi (c:=cm) hz
  have hzm:=Iw hz
  have hzn:=h.parts.2 z hzm
  haveI:io z.Glyph:=⟨hzn.1⟩
  haveI:io z.X:=⟨hzn.2.1⟩
  haveI:io z.Y:=⟨hzn.2.2⟩
  have kk0:=b9 hzn.1
  have kk1:=b9 hzn.2.1
  have kk2:=b9 hzn.2.2
  have ki0:=cO (n:=16) (m:=668) i h.stPart h.parts.1 h.s2
  have hst:(g.Parts.take (i+1)).foldl stPart (Dz g)=(g.Parts.take i).foldl stPart (Dz g)++cA z.Glyph++cA z.X++cA z.Y:=dA hz
  clear hh
  repeat' (first|refine go ?_|refine ak ?_)
  refine bn 25 [(0,.v),(1,.v),(2,.v),(3,.v),(4,.v),(5,.v),(6,.v),(7,.v),(8,.v),(9,.v),(10,.v),(11,.v),(12,.v),(13,.v),(14,.v),(15,.v),(16,.v),(17,.v),(18,.v),(19,.v),(20,.v),(21,.v),(22,.v),(23,.v),(24,.v)] none ?_ trivial rfl (by kernel_rfl) (by kernel_rfl) (by kernel_rfl) mixed (by kernel_rfl) rfl
  repeat' (first|refine aC ?_|refine b7 a6 ?_|(apply bY;refine cn a6 ?_)|(apply bE;refine bS ?_)|fail)
  refine dy ?_ rfl rfl (by (try simp only [Iu,bl]);omega) (by first | trivial | rfl)
  repeat' (first|refine aC ?_|refine b7 a6 ?_|(apply bY;refine cn a6 ?_)|(apply bE;refine bS ?_)|fail)
  refine dy ?_ rfl rfl (by (try simp only [Iu,bl]);omega) (by first | trivial | rfl)
  repeat' (first|refine aC ?_|refine b7 a6 ?_|(apply bY;refine cn a6 ?_)|(apply bE;refine bS ?_)|fail)
  refine dy ?_ rfl rfl (by (try simp only [Iu,bl]);omega) (by first | trivial | rfl)
  repeat' (first|fail)
  refine HU [1,6,102] FS ?_
  repeat' (first|refine go ?_|refine aa ?_|refine HK a6 FS ?_|(apply aW;refine aV ?_)|fail)
  exact aB (i+1) rfl ⟨by rw [Iv];rfl,by rw [hst];rfl,trivial⟩ (by omega) (by omega) (fun _ _ h=>h)
 have hil:i=g.Parts.length:=by have:=Ix hh;omega
 subst hil
 rw [List.take_length]
 clear hh hi
 repeat' (first|refine go ?_|refine HK a6 FS ?_|(apply bq;refine bg ?_)|fail)
 refine eO rfl rfl (by (try simp only [Iu,bl]);omega) rfl ?_
 repeat' (first|refine go ?_|refine ak ?_|refine HK a6 FS ?_)
 have hml4:(g.Anchors.map cF).length=g.Anchors.length:=It ..
 refine aJ [1] (α:=Nat) (fun i=>[(7,aP i),(3,gO ((g.Anchors.take i).foldl stAnchor (DB g)))]) (fun i=>i≤g.Anchors.length) (fun _=>[]) (fun i=>g.Anchors.length - i) 0 rfl ⟨rfl,by rw [t3];rfl,trivial⟩ (Nat.zero_le _) (fun _ _ h=>h) ?_
 intro i hi
 try dsimp only [Ir,Iq,Ip,Ij]
 repeat' (first|refine go ?_|refine HK a6 FS ?_)
 refine ay rfl (fun hh=>?_) (fun hh=>?_)
 ·have hil:i < g.Anchors.length:=by have:=Iy hh;omega
  obtain ⟨z,hz⟩:∃y,g.Anchors[i]?=some y:=⟨_,Iz hil⟩
  have hzg:=bi (c:=cF) hz
  have hzm:=Iw hz
  have hzn:=h.anchors.2 z hzm
  haveI:io z.Kind:=⟨hzn.1⟩
  haveI:io z.Class:=⟨hzn.2.1⟩
  haveI:io z.X:=⟨hzn.2.2.1⟩
  haveI:io z.Y:=⟨hzn.2.2.2⟩
  have kk0:=b9 hzn.1
  have kk1:=b9 hzn.2.1
  have kk2:=b9 hzn.2.2.1
  have kk3:=b9 hzn.2.2.2
  have ki0:=cO (n:=16) (m:=1207) i h.stAnchor h.anchors.1 h.s3
  have hst:(g.Anchors.take (i+1)).foldl stAnchor (DB g)=(g.Anchors.take i).foldl stAnchor (DB g)++cA z.Kind++cA z.Class++cA z.X++cA z.Y:=dA hz
  clear hh
  repeat' (first|refine go ?_|refine ak ?_|refine HK a6 FS ?_|(apply aU;first|refine aT a6 ?_|refine aM a6 ?_)|(apply aG;first|refine HN 5 a6 0 HJ ?_|refine HN 5 a6 1 HJ ?_|refine HN 5 a6 2 HJ ?_|refine HN 8 a6 0 HJ ?_|refine HN 8 a6 1 HJ ?_|refine HN 8 a6 2 HJ ?_|refine HN 10 a6 0 HJ ?_|refine HN 10 a6 1 HJ ?_|refine HN 10 a6 2 HJ ?_|refine HM a6 0 HH ?_|refine HM a6 1 HH ?_|refine HM a6 2 HH ?_|refine HM a6 3 HH ?_|fail)|refine aX a6 fun _=>?_|fail)
  refine bn 16 [(0,.v),(1,.v),(2,.v),(3,.v),(4,.v),(5,.v),(6,.v),(7,.v),(8,.v),(9,.v),(10,.v),(11,.v),(12,.v),(13,.v),(14,.v),(15,.v)] none ?_ trivial rfl (by kernel_rfl) (by kernel_rfl) (by kernel_rfl) mixed (by kernel_rfl) rfl
  repeat' (first|refine aC ?_|refine b7 a6 ?_|(apply bE;refine bS ?_)|fail)
  refine dy ?_ rfl rfl (by (try simp only [Iu,bl]);omega) (by first | trivial | rfl)
  repeat' (first|refine aC ?_|refine b7 a6 ?_|(apply bE;refine bS ?_)|fail)
  refine dy ?_ rfl rfl (by (try simp only [Iu,bl]);omega) (by first | trivial | rfl)
  repeat' (first|refine aC ?_|refine b7 a6 ?_|(apply bE;refine bS ?_)|fail)
  refine dy ?_ rfl rfl (by (try simp only [Iu,bl]);omega) (by first | trivial | rfl)
  repeat' (first|refine aC ?_|refine b7 a6 ?_|(apply bE;refine bS ?_)|fail)
  refine HU [1,7,133,136] FS ?_
  repeat' (first|fail)
  refine eO rfl rfl (by (try simp only [Iu,bl]);omega) rfl ?_
  repeat' (first|refine go ?_|refine HK a6 FS ?_|(apply aW;refine aV ?_)|fail)
  exact aB (i+1) rfl ⟨by rw [Iv];rfl,by rw [hst];rfl,trivial⟩ (by omega) (by omega) (fun _ _ h=>h)
 have hil:i=g.Anchors.length:=by have:=Ix hh;omega
 subst hil
 rw [List.take_length]
 clear hh hi
 repeat' (first|refine go ?_|refine HK a6 FS ?_|(apply bq;refine bg ?_)|fail)
 refine eO rfl rfl (by (try simp only [Iu,bl]);omega) rfl ?_
 repeat' (first|refine go ?_|refine ak ?_|refine HK a6 FS ?_)
 have hml6:(g.Deltas.map dq).length=g.Deltas.length:=It ..
 refine aJ [1] (α:=Nat) (fun i=>[(9,aP i),(3,gO ((g.Deltas.take i).foldl stDelta (Et g)))]) (fun i=>i≤g.Deltas.length) (fun _=>[]) (fun i=>g.Deltas.length - i) 0 rfl ⟨rfl,by rw [t4];rfl,trivial⟩ (Nat.zero_le _) (fun _ _ h=>h) ?_
 intro i hi
 try dsimp only [Ir,Iq,Ip,Ij]
 repeat' (first|refine go ?_|refine HK a6 FS ?_)
 refine ay rfl (fun hh=>?_) (fun hh=>?_)
 ·have hil:i < g.Deltas.length:=by have:=Iy hh;omega
  obtain ⟨z,hz⟩:∃y,g.Deltas[i]?=some y:=⟨_,Iz hil⟩
  have hzg:=bi (c:=dq) hz
  have hzm:=Iw hz
  have hzn:=h.deltas.2 z hzm
  haveI:io z.Region:=⟨hzn.1⟩
  haveI:io z.Point:=⟨hzn.2.1⟩
  haveI:io z.X:=⟨hzn.2.2.1⟩
  haveI:io z.Y:=⟨hzn.2.2.2⟩
  have kk0:=b9 hzn.1
  have kk1:=b9 hzn.2.1
  have kk2:=b9 hzn.2.2.1
  have kk3:=b9 hzn.2.2.2
  have ki0:=cO (n:=50) (m:=1922) i h.stDelta h.deltas.1 h.s4
  have hst:(g.Deltas.take (i+1)).foldl stDelta (Et g)=(g.Deltas.take i).foldl stDelta (Et g)++cA z.Region++cA z.Point++cA z.X++cA z.Y:=dA hz
  clear hh
  repeat' (first|refine go ?_|refine ak ?_|refine HK a6 FS ?_|(apply aU;first|refine aT a6 ?_|refine aM a6 ?_)|(apply aG;first|refine HN 5 a6 0 HJ ?_|refine HN 5 a6 1 HJ ?_|refine HN 5 a6 2 HJ ?_|refine HN 8 a6 0 HJ ?_|refine HN 8 a6 1 HJ ?_|refine HN 8 a6 2 HJ ?_|refine HN 10 a6 0 HJ ?_|refine HN 10 a6 1 HJ ?_|refine HN 10 a6 2 HJ ?_|refine HM a6 0 HH ?_|refine HM a6 1 HH ?_|refine HM a6 2 HH ?_|refine HM a6 3 HH ?_|fail)|refine aX a6 fun _=>?_|fail)
  refine bn 16 [(0,.v),(1,.v),(2,.v),(3,.v),(4,.v),(5,.v),(6,.v),(7,.v),(8,.v),(9,.v),(10,.v),(11,.v),(12,.v),(13,.v),(14,.v),(15,.v)] none ?_ trivial rfl (by kernel_rfl) (by kernel_rfl) (by kernel_rfl) mixed (by kernel_rfl) rfl
  repeat' (first|refine aC ?_|refine b7 a6 ?_|(apply bE;refine bS ?_)|fail)
  refine dy ?_ rfl rfl (by (try simp only [Iu,bl]);omega) (by first | trivial | rfl)
  repeat' (first|refine aC ?_|refine b7 a6 ?_|(apply bE;refine bS ?_)|fail)
  refine dy ?_ rfl rfl (by (try simp only [Iu,bl]);omega) (by first | trivial | rfl)
  repeat' (first|refine aC ?_|refine b7 a6 ?_|(apply bE;refine bS ?_)|fail)
  refine dy ?_ rfl rfl (by (try simp only [Iu,bl]);omega) (by first | trivial | rfl)
  repeat' (first|refine aC ?_|refine b7 a6 ?_|(apply bE;refine bS ?_)|fail)
  refine HU [1,9,168,171] FS ?_
  repeat' (first|fail)
  refine eO rfl rfl (by (try simp only [Iu,bl]);omega) rfl ?_
  repeat' (first|refine go ?_|refine HK a6 FS ?_|(apply aW;refine aV ?_)|fail)
  exact aB (i+1) rfl ⟨by rw [Iv];rfl,by rw [hst];rfl,trivial⟩ (by omega) (by omega) (fun _ _ h=>h)
 have hil:i=g.Deltas.length:=by have:=Ix hh;omega
 subst hil
 rw [List.take_length]
 clear hh hi
 repeat' (first|refine go ?_|refine HK a6 FS ?_|(apply bq;refine bg ?_)|fail)
 refine eO rfl rfl (by (try simp only [Iu,bl]);omega) rfl ?_
 repeat' (first|refine go ?_|refine HK a6 FS ?_)
 exact HT HE
instance (g:br) [h:Hl g]:AD Tryz.prog 18 [.agg (bC g)] (gO (o7 g)):=⟨w5 g h.ok⟩
class Hm (l:bb):Prop where
 ok:CE l
set_option maxHeartbeats 8000000 in
theorem yE (l:bb) (h:CE l):bV Tryz.prog 92 [.agg (bj l)] (gO (uz l)):=by
 refine aS Tryz.func92 rfl Tryz.ntmps92 rfl fun B=>?_
 have bl:(⟨#[32]⟩:ByteArray).size=1:=rfl
 have m1:(l.Rules.map bI).length=l.Rules.length:=It ..
 have b1:=h.rules.1
 haveI c1:io (((l.Rules.map bI).length:Nat):Int):=jG (by omega)
 haveI c2:io l.Kind:=⟨h.kind⟩
 have d1:=b9 c1.ok
 have d2:=b9 c2.ok
 have d3:=iM l.Ignore
 have t1:yB l=cA l.Kind++tv l.Ignore++cA (((l.Rules.map bI).length:Nat):Int):=by unfold yB ee;rw [m1]
 repeat' (first|refine go ?_|refine HK a6 FS ?_|refine bh ?_|fail)
 refine bn 11 [(0,.v),(1,.v),(2,.v),(3,.v),(4,.v),(5,.v),(6,.v),(7,.v),(8,.v),(9,.v),(10,.v)] none ?_ trivial rfl (by kernel_rfl) (by kernel_rfl) (by kernel_rfl) mixed (by kernel_rfl) rfl
 repeat' (first|refine aC ?_|refine b7 a6 ?_|(apply bE;refine bS ?_)|fail)
 refine dy ?_ rfl rfl (by (try simp only [Iu,bl]);omega) (by first | trivial | rfl)
 repeat' (first|refine aC ?_|refine b7 a6 ?_|(apply bE;refine bS ?_)|fail)
 refine HU [1,13,17] FS ?_
 repeat' (first|fail)
 refine eO rfl rfl (by (try simp only [Iu,bl]);omega) rfl ?_
 repeat' (first|refine go ?_|refine ak ?_|refine HK a6 FS ?_)
 have hml0:(l.Rules.map bI).length=l.Rules.length:=It ..
 refine aJ [1] (α:=Nat) (fun i=>[(4,aP i),(3,gO ((l.Rules.take i).foldl ix (yB l)))]) (fun i=>i≤l.Rules.length) (fun _=>[]) (fun i=>l.Rules.length - i) 0 rfl ⟨rfl,by rw [t1];rfl,trivial⟩ (Nat.zero_le _) (fun _ _ h=>h) ?_
 intro i hi
 try dsimp only [Ir,Iq,Ip,Ij]
 repeat' (first|refine go ?_|refine HK a6 FS ?_)
 refine ay rfl (fun hh=>?_) (fun hh=>?_)
 ·have hil:i < l.Rules.length:=by have:=Iy hh;omega
  obtain ⟨z,hz⟩:∃y,l.Rules[i]?=some y:=⟨_,Iz hil⟩
  have hzg:=bi (c:=bI) hz
  have hzm:=Iw hz
  have hzn:=h.rules.2 z hzm
  have mz:(z.Calls.map dI).length=z.Calls.length:=It ..
  have bz:=hzn.calls.1
  haveI:io (((z.Calls.map dI).length:Nat):Int):=jG (by omega)
  have kk5:(cA (((z.Calls.map dI).length:Nat):Int)).size≤11:=b9 ⟨by omega,by omega⟩
  haveI:io z.X:=⟨hzn.x⟩
  haveI:CI z.Back:=⟨hzn.back⟩
  haveI:CI z.In:=⟨hzn.ins⟩
  haveI:CI z.Ahead:=⟨hzn.ahead⟩
  haveI:FT z.Out:=⟨hzn.out⟩
  have kk0:=gV hzn.back
  have kk1:=gV hzn.ins
  have kk2:=gV hzn.ahead
  have kk3:=fV hzn.out
  have kk4:=b9 hzn.x
  have e1:∀s,DU s z=s++nA z.Back++nA z.In++nA z.Ahead++pg z.Out++cA (((z.Calls.map dI).length:Nat):Int):=fun s=>by unfold DU ee;rw [mz]
  have e2:=hzn.s1 ((l.Rules.take i).foldl ix (yB l))
  have e3:(DU ((l.Rules.take i).foldl ix (yB l)) z).size≤4*9570+24+9207:=by have:=cO (n:=4) (m:=24) i (fun s r hr=>(h.rules.2 r hr).size s) h.rules.1 h.s1;omega
  have ki0:=cO (n:=4) (m:=24) i (fun s r hr=>(h.rules.2 r hr).size s) h.rules.1 h.s1
  have hst:(l.Rules.take (i+1)).foldl ix (yB l)=ix ((l.Rules.take i).foldl ix (yB l)) z:=dA hz
  clear hh
  repeat' (first|refine go ?_|refine ak ?_|refine HK a6 FS ?_|(apply aU;first|refine aT a6 ?_|refine aM a6 ?_)|(apply aG;first|refine HN 5 a6 0 HJ ?_|refine HN 5 a6 1 HJ ?_|refine HN 5 a6 2 HJ ?_|refine HM a6 0 HH ?_|refine HM a6 1 HH ?_|refine HM a6 2 HH ?_|refine HM a6 3 HH ?_|fail)|refine aX a6 fun _=>?_|fail)
  refine bn 22 [(0,.v),(1,.v),(2,.v),(3,.v),(4,.v),(5,.v),(6,.v),(7,.v),(8,.v),(9,.v),(10,.v),(11,.v),(12,.v),(13,.v),(14,.v),(15,.v),(16,.v),(17,.v),(18,.v),(19,.v),(20,.v),(21,.v)] none ?_ trivial rfl (by kernel_rfl) (by kernel_rfl) (by kernel_rfl) mixed (by kernel_rfl) rfl
  repeat' (first|refine aC ?_|refine b7 a6 ?_|(apply bE;refine bS ?_)|fail)
  refine dy ?_ rfl rfl (by (try simp only [Iu,bl]);omega) (by first | trivial | rfl)
  repeat' (first|refine aC ?_|refine b7 a6 ?_|(apply bE;refine bS ?_)|fail)
  refine dy ?_ rfl rfl (by (try simp only [Iu,bl]);omega) (by first | trivial | rfl)
  repeat' (first|refine aC ?_|refine b7 a6 ?_|(apply bE;refine bS ?_)|fail)
  refine dy ?_ rfl rfl (by (try simp only [Iu,bl]);omega) (by first | trivial | rfl)
  repeat' (first|refine aC ?_|refine b7 a6 ?_|(apply bE;refine bS ?_)|fail)
  refine dy ?_ rfl rfl (by (try simp only [Iu,bl]);omega) (by first | trivial | rfl)
  repeat' (first|refine aC ?_|refine b7 a6 ?_|(apply bE;refine bS ?_)|fail)
  refine dy ?_ rfl rfl (by (try simp only [Iu,bl]);omega) (by first | trivial | rfl)
  repeat' (first|fail)
  refine HU [1,4,5,52] FS ?_
  repeat' (first|refine go ?_|refine aa ?_|refine ak ?_|refine HK a6 FS ?_)
  have hml2:(z.Calls.map dI).length=z.Calls.length:=It ..
  refine aJ [1,4,5] (α:=Nat) (fun j=>[(6,aP j),(3,gO ((z.Calls.take j).foldl stCall (DU ((l.Rules.take i).foldl ix (yB l)) z)))]) (fun j=>j≤z.Calls.length) (fun _=>[]) (fun j=>z.Calls.length - j) 0 rfl ⟨rfl,by rw [e1];rfl,trivial⟩ (Nat.zero_le _) (fun _ _ h=>h) ?_
  intro j hj
  try dsimp only [Ir,Iq,Ip,Ij]
  repeat' (first|refine go ?_|refine HK a6 FS ?_)
  refine ay rfl (fun hh=>?_) (fun hh=>?_)
  ·have hil:j < z.Calls.length:=by have:=Iy hh;omega
   obtain ⟨y,hy⟩:∃y,z.Calls[j]?=some y:=⟨_,Iz hil⟩
   have hyg:=bi (c:=dI) hy
   have hym:=Iw hy
   have hyn:=hzn.calls.2 y hym
   haveI:io y.At:=⟨hyn.1⟩
   haveI:io y.Lookup:=⟨hyn.2⟩
   have kk0:=b9 hyn.1
   have kk1:=b9 hyn.2
   have kj0:=cO (n:=16) (m:=4*9570+24+9207) j hzn.stCall hzn.calls.1 e3
   have hst:(z.Calls.take (j+1)).foldl stCall (DU ((l.Rules.take i).foldl ix (yB l)) z)=(z.Calls.take j).foldl stCall (DU ((l.Rules.take i).foldl ix (yB l)) z)++cA y.At++cA y.Lookup:=dA hy
   clear hh
   repeat' (first|refine go ?_|refine ak ?_)
   refine bn 17 [(0,.v),(1,.v),(2,.v),(3,.v),(4,.v),(5,.v),(6,.v),(7,.v),(8,.v),(9,.v),(10,.v),(11,.v),(12,.v),(13,.v),(14,.v),(15,.v),(16,.v)] none ?_ trivial rfl (by kernel_rfl) (by kernel_rfl) (by kernel_rfl) mixed (by kernel_rfl) rfl
   repeat' (first|refine aC ?_|refine b7 a6 ?_|(apply bY;refine cn a6 ?_)|(apply bE;refine bS ?_)|fail)
   refine dy ?_ rfl rfl (by (try simp only [Iu,bl]);omega) (by first | trivial | rfl)
   repeat' (first|refine aC ?_|refine b7 a6 ?_|(apply bY;refine cn a6 ?_)|(apply bE;refine bS ?_)|fail)
   refine dy ?_ rfl rfl (by (try simp only [Iu,bl]);omega) (by first | trivial | rfl)
   repeat' (first|fail)
   refine HU [1,4,5,6,76] FS ?_
   repeat' (first|refine go ?_|refine aa ?_|refine HK a6 FS ?_|(apply aW;refine aV ?_)|fail)
   exact aB (j+1) rfl ⟨by rw [Iv];rfl,by rw [hst];rfl,trivial⟩ (by omega) (by omega) (fun _ _ h=>h)
  have hil:j=z.Calls.length:=by have:=Ix hh;omega
  subst hil
  rw [List.take_length]
  clear hh hj
  repeat' (first|refine go ?_|refine HK a6 FS ?_|(apply bq;refine bg ?_)|fail)
  have e4:=cY (n:=16) (m:=4*9570+24+9207) hzn.stCall hzn.calls.1 e3
  refine eO rfl rfl (by (try simp only [Iu,bl]);omega) rfl ?_
  repeat' (first|refine go ?_|refine HK a6 FS ?_|(apply aW;refine aV ?_)|fail)
  exact aB (i+1) rfl ⟨by rw [Iv];rfl,by rw [hst];rfl,trivial⟩ (by omega) (by omega) (fun _ _ h=>h)
 have hil:i=l.Rules.length:=by have:=Ix hh;omega
 subst hil
 rw [List.take_length]
 clear hh hi
 repeat' (first|refine go ?_|refine HK a6 FS ?_)
 exact HT HE
instance (l:bb) [h:Hm l]:AD Tryz.prog 92 [.agg (bj l)] (gO (uz l)):=⟨yE l h.ok⟩
set_option maxHeartbeats 16000000 in
theorem ym (f:aL) (h:lW f):bV Tryz.prog 52 [.agg (cb f)] (gO (x4 f)):=by
 refine aS Tryz.func52 rfl Tryz.ntmps52 rfl fun B=>?_
 have bl:(⟨#[32]⟩:ByteArray).size=1:=rfl
 have m0:(f.Glyphs.map bC).length=f.Glyphs.length:=It ..
 have b0:=h.glyphs.1
 haveI c0:io (((f.Glyphs.map bC).length:Nat):Int):=jG (by omega)
 have d0:=b9 c0.ok
 have m1:(f.Chars.map cy).length=f.Chars.length:=It ..
 have b1:=h.chars.1
 haveI c1:io (((f.Chars.map cy).length:Nat):Int):=jG (by omega)
 have d1:=b9 c1.ok
 have m2:(f.Lookups.map bj).length=f.Lookups.length:=It ..
 have b2:=h.looks.1
 haveI c2:io (((f.Lookups.map bj).length:Nat):Int):=jG (by omega)
 have d2:=b9 c2.ok
 have m3:(f.Features.map bt).length=f.Features.length:=It ..
 have b3:=h.feats.1
 haveI c3:io (((f.Features.map bt).length:Nat):Int):=jG (by omega)
 have d3:=b9 c3.ok
 have m4:(f.Axes.map cD).length=f.Axes.length:=It ..
 have b4:=h.axes.1
 haveI c4:io (((f.Axes.map cD).length:Nat):Int):=jG (by omega)
 have d4:=b9 c4.ok
 have m5:(f.Regions.map bw).length=f.Regions.length:=It ..
 have b5:=h.regs.1
 haveI c5:io (((f.Regions.map bw).length:Nat):Int):=jG (by omega)
 have d5:=b9 c5.ok
 have m6:(f.Funcs.map cR).length=f.Funcs.length:=It ..
 have b6:=h.funcs.1
 haveI c6:io (((f.Funcs.map cR).length:Nat):Int):=jG (by omega)
 have d6:=b9 c6.ok
 haveI c9:io f.Unit:=⟨h.unit⟩
 have d9:=b9 h.unit
 haveI c8:FT f.Cvt:=⟨h.cvt⟩
 have d8:=fV h.cvt
 have t1:Dr f=cA f.Unit++cA (((f.Glyphs.map bC).length:Nat):Int):=by unfold Dr ee;rw [m0]
 have t2:Ds f=f.Glyphs.foldl stGlyph (Dr f)++cA (((f.Chars.map cy).length:Nat):Int):=by unfold Ds ee;rw [m1]
 have t3:Dt f=f.Chars.foldl stChar (Ds f)++cA (((f.Lookups.map bj).length:Nat):Int):=by unfold Dt ee;rw [m2]
 have t4:Du f=f.Lookups.foldl stLook (Dt f)++cA (((f.Features.map bt).length:Nat):Int):=by unfold Du ee;rw [m3]
 have t5:Dv f=f.Features.foldl stFeat (Du f)++cA (((f.Axes.map cD).length:Nat):Int):=by unfold Dv ee;rw [m4]
 have t6:yl f=f.Axes.foldl stAxis (Dv f)++cA (((f.Regions.map bw).length:Nat):Int):=by unfold yl ee;rw [m5]
 have t7:Es f=f.Regions.foldl stReg (yl f)++cA (((f.Funcs.map cR).length:Nat):Int):=by unfold Es ee;rw [m6]
 have z0:=h.s1
 have q0:=cY (n:=16) (m:=22) h.stGlyph h.glyphs.1 h.s1
 have z1:=h.s2
 have q1:=cY (n:=32) (m:=83761) h.stChar h.chars.1 h.s2
 have z2:=h.s3
 have q2:=cY (n:=8) (m:=84476) h.stLook h.looks.1 h.s3
 have z3:=h.s4
 have q3:=cY (n:=16) (m:=390919) h.stFeat h.feats.1 h.s4
 have z4:=h.s5
 have q4:=cY (n:=16) (m:=394914) h.stAxis h.axes.1 h.s5
 have z5:=h.s6
 have q5:=cY (n:=16) (m:=396445) h.stReg h.regs.1 h.s6
 have z6:=h.s7
 have q6:=cY (n:=16) (m:=405080) h.stFunc h.funcs.1 h.s7
 repeat' (first|refine go ?_|refine HK a6 FS ?_|refine bh ?_|fail)
 refine bn 6 [(0,.v),(1,.v),(2,.v),(3,.v),(4,.v),(5,.v)] none ?_ trivial rfl (by kernel_rfl) (by kernel_rfl) (by kernel_rfl) mixed (by kernel_rfl) rfl
 repeat' (first|refine aC ?_|refine b7 a6 ?_|(apply bE;refine bS ?_)|fail)
 refine HU [1,16,19] FS ?_
 repeat' (first|(apply bq;refine bg ?_)|fail)
 refine eO rfl rfl (by (try simp only [Iu,bl]);omega) rfl ?_
 repeat' (first|refine go ?_|refine ak ?_|refine HK a6 FS ?_)
 have hml0:(f.Glyphs.map bC).length=f.Glyphs.length:=It ..
 refine aJ [1] (α:=Nat) (fun i=>[(4,aP i),(3,gO ((f.Glyphs.take i).foldl stGlyph (Dr f)))]) (fun i=>i≤f.Glyphs.length) (fun _=>[]) (fun i=>f.Glyphs.length - i) 0 rfl ⟨rfl,by rw [t1];rfl,trivial⟩ (Nat.zero_le _) (fun _ _ h=>h) ?_
 intro i hi
 try dsimp only [Ir,Iq,Ip,Ij]
 repeat' (first|refine go ?_|refine HK a6 FS ?_)
 refine ay rfl (fun hh=>?_) (fun hh=>?_)
 ·have hil:i < f.Glyphs.length:=by have:=Iy hh;omega
  obtain ⟨z,hz⟩:∃y,f.Glyphs[i]?=some y:=⟨_,Iz hil⟩
  have hzg:=bi (c:=bC) hz
  have hzm:=Iw hz
  have hzn:=h.glyphs.2 z hzm
  haveI:Hl z:=⟨hzn⟩
  have kk0:=hzn.size
  have ki0:=cO (n:=16) (m:=22) i h.stGlyph h.glyphs.1 h.s1
  have hst:(f.Glyphs.take (i+1)).foldl stGlyph (Dr f)=(f.Glyphs.take i).foldl stGlyph (Dr f)++o7 z:=dA hz
  clear hh
  repeat' (first|refine go ?_|refine ak ?_|refine HK a6 FS ?_|(apply aU;first|refine aT a6 ?_|refine aM a6 ?_)|(apply bq;refine bg ?_)|fail)
  refine eO rfl rfl (by (try simp only [Iu,bl]);omega) rfl ?_
  repeat' (first|refine go ?_|refine HK a6 FS ?_|(apply aW;refine aV ?_)|fail)
  exact aB (i+1) rfl ⟨by rw [Iv];rfl,by rw [hst];rfl,trivial⟩ (by omega) (by omega) (fun _ _ h=>h)
 have hil:i=f.Glyphs.length:=by have:=Ix hh;omega
 subst hil
 rw [List.take_length]
 clear hh hi
 repeat' (first|refine go ?_|refine HK a6 FS ?_|(apply bq;refine bg ?_)|fail)
 refine eO rfl rfl (by (try simp only [Iu,bl]);omega) rfl ?_
 repeat' (first|refine go ?_|refine ak ?_|refine HK a6 FS ?_)
 have hml2:(f.Chars.map cy).length=f.Chars.length:=It ..
 refine aJ [1] (α:=Nat) (fun i=>[(5,aP i),(3,gO ((f.Chars.take i).foldl stChar (Ds f)))]) (fun i=>i≤f.Chars.length) (fun _=>[]) (fun i=>f.Chars.length - i) 0 rfl ⟨rfl,by rw [t2];rfl,trivial⟩ (Nat.zero_le _) (fun _ _ h=>h) ?_
 intro i hi
 try dsimp only [Ir,Iq,Ip,Ij]
 repeat' (first|refine go ?_|refine HK a6 FS ?_)
 refine ay rfl (fun hh=>?_) (fun hh=>?_)
 ·have hil:i < f.Chars.length:=by have:=Iy hh;omega
  obtain ⟨z,hz⟩:∃y,f.Chars[i]?=some y:=⟨_,Iz hil⟩
  have hzg:=bi (c:=cy) hz
  have hzm:=Iw hz
  have hzn:=h.chars.2 z hzm
  haveI:io z.Rune:=⟨hzn.1⟩
  haveI:io z.Glyph:=⟨hzn.2⟩
  have kk0:=b9 hzn.1
  have kk1:=b9 hzn.2
  have ki0:=cO (n:=32) (m:=83761) i h.stChar h.chars.1 h.s2
  have hst:(f.Chars.take (i+1)).foldl stChar (Ds f)=(f.Chars.take i).foldl stChar (Ds f)++cA z.Rune++cA z.Glyph:=dA hz
  clear hh
  repeat' (first|refine go ?_|refine ak ?_)
  refine bn 17 [(0,.v),(1,.v),(2,.v),(3,.v),(4,.v),(5,.v),(6,.v),(7,.v),(8,.v),(9,.v),(10,.v),(11,.v),(12,.v),(13,.v),(14,.v),(15,.v),(16,.v)] none ?_ trivial rfl (by kernel_rfl) (by kernel_rfl) (by kernel_rfl) mixed (by kernel_rfl) rfl
  repeat' (first|refine aC ?_|refine b7 a6 ?_|(apply bY;refine cn a6 ?_)|(apply bE;refine bS ?_)|fail)
  refine dy ?_ rfl rfl (by (try simp only [Iu,bl]);omega) (by first | trivial | rfl)
  repeat' (first|refine aC ?_|refine b7 a6 ?_|(apply bY;refine cn a6 ?_)|(apply bE;refine bS ?_)|fail)
  refine dy ?_ rfl rfl (by (try simp only [Iu,bl]);omega) (by first | trivial | rfl)
  repeat' (first|fail)
  refine HU [1,5,66] FS ?_
  repeat' (first|refine go ?_|refine aa ?_|refine HK a6 FS ?_|(apply aW;refine aV ?_)|fail)
  exact aB (i+1) rfl ⟨by rw [Iv];rfl,by rw [hst];rfl,trivial⟩ (by omega) (by omega) (fun _ _ h=>h)
 have hil:i=f.Chars.length:=by have:=Ix hh;omega
 subst hil
 rw [List.take_length]
 clear hh hi
 repeat' (first|refine go ?_|refine HK a6 FS ?_|(apply bq;refine bg ?_)|fail)
 refine eO rfl rfl (by (try simp only [Iu,bl]);omega) rfl ?_
 repeat' (first|refine go ?_|refine ak ?_|refine HK a6 FS ?_)
 have hml4:(f.Lookups.map bj).length=f.Lookups.length:=It ..
 refine aJ [1] (α:=Nat) (fun i=>[(6,aP i),(3,gO ((f.Lookups.take i).foldl stLook (Dt f)))]) (fun i=>i≤f.Lookups.length) (fun _=>[]) (fun i=>f.Lookups.length - i) 0 rfl ⟨rfl,by rw [t3];rfl,trivial⟩ (Nat.zero_le _) (fun _ _ h=>h) ?_
 intro i hi
 try dsimp only [Ir,Iq,Ip,Ij]
 repeat' (first|refine go ?_|refine HK a6 FS ?_)
 refine ay rfl (fun hh=>?_) (fun hh=>?_)
 ·have hil:i < f.Lookups.length:=by have:=Iy hh;omega
  obtain ⟨z,hz⟩:∃y,f.Lookups[i]?=some y:=⟨_,Iz hil⟩
  have hzg:=bi (c:=bj) hz
  have hzm:=Iw hz
  have hzn:=h.looks.2 z hzm
  haveI:Hm z:=⟨hzn⟩
  have kk0:=hzn.size
  have ki0:=cO (n:=8) (m:=84476) i h.stLook h.looks.1 h.s3
  have hst:(f.Lookups.take (i+1)).foldl stLook (Dt f)=(f.Lookups.take i).foldl stLook (Dt f)++uz z:=dA hz
  clear hh
  repeat' (first|refine go ?_|refine ak ?_|refine HK a6 FS ?_|(apply aU;first|refine aT a6 ?_|refine aM a6 ?_)|(apply bq;refine bg ?_)|fail)
  refine eO rfl rfl (by (try simp only [Iu,bl]);omega) rfl ?_
  repeat' (first|refine go ?_|refine HK a6 FS ?_|(apply aW;refine aV ?_)|fail)
  exact aB (i+1) rfl ⟨by rw [Iv];rfl,by rw [hst];rfl,trivial⟩ (by omega) (by omega) (fun _ _ h=>h)
 have hil:i=f.Lookups.length:=by have:=Ix hh;omega
 subst hil
 rw [List.take_length]
 clear hh hi
 repeat' (first|refine go ?_|refine HK a6 FS ?_|(apply bq;refine bg ?_)|fail)
 refine eO rfl rfl (by (try simp only [Iu,bl]);omega) rfl ?_
 repeat' (first|refine go ?_|refine ak ?_|refine HK a6 FS ?_)
 have hml6:(f.Features.map bt).length=f.Features.length:=It ..
 refine aJ [1] (α:=Nat) (fun i=>[(7,aP i),(3,gO ((f.Features.take i).foldl stFeat (Du f)))]) (fun i=>i≤f.Features.length) (fun _=>[]) (fun i=>f.Features.length - i) 0 rfl ⟨rfl,by rw [t4];rfl,trivial⟩ (Nat.zero_le _) (fun _ _ h=>h) ?_
 intro i hi
 try dsimp only [Ir,Iq,Ip,Ij]
 repeat' (first|refine go ?_|refine HK a6 FS ?_)
 refine ay rfl (fun hh=>?_) (fun hh=>?_)
 ·have hil:i < f.Features.length:=by have:=Iy hh;omega
  obtain ⟨z,hz⟩:∃y,f.Features[i]?=some y:=⟨_,Iz hil⟩
  have hzg:=bi (c:=bt) hz
  have hzm:=Iw hz
  have hzn:=h.feats.2 z hzm
  have hz0:=hzn.1
  haveI:FT z.Lookups:=⟨hzn.2⟩
  haveI cz:io ((z.Name.size:Nat):Int):=jG (by omega)
  have kk0:=b9 cz.ok
  have kk1:=fV hzn.2
  have ki0:=cO (n:=16) (m:=390919) i h.stFeat h.feats.1 h.s4
  have hst:(f.Features.take (i+1)).foldl stFeat (Du f)=(f.Features.take i).foldl stFeat (Du f)++cA ((z.Name.size:Nat):Int)++z.Name++⟨#[32]⟩++pg z.Lookups:=dA hz
  clear hh
  repeat' (first|refine go ?_|refine ak ?_)
  refine bn 26 [(0,.v),(1,.v),(2,.v),(3,.v),(4,.v),(5,.v),(6,.v),(7,.v),(8,.v),(9,.v),(10,.v),(11,.v),(12,.v),(13,.v),(14,.v),(15,.v),(16,.v),(17,.v),(18,.v),(19,.v),(20,.v),(21,.v),(22,.v),(23,.v),(24,.v),(25,.v)] none ?_ trivial rfl (by kernel_rfl) (by kernel_rfl) (by kernel_rfl) mixed (by kernel_rfl) rfl
  repeat' (first|refine aC ?_|refine b7 a6 ?_|(apply bY;refine cn a6 ?_)|(apply bE;refine bS ?_)|fail)
  refine dy ?_ rfl rfl (by (try simp only [Iu,bl]);omega) (by first | trivial | rfl)
  repeat' (first|refine aC ?_|refine b7 a6 ?_|(apply bY;refine cn a6 ?_)|fail)
  refine dy ?_ rfl rfl (by (try simp only [Iu,bl]);omega) (by first | trivial | rfl)
  repeat' (first|refine aC ?_|fail)
  refine dy ?_ rfl rfl (by (try simp only [Iu,bl]);omega) (by first | trivial | rfl)
  repeat' (first|refine aC ?_|refine b7 a6 ?_|(apply bY;refine cn a6 ?_)|(apply bE;refine bS ?_)|fail)
  refine dy ?_ rfl rfl (by (try simp only [Iu,bl]);omega) (by first | trivial | rfl)
  repeat' (first|fail)
  refine HU [1,7,126] FS ?_
  repeat' (first|refine go ?_|refine aa ?_|refine HK a6 FS ?_|(apply aW;refine aV ?_)|fail)
  exact aB (i+1) rfl ⟨by rw [Iv];rfl,by rw [hst];rfl,trivial⟩ (by omega) (by omega) (fun _ _ h=>h)
 have hil:i=f.Features.length:=by have:=Ix hh;omega
 subst hil
 rw [List.take_length]
 clear hh hi
 repeat' (first|refine go ?_|refine HK a6 FS ?_|(apply bq;refine bg ?_)|fail)
 refine eO rfl rfl (by (try simp only [Iu,bl]);omega) rfl ?_
 repeat' (first|refine go ?_|refine ak ?_|refine HK a6 FS ?_)
 have hml8:(f.Axes.map cD).length=f.Axes.length:=It ..
 refine aJ [1] (α:=Nat) (fun i=>[(8,aP i),(3,gO ((f.Axes.take i).foldl stAxis (Dv f)))]) (fun i=>i≤f.Axes.length) (fun _=>[]) (fun i=>f.Axes.length - i) 0 rfl ⟨rfl,by rw [t5];rfl,trivial⟩ (Nat.zero_le _) (fun _ _ h=>h) ?_
 intro i hi
 try dsimp only [Ir,Iq,Ip,Ij]
 repeat' (first|refine go ?_|refine HK a6 FS ?_)
 refine ay rfl (fun hh=>?_) (fun hh=>?_)
 ·have hil:i < f.Axes.length:=by have:=Iy hh;omega
  obtain ⟨z,hz⟩:∃y,f.Axes[i]?=some y:=⟨_,Iz hil⟩
  have hzg:=bi (c:=cD) hz
  have hzm:=Iw hz
  have hzn:=h.axes.2 z hzm
  have hz0:=hzn.1
  haveI cz:io ((z.Name.size:Nat):Int):=jG (by omega)
  have kk9:=b9 cz.ok
  haveI:io z.Min:=⟨hzn.2.1⟩
  haveI:io z.Def:=⟨hzn.2.2.1⟩
  haveI:io z.Max:=⟨hzn.2.2.2⟩
  have kk0:=b9 hzn.2.1
  have kk1:=b9 hzn.2.2.1
  have kk2:=b9 hzn.2.2.2
  have ki0:=cO (n:=16) (m:=394914) i h.stAxis h.axes.1 h.s5
  have hst:(f.Axes.take (i+1)).foldl stAxis (Dv f)=(f.Axes.take i).foldl stAxis (Dv f)++cA ((z.Name.size:Nat):Int)++z.Name++⟨#[32]⟩++cA z.Min++cA z.Def++cA z.Max:=dA hz
  clear hh
  repeat' (first|refine go ?_|refine ak ?_|refine HK a6 FS ?_|(apply aU;first|refine aT a6 ?_|refine aM a6 ?_)|(apply aG;first|refine HN 9 a6 0 HJ ?_|refine HN 9 a6 1 HJ ?_|refine HN 9 a6 2 HJ ?_|refine HN 12 a6 0 HJ ?_|refine HN 12 a6 1 HJ ?_|refine HN 12 a6 2 HJ ?_|refine HM a6 0 HH ?_|refine HM a6 1 HH ?_|refine HM a6 2 HH ?_|refine HM a6 3 HH ?_|fail)|refine aX a6 fun _=>?_|fail)
  refine bn 22 [(0,.v),(1,.v),(2,.v),(3,.v),(4,.v),(5,.v),(6,.v),(7,.v),(8,.v),(9,.v),(10,.v),(11,.v),(12,.v),(13,.v),(14,.v),(15,.v),(16,.v),(17,.v),(18,.v),(19,.v),(20,.v),(21,.v)] none ?_ trivial rfl (by kernel_rfl) (by kernel_rfl) (by kernel_rfl) mixed (by kernel_rfl) rfl
  repeat' (first|refine aC ?_|refine b7 a6 ?_|(apply bE;refine bS ?_)|fail)
  refine dy ?_ rfl rfl (by (try simp only [Iu,bl]);omega) (by first | trivial | rfl)
  repeat' (first|refine aC ?_|refine b7 a6 ?_|fail)
  refine dy ?_ rfl rfl (by (try simp only [Iu,bl]);omega) (by first | trivial | rfl)
  repeat' (first|refine aC ?_|fail)
  refine dy ?_ rfl rfl (by (try simp only [Iu,bl]);omega) (by first | trivial | rfl)
  repeat' (first|refine aC ?_|refine b7 a6 ?_|(apply bE;refine bS ?_)|fail)
  refine dy ?_ rfl rfl (by (try simp only [Iu,bl]);omega) (by first | trivial | rfl)
  repeat' (first|refine aC ?_|refine b7 a6 ?_|(apply bE;refine bS ?_)|fail)
  refine dy ?_ rfl rfl (by (try simp only [Iu,bl]);omega) (by first | trivial | rfl)
  repeat' (first|refine aC ?_|refine b7 a6 ?_|(apply bE;refine bS ?_)|fail)
  refine dy ?_ rfl rfl (by (try simp only [Iu,bl]);omega) (by first | trivial | rfl)
  repeat' (first|fail)
  refine HU [1,8,166] FS ?_
  repeat' (first|refine go ?_|refine aa ?_|refine HK a6 FS ?_|(apply aW;refine aV ?_)|fail)
  exact aB (i+1) rfl ⟨by rw [Iv];rfl,by rw [hst];rfl,trivial⟩ (by omega) (by omega) (fun _ _ h=>h)
 have hil:i=f.Axes.length:=by have:=Ix hh;omega
 subst hil
 rw [List.take_length]
 clear hh hi
 repeat' (first|refine go ?_|refine HK a6 FS ?_|(apply bq;refine bg ?_)|fail)
 refine eO rfl rfl (by (try simp only [Iu,bl]);omega) rfl ?_
 repeat' (first|refine go ?_|refine ak ?_|refine HK a6 FS ?_)
 have hml10:(f.Regions.map bw).length=f.Regions.length:=It ..
 refine aJ [1] (α:=Nat) (fun i=>[(10,aP i),(3,gO ((f.Regions.take i).foldl stReg (yl f)))]) (fun i=>i≤f.Regions.length) (fun _=>[]) (fun i=>f.Regions.length - i) 0 rfl ⟨rfl,by rw [t6];rfl,trivial⟩ (Nat.zero_le _) (fun _ _ h=>h) ?_
 intro i hi
 try dsimp only [Ir,Iq,Ip,Ij]
 repeat' (first|refine go ?_|refine HK a6 FS ?_)
 refine ay rfl (fun hh=>?_) (fun hh=>?_)
 ·have hil:i < f.Regions.length:=by have:=Iy hh;omega
  obtain ⟨z,hz⟩:∃y,f.Regions[i]?=some y:=⟨_,Iz hil⟩
  have hzg:=bi (c:=bw) hz
  have hzm:=Iw hz
  have mz:(z.map fY).length=z.length:=It ..
  have bz:=(h.regs.2 z hzm).1
  haveI:io (((z.map fY).length:Nat):Int):=jG (by omega)
  have kk5:(cA (((z.map fY).length:Nat):Int)).size≤11:=b9 ⟨by omega,by omega⟩
  have e1:ee z.length=cA (((z.map fY).length:Nat):Int):=by unfold ee;rw [mz]
  have e2:=cO (n:=16) (m:=396445) i h.stReg h.regs.1 h.s6
  have e3:((f.Regions.take i).foldl stReg (yl f)++ee z.length).size≤16*539+396445+11:=by rw [Iu,e1];omega
  have ki0:=cO (n:=16) (m:=396445) i h.stReg h.regs.1 h.s6
  have hst:(f.Regions.take (i+1)).foldl stReg (yl f)=stReg ((f.Regions.take i).foldl stReg (yl f)) z:=dA hz
  clear hh
  repeat' (first|refine go ?_|refine ak ?_|refine HK a6 FS ?_|(apply aU;first|refine aT a6 ?_|refine aM a6 ?_)|(apply bq;refine bg ?_)|fail)
  refine eO rfl rfl (by (try simp only [Iu,bl]);omega) rfl ?_
  repeat' (first|refine go ?_|refine ak ?_|refine HK a6 FS ?_)
  have hml12:(z.map fY).length=z.length:=It ..
  refine aJ [1,10] (α:=Nat) (fun j=>[(11,aP j),(3,gO ((z.take j).foldl stTent ((f.Regions.take i).foldl stReg (yl f)++ee z.length)))]) (fun j=>j≤z.length) (fun _=>[]) (fun j=>z.length - j) 0 rfl ⟨rfl,by rw [e1];rfl,trivial⟩ (Nat.zero_le _) (fun _ _ h=>h) ?_
  intro j hj
  try dsimp only [Ir,Iq,Ip,Ij]
  repeat' (first|refine go ?_|refine HK a6 FS ?_|(apply aU;first|refine aT a6 ?_|refine aM a6 ?_)|fail)
  refine ay rfl (fun hh=>?_) (fun hh=>?_)
  ·have hil:j < z.length:=by have:=Iy hh;omega
   obtain ⟨y,hy⟩:∃y,z[j]?=some y:=⟨_,Iz hil⟩
   have hyg:=bi (c:=fY) hy
   have hym:=Iw hy
   have hyn:=(h.regs.2 z hzm).2 y hym
   haveI:io y.Start:=⟨hyn.1⟩
   haveI:io y.Peak:=⟨hyn.2.1⟩
   haveI:io y.End:=⟨hyn.2.2⟩
   have kk0:=b9 hyn.1
   have kk1:=b9 hyn.2.1
   have kk2:=b9 hyn.2.2
   have kj0:=cO (n:=16) (m:=16*539+396445+11) j (h.stTent hzm) bz e3
   have hst:(z.take (j+1)).foldl stTent ((f.Regions.take i).foldl stReg (yl f)++ee z.length)=(z.take j).foldl stTent ((f.Regions.take i).foldl stReg (yl f)++ee z.length)++cA y.Start++cA y.Peak++cA y.End:=dA hy
   clear hh
   repeat' (first|refine go ?_|refine ak ?_|refine HK a6 FS ?_|(apply aU;first|refine aT a6 ?_|refine aM a6 ?_)|(apply aG;first|refine HN 9 a6 0 HJ ?_|refine HN 9 a6 1 HJ ?_|refine HN 9 a6 2 HJ ?_|refine HN 12 a6 0 HJ ?_|refine HN 12 a6 1 HJ ?_|refine HN 12 a6 2 HJ ?_|refine HM a6 0 HH ?_|refine HM a6 1 HH ?_|refine HM a6 2 HH ?_|refine HM a6 3 HH ?_|fail)|refine aX a6 fun _=>?_|fail)
   refine bn 12 [(0,.v),(1,.v),(2,.v),(3,.v),(4,.v),(5,.v),(6,.v),(7,.v),(8,.v),(9,.v),(10,.v),(11,.v)] none ?_ trivial rfl (by kernel_rfl) (by kernel_rfl) (by kernel_rfl) mixed (by kernel_rfl) rfl
   repeat' (first|refine aC ?_|refine b7 a6 ?_|(apply bE;refine bS ?_)|fail)
   refine dy ?_ rfl rfl (by (try simp only [Iu,bl]);omega) (by first | trivial | rfl)
   repeat' (first|refine aC ?_|refine b7 a6 ?_|(apply bE;refine bS ?_)|fail)
   refine dy ?_ rfl rfl (by (try simp only [Iu,bl]);omega) (by first | trivial | rfl)
   repeat' (first|refine aC ?_|refine b7 a6 ?_|(apply bE;refine bS ?_)|fail)
   refine HU [1,10,11,218,221] FS ?_
   repeat' (first|fail)
   refine eO rfl rfl (by (try simp only [Iu,bl]);omega) rfl ?_
   repeat' (first|refine go ?_|refine HK a6 FS ?_|(apply aW;refine aV ?_)|fail)
   exact aB (j+1) rfl ⟨by rw [Iv];rfl,by rw [hst];rfl,trivial⟩ (by omega) (by omega) (fun _ _ h=>h)
  have hil:j=z.length:=by have:=Ix hh;omega
  subst hil
  rw [List.take_length]
  clear hh hj
  repeat' (first|refine go ?_|refine HK a6 FS ?_|(apply aW;refine aV ?_)|fail)
  exact aB (i+1) rfl ⟨by rw [Iv];rfl,by rw [hst];rfl,trivial⟩ (by omega) (by omega) (fun _ _ h=>h)
 have hil:i=f.Regions.length:=by have:=Ix hh;omega
 subst hil
 rw [List.take_length]
 clear hh hi
 repeat' (first|refine go ?_|refine HK a6 FS ?_|(apply bq;refine bg ?_)|fail)
 refine eO rfl rfl (by (try simp only [Iu,bl]);omega) rfl ?_
 repeat' (first|refine go ?_|refine ak ?_|refine HK a6 FS ?_)
 have hml14:(f.Funcs.map cR).length=f.Funcs.length:=It ..
 refine aJ [1] (α:=Nat) (fun i=>[(13,aP i),(3,gO ((f.Funcs.take i).foldl stFunc (Es f)))]) (fun i=>i≤f.Funcs.length) (fun _=>[]) (fun i=>f.Funcs.length - i) 0 rfl ⟨rfl,by rw [t7];rfl,trivial⟩ (Nat.zero_le _) (fun _ _ h=>h) ?_
 intro i hi
 try dsimp only [Ir,Iq,Ip,Ij]
 repeat' (first|refine go ?_|refine HK a6 FS ?_)
 refine ay rfl (fun hh=>?_) (fun hh=>?_)
 ·have hil:i < f.Funcs.length:=by have:=Iy hh;omega
  obtain ⟨z,hz⟩:∃y,f.Funcs[i]?=some y:=⟨_,Iz hil⟩
  have hzg:=bi (c:=cR) hz
  have hzm:=Iw hz
  have hzn:=h.funcs.2 z hzm
  haveI:H4 z:=⟨hzn⟩
  have kk0:=jY hzn
  have ki0:=cO (n:=16) (m:=405080) i h.stFunc h.funcs.1 h.s7
  have hst:(f.Funcs.take (i+1)).foldl stFunc (Es f)=(f.Funcs.take i).foldl stFunc (Es f)++rE z:=dA hz
  clear hh
  repeat' (first|refine go ?_|refine ak ?_|refine HK a6 FS ?_|(apply aU;first|refine aT a6 ?_|refine aM a6 ?_)|(apply bq;refine bg ?_)|fail)
  refine eO rfl rfl (by (try simp only [Iu,bl]);omega) rfl ?_
  repeat' (first|refine go ?_|refine HK a6 FS ?_|(apply aW;refine aV ?_)|fail)
  exact aB (i+1) rfl ⟨by rw [Iv];rfl,by rw [hst];rfl,trivial⟩ (by omega) (by omega) (fun _ _ h=>h)
 have hil:i=f.Funcs.length:=by have:=Ix hh;omega
 subst hil
 rw [List.take_length]
 clear hh hi
 repeat' (first|refine go ?_|refine HK a6 FS ?_|(apply bq;refine bg ?_)|fail)
 refine eO rfl rfl (by (try simp only [Iu,bl]);omega) rfl ?_
 repeat' (first|refine go ?_|refine HK a6 FS ?_)
 exact HT HE
class H5 (f:aL):Prop where
 ok:lW f
instance (f:aL) [h:H5 f]:AD Tryz.prog 52 [.agg (cb f)] (gO (x4 f)):=⟨ym f h.ok⟩
end Go.Proofs.YtjjpkibjffmceaaGreat
