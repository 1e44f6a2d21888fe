/-
  The document: glyphs, lookups and fonts as texts.
-/
import Derived.Test.YtjjpkibjffmceaaGreatM31
namespace Go.Proofs.YtjjpkibjffmceaaGreat
open Go.RowKit
attribute [local irreducible] AT cg AX AO Av Kt bJ eC DA du
theorem zM (l:List (List Int)) (h:p5 l):bZ Tryz.prog 151 [.imm 1 (bw l)] (gW (nu l)):=by
 refine aX Tryz.func151 rfl Tryz.ntmps151 rfl fun B=>?_
 have hil:(bw l).length=l.length:=Jt ..
 have hl:=h.1
 haveI:iv (((bw l).length:Nat):Int):=jM (by omega)
 have e0:cG (((bw l).length:Nat):Int)=ev l.length:=by rw [hil];rfl
 have h0:=cT (n:=l.length) (by omega)
 repeat' (first|refine go ?_|refine am ?_|refine IG a6 EV ?_|(apply bB;refine bq ?_)|fail)
 rw [e0]
 repeat' (first|fail)
 refine aO [0] (α:=Nat) (fun i=>[(4,aP i),(3,gW ((l.take i).foldl oe (ev l.length)))]) (fun i=>i≤l.length) (fun _=>[]) (fun i=>l.length - i) 0 rfl ⟨rfl,rfl,trivial⟩ (Nat.zero_le _) (fun _ _ h=>h) ?_
 intro i hi
 try dsimp only [Jr,Jq,Jp,Jk]
 repeat' (first|refine go ?_|refine IG a6 EV ?_)
 refine au rfl (fun hh=>?_) (fun hh=>?_)
 ·have hil:i < l.length:=by have:=Jy hh;omega
  obtain ⟨z,hz⟩:∃z,l[i]?=some z:=⟨_,Jz hil⟩
  have hzi:=iP hz
  have hzn:=h.2 z (Jw hz)
  haveI:GD z:=⟨hzn⟩
  have k1:=fU hzn
  have k2:=cZ (n:=16) (m:=11) i (oX h.2) h.1 h0
  have hst:(l.take (i+1)).foldl oe (ev l.length)=(l.take i).foldl oe (ev l.length)++pa z:=dN hz
  repeat' (first|refine go ?_|refine am ?_|refine IG a6 EV ?_|(apply aV;first|refine aU a6 ?_|refine aN a6 ?_)|(apply bB;refine bq ?_)|fail)
  refine eM rfl rfl (by omega) rfl ?_
  repeat' (first|refine go ?_|refine IG a6 EV ?_|(apply aW;refine aT ?_)|fail)
  exact aB (i+1) rfl ⟨by rw [Jv];rfl,by rw [hst];rfl,trivial⟩ (by omega) (by omega) (fun _ _ h=>h)
 have hil:i=l.length:=by have:=Jx hh;omega
 subst hil
 rw [List.take_length]
 repeat' (first|refine go ?_|refine IG a6 EV ?_)
 exact IP IB
class D4 (l:List (List Int)):Prop where
 ok:p5 l
instance (l:List (List Int)) [h:D4 l]:AD Tryz.prog 151 [.imm 1 (bw l)] (gW (nu l)):=⟨zM l h.ok⟩
class If (g:bL):Prop where
 ok:tk g
set_option maxHeartbeats 8000000 in
theorem vX (g:bL) (h:tk g):bZ Tryz.prog 18 [.agg (bh g)] (gW (o4 g)):=by
 refine aX Tryz.func18 rfl Tryz.ntmps18 rfl fun B=>?_
 have bl:(⟨#[32]⟩:ByteArray).size=1:=rfl
 have m1:(g.Points.map dC).length=g.Points.length:=Jt ..
 have m2:(g.Parts.map ct).length=g.Parts.length:=Jt ..
 have m3:(g.Anchors.map cB).length=g.Anchors.length:=Jt ..
 have m4:(g.Deltas.map dm).length=g.Deltas.length:=Jt ..
 have b0:=h.name
 have b1:=h.pts.1
 have b2:=h.parts.1
 have b3:=h.anchors.1
 have b4:=h.deltas.1
 haveI c0:iv ((g.Name.size:Nat):Int):=jM (by omega)
 haveI c1:iv (((g.Points.map dC).length:Nat):Int):=jM (by omega)
 haveI c2:iv (((g.Parts.map ct).length:Nat):Int):=jM (by omega)
 haveI c3:iv (((g.Anchors.map cB).length:Nat):Int):=jM (by omega)
 haveI c4:iv (((g.Deltas.map dm).length:Nat):Int):=jM (by omega)
 haveI c5:iv g.Advance:=⟨h.adv⟩
 haveI c6:GD g.Ends:=⟨h.ends⟩
 haveI c7:HR g.Hint:=⟨h.hint⟩
 have d0:=be c0.ok
 have d1:=be c1.ok
 have d2:=be c2.ok
 have d3:=be c3.ok
 have d4:=be c4.ok
 have d5:=be c5.ok
 have d6:=fU h.ends
 have d7:=kc h.hint
 have d8:=iQ g.Mark
 have t1:E0 g=cG ((g.Name.size:Nat):Int)++g.Name++⟨#[32]⟩++cG g.Advance++th g.Mark++cG (((g.Points.map dC).length:Nat):Int):=by unfold E0 ev;rw [m1];rfl
 have t2:E1 g=g.Points.foldl stPoint (E0 g)++pa g.Ends++cG (((g.Parts.map ct).length:Nat):Int):=by unfold E1 ev;rw [m2]
 have t3:E2 g=g.Parts.foldl stPart (E1 g)++cG (((g.Anchors.map cB).length:Nat):Int):=by unfold E2 ev;rw [m3]
 have t4:F4 g=g.Anchors.foldl stAnchor (E2 g)++cG (((g.Deltas.map dm).length:Nat):Int):=by unfold F4 ev;rw [m4]
 have z1:=h.s1
 have z2:=h.s2
 have z3:=h.s3
 have z4:=h.s4
 have q1:=dw (n:=16) (m:=86) h.stPoint h.pts.1 h.s1
 have q2:=dw (n:=16) (m:=668) h.stPart h.parts.1 h.s2
 have q3:=dw (n:=16) (m:=1207) h.stAnchor h.anchors.1 h.s3
 have q4:=dw (n:=50) (m:=1922) h.stDelta h.deltas.1 h.s4
 repeat' (first|refine go ?_|refine IG a6 EV ?_|refine bD ?_|fail)
 refine br 22 [(0,.v),(1,.v),(2,.v),(3,.v),(4,.v),(5,.v),(6,.v),(7,.v),(8,.v),(9,.v),(10,.v),(11,.v),(12,.v),(13,.v),(14,.v),(15,.v),(16,.v),(17,.v),(18,.v),(19,.v),(20,.v),(21,.v)] none ?_ trivial rfl (by kernel_rfl) (by kernel_rfl) (by kernel_rfl) mixed (by kernel_rfl) rfl
 repeat' (first|refine aC ?_|refine aY a6 ?_|(apply bK;refine bR ?_)|fail)
 refine dL ?_ rfl rfl (by (try simp only [Ju,bl]);omega) (by first | trivial | rfl)
 repeat' (first|refine aC ?_|fail)
 refine dL ?_ rfl rfl (by (try simp only [Ju,bl]);omega) (by first | trivial | rfl)
 repeat' (first|refine aC ?_|refine aY a6 ?_|(apply bK;refine bR ?_)|fail)
 refine dL ?_ rfl rfl (by (try simp only [Ju,bl]);omega) (by first | trivial | rfl)
 repeat' (first|refine aC ?_|refine aY a6 ?_|(apply bK;refine bR ?_)|fail)
 refine dL ?_ rfl rfl (by (try simp only [Ju,bl]);omega) (by first | trivial | rfl)
 repeat' (first|refine aC ?_|refine aY a6 ?_|(apply bK;refine bR ?_)|fail)
 refine dL ?_ rfl rfl (by (try simp only [Ju,bl]);omega) (by first | trivial | rfl)
 repeat' (first|fail)
 refine IQ [1,32] EV ?_
 repeat' (first|refine go ?_|refine aa ?_|refine am ?_|refine IG a6 EV ?_)
 have hml0:(g.Points.map dC).length=g.Points.length:=Jt ..
 refine aO [1] (α:=Nat) (fun i=>[(4,aP i),(3,gW ((g.Points.take i).foldl stPoint (E0 g)))]) (fun i=>i≤g.Points.length) (fun _=>[]) (fun i=>g.Points.length - i) 0 rfl ⟨rfl,by rw [t1];rfl,trivial⟩ (Nat.zero_le _) (fun _ _ h=>h) ?_
 intro i hi
 try dsimp only [Jr,Jq,Jp,Jk]
 repeat' (first|refine go ?_|refine IG a6 EV ?_)
 refine au rfl (fun hh=>?_) (fun hh=>?_)
 ·have hil:i < g.Points.length:=by have:=Jy hh;omega
  obtain ⟨z,hz⟩:∃y,g.Points[i]?=some y:=⟨_,Jz hil⟩
  have hzg:=bA (c:=dC) hz
  have hzm:=Jw hz
  have hzn:=h.pts.2 z hzm
  haveI:iv z.X:=⟨hzn.1⟩
  haveI:iv z.Y:=⟨hzn.2⟩
  have kk0:=be hzn.1
  have kk1:=be hzn.2
  have kk9:=iQ z.On
  have ki0:=cZ (n:=16) (m:=86) i h.stPoint h.pts.1 h.s1
  have hst:(g.Points.take (i+1)).foldl stPoint (E0 g)=(g.Points.take i).foldl stPoint (E0 g)++cG z.X++cG z.Y++th z.On:=dN hz
  clear hh
  repeat' (first|refine go ?_|refine am ?_|refine IG a6 EV ?_|(apply aV;first|refine aU a6 ?_|refine aN a6 ?_)|(apply aJ;first|refine II 5 a6 0 IF ?_|refine II 5 a6 1 IF ?_|refine II 5 a6 2 IF ?_|refine II 8 a6 0 IF ?_|refine II 8 a6 1 IF ?_|refine II 8 a6 2 IF ?_|refine II 10 a6 0 IF ?_|refine II 10 a6 1 IF ?_|refine II 10 a6 2 IF ?_|refine IH a6 0 IE ?_|refine IH a6 1 IE ?_|refine IH a6 2 IE ?_|refine IH a6 3 IE ?_|fail)|refine bc a6 fun _=>?_|fail)
  refine br 12 [(0,.v),(1,.v),(2,.v),(3,.v),(4,.v),(5,.v),(6,.v),(7,.v),(8,.v),(9,.v),(10,.v),(11,.v)] none ?_ trivial rfl (by kernel_rfl) (by kernel_rfl) (by kernel_rfl) mixed (by kernel_rfl) rfl
  repeat' (first|refine aC ?_|refine aY a6 ?_|(apply bK;refine bR ?_)|fail)
  refine dL ?_ rfl rfl (by (try simp only [Ju,bl]);omega) (by first | trivial | rfl)
  repeat' (first|refine aC ?_|refine aY a6 ?_|(apply bK;refine bR ?_)|fail)
  refine dL ?_ rfl rfl (by (try simp only [Ju]);omega) (by first | trivial | rfl)
  repeat' (first|refine aC ?_|refine aY a6 ?_|(apply bK;refine bR ?_)|fail)
  refine IQ [1,4,55,58] EV ?_
  repeat' (first|fail)
  refine eM rfl rfl (by (try simp only [Ju]);omega) rfl ?_
  repeat' (first|refine go ?_|refine IG a6 EV ?_|(apply aW;refine aT ?_)|fail)
  exact aB (i+1) rfl ⟨by rw [Jv];rfl,by rw [hst];rfl,trivial⟩ (by omega) (by omega) (fun _ _ h=>h)
 have hil:i=g.Points.length:=by have:=Jx hh;omega
 subst hil
 rw [List.take_length]
 clear hh hi
 repeat' (first|refine go ?_|fail)
 refine br 10 [(0,.v),(1,.v),(2,.v),(3,.v),(4,.v),(5,.v),(6,.v),(7,.v),(8,.v),(9,.v)] none ?_ trivial rfl (by kernel_rfl) (by kernel_rfl) (by kernel_rfl) mixed (by kernel_rfl) rfl
 repeat' (first|refine aC ?_|refine aY a6 ?_|(apply bK;refine bR ?_)|fail)
 refine dL ?_ rfl rfl (by (try simp only [Ju,bl]);omega) (by first | trivial | rfl)
 repeat' (first|refine aC ?_|refine aY a6 ?_|(apply bK;refine bR ?_)|fail)
 refine IQ [1,65,69] EV ?_
 repeat' (first|fail)
 refine eM rfl rfl (by (try simp only [Ju]);omega) rfl ?_
 repeat' (first|refine go ?_|refine am ?_|refine IG a6 EV ?_)
 have hml2:(g.Parts.map ct).length=g.Parts.length:=Jt ..
 refine aO [1] (α:=Nat) (fun i=>[(6,aP i),(3,gW ((g.Parts.take i).foldl stPart (E1 g)))]) (fun i=>i≤g.Parts.length) (fun _=>[]) (fun i=>g.Parts.length - i) 0 rfl ⟨rfl,by rw [t2];rfl,trivial⟩ (Nat.zero_le _) (fun _ _ h=>h) ?_
 intro i hi
 try dsimp only [Jr,Jq,Jp,Jk]
 repeat' (first|refine go ?_|refine IG a6 EV ?_)
 refine au rfl (fun hh=>?_) (fun hh=>?_)
 ·have hil:i < g.Parts.length:=by have:=Jy hh;omega
  obtain ⟨z,hz⟩:∃y,g.Parts[i]?=some y:=⟨_,Jz hil⟩
  have hzg:=bA (c:=ct) hz
  have hzm:=Jw hz
  have hzn:=h.parts.2 z hzm
  haveI:iv z.Glyph:=⟨hzn.1⟩
  haveI:iv z.X:=⟨hzn.2.1⟩
  haveI:iv z.Y:=⟨hzn.2.2⟩
  have kk0:=be hzn.1
  have kk1:=be hzn.2.1
  have kk2:=be hzn.2.2
  have ki0:=cZ (n:=16) (m:=668) i h.stPart h.parts.1 h.s2
  have hst:(g.Parts.take (i+1)).foldl stPart (E1 g)=(g.Parts.take i).foldl stPart (E1 g)++cG z.Glyph++cG z.X++cG z.Y:=dN hz
  clear hh
  repeat' (first|refine go ?_|refine am ?_)
  refine br 25 [(0,.v),(1,.v),(2,.v),(3,.v),(4,.v),(5,.v),(6,.v),(7,.v),(8,.v),(9,.v),(10,.v),(11,.v),(12,.v),(13,.v),(14,.v),(15,.v),(16,.v),(17,.v),(18,.v),(19,.v),(20,.v),(21,.v),(22,.v),(23,.v),(24,.v)] none ?_ trivial rfl (by kernel_rfl) (by kernel_rfl) (by kernel_rfl) mixed (by kernel_rfl) rfl
  repeat' (first|refine aC ?_|refine aY a6 ?_|(apply bS;refine ce a6 ?_)|(apply bK;refine bR ?_)|fail)
  refine dL ?_ rfl rfl (by (try simp only [Ju,bl]);omega) (by first | trivial | rfl)
  repeat' (first|refine aC ?_|refine aY a6 ?_|(apply bS;refine ce a6 ?_)|(apply bK;refine bR ?_)|fail)
  refine dL ?_ rfl rfl (by (try simp only [Ju]);omega) (by first | trivial | rfl)
  repeat' (first|refine aC ?_|refine aY a6 ?_|(apply bS;refine ce a6 ?_)|(apply bK;refine bR ?_)|fail)
  refine dL ?_ rfl rfl (by (try simp only [Ju]);omega) (by first | trivial | rfl)
  repeat' (first|fail)
  refine IQ [1,6,102] EV ?_
  repeat' (first|refine go ?_|refine aa ?_|refine IG a6 EV ?_|(apply aW;refine aT ?_)|fail)
  exact aB (i+1) rfl ⟨by rw [Jv];rfl,by rw [hst];rfl,trivial⟩ (by omega) (by omega) (fun _ _ h=>h)
 have hil:i=g.Parts.length:=by have:=Jx hh;omega
 subst hil
 rw [List.take_length]
 clear hh hi
 repeat' (first|refine go ?_|refine IG a6 EV ?_|(apply bB;refine bq ?_)|fail)
 refine eM rfl rfl (by (try simp only [Ju,bl]);omega) rfl ?_
 repeat' (first|refine go ?_|refine am ?_|refine IG a6 EV ?_)
 have hml4:(g.Anchors.map cB).length=g.Anchors.length:=Jt ..
 refine aO [1] (α:=Nat) (fun i=>[(7,aP i),(3,gW ((g.Anchors.take i).foldl stAnchor (E2 g)))]) (fun i=>i≤g.Anchors.length) (fun _=>[]) (fun i=>g.Anchors.length - i) 0 rfl ⟨rfl,by rw [t3];rfl,trivial⟩ (Nat.zero_le _) (fun _ _ h=>h) ?_
 intro i hi
 try dsimp only [Jr,Jq,Jp,Jk]
 repeat' (first|refine go ?_|refine IG a6 EV ?_)
 refine au rfl (fun hh=>?_) (fun hh=>?_)
 ·have hil:i < g.Anchors.length:=by have:=Jy hh;omega
  obtain ⟨z,hz⟩:∃y,g.Anchors[i]?=some y:=⟨_,Jz hil⟩
  have hzg:=bA (c:=cB) hz
  have hzm:=Jw hz
  have hzn:=h.anchors.2 z hzm
  haveI:iv z.Kind:=⟨hzn.1⟩
  haveI:iv z.Class:=⟨hzn.2.1⟩
  haveI:iv z.X:=⟨hzn.2.2.1⟩
  haveI:iv z.Y:=⟨hzn.2.2.2⟩
  have kk0:=be hzn.1
  have kk1:=be hzn.2.1
  have kk2:=be hzn.2.2.1
  have kk3:=be hzn.2.2.2
  have ki0:=cZ (n:=16) (m:=1207) i h.stAnchor h.anchors.1 h.s3
  have hst:(g.Anchors.take (i+1)).foldl stAnchor (E2 g)=(g.Anchors.take i).foldl stAnchor (E2 g)++cG z.Kind++cG z.Class++cG z.X++cG z.Y:=dN hz
  clear hh
  repeat' (first|refine go ?_|refine am ?_|refine IG a6 EV ?_|(apply aV;first|refine aU a6 ?_|refine aN a6 ?_)|(apply aJ;first|refine II 5 a6 0 IF ?_|refine II 5 a6 1 IF ?_|refine II 5 a6 2 IF ?_|refine II 8 a6 0 IF ?_|refine II 8 a6 1 IF ?_|refine II 8 a6 2 IF ?_|refine II 10 a6 0 IF ?_|refine II 10 a6 1 IF ?_|refine II 10 a6 2 IF ?_|refine IH a6 0 IE ?_|refine IH a6 1 IE ?_|refine IH a6 2 IE ?_|refine IH a6 3 IE ?_|fail)|refine bc a6 fun _=>?_|fail)
  refine br 16 [(0,.v),(1,.v),(2,.v),(3,.v),(4,.v),(5,.v),(6,.v),(7,.v),(8,.v),(9,.v),(10,.v),(11,.v),(12,.v),(13,.v),(14,.v),(15,.v)] none ?_ trivial rfl (by kernel_rfl) (by kernel_rfl) (by kernel_rfl) mixed (by kernel_rfl) rfl
  repeat' (first|refine aC ?_|refine aY a6 ?_|(apply bK;refine bR ?_)|fail)
  refine dL ?_ rfl rfl (by (try simp only [Ju,bl]);omega) (by first | trivial | rfl)
  repeat' (first|refine aC ?_|refine aY a6 ?_|(apply bK;refine bR ?_)|fail)
  refine dL ?_ rfl rfl (by (try simp only [Ju]);omega) (by first | trivial | rfl)
  repeat' (first|refine aC ?_|refine aY a6 ?_|(apply bK;refine bR ?_)|fail)
  refine dL ?_ rfl rfl (by (try simp only [Ju]);omega) (by first | trivial | rfl)
  repeat' (first|refine aC ?_|refine aY a6 ?_|(apply bK;refine bR ?_)|fail)
  refine IQ [1,7,133,136] EV ?_
  repeat' (first|fail)
  refine eM rfl rfl (by (try simp only [Ju]);omega) rfl ?_
  repeat' (first|refine go ?_|refine IG a6 EV ?_|(apply aW;refine aT ?_)|fail)
  exact aB (i+1) rfl ⟨by rw [Jv];rfl,by rw [hst];rfl,trivial⟩ (by omega) (by omega) (fun _ _ h=>h)
 have hil:i=g.Anchors.length:=by have:=Jx hh;omega
 subst hil
 rw [List.take_length]
 clear hh hi
 repeat' (first|refine go ?_|refine IG a6 EV ?_|(apply bB;refine bq ?_)|fail)
 refine eM rfl rfl (by (try simp only [Ju,bl]);omega) rfl ?_
 repeat' (first|refine go ?_|refine am ?_|refine IG a6 EV ?_)
 have hml6:(g.Deltas.map dm).length=g.Deltas.length:=Jt ..
 refine aO [1] (α:=Nat) (fun i=>[(9,aP i),(3,gW ((g.Deltas.take i).foldl stDelta (F4 g)))]) (fun i=>i≤g.Deltas.length) (fun _=>[]) (fun i=>g.Deltas.length - i) 0 rfl ⟨rfl,by rw [t4];rfl,trivial⟩ (Nat.zero_le _) (fun _ _ h=>h) ?_
 intro i hi
 try dsimp only [Jr,Jq,Jp,Jk]
 repeat' (first|refine go ?_|refine IG a6 EV ?_)
 refine au rfl (fun hh=>?_) (fun hh=>?_)
 ·have hil:i < g.Deltas.length:=by have:=Jy hh;omega
  obtain ⟨z,hz⟩:∃y,g.Deltas[i]?=some y:=⟨_,Jz hil⟩
  have hzg:=bA (c:=dm) hz
  have hzm:=Jw hz
  have hzn:=h.deltas.2 z hzm
  haveI:iv z.Region:=⟨hzn.1⟩
  haveI:iv z.Point:=⟨hzn.2.1⟩
  haveI:iv z.X:=⟨hzn.2.2.1⟩
  haveI:iv z.Y:=⟨hzn.2.2.2⟩
  have kk0:=be hzn.1
  have kk1:=be hzn.2.1
  have kk2:=be hzn.2.2.1
  have kk3:=be hzn.2.2.2
  have ki0:=cZ (n:=50) (m:=1922) i h.stDelta h.deltas.1 h.s4
  have hst:(g.Deltas.take (i+1)).foldl stDelta (F4 g)=(g.Deltas.take i).foldl stDelta (F4 g)++cG z.Region++cG z.Point++cG z.X++cG z.Y:=dN hz
  clear hh
  repeat' (first|refine go ?_|refine am ?_|refine IG a6 EV ?_|(apply aV;first|refine aU a6 ?_|refine aN a6 ?_)|(apply aJ;first|refine II 5 a6 0 IF ?_|refine II 5 a6 1 IF ?_|refine II 5 a6 2 IF ?_|refine II 8 a6 0 IF ?_|refine II 8 a6 1 IF ?_|refine II 8 a6 2 IF ?_|refine II 10 a6 0 IF ?_|refine II 10 a6 1 IF ?_|refine II 10 a6 2 IF ?_|refine IH a6 0 IE ?_|refine IH a6 1 IE ?_|refine IH a6 2 IE ?_|refine IH a6 3 IE ?_|fail)|refine bc a6 fun _=>?_|fail)
  refine br 16 [(0,.v),(1,.v),(2,.v),(3,.v),(4,.v),(5,.v),(6,.v),(7,.v),(8,.v),(9,.v),(10,.v),(11,.v),(12,.v),(13,.v),(14,.v),(15,.v)] none ?_ trivial rfl (by kernel_rfl) (by kernel_rfl) (by kernel_rfl) mixed (by kernel_rfl) rfl
  repeat' (first|refine aC ?_|refine aY a6 ?_|(apply bK;refine bR ?_)|fail)
  refine dL ?_ rfl rfl (by (try simp only [Ju,bl]);omega) (by first | trivial | rfl)
  repeat' (first|refine aC ?_|refine aY a6 ?_|(apply bK;refine bR ?_)|fail)
  refine dL ?_ rfl rfl (by (try simp only [Ju]);omega) (by first | trivial | rfl)
  repeat' (first|refine aC ?_|refine aY a6 ?_|(apply bK;refine bR ?_)|fail)
  refine dL ?_ rfl rfl (by (try simp only [Ju]);omega) (by first | trivial | rfl)
  repeat' (first|refine aC ?_|refine aY a6 ?_|(apply bK;refine bR ?_)|fail)
  refine IQ [1,9,168,171] EV ?_
  repeat' (first|fail)
  refine eM rfl rfl (by (try simp only [Ju]);omega) rfl ?_
  repeat' (first|refine go ?_|refine IG a6 EV ?_|(apply aW;refine aT ?_)|fail)
  exact aB (i+1) rfl ⟨by rw [Jv];rfl,by rw [hst];rfl,trivial⟩ (by omega) (by omega) (fun _ _ h=>h)
 have hil:i=g.Deltas.length:=by have:=Jx hh;omega
 subst hil
 rw [List.take_length]
 clear hh hi
 repeat' (first|refine go ?_|refine IG a6 EV ?_|(apply bB;refine bq ?_)|fail)
 refine eM rfl rfl (by (try simp only [Ju,bl]);omega) rfl ?_
 repeat' (first|refine go ?_|refine IG a6 EV ?_)
 exact IP IB
instance (g:bL) [h:If g]:AD Tryz.prog 18 [.agg (bh g)] (gW (o4 g)):=⟨vX g h.ok⟩
class Ig (l:bj):Prop where
 ok:CR l
set_option maxHeartbeats 8000000 in
theorem zj (l:bj) (h:CR l):bZ Tryz.prog 92 [.agg (bi l)] (gW (uy l)):=by
 refine aX Tryz.func92 rfl Tryz.ntmps92 rfl fun B=>?_
 have bl:(⟨#[32]⟩:ByteArray).size=1:=rfl
 have m1:(l.Rules.map bE).length=l.Rules.length:=Jt ..
 have b1:=h.rules.1
 haveI c1:iv (((l.Rules.map bE).length:Nat):Int):=jM (by omega)
 haveI c2:iv l.Kind:=⟨h.kind⟩
 have d1:=be c1.ok
 have d2:=be c2.ok
 have d3:=iQ l.Ignore
 have t1:zg l=cG l.Kind++th l.Ignore++cG (((l.Rules.map bE).length:Nat):Int):=by unfold zg ev;rw [m1]
 repeat' (first|refine go ?_|refine IG a6 EV ?_|refine bD ?_|fail)
 refine br 11 [(0,.v),(1,.v),(2,.v),(3,.v),(4,.v),(5,.v),(6,.v),(7,.v),(8,.v),(9,.v),(10,.v)] none ?_ trivial rfl (by kernel_rfl) (by kernel_rfl) (by kernel_rfl) mixed (by kernel_rfl) rfl
 repeat' (first|refine aC ?_|refine aY a6 ?_|(apply bK;refine bR ?_)|fail)
 refine dL ?_ rfl rfl (by (try simp only [Ju,bl]);omega) (by first | trivial | rfl)
 repeat' (first|refine aC ?_|refine aY a6 ?_|(apply bK;refine bR ?_)|fail)
 refine IQ [1,13,17] EV ?_
 repeat' (first|fail)
 refine eM rfl rfl (by (try simp only [Ju]);omega) rfl ?_
 repeat' (first|refine go ?_|refine am ?_|refine IG a6 EV ?_)
 have hml0:(l.Rules.map bE).length=l.Rules.length:=Jt ..
 refine aO [1] (α:=Nat) (fun i=>[(4,aP i),(3,gW ((l.Rules.take i).foldl iB (zg l)))]) (fun i=>i≤l.Rules.length) (fun _=>[]) (fun i=>l.Rules.length - i) 0 rfl ⟨rfl,by rw [t1];rfl,trivial⟩ (Nat.zero_le _) (fun _ _ h=>h) ?_
 intro i hi
 try dsimp only [Jr,Jq,Jp,Jk]
 repeat' (first|refine go ?_|refine IG a6 EV ?_)
 refine au rfl (fun hh=>?_) (fun hh=>?_)
 ·have hil:i < l.Rules.length:=by have:=Jy hh;omega
  obtain ⟨z,hz⟩:∃y,l.Rules[i]?=some y:=⟨_,Jz hil⟩
  have hzg:=bA (c:=bE) hz
  have hzm:=Jw hz
  have hzn:=h.rules.2 z hzm
  have mz:(z.Calls.map dI).length=z.Calls.length:=Jt ..
  have bz:=hzn.calls.1
  haveI:iv (((z.Calls.map dI).length:Nat):Int):=jM (by omega)
  have kk5:(cG (((z.Calls.map dI).length:Nat):Int)).size≤11:=be ⟨by omega,by omega⟩
  haveI:iv z.X:=⟨hzn.x⟩
  haveI:D4 z.Back:=⟨hzn.back⟩
  haveI:D4 z.In:=⟨hzn.ins⟩
  haveI:D4 z.Ahead:=⟨hzn.ahead⟩
  haveI:GD z.Out:=⟨hzn.out⟩
  have kk0:=i4 hzn.back
  have kk1:=i4 hzn.ins
  have kk2:=i4 hzn.ahead
  have kk3:=fU hzn.out
  have kk4:=be hzn.x
  have e1:∀s,Er s z=s++nu z.Back++nu z.In++nu z.Ahead++pa z.Out++cG (((z.Calls.map dI).length:Nat):Int):=fun s=>by unfold Er ev;rw [mz]
  have e2:=hzn.s1 ((l.Rules.take i).foldl iB (zg l))
  have e3:(Er ((l.Rules.take i).foldl iB (zg l)) z).size≤4*9570+24+9207:=by have:=cZ (n:=4) (m:=24) i (fun s r hr=>(h.rules.2 r hr).size s) h.rules.1 h.s1;omega
  have ki0:=cZ (n:=4) (m:=24) i (fun s r hr=>(h.rules.2 r hr).size s) h.rules.1 h.s1
  have hst:(l.Rules.take (i+1)).foldl iB (zg l)=iB ((l.Rules.take i).foldl iB (zg l)) z:=dN hz
  clear hh
  repeat' (first|refine go ?_|refine am ?_|refine IG a6 EV ?_|(apply aV;first|refine aU a6 ?_|refine aN a6 ?_)|(apply aJ;first|refine II 5 a6 0 IF ?_|refine II 5 a6 1 IF ?_|refine II 5 a6 2 IF ?_|refine IH a6 0 IE ?_|refine IH a6 1 IE ?_|refine IH a6 2 IE ?_|refine IH a6 3 IE ?_|fail)|refine bc a6 fun _=>?_|fail)
  refine br 22 [(0,.v),(1,.v),(2,.v),(3,.v),(4,.v),(5,.v),(6,.v),(7,.v),(8,.v),(9,.v),(10,.v),(11,.v),(12,.v),(13,.v),(14,.v),(15,.v),(16,.v),(17,.v),(18,.v),(19,.v),(20,.v),(21,.v)] none ?_ trivial rfl (by kernel_rfl) (by kernel_rfl) (by kernel_rfl) mixed (by kernel_rfl) rfl
  repeat' (first|refine aC ?_|refine aY a6 ?_|(apply bK;refine bR ?_)|fail)
  refine dL ?_ rfl rfl (by (try simp only [Ju,bl]);omega) (by first | trivial | rfl)
  repeat' (first|refine aC ?_|refine aY a6 ?_|(apply bK;refine bR ?_)|fail)
  refine dL ?_ rfl rfl (by (try simp only [Ju]);omega) (by first | trivial | rfl)
  repeat' (first|refine aC ?_|refine aY a6 ?_|(apply bK;refine bR ?_)|fail)
  refine dL ?_ rfl rfl (by (try simp only [Ju]);omega) (by first | trivial | rfl)
  repeat' (first|refine aC ?_|refine aY a6 ?_|(apply bK;refine bR ?_)|fail)
  refine dL ?_ rfl rfl (by (try simp only [Ju]);omega) (by first | trivial | rfl)
  repeat' (first|refine aC ?_|refine aY a6 ?_|(apply bK;refine bR ?_)|fail)
  refine dL ?_ rfl rfl (by (try simp only [Ju]);omega) (by first | trivial | rfl)
  repeat' (first|fail)
  refine IQ [1,4,5,52] EV ?_
  repeat' (first|refine go ?_|refine aa ?_|refine am ?_|refine IG a6 EV ?_)
  have hml2:(z.Calls.map dI).length=z.Calls.length:=Jt ..
  refine aO [1,4,5] (α:=Nat) (fun j=>[(6,aP j),(3,gW ((z.Calls.take j).foldl stCall (Er ((l.Rules.take i).foldl iB (zg l)) z)))]) (fun j=>j≤z.Calls.length) (fun _=>[]) (fun j=>z.Calls.length - j) 0 rfl ⟨rfl,by rw [e1];rfl,trivial⟩ (Nat.zero_le _) (fun _ _ h=>h) ?_
  intro j hj
  try dsimp only [Jr,Jq,Jp,Jk]
  repeat' (first|refine go ?_|refine IG a6 EV ?_)
  refine au rfl (fun hh=>?_) (fun hh=>?_)
  ·have hil:j < z.Calls.length:=by have:=Jy hh;omega
   obtain ⟨y,hy⟩:∃y,z.Calls[j]?=some y:=⟨_,Jz hil⟩
   have hyg:=bA (c:=dI) hy
   have hym:=Jw hy
   have hyn:=hzn.calls.2 y hym
   haveI:iv y.At:=⟨hyn.1⟩
   haveI:iv y.Lookup:=⟨hyn.2⟩
   have kk0:=be hyn.1
   have kk1:=be hyn.2
   have kj0:=cZ (n:=16) (m:=4*9570+24+9207) j hzn.stCall hzn.calls.1 e3
   have hst:(z.Calls.take (j+1)).foldl stCall (Er ((l.Rules.take i).foldl iB (zg l)) z)=(z.Calls.take j).foldl stCall (Er ((l.Rules.take i).foldl iB (zg l)) z)++cG y.At++cG y.Lookup:=dN hy
   clear hh
   repeat' (first|refine go ?_|refine am ?_)
   refine br 17 [(0,.v),(1,.v),(2,.v),(3,.v),(4,.v),(5,.v),(6,.v),(7,.v),(8,.v),(9,.v),(10,.v),(11,.v),(12,.v),(13,.v),(14,.v),(15,.v),(16,.v)] none ?_ trivial rfl (by kernel_rfl) (by kernel_rfl) (by kernel_rfl) mixed (by kernel_rfl) rfl
   repeat' (first|refine aC ?_|refine aY a6 ?_|(apply bS;refine ce a6 ?_)|(apply bK;refine bR ?_)|fail)
   refine dL ?_ rfl rfl (by (try simp only [Ju,bl]);omega) (by first | trivial | rfl)
   repeat' (first|refine aC ?_|refine aY a6 ?_|(apply bS;refine ce a6 ?_)|(apply bK;refine bR ?_)|fail)
   refine dL ?_ rfl rfl (by (try simp only [Ju]);omega) (by first | trivial | rfl)
   repeat' (first|fail)
   refine IQ [1,4,5,6,76] EV ?_
   repeat' (first|refine go ?_|refine aa ?_|refine IG a6 EV ?_|(apply aW;refine aT ?_)|fail)
   exact aB (j+1) rfl ⟨by rw [Jv];rfl,by rw [hst];rfl,trivial⟩ (by omega) (by omega) (fun _ _ h=>h)
  have hil:j=z.Calls.length:=by have:=Jx hh;omega
  subst hil
  rw [List.take_length]
  clear hh hj
  repeat' (first|refine go ?_|refine IG a6 EV ?_|(apply bB;refine bq ?_)|fail)
  have e4:=dw (n:=16) (m:=4*9570+24+9207) hzn.stCall hzn.calls.1 e3
  refine eM rfl rfl (by (try simp only [Ju,bl]);omega) rfl ?_
  repeat' (first|refine go ?_|refine IG a6 EV ?_|(apply aW;refine aT ?_)|fail)
  exact aB (i+1) rfl ⟨by rw [Jv];rfl,by rw [hst];rfl,trivial⟩ (by omega) (by omega) (fun _ _ h=>h)
 have hil:i=l.Rules.length:=by have:=Jx hh;omega
 subst hil
 rw [List.take_length]
 clear hh hi
 repeat' (first|refine go ?_|refine IG a6 EV ?_)
 exact IP IB
instance (l:bj) [h:Ig l]:AD Tryz.prog 92 [.agg (bi l)] (gW (uy l)):=⟨zj l h.ok⟩
set_option maxHeartbeats 16000000 in
theorem yS (f:aL) (h:mG f):bZ Tryz.prog 52 [.agg (ci f)] (gW (xq f)):=by
 refine aX Tryz.func52 rfl Tryz.ntmps52 rfl fun B=>?_
 have bl:(⟨#[32]⟩:ByteArray).size=1:=rfl
 have m0:(f.Glyphs.map bh).length=f.Glyphs.length:=Jt ..
 have b0:=h.glyphs.1
 haveI c0:iv (((f.Glyphs.map bh).length:Nat):Int):=jM (by omega)
 have d0:=be c0.ok
 have m1:(f.Chars.map cm).length=f.Chars.length:=Jt ..
 have b1:=h.chars.1
 haveI c1:iv (((f.Chars.map cm).length:Nat):Int):=jM (by omega)
 have d1:=be c1.ok
 have m2:(f.Lookups.map bi).length=f.Lookups.length:=Jt ..
 have b2:=h.looks.1
 haveI c2:iv (((f.Lookups.map bi).length:Nat):Int):=jM (by omega)
 have d2:=be c2.ok
 have m3:(f.Features.map bv).length=f.Features.length:=Jt ..
 have b3:=h.feats.1
 haveI c3:iv (((f.Features.map bv).length:Nat):Int):=jM (by omega)
 have d3:=be c3.ok
 have m4:(f.Axes.map cC).length=f.Axes.length:=Jt ..
 have b4:=h.axes.1
 haveI c4:iv (((f.Axes.map cC).length:Nat):Int):=jM (by omega)
 have d4:=be c4.ok
 have m5:(f.Regions.map bI).length=f.Regions.length:=Jt ..
 have b5:=h.regs.1
 haveI c5:iv (((f.Regions.map bI).length:Nat):Int):=jM (by omega)
 have d5:=be c5.ok
 have m6:(f.Funcs.map cL).length=f.Funcs.length:=Jt ..
 have b6:=h.funcs.1
 haveI c6:iv (((f.Funcs.map cL).length:Nat):Int):=jM (by omega)
 have d6:=be c6.ok
 haveI c9:iv f.Unit:=⟨h.unit⟩
 have d9:=be h.unit
 haveI c8:GD f.Cvt:=⟨h.cvt⟩
 have d8:=fU h.cvt
 have t1:DT f=cG f.Unit++cG (((f.Glyphs.map bh).length:Nat):Int):=by unfold DT ev;rw [m0]
 have t2:DU f=f.Glyphs.foldl stGlyph (DT f)++cG (((f.Chars.map cm).length:Nat):Int):=by unfold DU ev;rw [m1]
 have t3:DW f=f.Chars.foldl stChar (DU f)++cG (((f.Lookups.map bi).length:Nat):Int):=by unfold DW ev;rw [m2]
 have t4:DX f=f.Lookups.foldl stLook (DW f)++cG (((f.Features.map bv).length:Nat):Int):=by unfold DX ev;rw [m3]
 have t5:DY f=f.Features.foldl stFeat (DX f)++cG (((f.Axes.map cC).length:Nat):Int):=by unfold DY ev;rw [m4]
 have t6:yR f=f.Axes.foldl stAxis (DY f)++cG (((f.Regions.map bI).length:Nat):Int):=by unfold yR ev;rw [m5]
 have t7:F3 f=f.Regions.foldl stReg (yR f)++cG (((f.Funcs.map cL).length:Nat):Int):=by unfold F3 ev;rw [m6]
 have z0:=h.s1
 have q0:=dw (n:=16) (m:=22) h.stGlyph h.glyphs.1 h.s1
 have z1:=h.s2
 have q1:=dw (n:=32) (m:=83761) h.stChar h.chars.1 h.s2
 have z2:=h.s3
 have q2:=dw (n:=8) (m:=84476) h.stLook h.looks.1 h.s3
 have z3:=h.s4
 have q3:=dw (n:=16) (m:=390919) h.stFeat h.feats.1 h.s4
 have z4:=h.s5
 have q4:=dw (n:=16) (m:=394914) h.stAxis h.axes.1 h.s5
 have z5:=h.s6
 have q5:=dw (n:=16) (m:=396445) h.stReg h.regs.1 h.s6
 have z6:=h.s7
 have q6:=dw (n:=16) (m:=405080) h.stFunc h.funcs.1 h.s7
 repeat' (first|refine go ?_|refine IG a6 EV ?_|refine bD ?_|fail)
 refine br 6 [(0,.v),(1,.v),(2,.v),(3,.v),(4,.v),(5,.v)] none ?_ trivial rfl (by kernel_rfl) (by kernel_rfl) (by kernel_rfl) mixed (by kernel_rfl) rfl
 repeat' (first|refine aC ?_|refine aY a6 ?_|(apply bK;refine bR ?_)|fail)
 refine IQ [1,16,19] EV ?_
 repeat' (first|(apply bB;refine bq ?_)|fail)
 refine eM rfl rfl (by (try simp only [Ju,bl]);omega) rfl ?_
 repeat' (first|refine go ?_|refine am ?_|refine IG a6 EV ?_)
 have hml0:(f.Glyphs.map bh).length=f.Glyphs.length:=Jt ..
 refine aO [1] (α:=Nat) (fun i=>[(4,aP i),(3,gW ((f.Glyphs.take i).foldl stGlyph (DT f)))]) (fun i=>i≤f.Glyphs.length) (fun _=>[]) (fun i=>f.Glyphs.length - i) 0 rfl ⟨rfl,by rw [t1];rfl,trivial⟩ (Nat.zero_le _) (fun _ _ h=>h) ?_
 intro i hi
 try dsimp only [Jr,Jq,Jp,Jk]
 repeat' (first|refine go ?_|refine IG a6 EV ?_)
 refine au rfl (fun hh=>?_) (fun hh=>?_)
 ·have hil:i < f.Glyphs.length:=by have:=Jy hh;omega
  obtain ⟨z,hz⟩:∃y,f.Glyphs[i]?=some y:=⟨_,Jz hil⟩
  have hzg:=bA (c:=bh) hz
  have hzm:=Jw hz
  have hzn:=h.glyphs.2 z hzm
  haveI:If z:=⟨hzn⟩
  have kk0:=hzn.size
  have ki0:=cZ (n:=16) (m:=22) i h.stGlyph h.glyphs.1 h.s1
  have hst:(f.Glyphs.take (i+1)).foldl stGlyph (DT f)=(f.Glyphs.take i).foldl stGlyph (DT f)++o4 z:=dN hz
  clear hh
  repeat' (first|refine go ?_|refine am ?_|refine IG a6 EV ?_|(apply aV;first|refine aU a6 ?_|refine aN a6 ?_)|(apply bB;refine bq ?_)|fail)
  refine eM rfl rfl (by (try simp only [Ju,bl]);omega) rfl ?_
  repeat' (first|refine go ?_|refine IG a6 EV ?_|(apply aW;refine aT ?_)|fail)
  exact aB (i+1) rfl ⟨by rw [Jv];rfl,by rw [hst];rfl,trivial⟩ (by omega) (by omega) (fun _ _ h=>h)
 have hil:i=f.Glyphs.length:=by have:=Jx hh;omega
 subst hil
 rw [List.take_length]
 clear hh hi
 repeat' (first|refine go ?_|refine IG a6 EV ?_|(apply bB;refine bq ?_)|fail)
 refine eM rfl rfl (by (try simp only [Ju,bl]);omega) rfl ?_
 repeat' (first|refine go ?_|refine am ?_|refine IG a6 EV ?_)
 have hml2:(f.Chars.map cm).length=f.Chars.length:=Jt ..
 refine aO [1] (α:=Nat) (fun i=>[(5,aP i),(3,gW ((f.Chars.take i).foldl stChar (DU f)))]) (fun i=>i≤f.Chars.length) (fun _=>[]) (fun i=>f.Chars.length - i) 0 rfl ⟨rfl,by rw [t2];rfl,trivial⟩ (Nat.zero_le _) (fun _ _ h=>h) ?_
 intro i hi
 try dsimp only [Jr,Jq,Jp,Jk]
 repeat' (first|refine go ?_|refine IG a6 EV ?_)
 refine au rfl (fun hh=>?_) (fun hh=>?_)
 ·have hil:i < f.Chars.length:=by have:=Jy hh;omega
  obtain ⟨z,hz⟩:∃y,f.Chars[i]?=some y:=⟨_,Jz hil⟩
  have hzg:=bA (c:=cm) hz
  have hzm:=Jw hz
  have hzn:=h.chars.2 z hzm
  haveI:iv z.Rune:=⟨hzn.1⟩
  haveI:iv z.Glyph:=⟨hzn.2⟩
  have kk0:=be hzn.1
  have kk1:=be hzn.2
  have ki0:=cZ (n:=32) (m:=83761) i h.stChar h.chars.1 h.s2
  have hst:(f.Chars.take (i+1)).foldl stChar (DU f)=(f.Chars.take i).foldl stChar (DU f)++cG z.Rune++cG z.Glyph:=dN hz
  clear hh
  repeat' (first|refine go ?_|refine am ?_)
  refine br 17 [(0,.v),(1,.v),(2,.v),(3,.v),(4,.v),(5,.v),(6,.v),(7,.v),(8,.v),(9,.v),(10,.v),(11,.v),(12,.v),(13,.v),(14,.v),(15,.v),(16,.v)] none ?_ trivial rfl (by kernel_rfl) (by kernel_rfl) (by kernel_rfl) mixed (by kernel_rfl) rfl
  repeat' (first|refine aC ?_|refine aY a6 ?_|(apply bS;refine ce a6 ?_)|(apply bK;refine bR ?_)|fail)
  refine dL ?_ rfl rfl (by (try simp only [Ju,bl]);omega) (by first | trivial | rfl)
  repeat' (first|refine aC ?_|refine aY a6 ?_|(apply bS;refine ce a6 ?_)|(apply bK;refine bR ?_)|fail)
  refine dL ?_ rfl rfl (by (try simp only [Ju]);omega) (by first | trivial | rfl)
  repeat' (first|fail)
  refine IQ [1,5,66] EV ?_
  repeat' (first|refine go ?_|refine aa ?_|refine IG a6 EV ?_|(apply aW;refine aT ?_)|fail)
  exact aB (i+1) rfl ⟨by rw [Jv];rfl,by rw [hst];rfl,trivial⟩ (by omega) (by omega) (fun _ _ h=>h)
 have hil:i=f.Chars.length:=by have:=Jx hh;omega
 subst hil
 rw [List.take_length]
 clear hh hi
 repeat' (first|refine go ?_|refine IG a6 EV ?_|(apply bB;refine bq ?_)|fail)
 refine eM rfl rfl (by (try simp only [Ju,bl]);omega) rfl ?_
 repeat' (first|refine go ?_|refine am ?_|refine IG a6 EV ?_)
 have hml4:(f.Lookups.map bi).length=f.Lookups.length:=Jt ..
 refine aO [1] (α:=Nat) (fun i=>[(6,aP i),(3,gW ((f.Lookups.take i).foldl stLook (DW f)))]) (fun i=>i≤f.Lookups.length) (fun _=>[]) (fun i=>f.Lookups.length - i) 0 rfl ⟨rfl,by rw [t3];rfl,trivial⟩ (Nat.zero_le _) (fun _ _ h=>h) ?_
 intro i hi
 try dsimp only [Jr,Jq,Jp,Jk]
 repeat' (first|refine go ?_|refine IG a6 EV ?_)
 refine au rfl (fun hh=>?_) (fun hh=>?_)
 ·have hil:i < f.Lookups.length:=by have:=Jy hh;omega
  obtain ⟨z,hz⟩:∃y,f.Lookups[i]?=some y:=⟨_,Jz hil⟩
  have hzg:=bA (c:=bi) hz
  have hzm:=Jw hz
  have hzn:=h.looks.2 z hzm
  haveI:Ig z:=⟨hzn⟩
  have kk0:=hzn.size
  have ki0:=cZ (n:=8) (m:=84476) i h.stLook h.looks.1 h.s3
  have hst:(f.Lookups.take (i+1)).foldl stLook (DW f)=(f.Lookups.take i).foldl stLook (DW f)++uy z:=dN hz
  clear hh
  repeat' (first|refine go ?_|refine am ?_|refine IG a6 EV ?_|(apply aV;first|refine aU a6 ?_|refine aN a6 ?_)|(apply bB;refine bq ?_)|fail)
  refine eM rfl rfl (by (try simp only [Ju,bl]);omega) rfl ?_
  repeat' (first|refine go ?_|refine IG a6 EV ?_|(apply aW;refine aT ?_)|fail)
  exact aB (i+1) rfl ⟨by rw [Jv];rfl,by rw [hst];rfl,trivial⟩ (by omega) (by omega) (fun _ _ h=>h)
 have hil:i=f.Lookups.length:=by have:=Jx hh;omega
 subst hil
 rw [List.take_length]
 clear hh hi
 repeat' (first|refine go ?_|refine IG a6 EV ?_|(apply bB;refine bq ?_)|fail)
 refine eM rfl rfl (by (try simp only [Ju,bl]);omega) rfl ?_
 repeat' (first|refine go ?_|refine am ?_|refine IG a6 EV ?_)
 have hml6:(f.Features.map bv).length=f.Features.length:=Jt ..
 refine aO [1] (α:=Nat) (fun i=>[(7,aP i),(3,gW ((f.Features.take i).foldl stFeat (DX f)))]) (fun i=>i≤f.Features.length) (fun _=>[]) (fun i=>f.Features.length - i) 0 rfl ⟨rfl,by rw [t4];rfl,trivial⟩ (Nat.zero_le _) (fun _ _ h=>h) ?_
 intro i hi
 try dsimp only [Jr,Jq,Jp,Jk]
 repeat' (first|refine go ?_|refine IG a6 EV ?_)
 refine au rfl (fun hh=>?_) (fun hh=>?_)
 ·have hil:i < f.Features.length:=by have:=Jy hh;omega
  obtain ⟨z,hz⟩:∃y,f.Features[i]?=some y:=⟨_,Jz hil⟩
  have hzg:=bA (c:=bv) hz
  have hzm:=Jw hz
  have hzn:=h.feats.2 z hzm
  have hz0:=hzn.1
  haveI:GD z.Lookups:=⟨hzn.2⟩
  haveI cz:iv ((z.Name.size:Nat):Int):=jM (by omega)
  have kk0:=be cz.ok
  have kk1:=fU hzn.2
  have ki0:=cZ (n:=16) (m:=390919) i h.stFeat h.feats.1 h.s4
  have hst:(f.Features.take (i+1)).foldl stFeat (DX f)=(f.Features.take i).foldl stFeat (DX f)++cG ((z.Name.size:Nat):Int)++z.Name++⟨#[32]⟩++pa z.Lookups:=dN hz
  clear hh
  repeat' (first|refine go ?_|refine am ?_)
  refine br 26 [(0,.v),(1,.v),(2,.v),(3,.v),(4,.v),(5,.v),(6,.v),(7,.v),(8,.v),(9,.v),(10,.v),(11,.v),(12,.v),(13,.v),(14,.v),(15,.v),(16,.v),(17,.v),(18,.v),(19,.v),(20,.v),(21,.v),(22,.v),(23,.v),(24,.v),(25,.v)] none ?_ trivial rfl (by kernel_rfl) (by kernel_rfl) (by kernel_rfl) mixed (by kernel_rfl) rfl
  repeat' (first|refine aC ?_|refine aY a6 ?_|(apply bS;refine ce a6 ?_)|(apply bK;refine bR ?_)|fail)
  refine dL ?_ rfl rfl (by (try simp only [Ju,bl]);omega) (by first | trivial | rfl)
  repeat' (first|refine aC ?_|refine aY a6 ?_|(apply bS;refine ce a6 ?_)|fail)
  refine dL ?_ rfl rfl (by (try simp only [Ju]);omega) (by first | trivial | rfl)
  repeat' (first|refine aC ?_|fail)
  refine dL ?_ rfl rfl (by (try simp only [Ju,bl]);omega) (by first | trivial | rfl)
  repeat' (first|refine aC ?_|refine aY a6 ?_|(apply bS;refine ce a6 ?_)|(apply bK;refine bR ?_)|fail)
  refine dL ?_ rfl rfl (by (try simp only [Ju,bl]);omega) (by first | trivial | rfl)
  repeat' (first|fail)
  refine IQ [1,7,126] EV ?_
  repeat' (first|refine go ?_|refine aa ?_|refine IG a6 EV ?_|(apply aW;refine aT ?_)|fail)
  exact aB (i+1) rfl ⟨by rw [Jv];rfl,by rw [hst];rfl,trivial⟩ (by omega) (by omega) (fun _ _ h=>h)
 have hil:i=f.Features.length:=by have:=Jx hh;omega
 subst hil
 rw [List.take_length]
 clear hh hi
 repeat' (first|refine go ?_|refine IG a6 EV ?_|(apply bB;refine bq ?_)|fail)
 refine eM rfl rfl (by (try simp only [Ju,bl]);omega) rfl ?_
 repeat' (first|refine go ?_|refine am ?_|refine IG a6 EV ?_)
 have hml8:(f.Axes.map cC).length=f.Axes.length:=Jt ..
 refine aO [1] (α:=Nat) (fun i=>[(8,aP i),(3,gW ((f.Axes.take i).foldl stAxis (DY f)))]) (fun i=>i≤f.Axes.length) (fun _=>[]) (fun i=>f.Axes.length - i) 0 rfl ⟨rfl,by rw [t5];rfl,trivial⟩ (Nat.zero_le _) (fun _ _ h=>h) ?_
 intro i hi
 try dsimp only [Jr,Jq,Jp,Jk]
 repeat' (first|refine go ?_|refine IG a6 EV ?_)
 refine au rfl (fun hh=>?_) (fun hh=>?_)
 ·have hil:i < f.Axes.length:=by have:=Jy hh;omega
  obtain ⟨z,hz⟩:∃y,f.Axes[i]?=some y:=⟨_,Jz hil⟩
  have hzg:=bA (c:=cC) hz
  have hzm:=Jw hz
  have hzn:=h.axes.2 z hzm
  have hz0:=hzn.1
  haveI cz:iv ((z.Name.size:Nat):Int):=jM (by omega)
  have kk9:=be cz.ok
  haveI:iv z.Min:=⟨hzn.2.1⟩
  haveI:iv z.Def:=⟨hzn.2.2.1⟩
  haveI:iv z.Max:=⟨hzn.2.2.2⟩
  have kk0:=be hzn.2.1
  have kk1:=be hzn.2.2.1
  have kk2:=be hzn.2.2.2
  have ki0:=cZ (n:=16) (m:=394914) i h.stAxis h.axes.1 h.s5
  have hst:(f.Axes.take (i+1)).foldl stAxis (DY f)=(f.Axes.take i).foldl stAxis (DY f)++cG ((z.Name.size:Nat):Int)++z.Name++⟨#[32]⟩++cG z.Min++cG z.Def++cG z.Max:=dN hz
  clear hh
  repeat' (first|refine go ?_|refine am ?_|refine IG a6 EV ?_|(apply aV;first|refine aU a6 ?_|refine aN a6 ?_)|(apply aJ;first|refine II 9 a6 0 IF ?_|refine II 9 a6 1 IF ?_|refine II 9 a6 2 IF ?_|refine II 12 a6 0 IF ?_|refine II 12 a6 1 IF ?_|refine II 12 a6 2 IF ?_|refine IH a6 0 IE ?_|refine IH a6 1 IE ?_|refine IH a6 2 IE ?_|refine IH a6 3 IE ?_|fail)|refine bc a6 fun _=>?_|fail)
  refine br 22 [(0,.v),(1,.v),(2,.v),(3,.v),(4,.v),(5,.v),(6,.v),(7,.v),(8,.v),(9,.v),(10,.v),(11,.v),(12,.v),(13,.v),(14,.v),(15,.v),(16,.v),(17,.v),(18,.v),(19,.v),(20,.v),(21,.v)] none ?_ trivial rfl (by kernel_rfl) (by kernel_rfl) (by kernel_rfl) mixed (by kernel_rfl) rfl
  repeat' (first|refine aC ?_|refine aY a6 ?_|(apply bK;refine bR ?_)|fail)
  refine dL ?_ rfl rfl (by (try simp only [Ju,bl]);omega) (by first | trivial | rfl)
  repeat' (first|refine aC ?_|refine aY a6 ?_|fail)
  refine dL ?_ rfl rfl (by (try simp only [Ju]);omega) (by first | trivial | rfl)
  repeat' (first|refine aC ?_|fail)
  refine dL ?_ rfl rfl (by (try simp only [Ju,bl]);omega) (by first | trivial | rfl)
  repeat' (first|refine aC ?_|refine aY a6 ?_|(apply bK;refine bR ?_)|fail)
  refine dL ?_ rfl rfl (by (try simp only [Ju,bl]);omega) (by first | trivial | rfl)
  repeat' (first|refine aC ?_|refine aY a6 ?_|(apply bK;refine bR ?_)|fail)
  refine dL ?_ rfl rfl (by (try simp only [Ju,bl]);omega) (by first | trivial | rfl)
  repeat' (first|refine aC ?_|refine aY a6 ?_|(apply bK;refine bR ?_)|fail)
  refine dL ?_ rfl rfl (by (try simp only [Ju,bl]);omega) (by first | trivial | rfl)
  repeat' (first|fail)
  refine IQ [1,8,166] EV ?_
  repeat' (first|refine go ?_|refine aa ?_|refine IG a6 EV ?_|(apply aW;refine aT ?_)|fail)
  exact aB (i+1) rfl ⟨by rw [Jv];rfl,by rw [hst];rfl,trivial⟩ (by omega) (by omega) (fun _ _ h=>h)
 have hil:i=f.Axes.length:=by have:=Jx hh;omega
 subst hil
 rw [List.take_length]
 clear hh hi
 repeat' (first|refine go ?_|refine IG a6 EV ?_|(apply bB;refine bq ?_)|fail)
 refine eM rfl rfl (by (try simp only [Ju,bl]);omega) rfl ?_
 repeat' (first|refine go ?_|refine am ?_|refine IG a6 EV ?_)
 have hml10:(f.Regions.map bI).length=f.Regions.length:=Jt ..
 refine aO [1] (α:=Nat) (fun i=>[(10,aP i),(3,gW ((f.Regions.take i).foldl stReg (yR f)))]) (fun i=>i≤f.Regions.length) (fun _=>[]) (fun i=>f.Regions.length - i) 0 rfl ⟨rfl,by rw [t6];rfl,trivial⟩ (Nat.zero_le _) (fun _ _ h=>h) ?_
 intro i hi
 try dsimp only [Jr,Jq,Jp,Jk]
 repeat' (first|refine go ?_|refine IG a6 EV ?_)
 refine au rfl (fun hh=>?_) (fun hh=>?_)
 ·have hil:i < f.Regions.length:=by have:=Jy hh;omega
  obtain ⟨z,hz⟩:∃y,f.Regions[i]?=some y:=⟨_,Jz hil⟩
  have hzg:=bA (c:=bI) hz
  have hzm:=Jw hz
  have mz:(z.map fX).length=z.length:=Jt ..
  have bz:=(h.regs.2 z hzm).1
  haveI:iv (((z.map fX).length:Nat):Int):=jM (by omega)
  have kk5:(cG (((z.map fX).length:Nat):Int)).size≤11:=be ⟨by omega,by omega⟩
  have e1:ev z.length=cG (((z.map fX).length:Nat):Int):=by unfold ev;rw [mz]
  have e2:=cZ (n:=16) (m:=396445) i h.stReg h.regs.1 h.s6
  have e3:((f.Regions.take i).foldl stReg (yR f)++ev z.length).size≤16*539+396445+11:=by rw [Ju,e1];omega
  have ki0:=cZ (n:=16) (m:=396445) i h.stReg h.regs.1 h.s6
  have hst:(f.Regions.take (i+1)).foldl stReg (yR f)=stReg ((f.Regions.take i).foldl stReg (yR f)) z:=dN hz
  clear hh
  repeat' (first|refine go ?_|refine am ?_|refine IG a6 EV ?_|(apply aV;first|refine aU a6 ?_|refine aN a6 ?_)|(apply bB;refine bq ?_)|fail)
  refine eM rfl rfl (by (try simp only [Ju,bl]);omega) rfl ?_
  repeat' (first|refine go ?_|refine am ?_|refine IG a6 EV ?_)
  have hml12:(z.map fX).length=z.length:=Jt ..
  refine aO [1,10] (α:=Nat) (fun j=>[(11,aP j),(3,gW ((z.take j).foldl stTent ((f.Regions.take i).foldl stReg (yR f)++ev z.length)))]) (fun j=>j≤z.length) (fun _=>[]) (fun j=>z.length - j) 0 rfl ⟨rfl,by rw [e1];rfl,trivial⟩ (Nat.zero_le _) (fun _ _ h=>h) ?_
  intro j hj
  try dsimp only [Jr,Jq,Jp,Jk]
  repeat' (first|refine go ?_|refine IG a6 EV ?_|(apply aV;first|refine aU a6 ?_|refine aN a6 ?_)|fail)
  refine au rfl (fun hh=>?_) (fun hh=>?_)
  ·have hil:j < z.length:=by have:=Jy hh;omega
   obtain ⟨y,hy⟩:∃y,z[j]?=some y:=⟨_,Jz hil⟩
   have hyg:=bA (c:=fX) hy
   have hym:=Jw hy
   have hyn:=(h.regs.2 z hzm).2 y hym
   haveI:iv y.Start:=⟨hyn.1⟩
   haveI:iv y.Peak:=⟨hyn.2.1⟩
   haveI:iv y.End:=⟨hyn.2.2⟩
   have kk0:=be hyn.1
   have kk1:=be hyn.2.1
   have kk2:=be hyn.2.2
   have kj0:=cZ (n:=16) (m:=16*539+396445+11) j (h.stTent hzm) bz e3
   have hst:(z.take (j+1)).foldl stTent ((f.Regions.take i).foldl stReg (yR f)++ev z.length)=(z.take j).foldl stTent ((f.Regions.take i).foldl stReg (yR f)++ev z.length)++cG y.Start++cG y.Peak++cG y.End:=dN hy
   clear hh
   repeat' (first|refine go ?_|refine am ?_|refine IG a6 EV ?_|(apply aV;first|refine aU a6 ?_|refine aN a6 ?_)|(apply aJ;first|refine II 9 a6 0 IF ?_|refine II 9 a6 1 IF ?_|refine II 9 a6 2 IF ?_|refine II 12 a6 0 IF ?_|refine II 12 a6 1 IF ?_|refine II 12 a6 2 IF ?_|refine IH a6 0 IE ?_|refine IH a6 1 IE ?_|refine IH a6 2 IE ?_|refine IH a6 3 IE ?_|fail)|refine bc a6 fun _=>?_|fail)
   refine br 12 [(0,.v),(1,.v),(2,.v),(3,.v),(4,.v),(5,.v),(6,.v),(7,.v),(8,.v),(9,.v),(10,.v),(11,.v)] none ?_ trivial rfl (by kernel_rfl) (by kernel_rfl) (by kernel_rfl) mixed (by kernel_rfl) rfl
   repeat' (first|refine aC ?_|refine aY a6 ?_|(apply bK;refine bR ?_)|fail)
   refine dL ?_ rfl rfl (by (try simp only [Ju,bl]);omega) (by first | trivial | rfl)
   repeat' (first|refine aC ?_|refine aY a6 ?_|(apply bK;refine bR ?_)|fail)
   refine dL ?_ rfl rfl (by (try simp only [Ju]);omega) (by first | trivial | rfl)
   repeat' (first|refine aC ?_|refine aY a6 ?_|(apply bK;refine bR ?_)|fail)
   refine IQ [1,10,11,218,221] EV ?_
   repeat' (first|fail)
   refine eM rfl rfl (by (try simp only [Ju]);omega) rfl ?_
   repeat' (first|refine go ?_|refine IG a6 EV ?_|(apply aW;refine aT ?_)|fail)
   exact aB (j+1) rfl ⟨by rw [Jv];rfl,by rw [hst];rfl,trivial⟩ (by omega) (by omega) (fun _ _ h=>h)
  have hil:j=z.length:=by have:=Jx hh;omega
  subst hil
  rw [List.take_length]
  clear hh hj
  repeat' (first|refine go ?_|refine IG a6 EV ?_|(apply aW;refine aT ?_)|fail)
  exact aB (i+1) rfl ⟨by rw [Jv];rfl,by rw [hst];rfl,trivial⟩ (by omega) (by omega) (fun _ _ h=>h)
 have hil:i=f.Regions.length:=by have:=Jx hh;omega
 subst hil
 rw [List.take_length]
 clear hh hi
 repeat' (first|refine go ?_|refine IG a6 EV ?_|(apply bB;refine bq ?_)|fail)
 refine eM rfl rfl (by (try simp only [Ju,bl]);omega) rfl ?_
 repeat' (first|refine go ?_|refine am ?_|refine IG a6 EV ?_)
 have hml14:(f.Funcs.map cL).length=f.Funcs.length:=Jt ..
 refine aO [1] (α:=Nat) (fun i=>[(13,aP i),(3,gW ((f.Funcs.take i).foldl stFunc (F3 f)))]) (fun i=>i≤f.Funcs.length) (fun _=>[]) (fun i=>f.Funcs.length - i) 0 rfl ⟨rfl,by rw [t7];rfl,trivial⟩ (Nat.zero_le _) (fun _ _ h=>h) ?_
 intro i hi
 try dsimp only [Jr,Jq,Jp,Jk]
 repeat' (first|refine go ?_|refine IG a6 EV ?_)
 refine au rfl (fun hh=>?_) (fun hh=>?_)
 ·have hil:i < f.Funcs.length:=by have:=Jy hh;omega
  obtain ⟨z,hz⟩:∃y,f.Funcs[i]?=some y:=⟨_,Jz hil⟩
  have hzg:=bA (c:=cL) hz
  have hzm:=Jw hz
  have hzn:=h.funcs.2 z hzm
  haveI:HR z:=⟨hzn⟩
  have kk0:=kc hzn
  have ki0:=cZ (n:=16) (m:=405080) i h.stFunc h.funcs.1 h.s7
  have hst:(f.Funcs.take (i+1)).foldl stFunc (F3 f)=(f.Funcs.take i).foldl stFunc (F3 f)++rj z:=dN hz
  clear hh
  repeat' (first|refine go ?_|refine am ?_|refine IG a6 EV ?_|(apply aV;first|refine aU a6 ?_|refine aN a6 ?_)|(apply bB;refine bq ?_)|fail)
  refine eM rfl rfl (by (try simp only [Ju,bl]);omega) rfl ?_
  repeat' (first|refine go ?_|refine IG a6 EV ?_|(apply aW;refine aT ?_)|fail)
  exact aB (i+1) rfl ⟨by rw [Jv];rfl,by rw [hst];rfl,trivial⟩ (by omega) (by omega) (fun _ _ h=>h)
 have hil:i=f.Funcs.length:=by have:=Jx hh;omega
 subst hil
 rw [List.take_length]
 clear hh hi
 repeat' (first|refine go ?_|refine IG a6 EV ?_|(apply bB;refine bq ?_)|fail)
 refine eM rfl rfl (by (try simp only [Ju,bl]);omega) rfl ?_
 repeat' (first|refine go ?_|refine IG a6 EV ?_)
 exact IP IB
class HS (f:aL):Prop where
 ok:mG f
instance (f:aL) [h:HS f]:AD Tryz.prog 52 [.agg (ci f)] (gW (xq f)):=⟨yS f h.ok⟩
end Go.Proofs.YtjjpkibjffmceaaGreat
