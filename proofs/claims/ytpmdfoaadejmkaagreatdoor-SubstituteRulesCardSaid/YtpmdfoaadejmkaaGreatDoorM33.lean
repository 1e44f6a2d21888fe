/-
  The program's rules: lookups, as matches look at them.
-/
import Derived.Test.YtpmdfoaadejmkaaGreatDoorM32
import Derived.Test.YtpmdfoaadejmkaaGreatDoorM10
import Derived.Test.YtpmdfoaadejmkaaGreatDoorM24
namespace Go.Proofs.YtpmdfoaadejmkaaGreatDoor
open Go.RowKit
attribute [local irreducible] AT bJ AX AO Av Kt bi dq DA cG
structure sH (l:List (List Int)):Prop where
 few:l.length≤200
 set:∀s∈l,gL s∧s.length≤1000000
structure qu (r:bh):Prop where
 back:sH r.Back
 in_:sH r.In
 ahead:sH r.Ahead
theorem iz.ruleR {f:aZ} (h:iz f) {l:aL} (hl:l∈f.Lookups) {r:bh} (hr:r∈l.Rules):qu r:=by
 have hb:=(h.rule l hl r hr).b
 have hg:=h.glyphs.2
 have key:∀q:List (List Int),(∀s∈q,gL s∧∀g∈s,0≤g∧g < (f.Glyphs.length:Int))→q.length≤200→sH q:=fun q hq hl=>⟨hl,fun s hs=>⟨(hq s hs).1,by have:=fD (gm (hq s hs).1) (hq s hs).2;omega⟩⟩
 exact ⟨key _ hb.back hb.long.1,key _ hb.in_ (by have:=hb.long.2;omega),key _ hb.ahead (by have:=hb.long.2;omega)⟩
set_option maxHeartbeats 4000000 in
theorem kX (l:List (List Int)) (hl:sH l):bU Tryz.prog 275 [.imm 1 (bc l)] (.imm 1 (bc l)):=by
 refine aN Tryz.func275 rfl Tryz.ntmps275 rfl fun B=>?_
 have hil:=bY l
 have hfew:=hl.few
 repeat' (first|refine L3 ?_|refine KG a4 HY ?_)
 refine j9 a4 l.length rfl rfl rfl rfl rfl (by rw [hil]) (by rw [hil]) (by omega) (by omega) rfl fun rb=>?_
 repeat' (first|refine L3 ?_|refine ak ?_|refine KG a4 HY ?_)
 refine aR [3,9,10] (α:=Nat) (fun i=>[(11,aF i)]) (fun i=>i≤l.length) (fun i=>[(rb,.box (dL (fun s=>[AV.imm 1 (aW s)]) [cS] l i).flatten 22)]) (fun i=>l.length - i) 0 rfl ⟨rfl,trivial⟩ (Nat.zero_le _) (fun _ _ hh=>by rw [iY];exact hh) fun i hi=>?_
 try dsimp only [Kr,Kq,Kp,Lv]
 repeat' (first|refine L3 ?_|refine KG a4 HY ?_)
 refine aw rfl (fun h1=>?_) (fun h1=>?_)
 ·have hi2:i < l.length:=by have:=Ky h1;omega
  obtain ⟨s,hsi⟩:∃z,l[i]?=some z:=⟨_,Kz hi2⟩
  have hsg:=gn hsi
  have hss:=hl.set s (Kw hsi)
  haveI:=AD.mk (wj s hss.1 hss.2)
  have hsz:∀q∈dL (fun s=>[AV.imm 1 (aW s)]) [cS] l i,q.length=1:=by
   intro q hq
   unfold dL at hq
   rw [List.mem_append] at hq
   rcases hq with hq | hq
   ·obtain ⟨_,_,rfl⟩:=List.mem_map.1 hq;rfl
   ·rw [(List.mem_replicate.1 hq).2];rfl
  have hfl:=jW (w:=fun s=>[AV.imm 1 (aW s)]) (z:=[cS]) (l:=l) (i:=i) hi
  have hput:=iS (sz:=1) (l:=dL (fun s=>[AV.imm 1 (aW s)]) [cS] l i) (i:=i) (e:=[AV.imm 1 (aW s)]) hsz rfl (by omega)
  rw [jX hsi] at hput
  have hfll:(dL (fun s=>[AV.imm 1 (aW s)]) [cS] l i).flatten.length=l.length * 1:=by rw [dV _ hsz,hfl]
  clear h1
  repeat' (first|refine L3 ?_|refine ak ?_|refine KG a4 HY ?_|(apply aQ;first|refine aO a4 ?_|refine aG a4 ?_)|(apply bF;refine bv ?_)|refine bE rfl ?_)
  refine KZ a4 0 KD (Nat.ble_eq_true_of_le (by rw [hfll,Int.toNat_natCast];show 0+i * 1+1≤_;omega)) ?_
  repeat' (first|refine L3 ?_|refine KG a4 HY ?_|(apply aU;refine aT ?_)|fail)
  refine aD (i+1) rfl ⟨by rw [Kv];rfl,trivial⟩ hi2 (by omega) (fun _ _ hh=>?_)
  rw [←hput]
  rw [Int.toNat_natCast,Nat.zero_add] at hh
  exact hh
 ·have hi2:i=l.length:=by have:=Kx h1;omega
  subst hi2
  rw [jV]
  clear h1
  repeat' (first|refine L3 ?_|refine KG a4 HY ?_)
  have hml:(l.map fun s=>[AV.imm 1 (aW s)]).flatten.length=l.length * 1:=by rw [dV _ (sz:=1) (fun q hq=>by obtain ⟨_,_,rfl⟩:=List.mem_map.1 hq;rfl),Ku]
  refine bj (jl (t:=2) (sz:=1) (n:=l.length) (cap:=l.length) (l:=bc l) 0 rfl rfl (by rw [List.take_of_length_le (by omega)];rfl) (by omega) (fun e he=>by unfold bc at he;obtain ⟨_,_,rfl⟩:=List.mem_map.1 he;rfl) hil (Nat.le_refl _) (by unfold maxLen;omega)) ?_
  exact KQ KA
def lj (r:bh):bh:=⟨r.Back,r.In,r.Ahead,[],[],0⟩
def gQ (l:aL):aL:={ l with Rules:=l.Rules.map lj }
def jG (r:bh):List AV:=[.imm 1 (bc r.Back),.imm 1 (bc r.In),.imm 1 (bc r.Ahead),cS,cS,aF 0]
theorem Bz (r:bh):mE (jG r) (bC (lj r)):=⟨da.refl _,da.refl _,da.refl _,da.nil 1,da.nil 2,da.refl _,trivial⟩
set_option maxHeartbeats 4000000 in
theorem wk (l:aL) (hl:l.Rules.length≤1000000) (hr:∀r∈l.Rules,qu r):bU Tryz.prog 241 [.agg (bw l)] (.agg (bw (gQ l))):=by
 refine aN Tryz.func241 rfl Tryz.ntmps241 rfl fun B=>?_
 have hml:(l.Rules.map bC).length=l.Rules.length:=Ku ..
 repeat' (first|refine L3 ?_|refine KG a4 HY ?_|refine bA ?_|refine bq a4 fun _=>?_|fail)
 refine j9 a4 l.Rules.length rfl rfl rfl rfl rfl (by rw [hml]) (by rw [hml]) (by omega) (by omega) rfl fun rb=>?_
 repeat' (first|refine L3 ?_|refine ak ?_|refine KG a4 HY ?_)
 rename_i r2
 refine aR [1,2,3,11,12] (α:=Nat) (fun i=>[(13,aF i)]) (fun i=>i≤l.Rules.length) (fun i=>[(rb,.box (dL jG [cS,cS,cS,cS,cS,aF 0] l.Rules i).flatten 79),(r2,.box [aF 0,d6 false,cS] 59)]) (fun i=>l.Rules.length - i) 0 rfl ⟨rfl,trivial⟩ (Nat.zero_le _) (fun _ _ hh=>by rw [iY];exact hh) fun i hi=>?_
 try dsimp only [Kr,Kq,Kp,Lv]
 repeat' (first|refine L3 ?_|refine KG a4 HY ?_)
 refine aw rfl (fun h1=>?_) (fun h1=>?_)
 ·have hi2:i < l.Rules.length:=by have:=Ky h1;omega
  obtain ⟨r,hri⟩:∃z,l.Rules[i]?=some z:=⟨_,Kz hi2⟩
  have hrg:(l.Rules.map bC)[i]?=some (bC r):=by simp [hri]
  have hcr:=hr r (Kw hri)
  haveI:=AD.mk (kX r.Back hcr.back)
  haveI:=AD.mk (kX r.In hcr.in_)
  haveI:=AD.mk (kX r.Ahead hcr.ahead)
  have hsz:∀q∈dL jG [cS,cS,cS,cS,cS,aF 0] l.Rules i,q.length=6:=by
   intro q hq
   unfold dL at hq
   rw [List.mem_append] at hq
   rcases hq with hq | hq
   ·obtain ⟨_,_,rfl⟩:=List.mem_map.1 hq;rfl
   ·rw [(List.mem_replicate.1 hq).2];rfl
  have hfl:=jW (w:=jG) (z:=[cS,cS,cS,cS,cS,aF 0]) (l:=l.Rules) (i:=i) hi
  have hput:=iS (sz:=6) (l:=dL jG [cS,cS,cS,cS,cS,aF 0] l.Rules i) (i:=i) (e:=jG r) hsz rfl (by omega)
  rw [jX hri] at hput
  have hfll:(dL jG [cS,cS,cS,cS,cS,aF 0] l.Rules i).flatten.length=l.Rules.length * 6:=by rw [dV _ hsz,hfl]
  clear h1
  repeat' (first|refine L3 ?_|refine ak ?_|refine KG a4 HY ?_|(apply aQ;first|refine aO a4 ?_|refine aG a4 ?_)|(apply aM;first|refine KL 5 a4 0 KF ?_|refine KL 5 a4 1 KF ?_|refine KL 5 a4 2 KF ?_|refine KH a4 0 KE ?_|refine KH a4 1 KE ?_|refine KH a4 2 KE ?_|refine KH a4 3 KE ?_|fail)|refine bq a4 fun _=>?_|fail)
  refine bn 12 [(0,.v),(1,.v),(2,.v),(3,.v),(4,.v),(5,.v),(6,.v),(7,.v),(8,.v),(9,.v),(10,.v),(11,.v)] none ?_ trivial rfl (by kernel_rfl) (by kernel_rfl) (by kernel_rfl) bI (by kernel_rfl) rfl
  repeat' (first|refine aB ?_|refine aX a4 ?_|(apply dh;refine dK ?_)|fail)
  refine KU [1,2,3,11,12,13,18,19,29] HY ?_
  repeat' (first|(apply aQ;first|refine aO a4 ?_|refine aG a4 ?_)|fail)
  refine KZ a4 0 KD (Nat.ble_eq_true_of_le (by rw [hfll,Int.toNat_natCast];show 0+i * 6+6≤_;omega)) ?_
  repeat' (first|refine L3 ?_|refine KG a4 HY ?_|(apply aU;refine aT ?_)|fail)
  refine aD (i+1) rfl ⟨by rw [Kv];rfl,trivial⟩ hi2 (by omega) (fun _ _ hh=>?_)
  rw [←hput]
  rw [Int.toNat_natCast,Nat.zero_add] at hh
  exact hh
 ·have hi2:i=l.Rules.length:=by have:=Kx h1;omega
  subst hi2
  rw [jV]
  clear h1
  have hsz:∀q∈l.Rules.map jG,q.length=6:=fun q hq=>by obtain ⟨_,_,rfl⟩:=List.mem_map.1 hq;rfl
  have hml2:(l.Rules.map jG).flatten.length=l.Rules.length * 6:=by rw [dV _ hsz,Ku]
  refine c8 (jl (t:=3) (sz:=6) (n:=l.Rules.length) (cap:=l.Rules.length) (l:=l.Rules.map jG) 0 rfl rfl (by rw [List.take_of_length_le (by omega)]) (by omega) hsz (Ku ..) (Nat.le_refl _) (by unfold maxLen;omega)) ?_
  refine c8 (bS (t:=3) (c':= .imm 6 ((gQ l).Rules.map bC)) rfl fun σ v h=>?_) ?_
  ·have e:(gQ l).Rules.map bC=l.Rules.map fun r=>bC (lj r):=by unfold gQ;rw [List.map_map];rfl
   rw [e]
   exact da.imm (uG Bz l.Rules) σ v h
  repeat' (first|refine L3 ?_|refine KG a4 HY ?_|(apply aM;first|refine KL 5 a4 0 KF ?_|refine KL 5 a4 1 KF ?_|refine KL 5 a4 2 KF ?_|refine KH a4 0 KE ?_|refine KH a4 1 KE ?_|refine KH a4 2 KE ?_|refine KH a4 3 KE ?_|fail))
  exact i6 (cs:=[.agg (bw (gQ l))]) [] ⟨⟨_,0,_,_,rfl,rfl,.inr ⟨eO a4 rfl,rfl⟩⟩,trivial⟩ (List.nil_sublist _) rfl
abbrev D1:AV:= .sc (.func (.func 242) #[] #[])
def pP (l:aL):List AV:=[.imm 6 ((gQ l).Rules.map bC),d6 l.Ignore,D1,aF (dP l.Rules),aF (eQ l.Rules)]
theorem xm (rs:List bh):dP (rs.map lj)=dP rs∧eQ (rs.map lj)=eQ rs:=by
 unfold dP eQ
 rw [List.foldl_map,List.foldl_map]
 exact ⟨rfl,rfl⟩
theorem yL {rs:List bh} (h:∀r∈rs,qu r) (j:Nat):dP (rs.take j)≤400∧eQ (rs.take j)≤200:=⟨g8 (by omega) fun r hr=>by have h1:=(h r (List.mem_of_mem_take hr)).in_.few;have h2:=(h r (List.mem_of_mem_take hr)).ahead.few;omega,g8 (by omega) fun r hr=>(h r (List.mem_of_mem_take hr)).back.few⟩
theorem wi {l:aL} (hr:∀r∈l.Rules,qu r):∀r∈(gQ l).Rules,qu r:=fun r h=>by
 obtain ⟨r',h',rfl⟩:=List.mem_map.1 h
 exact ⟨(hr r' h').back,(hr r' h').in_,(hr r' h').ahead⟩
set_option maxHeartbeats 4000000 in
theorem xQ (l:aL) (hl:l.Rules.length≤1000000) (hr:∀r∈l.Rules,qu r):bU Tryz.prog 240 [.agg (bw (gQ l)),D1] (.iptr (pP l)):=by
 have hr2:=wi hr
 have hl2:(gQ l).Rules.length=l.Rules.length:=Ku ..
 have hfs:=xm l.Rules
 have hcm:pP l=[.imm 6 ((gQ l).Rules.map bC),d6 l.Ignore,D1,aF (dP (gQ l).Rules),aF (eQ (gQ l).Rules)]:=by
  unfold pP
  rw [show (gQ l).Rules=l.Rules.map lj from rfl,hfs.1,hfs.2]
 rw [hcm]
 have hig:(gQ l).Ignore=l.Ignore:=rfl
 rw [←hig]
 generalize gQ l=l2 at *
 refine aN Tryz.func240 rfl Tryz.ntmps240 rfl fun B=>?_
 have hml:(l2.Rules.map bC).length=l2.Rules.length:=Ku ..
 repeat' (first|refine L3 ?_|refine ak ?_|refine KG a4 HY ?_|refine te (d:=14) fun _=>?_|refine bA ?_|fail)
 rename_i b
 refine aR [5,16,17] (α:=Nat) (fun j=>[(18,aF j)]) (fun j=>j≤l2.Rules.length) (fun j=>[(b,.box [.imm 6 (l2.Rules.map bC),d6 l2.Ignore,D1,aF (dP (l2.Rules.take j)),aF (eQ (l2.Rules.take j))] 319)]) (fun j=>l2.Rules.length - j) 0 rfl ⟨rfl,trivial⟩ (Nat.zero_le _) (fun _ _ hh=>hh) fun j hj=>?_
 try dsimp only [Kr,Kq,Kp,Lv]
 repeat' (first|refine L3 ?_|refine KG a4 HY ?_)
 refine aw rfl (fun h1=>?_) (fun h1=>?_)
 ·have hj2:j < l2.Rules.length:=by have:=Ky h1;omega
  obtain ⟨r,hri⟩:∃z,l2.Rules[j]?=some z:=⟨_,Kz hj2⟩
  have hrg:(l2.Rules.map bC)[j]?=some (bC r):=by simp [hri]
  have hrr:=hr2 r (Kw hri)
  obtain ⟨s1,s2⟩:=ra hri
  have hbd:=yL hr2 j
  have b1:=hrr.back.few
  have b2:=hrr.in_.few
  have b3:=hrr.ahead.few
  have c1:=bY r.Back
  have c2:=bY r.In
  have c3:=bY r.Ahead
  clear h1
  repeat' (first|refine L3 ?_|refine ak ?_|refine KG a4 HY ?_|(apply aQ;first|refine aO a4 ?_|refine aG a4 ?_)|(apply aM;first|refine KL 7 a4 0 KF ?_|refine KL 7 a4 1 KF ?_|refine KL 7 a4 2 KF ?_|refine KH a4 0 KE ?_|refine KH a4 1 KE ?_|refine KH a4 2 KE ?_|refine KH a4 3 KE ?_|fail)|refine bq a4 fun _=>?_|fail)
  refine bn 13 [(0,.v),(1,.v),(2,.v),(3,.v),(4,.l),(5,.v),(6,.v),(7,.v),(8,.v),(9,.v),(10,.v),(11,.v),(12,.v)] none ?_ trivial rfl (by kernel_rfl) (by kernel_rfl) (by kernel_rfl) bI (by kernel_rfl) rfl
  repeat' (first|refine aB ?_|refine aX a4 ?_|(apply dz;refine eL ?_)|refine KY a4 0 KB (by first|trivial|rfl) ?_)
  refine KU [5,7,16,17,18,22,34] HY ?_
  repeat' (first|refine L3 ?_|refine a7 ?_|refine KG a4 HY ?_|(apply aM;first|refine KL 7 a4 0 KF ?_|refine KL 7 a4 1 KF ?_|refine KL 7 a4 2 KF ?_|refine KH a4 0 KE ?_|refine KH a4 1 KE ?_|refine KH a4 2 KE ?_|refine KH a4 3 KE ?_|fail))
  refine bn 9 [(0,.v),(1,.v),(2,.v),(3,.v),(4,.l),(5,.v),(6,.v),(7,.v),(8,.v)] none ?_ trivial rfl (by kernel_rfl) (by kernel_rfl) (by kernel_rfl) bI (by kernel_rfl) rfl
  repeat' (first|refine aB ?_|refine aX a4 ?_|refine KY a4 0 KB (by first|trivial|rfl) ?_)
  refine KU [5,16,17,18,37,45] HY ?_
  repeat' (first|refine L3 ?_|refine a7 ?_|refine KG a4 HY ?_|(apply aU;refine aT ?_)|(apply aM;first|refine KL 7 a4 0 KF ?_|refine KL 7 a4 1 KF ?_|refine KL 7 a4 2 KF ?_|refine KH a4 0 KE ?_|refine KH a4 1 KE ?_|refine KH a4 2 KE ?_|refine KH a4 3 KE ?_|fail))
  refine aD (j+1) rfl ⟨by rw [Kv];rfl,trivial⟩ hj2 (by omega) (fun _ _ hh=>?_)
  rw [s1,s2]
  have e1:((max (dP (l2.Rules.take j)) (r.In.length+r.Ahead.length):Nat):Int)=max (dP (l2.Rules.take j):Int) (((bc r.In).length:Int)+((bc r.Ahead).length:Int)):=by omega
  have e2:((max (eQ (l2.Rules.take j)) r.Back.length:Nat):Int)=max (eQ (l2.Rules.take j):Int) ((bc r.Back).length:Int):=by omega
  rw [e1,e2]
  exact hh
 ·have hj2:j=l2.Rules.length:=by have:=Kx h1;omega
  subst hj2
  rw [List.take_length]
  repeat' (first|refine L3 ?_|refine KG a4 HY ?_)
  exact bj (sh (t:=4) 0 rfl rfl rfl) (KQ KA)
abbrev BB (wb:Nat) (f:aZ) (u v:AV):Nat×AB:=(wb,.box (cJ f++[u,v]) 173)
theorem t7 (wb:Nat) (f:aZ) (u v:AV) (g:Int):AC Tryz.prog 278 [dA wb,aF g] [BB wb f u v] fun c L=>c=d6 (pB (aS f) g)∧L=[BB wb f u v]:=by
 refine aN Tryz.func278 rfl Tryz.ntmps278 rfl fun B=>?_
 have hgl:(f.Glyphs.map bT).length=f.Glyphs.length:=Ku ..
 repeat' (first|refine L3 ?_|refine KG a4 HY ?_|refine KR HY ?_|refine KV KB ?_|(apply bo;first|refine KM a4 0 KC ?_|refine KM a4 1 KC ?_|refine KM a4 2 KC ?_|refine KM a4 3 KC ?_|refine KN a4 0 KC ?_|refine KN a4 1 KC ?_|refine KN a4 2 KC ?_|refine KO a4 1 KA (by assumption) rfl ?_|refine KO a4 0 KA (by assumption) rfl ?_|fail)|refine KW KA (fun _=>?_) (fun _=>?_))
 ·rename_i h1 h2
  have h3:=Ky h1
  have h4:=Ky h2
  obtain ⟨x,hx⟩:∃x,f.Glyphs[g.toNat]?=some x:=⟨_,Kz (by omega)⟩
  have hxg:=c5 (c:=bT) hx
  repeat' (first|refine L3 ?_|refine KG a4 HY ?_|refine KR HY ?_|(apply aQ;first|refine aO a4 ?_|refine aG a4 ?_)|fail)
  refine KP HY ⟨?_,rfl⟩
  rw [Dp h3 hx]
 ·rename_i h1 h2
  have h4:=Kx h2
  refine KP HY ⟨?_,rfl⟩
  rw [tc (by omega)]
 ·rename_i h1
  have h4:=Kx h1
  refine KP HY ⟨?_,rfl⟩
  rw [tc (by omega)]
def rZ (wb:Nat) (ig:Bool) (a s:Int):AV:= .fn 279 [.iptr [aF a],.iptr [dA wb],.iptr [aF s],.iptr [d6 ig]]
theorem Bi (wb:Nat) (ig:Bool) (a s:Int):bU Tryz.prog 246 [dA wb,d6 ig,aF a,aF s] (rZ wb ig a s):=by
 refine aN Tryz.func246 rfl Tryz.ntmps246 rfl fun B=>?_
 repeat' (first|refine L3 ?_|refine KG a4 HY ?_|refine bA ?_|fail)
 exact KQ KA
instance (wb:Nat) (ig:Bool) (a s:Int):AD Tryz.prog 246 [dA wb,d6 ig,aF a,aF s] (rZ wb ig a s):=⟨Bi wb ig a s⟩
abbrev ey (wb:Nat) (f:aZ) (v:AV) (q:Option dD) (run:List aJ):AL:=BB wb f (cM q run) v::fP q run
set_option maxHeartbeats 8000000 in
theorem zg {α:Type} {σ0:cr} {l wb:Nat} {f:aZ} {v:AV} {q:Option dD} {run:List aJ} (hq:cu q run) (hr:run.length≤1000000) (ig up:Bool) (a0:Int) (ha0:gS run up a0) (ha1:a0≤1000000) (E:α→AL) (J:Nat→α→Prop) (St:AL→Prop)
  (hy:∀i x p,J i x→(cg (aS f) ig run up a0)[i]?=some p→AY Tryz.prog σ0 l [aF (p:Nat)] (ey wb f v q run++E x) fun c L=>(c=d6 true∧∃x',J (i+1) x'∧L=ey wb f v q run++E x')∨(c=d6 false∧St L)) (x0:α) (h0:J 0 x0):
  Gj Tryz.prog σ0 279 [.sc (.func (.yield l) #[] #[]),.iptr [aF a0],.iptr [dA wb],.iptr [aF (iy up)],.iptr [d6 ig]] (ey wb f v q run++E x0) fun _ L=>(∃x,J (cg (aS f) ig run up a0).length x∧L=ey wb f v q run++E x)∨St L:=by
 refine wI Tryz.func279 rfl Tryz.ntmps279 rfl fun B hB=>?_
 repeat' (first|refine L3 ?_|refine ak ?_|refine KG a4 HY ?_)
 refine aR [0,2,3,4] (α:=Int×Nat×α) (fun y=>[(6,aF y.1)]) (fun y=>gS run up y.1∧y.1≤1000000∧J y.2.1 y.2.2∧y.2.1≤(cg (aS f) ig run up a0).length∧cg (aS f) ig run up y.1=(cg (aS f) ig run up a0).drop y.2.1) (fun y=>ey wb f v q run++E y.2.2) (fun y=>k8 run up y.1) (a0,0,x0) rfl ⟨rfl,trivial⟩ ⟨ha0,ha1,h0,Nat.zero_le _,rfl⟩ (fun _ _ h=>h) ?_
 rintro ⟨a,i,x⟩ ⟨hra,ha2,hj,hil,hd⟩
 dsimp only at hra ha2 hj hil hd ⊢
 try dsimp only [Kr,Kq,Kp,Lv]
 repeat' (first|refine L3 ?_|refine KG a4 HY ?_)
 refine ce [0,2,3,4,6] (0≤a∧a < run.length) rfl (fun Q' K=>?_) (fun hC=>?_) (fun hC=>?_)
 ·repeat' (first|refine L3 ?_|refine KG a4 HY ?_|refine KR HY ?_|refine KV KB ?_|(apply bo;first|refine KM a4 0 KC ?_|refine KM a4 1 KC ?_|refine KM a4 2 KC ?_|refine KM a4 3 KC ?_|refine KN a4 0 KC ?_|refine KN a4 1 KC ?_|refine KN a4 2 KC ?_|refine KO a4 1 KA (by assumption) rfl ?_|refine KO a4 0 KA (by assumption) rfl ?_|fail)|refine KW KA (fun _=>?_) (fun _=>?_))
  ·refine iw a4 rfl hq rfl rfl ?_
   repeat' (first|refine L3 ?_|refine KG a4 HY ?_|refine KR HY ?_)
   all_goals exact K _ _ rfl rfl (by simp_all <;> omega)
  ·exact K _ _ rfl rfl (by simp_all <;> omega)
 ·obtain ⟨h0,h1⟩:=hC
  obtain ⟨m,rfl⟩:=hq.lt (i:=a.toNat) (by omega)
  obtain ⟨z,hz⟩:∃z,run[a.toNat]?=some z:=⟨_,Kz (by omega)⟩
  have hst:=wg (ms:=aS f) (ig:=ig) (up:=up) h0 h1
  rw [mz hz] at hst
  have hnx:=gS.next (up:=up) h0 h1
  have hln:=rj (up:=up) h0 h1
  have hk3:a+iy up≤1000000:=by have:=hnx.1;unfold iy;split <;> omega
  have hk4: -9223372036854775808≤a+iy up∧a+iy up≤9223372036854775807:=by have:=hnx.1;omega
  have hf0:=ic (j:=0) m.junk hz rfl
  rw [Int.toNat_of_nonneg h0] at hf0
  have him:=t7 wb f (cM (some m) run) v z.Glyph
  have hyield:∀ha:a.toNat=a.toNat,(cg (aS f) ig run up a0)[i]?=some a.toNat→AY Tryz.prog σ0 l [aF a] (ey wb f v (some m) run++E x) fun c L=>(c=d6 true∧∃x',J (i+1) x'∧L=ey wb f v (some m) run++E x')∨(c=d6 false∧St L):=fun _ hip=>by
   have:=hy i x a.toNat hj hip
   rw [Int.toNat_of_nonneg h0] at this
   exact this
  cases ig
  ·rw [show iG (aS f) false z=true from rfl,if_pos rfl] at hst
   have hip:=(qb (hd.symm.trans hst)).1
   have hyy:=hyield rfl hip
   repeat' (first|refine L3 ?_|refine ak ?_)
   refine bn 13 [(0,.v),(1,.v),(2,.v),(3,.v),(4,.v),(5,.v),(6,.v),(7,.v),(8,.v),(9,.v),(10,.v),(11,.v),(12,.v)] none ?_ trivial rfl (by kernel_rfl) (by kernel_rfl) (by kernel_rfl) bI (by kernel_rfl) rfl
   repeat' (first|refine aB ?_|refine aX a4 ?_|refine ld rfl rfl ?_)
   refine KU [0,2,3,4,6,34] HY ?_
   repeat' (first|refine L3 ?_|refine a7 ?_|refine KG a4 HY ?_|refine bE rfl ?_)
   refine qh (ey wb f v (some m) run++E x) [] hB hyy rfl rfl rfl (by rw [List.append_nil];exact Lz _) rfl rfl fun c L1 hc=>?_
   rcases hc with ⟨hc,x',hj',hL⟩ | ⟨hc,hL⟩
   ·subst hc;subst hL
    rw [List.append_nil]
    repeat' (first|refine L3 ?_|refine KG a4 HY ?_|(apply aU;refine aT ?_)|refine bE rfl ?_)
    exact aD (a+iy up,i+1,x') rfl ⟨rfl,trivial⟩ ⟨hnx,hk3,hj',(Ko hip).1,(qb (hd.symm.trans hst)).2⟩ hln (fun _ _ h=>h)
   ·subst hc
    rw [List.append_nil]
    repeat' (first|refine L3 ?_|refine KG a4 HY ?_|refine bH rfl ?_)
    exact jt rfl (.inr hL)
  ·have hsg:iG (aS f) true z= !(pB (aS f) z.Glyph):=by unfold iG;rw [Bool.true_and]
   rw [hsg] at hst
   repeat' (first|refine L3 ?_|refine ak ?_)
   refine bn 13 [(0,.v),(1,.v),(2,.v),(3,.v),(4,.v),(5,.v),(6,.l),(7,.v),(8,.v),(9,.v),(10,.l),(11,.e),(12,.v)] none ?_ trivial rfl (by kernel_rfl) (by kernel_rfl) (by kernel_rfl) bI (by kernel_rfl) rfl
   repeat' (first|refine aB ?_|refine aX a4 ?_|refine KY a4 0 KB (by first|trivial|rfl) ?_)
   refine cR a4 rfl rfl rfl ⟨by omega,by omega⟩ rfl ?_
   repeat' (first|refine aB ?_|refine aX a4 ?_|fail)
   refine bN a4 1 rfl rfl rfl hf0 rfl ?_
   repeat' (first|refine aB ?_|fail)
   refine fG [BB wb f (cM (some m) run) v] _ him rfl rfl (Lz _) rfl fun c L1 ⟨hc,hL⟩=>?_
   subst hc;subst hL
   repeat' (first|refine aB ?_|refine aX a4 ?_|fail)
   refine KU [0,2,3,4,6,34] HY ?_
   repeat' (first|refine L3 ?_|refine a7 ?_|fail)
   refine aw rfl (fun hb=>?_) (fun hb=>?_)
   ·rw [hb,if_neg (by simp)] at hst
    repeat' (first|refine L3 ?_|refine KG a4 HY ?_|(apply aU;refine aT ?_)|fail)
    exact aD (a+iy up,i,x) rfl ⟨rfl,trivial⟩ ⟨hnx,hk3,hj,hil,hst.symm.trans hd⟩ hln (fun _ _ h=>h)
   ·rw [hb,if_pos (show (!false)=true from rfl)] at hst
    have hip:=(qb (hd.symm.trans hst)).1
    have hyy:=hyield rfl hip
    repeat' (first|refine L3 ?_|refine KG a4 HY ?_)
    refine qh (ey wb f v (some m) run++E x) [] hB hyy rfl rfl rfl (by rw [List.append_nil];exact Lz _) rfl rfl fun c L1 hc=>?_
    rcases hc with ⟨hc,x',hj',hL⟩ | ⟨hc,hL⟩
    ·subst hc;subst hL
     rw [List.append_nil]
     repeat' (first|refine L3 ?_|refine KG a4 HY ?_|(apply aU;refine aT ?_)|refine bE rfl ?_)
     exact aD (a+iy up,i+1,x') rfl ⟨rfl,trivial⟩ ⟨hnx,hk3,hj',(Ko hip).1,(qb (hd.symm.trans hst)).2⟩ hln (fun _ _ h=>h)
    ·subst hc
     rw [List.append_nil]
     repeat' (first|refine L3 ?_|refine KG a4 HY ?_|refine bH rfl ?_)
     exact jt rfl (.inr hL)
 ·rw [tw hra hC] at hd
  have hie:i=(cg (aS f) ig run up a0).length:=by
   have:=congrArg List.length hd
   rw [List.length_drop] at this
   simp at this
   omega
  repeat' (first|refine L3 ?_|fail)
  exact ca rfl (.inl ⟨x,hie▸hj,rfl⟩)
theorem DR {a:Nat×AB} {T R D Z:AL}:(a::(T++(R++(D++Z)))).Perm ((R++(a::(T++D)))++Z):=by
 have:=List.perm_append_comm_assoc (a::T) R (D++Z)
 simpa [List.append_assoc] using this
theorem DS {T R D Z:AL}:(T++(R++(D++Z))).Perm ((R++(T++D))++Z):=by
 have:=List.perm_append_comm_assoc T R (D++Z)
 simpa [List.append_assoc] using this
theorem vJ {run:List aJ} {up:Bool} {a:Int} (h:gS run up a) (hr:run.length≤1000000):k8 run up a≤1000001:=by
 have h1:=h.1
 have h2:=h.2.1
 have h3:=h.2.2
 unfold k8
 cases up <;> simp at h2 h3 ⊢ <;> omega
theorem tv {ms:List Bool} {ig:Bool} {run:List aJ} {up:Bool} {a:Int} (h:gS run up a):(cg ms ig run up a).length≤k8 run up a:=by
 have h1:=h.1
 have h2:=h.2.1
 have h3:=h.2.2
 unfold cg k8
 cases up
 ·simp only [Bool.false_eq_true,if_false]
  have key:∀i,(gN ms ig run i).length≤i:=fun i=>by
   induction i with
   | zero=>exact Nat.le_refl _
   | succ i ih=>
    rw [gN]
    split
    ·rw [List.length_cons];omega
    ·omega
  exact key _
 ·simp only [if_true]
  unfold dk
  refine Nat.le_trans (List.length_filter_le ..) ?_
  rw [List.length_range']
  simp at h2
  omega
section
variable {P:Program} {Q:Exit→Act→World→Prop} {nt:Nat} {D:List Deferred} {fr:cf} {B:Bs} {L:AL}
theorem v8 {fn:Func} {Post:AV→AL→Prop} {cs:List AV} (dbs:List Nat) (L0 L':AL) (hD:D=yX dbs) (hL:L.Perm (L0++dbs.map fun b=>(b,jH))) (hr:pJ P fr L0 fn.results.toList cs) (hs:L'.Sublist L0) (h:Post (sA cs) L'):AX P .ret (bodyPostM Fence.wide 0 P fn (jD B Post)) nt D fr B L:=by
 unfold AX
 intro σ a w ha hw
 show LeavesInM _ _ _ _ _ _ a.defers _ _
 rw [ha.defers,hD]
 refine kQ dbs L0 w (hw.perm hL) fun w' hw'=>?_
 obtain ⟨v,h1,h2⟩:=jC ha hw' hr
 exact ⟨v,h1,v,σ,sA cs,L',rfl,h2,hw'.sublist hs,h⟩
end
section
variable {wb:Nat} {f:aZ} {v:AV} {q:Option dD} {run:List aJ} (hq:cu q run) (hr:run.length≤1000000) (ig up:Bool) (a0:Int) (ha0:gS run up a0) (ha1:a0≤1000000)
include hq hr ha0 ha1
set_option maxHeartbeats 8000000 in
theorem sY (most:Nat) (hm:most≤1000000):AC Tryz.prog 245 [aF most,rZ wb ig a0 (iy up)] (ey wb f v q run) fun c L=>c= .imm 1 (bQ ((cg (aS f) ig run up a0).take most))∧L=ey wb f v q run:=by
 refine tL Tryz.func245 rfl Tryz.ntmps245 rfl fun B=>?_
 repeat' (first|refine L3 ?_|refine KG a4 HY ?_|refine bA ?_|fail)
 refine aw rfl (fun h0=>?_) (fun h0=>?_)
 ·have h0:most=0:=by have:=Ky h0;omega
  subst h0
  repeat' (first|refine L3 ?_|refine KG a4 HY ?_)
  refine bj (bS (t:=4) (c':= .imm 1 []) rfl fun σ v h=>i9 1 h) ?_
  exact kB (cs:=[.imm 1 []]) [] _ rfl (by simp) ⟨rfl,trivial⟩ ⟨rfl,rfl⟩
 ·have hm0:most≠0:=by have:=Kx h0;omega
  have hPl:=tv (ms:=aS f) (ig:=ig) ha0
  have hlb:=vJ ha0 hr
  clear h0
  repeat' (first|refine L3 ?_|refine ak ?_|refine KG a4 HY ?_|refine bq a4 fun _=>?_|fail)
  rename_i lb
  refine c8 (bG 0 (cs':=[.vec none 1 []]) rfl fun σ vs h=>mE.vrs (a:=[cS]) (b:=[.vec none 1 []]) ⟨da.vecN 1,trivial⟩ h) ?_
  refine mf (fr':=[(9,rZ wb ig a0 (iy up)),(2,.iptr [aF most]),(5,dA lb)]) (L':=ey wb f v q run++[(lb,.box [.vec none 1 []] 22)]) ⟨rfl,rfl,rfl,trivial⟩ (fun σ w h=>di.perm (L:=(lb,.box [.vec none 1 []] 22)::ey wb f v q run) h (List.perm_append_comm (l₁:=[(lb,AB.box [.vec none 1 []] 22)]))) ?_
  refine np (ps:=[10]) rfl fun σ0 l db rec hrec=>?_
  have hy:∀(i:Nat) (x:Nat×Option (Nat×Nat)) (p:Nat),(x.1=i∧i < most∧i≤(cg (aS f) ig run up a0).length)→(cg (aS f) ig run up a0)[i]?=some p→AY Tryz.prog σ0 l [aF (p:Nat)] (ey wb f v q run++((lb,.box [.vec x.2 1 (bQ ((cg (aS f) ig run up a0).take x.1))] 22)::(tok x.2 3 1 x.1++([(db,jH)]++[(l,jA rec)])))) fun c L=>(c=d6 true∧∃x':Nat×Option (Nat×Nat),(x'.1=i+1∧i+1 < most∧i+1≤(cg (aS f) ig run up a0).length)∧L=ey wb f v q run++((lb,.box [.vec x'.2 1 (bQ ((cg (aS f) ig run up a0).take x'.1))] 22)::(tok x'.2 3 1 x'.1++([(db,jH)]++[(l,jA rec)]))))∨(c=d6 false∧∃q',most≤(cg (aS f) ig run up a0).length∧L=(ey wb f v q run++((lb,.box [.vec q' 1 (bQ ((cg (aS f) ig run up a0).take most))] 22)::(tok q' 3 1 most++[(db,jH)])))++[(l,jA { ({ rec with state:= .busy }:Loop) with state:= .done,pending:=some (.exit 0) })]):=by
   rintro i ⟨k,qq⟩ p ⟨hk,hkm,hkl⟩ hip
   dsimp only at hk ⊢
   subst hk
   have hil:=(Ko hip).1
   have hnk:(bQ ((cg (aS f) ig run up a0).take k)).length=k:=by rw [f8,List.length_take];omega
   have hst:bQ ((cg (aS f) ig run up a0).take k)++[[aF (p:Nat)]]=bQ ((cg (aS f) ig run up a0).take (k+1)):=by rw [List.take_add_one,hip,Option.toList_some,tf]
   have hE:ey wb f v q run++((lb,AB.box [.vec qq 1 (bQ ((cg (aS f) ig run up a0).take k))] 22)::(tok qq 3 1 k++([(db,jH)]++[(l,jA rec)])))=(ey wb f v q run++((lb,AB.box [.vec qq 1 (bQ ((cg (aS f) ig run up a0).take k))] 22)::(tok qq 3 1 k++[(db,jH)])))++[(l,jA rec)]:=by simp
   rw [hE]
   refine yA hrec rfl rfl fun B1 hB1=>?_
   repeat' (first|refine L3 ?_|refine KG a4 HY ?_)
   refine nq hrec.state ?_
   refine c8 (aI (DR (Z:=[(l,_)])).symm) ?_
   generalize bQ ((cg (aS f) ig run up a0).take k)=A at *
   generalize ey wb f v q run=R at *
   repeat' (first|refine L3 ?_|refine ak ?_|refine KG a4 HY ?_|(apply bo;first|refine KM a4 0 KC ?_|refine KM a4 1 KC ?_|refine KM a4 2 KC ?_|refine KM a4 3 KC ?_|refine KN a4 0 KC ?_|refine KN a4 1 KC ?_|refine KN a4 2 KC ?_|refine KO a4 1 KA (by assumption) rfl ?_|refine KO a4 0 KA (by assumption) rfl ?_|fail)|refine bW a4 ?_|fail)
   refine bV a4 _ rfl rfl rfl rfl (by rw [hnk];exact List.perm_middle.symm) (by rw [hnk];simp only [List.length_cons,List.length_nil];omega) (by rw [hnk];simp only [List.length_cons,List.length_nil];omega) rfl fun q'=>?_
   refine aP (aI List.perm_middle) ?_
   rw [hst]
   have hnk2:(bQ ((cg (aS f) ig run up a0).take (k+1))).length=k+1:=by rw [←hst,List.length_append,hnk];rfl
   generalize hA2:bQ ((cg (aS f) ig run up a0).take (k+1))=A2 at *
   repeat' (first|refine L3 ?_|refine KG a4 HY ?_|(apply bo;first|refine KM a4 0 KC ?_|refine KM a4 1 KC ?_|refine KM a4 2 KC ?_|refine KM a4 3 KC ?_|refine KN a4 0 KC ?_|refine KN a4 1 KC ?_|refine KN a4 2 KC ?_|refine KO a4 1 KA (by assumption) rfl ?_|refine KO a4 0 KA (by assumption) rfl ?_|fail)|(apply aM;first|refine KH a4 0 KE ?_|refine KH a4 1 KE ?_|refine KH a4 2 KE ?_|refine KH a4 3 KE ?_|fail))
   refine aw rfl (fun h=>?_) (fun h=>?_)
   ·have hkm2:k+1=most:=by have:=Ky h;omega
    repeat' (first|refine L3 ?_|refine c9 rfl ?_)
    refine bj (aI (DR (Z:=[(l,_)]))) (v9 (.inr ⟨rfl,q',by omega,?_⟩))
    rw [←hkm2,hA2,hnk2]
    rfl
   ·have hkm2:k+1≠most:=by have:=Kx h;omega
    repeat' (first|refine L3 ?_|fail)
    refine bj (aI (DR (Z:=[(l,_)]))) (wT (.inl ⟨rfl,(k+1,q'),⟨rfl,by omega,by omega⟩,?_⟩))
    rw [rR hrec.state hrec.pending]
    dsimp only
    rw [hA2,hnk2]
    simp
    rfl
  have hit:=zg (σ0:=σ0) (l:=l) (wb:=wb) (f:=f) (v:=v) hq hr ig up a0 ha0 ha1 (fun x:Nat×Option (Nat×Nat)=>(lb,.box [.vec x.2 1 (bQ ((cg (aS f) ig run up a0).take x.1))] 22)::(tok x.2 3 1 x.1++([(db,jH)]++[(l,jA rec)]))) (fun i x=>x.1=i∧i < most∧i≤(cg (aS f) ig run up a0).length) _ hy (0,none) ⟨rfl,by omega,Nat.zero_le _⟩
  refine ⟨_,hit.perm (List.Perm.of_eq (by simp [tok];rfl)),?_⟩
  rintro c L' (⟨⟨k,qq⟩,⟨hk,hkm,hkl⟩,hL⟩ | ⟨q',hml,hL⟩)
  ·dsimp only at hk hL
   subst hk
   have ht:(cg (aS f) ig run up a0).take most=(cg (aS f) ig run up a0).take (cg (aS f) ig run up a0).length:=by
    rw [List.take_length,List.take_of_length_le (by omega)]
   subst hL
   refine ⟨rec,ey wb f v q run++((lb,.box [.vec qq 1 (bQ ((cg (aS f) ig run up a0).take (cg (aS f) ig run up a0).length))] 22)::(tok qq 3 1 (cg (aS f) ig run up a0).length++[(db,jH)])),List.Perm.of_eq (by simp),(by rw [hrec.state];intro h;cases h),?_⟩
   rw [hrec.pending]
   show AX _ _ _ _ _ _ _ _
   refine bj (aI (L':=(lb,.box [.vec qq 1 (bQ ((cg (aS f) ig run up a0).take (cg (aS f) ig run up a0).length))] 22)::(tok qq 3 1 (cg (aS f) ig run up a0).length++(ey wb f v q run++[(db,jH)]))) ?_) ?_
   ·have:=(DR (a:=(lb,AB.box [.vec qq 1 (bQ ((cg (aS f) ig run up a0).take (cg (aS f) ig run up a0).length))] 22)) (T:=tok qq 3 1 (cg (aS f) ig run up a0).length) (R:=ey wb f v q run) (D:=[(db,jH)]) (Z:=[])).symm
    simpa using this
   rw [ht]
   generalize bQ ((cg (aS f) ig run up a0).take (cg (aS f) ig run up a0).length)=A at *
   repeat' (first|refine L3 ?_|refine KG a4 HY ?_|(apply bo;first|refine KM a4 0 KC ?_|refine KM a4 1 KC ?_|refine KM a4 2 KC ?_|refine KM a4 3 KC ?_|refine KN a4 0 KC ?_|refine KN a4 1 KC ?_|refine KN a4 2 KC ?_|refine KO a4 1 KA (by assumption) rfl ?_|refine KO a4 0 KA (by assumption) rfl ?_|fail)|fail)
   refine bj (bS (t:=4) (c':= .imm 1 A) rfl fun σ v h=>VR.im h) ?_
   refine dH (L':=ey wb f v q run++[(db,jH)]) ((List.sublist_append_right _ _).cons _) ?_
   exact kB (cs:=[.imm 1 A]) [db] (ey wb f v q run) rfl (Lz _) ⟨rfl,trivial⟩ ⟨rfl,rfl⟩
  ·subst hL
   refine ⟨_,_,Lz _,(by intro h;cases h),?_⟩
   show AX _ _ _ _ _ _ _ _
   refine bj (aI (L':=(lb,.box [.vec q' 1 (bQ ((cg (aS f) ig run up a0).take most))] 22)::(tok q' 3 1 most++(ey wb f v q run++[(db,jH)]))) ?_) ?_
   ·have:=(DR (a:=(lb,AB.box [.vec q' 1 (bQ ((cg (aS f) ig run up a0).take most))] 22)) (T:=tok q' 3 1 most) (R:=ey wb f v q run) (D:=[(db,jH)]) (Z:=[])).symm
    simpa using this
   generalize bQ ((cg (aS f) ig run up a0).take most)=A at *
   repeat' (first|refine L3 ?_|refine KG a4 HY ?_|(apply bo;first|refine KM a4 0 KC ?_|refine KM a4 1 KC ?_|refine KM a4 2 KC ?_|refine KM a4 3 KC ?_|refine KN a4 0 KC ?_|refine KN a4 1 KC ?_|refine KN a4 2 KC ?_|refine KO a4 1 KA (by assumption) rfl ?_|refine KO a4 0 KA (by assumption) rfl ?_|fail)|fail)
   refine bj (bS (t:=4) (c':= .imm 1 A) rfl fun σ v h=>VR.im h) ?_
   refine dH (L':=ey wb f v q run++[(db,jH)]) ((List.sublist_append_right _ _).cons _) ?_
   exact kB (cs:=[.imm 1 A]) [db] (ey wb f v q run) rfl (Lz _) ⟨rfl,trivial⟩ ⟨rfl,rfl⟩
set_option maxHeartbeats 8000000 in
theorem FK (n:Nat) (hn:n≤1000000) (i:Nat) (hi:a0=(i:Int)) (hup:up=true):AC Tryz.prog 282 [dA wb,d6 ig,aF i,aF n] (ey wb f v q run) fun c L=>c=(match mC (aS f) ig run i (n:Int) with | some j=> .tup [aF j,d6 true] | none=> .tup [aF 0,d6 false])∧L=ey wb f v q run:=by
 subst hi;subst hup
 have hnv:mC (aS f) ig run i (n:Int)=(cg (aS f) ig run true (i:Int))[n]?:=by
  unfold mC
  rw [if_pos (by omega),s5,Int.toNat_natCast]
 rw [hnv]
 refine tL Tryz.func282 rfl Tryz.ntmps282 rfl fun B=>?_
 repeat' (first|refine L3 ?_|refine ak ?_|refine KG a4 HY ?_|refine te (d:=7) fun _=>?_|refine bq a4 fun _=>?_|(apply bF;refine bv ?_)|fail)
 rename_i b7 b8 b9
 have hPl:=tv (ms:=aS f) (ig:=ig) ha0
 have hlb:=vJ ha0 hr
 refine mf (fr':=[(14,rZ wb ig i (iy true)),(7,dA b7),(8,dA b8),(9,dA b9)]) (L':=ey wb f v q run++[(b9,.box [d6 false] 4),(b8,.box [aF 0] 3),(b7,.box [aF n] 3)]) ⟨rfl,rfl,rfl,rfl,trivial⟩ (fun σ w h=>di.perm h (List.perm_append_comm (l₁:=[_,_,_]))) ?_
 refine np (ps:=[15]) rfl fun σ0 l db rec hrec=>?_
 have hy:∀(k:Nat) (x:Nat) (p:Nat),(x=k∧k≤n)→(cg (aS f) ig run true (i:Int))[k]?=some p→AY Tryz.prog σ0 l [aF (p:Nat)] (ey wb f v q run++([(b9,.box [d6 false] 4),(b8,.box [aF 0] 3),(b7,.box [aF ((n:Int) - x)] 3)]++([(db,jH)]++[(l,jA rec)]))) fun c L=>(c=d6 true∧∃x':Nat,(x'=k+1∧k+1≤n)∧L=ey wb f v q run++([(b9,.box [d6 false] 4),(b8,.box [aF 0] 3),(b7,.box [aF ((n:Int) - x')] 3)]++([(db,jH)]++[(l,jA rec)])))∨(c=d6 false∧∃p:Nat,(cg (aS f) ig run true (i:Int))[n]?=some p∧L=(ey wb f v q run++([(b9,.box [d6 true] 4),(b8,.box [aF p] 3),(b7,.box [aF ((n:Int) - n)] 3)]++[(db,jH)]))++[(l,jA { ({ rec with state:= .busy }:Loop) with state:= .done,pending:=some .ret })]):=by
  rintro k x p ⟨rfl,hkn⟩ hip
  have hE:ey wb f v q run++([(b9,.box [d6 false] 4),(b8,.box [aF 0] 3),(b7,.box [aF ((n:Int) - x)] 3)]++([(db,jH)]++[(l,jA rec)]))=(ey wb f v q run++([(b9,.box [d6 false] 4),(b8,.box [aF 0] 3),(b7,.box [aF ((n:Int) - x)] 3)]++[(db,jH)]))++[(l,jA rec)]:=by simp
  rw [hE]
  refine yA hrec rfl rfl fun B1 hB1=>?_
  repeat' (first|refine L3 ?_|refine KG a4 HY ?_)
  refine nq hrec.state ?_
  refine c8 (aI (DS (Z:=[(l,_)])).symm) ?_
  generalize ey wb f v q run=R at *
  repeat' (first|refine L3 ?_|refine ak ?_|refine KG a4 HY ?_|(apply bo;first|refine KM a4 0 KC ?_|refine KM a4 1 KC ?_|refine KM a4 2 KC ?_|refine KM a4 3 KC ?_|refine KN a4 0 KC ?_|refine KN a4 1 KC ?_|refine KN a4 2 KC ?_|refine KO a4 1 KA (by assumption) rfl ?_|refine KO a4 0 KA (by assumption) rfl ?_|fail)|fail)
  refine aw rfl (fun h=>?_) (fun h=>?_)
  ·have hkn2:x=n:=by have:=Ky h;omega
   subst hkn2
   repeat' (first|refine L3 ?_|refine KG a4 HY ?_|(apply aM;first|refine KH a4 0 KE ?_|refine KH a4 1 KE ?_|refine KH a4 2 KE ?_|refine KH a4 3 KE ?_|fail))
   exact bj (aI (DS (T:=[_,_,_]) (Z:=[(l,_)]))) (qE (.inr ⟨rfl,p,hip,rfl⟩))
  ·have hkn2:x≠n:=by have:=Kx h;omega
   repeat' (first|refine L3 ?_|(apply bo;first|refine KM a4 0 KC ?_|refine KM a4 1 KC ?_|refine KM a4 2 KC ?_|refine KM a4 3 KC ?_|refine KN a4 0 KC ?_|refine KN a4 1 KC ?_|refine KN a4 2 KC ?_|refine KO a4 1 KA (by assumption) rfl ?_|refine KO a4 0 KA (by assumption) rfl ?_|fail)|(apply aU;refine aT ?_)|(apply aM;first|refine KH a4 0 KE ?_|refine KH a4 1 KE ?_|refine KH a4 2 KE ?_|refine KH a4 3 KE ?_|fail))
   refine bj (aI (DS (T:=[_,_,_]) (Z:=[(l,_)]))) (wT (.inl ⟨rfl,x+1,⟨rfl,by omega⟩,?_⟩))
   rw [rR hrec.state hrec.pending,show ((x+1:Nat):Int)=(x:Int)+1 from rfl,show (n:Int) - ((x:Int)+1)=(n:Int) - x - 1 by omega]
   simp
   rfl
 have hit:=zg (σ0:=σ0) (l:=l) (wb:=wb) (f:=f) (v:=v) hq hr ig true (i:Int) ha0 ha1 (fun x:Nat=>[(b9,.box [d6 false] 4),(b8,.box [aF 0] 3),(b7,.box [aF ((n:Int) - x)] 3)]++([(db,jH)]++[(l,jA rec)])) (fun k x=>x=k∧k≤n) _ hy 0 ⟨rfl,Nat.zero_le _⟩
 refine ⟨_,hit.perm (List.Perm.of_eq (by simp)),?_⟩
 rintro c L' (⟨x,⟨hx,hxn⟩,hL⟩ | ⟨p,hp,hL⟩)
 ·subst hL
  refine ⟨rec,ey wb f v q run++([(b9,.box [d6 false] 4),(b8,.box [aF 0] 3),(b7,.box [aF ((n:Int) - x)] 3)]++[(db,jH)]),List.Perm.of_eq (by simp),(by rw [hrec.state];intro h;cases h),?_⟩
  rw [hrec.pending,List.getElem?_eq_none hxn]
  show AX _ _ _ _ _ _ _ _
  refine bj (aI (L':=[(b9,.box [d6 false] 4),(b8,.box [aF 0] 3),(b7,.box [aF ((n:Int) - x)] 3)]++(ey wb f v q run++[(db,jH)])) ?_) ?_
  ·have:=(DS (T:=[(b9,AB.box [d6 false] 4),(b8,.box [aF 0] 3),(b7,.box [aF ((n:Int) - x)] 3)]) (R:=ey wb f v q run) (D:=[(db,jH)]) (Z:=[])).symm
   simpa using this
  repeat' (first|refine L3 ?_|(apply aM;first|refine KH a4 0 KE ?_|refine KH a4 1 KE ?_|refine KH a4 2 KE ?_|refine KH a4 3 KE ?_|fail))
  exact v8 (cs:=[aF 0,d6 false]) [db] ([(b9,.box [d6 false] 4),(b8,.box [aF 0] 3),(b7,.box [aF ((n:Int) - x)] 3)]++ey wb f v q run) (ey wb f v q run) rfl (Lz _) ⟨⟨b8,1,_,_,rfl,rfl,.inl ⟨cT a4 rfl,rfl⟩⟩,⟨b9,0,_,_,rfl,rfl,.inl ⟨cT a4 rfl,rfl⟩⟩,trivial⟩ (List.sublist_append_right ..) ⟨rfl,rfl⟩
 ·subst hL
  rw [hp]
  refine ⟨_,_,Lz _,(by intro h;cases h),?_⟩
  show AX _ _ _ _ _ _ _ _
  refine bj (aI (L':=[(b9,.box [d6 true] 4),(b8,.box [aF p] 3),(b7,.box [aF ((n:Int) - n)] 3)]++(ey wb f v q run++[(db,jH)])) ?_) ?_
  ·have:=(DS (T:=[(b9,AB.box [d6 true] 4),(b8,.box [aF p] 3),(b7,.box [aF ((n:Int) - n)] 3)]) (R:=ey wb f v q run) (D:=[(db,jH)]) (Z:=[])).symm
   simpa using this
  repeat' (first|refine L3 ?_|fail)
  exact v8 (cs:=[aF p,d6 true]) [db] ([(b9,.box [d6 true] 4),(b8,.box [aF p] 3),(b7,.box [aF ((n:Int) - n)] 3)]++ey wb f v q run) (ey wb f v q run) rfl (Lz _) ⟨⟨b8,1,_,_,rfl,rfl,.inl ⟨cT a4 rfl,rfl⟩⟩,⟨b9,0,_,_,rfl,rfl,.inl ⟨cT a4 rfl,rfl⟩⟩,trivial⟩ (List.sublist_append_right ..) ⟨rfl,rfl⟩
end
end Go.Proofs.YtpmdfoaadejmkaaGreatDoor
