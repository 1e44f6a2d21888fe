/-
  The program's rules: sets that rise, looked at.
-/
import Derived.Test.YtpbinloeemebkaaGreatM28
import Derived.Test.YtpbinloeemebkaaGreatM09
namespace Go.Proofs.YtpbinloeemebkaaGreat
open Go.RowKit
attribute [local irreducible] AT bO AX AO Av Kt bo dU DA cT
theorem D4 (x:Int):bM Tryz.prog 220 [aH x] (c9 false):=by
 refine aT Tryz.func220 rfl Tryz.ntmps220 rfl fun B=>?_
 repeat' (first|refine go ?_|refine HF a1 F8 ?_)
 exact HN F8 (by simp)
instance (x:Int):AD Tryz.prog 220 [aH x] (c9 false):=⟨D4 x⟩
theorem Bi (x:Int):bM Tryz.prog 207 [aH x] (c9 false):=by
 refine aT Tryz.func207 rfl Tryz.ntmps207 rfl fun B=>?_
 repeat' (first|refine go ?_|refine HF a1 F8 ?_)
 exact HN F8 (by simp)
instance (x:Int):AD Tryz.prog 207 [aH x] (c9 false):=⟨Bi x⟩
theorem AS (x y:Int):bM Tryz.prog 142 [aH x,aH y] (c9 (decide (x < y))):=by
 refine aT Tryz.func142 rfl Tryz.ntmps142 rfl fun B=>?_
 repeat' (first|refine go ?_|refine HF a1 F8 ?_|refine HO F8 ?_|refine HS HB ?_|(apply bD;refine bf ?_)|fail)
 exact HP HA
instance (x y:Int):AD Tryz.prog 142 [aH x,aH y] (c9 (decide (x < y))):=⟨AS x y⟩
theorem Dy {z:Int} (h:0≤z∧z < 18446744073709551616):IntKind.wrap .u64 z=z:=by
 rw [IntKind.wrap_u64]
 omega
theorem n6 {s:List Int} (h:kA s) {i j:Nat} {x y:Int} (hx:s[i]?=some x) (hy:s[j]?=some y) (hij:i < j):x < y:=by
 obtain ⟨h1,rfl⟩:=Hp hx
 obtain ⟨h2,rfl⟩:=Hp hy
 exact List.pairwise_iff_getElem.1 h i j h1 h2 hij
set_option maxHeartbeats 4000000 in
theorem z2 (s:List Int) (hs:kA s) (hn:s.length≤1000000) (g:Int):AC Tryz.prog 127 [.imm 1 (aS s),aH g] [] fun c _=>∃p:Int,c= .tup [aH p,c9 (s.contains g)]:=by
 refine aT Tryz.func127 rfl Tryz.ntmps127 rfl fun B=>?_
 have hsl:=aN s
 repeat' (first|refine go ?_|refine ak ?_|refine HF a1 F8 ?_)
 refine aR [0,1,6] (α:=Nat×Nat) (fun x=>[(7,aH x.1),(8,aH x.2)]) (fun x=>x.1≤x.2∧x.2≤s.length∧(∀(k:Nat) z,k < x.1→s[k]?=some z→z < g)∧∀(k:Nat) z,x.2≤k→s[k]?=some z→g≤z) (fun _=>[]) (fun x=>x.2 - x.1) (0,s.length) rfl ⟨rfl,by rw [hsl];rfl,trivial⟩ ⟨Nat.zero_le _,Nat.le_refl _,(fun k z h=>by omega),fun k z h hz=>by have:=(Hp hz).1;omega⟩ (fun _ _ h=>h) ?_
 rintro ⟨i,j⟩ ⟨hij,hj,hlo,hhi⟩
 dsimp only at hij hj hlo hhi ⊢
 try dsimp only [Hs,Hr,Hq,Hl]
 repeat' (first|refine go ?_|refine HF a1 F8 ?_)
 refine ay rfl (fun h=>?_) (fun h=>?_)
 ·have hlt:i < j:=by have:=Hy h;omega
  clear h
  obtain ⟨m,hm1,hm2⟩:∃m:Nat,((i:Int)+j) / 2 ^ min 1 64=m∧i≤m∧m < j:=⟨(i+j) / 2,by rw [show min 1 64=1 from rfl];omega,by omega,by omega⟩
  obtain ⟨z,hz⟩:∃z,s[m]?=some z:=⟨_,Hz (by omega)⟩
  have hzg:=bG hz
  repeat' (first|refine go ?_|refine ak ?_|refine HF a1 F8 ?_|(apply aZ;refine aY ?_)|fail)
  refine xb a1 rfl rfl rfl rfl rfl rfl ?_
  rw [Dy (by omega)]
  repeat' (first|fail)
  refine EU 1 rfl rfl rfl rfl ?_
  rw [show IntKind.u64.bits=64 from rfl,hm1]
  repeat' (first|fail)
  refine xb a1 rfl rfl rfl rfl rfl rfl ?_
  rw [nI (by omega)]
  repeat' (first|refine go ?_|refine HF a1 F8 ?_|(apply aX;first|refine aU a1 ?_|refine aK a1 ?_)|(apply bD;refine bf ?_)|fail)
  refine ay rfl (fun h=>?_) (fun h=>?_)
  ·have hzl:z < g:=Hy h
   repeat' (first|refine go ?_|refine HF a1 F8 ?_|(apply aZ;refine aY ?_)|fail)
   refine aF (m+1,j) rfl ⟨by rw [Hv];rfl,rfl,trivial⟩ ⟨by dsimp only;omega,hj,fun k y hk hy=>?_,hhi⟩ (by dsimp only;omega) (fun _ _ h=>h)
   rcases Nat.lt_or_ge k m with hkm | hkm
   ·have:=n6 hs hy hz hkm
    omega
   ·have:k=m:=by dsimp only at hk;omega
    subst this
    rw [hz] at hy
    cases hy
    exact hzl
  ·have hzl:¬z < g:=Hx h
   repeat' (first|refine go ?_|refine HF a1 F8 ?_)
   refine aF (i,m) rfl ⟨rfl,rfl,trivial⟩ ⟨by dsimp only;omega,by dsimp only;omega,hlo,fun k y hk hy=>?_⟩ (by dsimp only;omega) (fun _ _ h=>h)
   rcases Nat.lt_or_ge m k with hkm | hkm
   ·have:=n6 hs hz hy hkm
    omega
   ·have:k=m:=by dsimp only at hk;omega
    subst this
    rw [hz] at hy
    cases hy
    omega
 ·have hle:i=j:=by have:=Hx h;omega
  subst hle
  clear h
  have hno:s.contains g=true→s[i]?=some g:=fun hc=>by
   obtain ⟨k,hk⟩:=List.getElem?_of_mem (List.contains_iff_mem.1 hc)
   rcases Nat.lt_trichotomy k i with h | h | h
   ·have:=hlo k g h hk;omega
   ·rw [←h];exact hk
   ·have hil:i < s.length:=by have:=(Hp hk).1;omega
    have h1:=hhi i _ (Nat.le_refl _) (Hz hil)
    have h2:=n6 hs (Hz hil) hk h
    omega
  repeat' (first|refine go ?_|refine HF a1 F8 ?_|refine HO F8 ?_|refine HS HB ?_|refine cR rfl rfl rfl ?_|refine be rfl rfl rfl (fun _=>?_) (fun _=>?_))
  ·rename_i h1
   have hil:i < s.length:=by have:=Hy h1;omega
   obtain ⟨z,hz⟩:∃z,s[i]?=some z:=⟨_,Hz hil⟩
   have hzg:=bG hz
   have hcz:s.contains g=decide (z=g):=by
    rw [Bool.eq_iff_iff,decide_eq_true_eq]
    constructor
    ·intro hc
     have:=hno hc
     rw [hz] at this
     exact Option.some.inj this
    ·intro e
     rw [List.contains_iff_mem]
     exact Hw (e▸hz)
   rw [hcz]
   repeat' (first|refine go ?_|refine HF a1 F8 ?_|refine HO F8 ?_|refine HS HB ?_|refine cR rfl rfl rfl ?_|(apply aX;first|refine aU a1 ?_|refine aK a1 ?_)|(apply bD;refine bf ?_)|refine be rfl rfl rfl (fun _=>?_) (fun _=>?_))
   ·rename_i h2
    refine HT HA ⟨(i:Int),?_⟩
    first | (rw [h2];done) | (rw [h2];rfl)
   ·rename_i h2
    refine HT HA ⟨(i:Int),?_⟩
    first | (rw [h2];done) | (rw [h2];rfl)
  ·rename_i h1
   have hil:¬i < s.length:=by have:=Hx h1;omega
   have hcz:s.contains g=false:=by
    rw [Bool.eq_false_iff]
    intro hc
    have:=(Hp (hno hc)).1
    omega
   rw [hcz]
   exact HT HA ⟨(i:Int),rfl⟩
theorem yj (s:List Int) (hs:kA s) (hn:s.length≤1000000) (g:Int):bM Tryz.prog 126 [.imm 1 (aS s),aH g] (c9 (s.contains g)):=by
 refine aT Tryz.func126 rfl Tryz.ntmps126 rfl fun B=>?_
 repeat' (first|refine go ?_|refine HF a1 F8 ?_)
 refine bb [] _ (z2 s hs hn g) rfl rfl (Ho _) rfl fun c L1 ⟨p,hc⟩=>?_
 subst hc
 repeat' (first|refine go ?_|refine HF a1 F8 ?_)
 exact HP HA
theorem uG (s:List Int) (hs:kA s) (hn:s.length≤1000000):bM Tryz.prog 260 [.imm 1 (aS s)] (c9 true):=by
 refine aT Tryz.func260 rfl Tryz.ntmps260 rfl fun B=>?_
 have hsl:=aN s
 repeat' (first|refine go ?_|refine ak ?_|refine HF a1 F8 ?_|(apply aZ;refine aY ?_)|fail)
 refine aR [0] (α:=Nat) (fun k=>[(3,aH ((k:Int) - 1))]) (fun k=>k≤s.length) (fun _=>[]) (fun k=>k) s.length rfl ⟨by rw [hsl];rfl,trivial⟩ (Nat.le_refl _) (fun _ _ h=>h) fun k hk=>?_
 try dsimp only [Hs,Hr,Hq,Hl]
 repeat' (first|refine go ?_|refine HF a1 F8 ?_)
 refine ay rfl (fun h=>?_) (fun h=>?_)
 ·obtain ⟨i,rfl⟩:∃i,k=i+2:=⟨k - 2,by have:=Hy h;omega⟩
  obtain ⟨x,hx⟩:∃z,s[i]?=some z:=⟨_,Hz (by omega)⟩
  obtain ⟨y,hy⟩:∃z,s[i+1]?=some z:=⟨_,Hz (by omega)⟩
  have hlt:=n6 hs hx hy (by omega)
  rw [show ((i+2:Nat):Int) - 1=((i+1:Nat):Int) by omega]
  have hxg:(aS s)[(((i+1:Nat):Int) - 1).toNat]?=some [aH x]:=by rw [show (((i+1:Nat):Int) - 1).toNat=i by omega];exact bG hx
  have hyg:=bG hy
  clear h
  repeat' (first|refine go ?_|refine ak ?_)
  refine bj 9 [(0,.v),(1,.v),(2,.v),(3,.v),(4,.v),(5,.v),(6,.v),(7,.v),(8,.v)] none ?_ trivial rfl (by kernel_rfl) (by kernel_rfl) (by kernel_rfl) mixed (by kernel_rfl) rfl
  repeat' (first|refine aE ?_|refine ba a1 ?_|(apply dB;refine eK ?_)|(apply co;refine cJ a1 ?_)|fail)
  refine HR [0,3,14,19] F8 ?_
  repeat' (first|refine go ?_|refine a8 ?_|(apply bD;refine bf ?_)|fail)
  refine ay rfl (fun h=>?_) (fun h=>?_)
  ·have:=Hy h
   omega
  ·repeat' (first|refine go ?_|refine HF a1 F8 ?_|(apply aZ;refine aY ?_)|fail)
   exact aF (i+1) rfl ⟨rfl,trivial⟩ (by omega) (by omega) (fun _ _ h=>h)
 ·repeat' (first|refine go ?_|refine HF a1 F8 ?_)
  exact HP HA
structure r5 (l:List (List Int)):Prop where
 few:l.length≤200
 set:∀s∈l,kA s∧s.length≤1000000
structure pb (r:bv):Prop where
 back:r5 r.Back
 in_:r5 r.In
 ahead:r5 r.Ahead
theorem lG.ruleR {f:aL} (h:lG f) {l:aP} (hl:l∈f.Lookups) {r:bv} (hr:r∈l.Rules):pb r:=by
 have hb:=(h.rule l hl r hr).b
 have hg:=h.glyphs.2
 have key:∀q:List (List Int),(∀s∈q,kA s∧∀g∈s,0≤g∧g < (f.Glyphs.length:Int))→q.length≤200→r5 q:=fun q hq hl=>⟨hl,fun s hs=>⟨(hq s hs).1,by have:=iD (ur (hq s hs).1) (hq s hs).2;omega⟩⟩
 exact ⟨key _ hb.back hb.long.1,key _ hb.in_ (by have:=hb.long.2;omega),key _ hb.ahead (by have:=hb.long.2;omega)⟩
set_option maxHeartbeats 4000000 in
theorem jY (l:List (List Int)) (hl:r5 l):bM Tryz.prog 206 [.imm 1 (bz l)] (.imm 1 (bz l)):=by
 refine aT Tryz.func206 rfl Tryz.ntmps206 rfl fun B=>?_
 have hil:=d3 l
 have hfew:=hl.few
 repeat' (first|refine go ?_|refine HF a1 F8 ?_)
 refine jb a1 l.length rfl rfl rfl rfl rfl (by rw [hil]) (by rw [hil]) (by omega) (by omega) rfl fun rb=>?_
 repeat' (first|refine go ?_|refine ak ?_|refine HF a1 F8 ?_)
 refine aR [3,9,10] (α:=Nat) (fun i=>[(11,aH i)]) (fun i=>i≤l.length) (fun i=>[(rb,.box (eL (fun s=>[AV.imm 1 (aS s)]) [fp] l i).flatten 29)]) (fun i=>l.length - i) 0 rfl ⟨rfl,trivial⟩ (Nat.zero_le _) (fun _ _ hh=>by rw [m7];exact hh) fun i hi=>?_
 try dsimp only [Hs,Hr,Hq,Hl]
 repeat' (first|refine go ?_|refine HF a1 F8 ?_)
 refine ay rfl (fun h1=>?_) (fun h1=>?_)
 ·have hi2:i < l.length:=by have:=Hy h1;omega
  obtain ⟨s,hsi⟩:∃z,l[i]?=some z:=⟨_,Hz hi2⟩
  have hsg:=lE hsi
  have hss:=hl.set s (Hw hsi)
  haveI:=AD.mk (uG s hss.1 hss.2)
  have hsz:∀q∈eL (fun s=>[AV.imm 1 (aS s)]) [fp] l i,q.length=1:=by
   intro q hq
   unfold eL at hq
   rw [List.mem_append] at hq
   rcases hq with hq | hq
   ·obtain ⟨_,_,rfl⟩:=List.mem_map.1 hq;rfl
   ·rw [(List.mem_replicate.1 hq).2];rfl
  have hfl:=nG (w:=fun s=>[AV.imm 1 (aS s)]) (z:=[fp]) (l:=l) (i:=i) hi
  have hput:=lr (sz:=1) (l:=eL (fun s=>[AV.imm 1 (aS s)]) [fp] l i) (i:=i) (e:=[AV.imm 1 (aS s)]) hsz rfl (by omega)
  rw [nH hsi] at hput
  have hfll:(eL (fun s=>[AV.imm 1 (aS s)]) [fp] l i).flatten.length=l.length * 1:=by rw [eM _ hsz,hfl]
  clear h1
  repeat' (first|refine go ?_|refine ak ?_|refine HF a1 F8 ?_|(apply aX;first|refine aU a1 ?_|refine aK a1 ?_)|(apply bD;refine bf ?_)|refine bL rfl ?_)
  refine ah a1 0 rfl rfl rfl rfl rfl rfl (Nat.ble_eq_true_of_le (by rw [hfll,Int.toNat_natCast];show 0+i * 1+1≤_;omega)) ?_
  repeat' (first|refine go ?_|refine HF a1 F8 ?_|(apply aZ;refine aY ?_)|fail)
  refine aF (i+1) rfl ⟨by rw [Hv];rfl,trivial⟩ hi2 (by omega) (fun _ _ hh=>?_)
  rw [←hput]
  rw [Int.toNat_natCast,Nat.zero_add] at hh
  exact hh
 ·have hi2:i=l.length:=by have:=Hx h1;omega
  subst hi2
  rw [nF]
  clear h1
  repeat' (first|refine go ?_|refine HF a1 F8 ?_)
  have hml:(l.map fun s=>[AV.imm 1 (aS s)]).flatten.length=l.length * 1:=by rw [eM _ (sz:=1) (fun q hq=>by obtain ⟨_,_,rfl⟩:=List.mem_map.1 hq;rfl),Hu]
  refine bk (qH (t:=2) (sz:=1) (n:=l.length) (cap:=l.length) (l:=bz l) 0 rfl rfl (by rw [List.take_of_length_le (by omega)];rfl) (by omega) (fun e he=>by unfold bz at he;obtain ⟨_,_,rfl⟩:=List.mem_map.1 he;rfl) hil (Nat.le_refl _) (by unfold maxLen;omega)) ?_
  exact HP HA
def kr (r:bv):bv:=⟨r.Back,r.In,r.Ahead,[],[],0⟩
def gq (l:aP):aP:={ l with Rules:=l.Rules.map kr }
def j6 (r:bv):List AV:=[.imm 1 (bz r.Back),.imm 1 (bz r.In),.imm 1 (bz r.Ahead),fp,fp,aH 0]
theorem zo (r:bv):of (j6 r) (bJ (kr r)):=⟨ea.refl _,ea.refl _,ea.refl _,ea.nil 1,ea.nil 2,ea.refl _,trivial⟩
set_option maxHeartbeats 4000000 in
theorem uH (l:aP) (hl:l.Rules.length≤1000000) (hr:∀r∈l.Rules,pb r):bM Tryz.prog 125 [.agg (bF l)] (.agg (bF (gq l))):=by
 refine aT Tryz.func125 rfl Tryz.ntmps125 rfl fun B=>?_
 have hml:(l.Rules.map bJ).length=l.Rules.length:=Hu ..
 repeat' (first|refine go ?_|refine HF a1 F8 ?_|refine bC ?_|refine bl a1 fun _=>?_|fail)
 refine jb a1 l.Rules.length rfl rfl rfl rfl rfl (by rw [hml]) (by rw [hml]) (by omega) (by omega) rfl fun rb=>?_
 repeat' (first|refine go ?_|refine ak ?_|refine HF a1 F8 ?_)
 rename_i r2
 refine aR [1,2,3,11,12] (α:=Nat) (fun i=>[(13,aH i)]) (fun i=>i≤l.Rules.length) (fun i=>[(rb,.box (eL j6 [fp,fp,fp,fp,fp,aH 0] l.Rules i).flatten 89),(r2,.box [aH 0,c9 false,fp] 70)]) (fun i=>l.Rules.length - i) 0 rfl ⟨rfl,trivial⟩ (Nat.zero_le _) (fun _ _ hh=>by rw [m7];exact hh) fun i hi=>?_
 try dsimp only [Hs,Hr,Hq,Hl]
 repeat' (first|refine go ?_|refine HF a1 F8 ?_)
 refine ay rfl (fun h1=>?_) (fun h1=>?_)
 ·have hi2:i < l.Rules.length:=by have:=Hy h1;omega
  obtain ⟨r,hri⟩:∃z,l.Rules[i]?=some z:=⟨_,Hz hi2⟩
  have hrg:(l.Rules.map bJ)[i]?=some (bJ r):=by simp [hri]
  have hcr:=hr r (Hw hri)
  haveI:=AD.mk (jY r.Back hcr.back)
  haveI:=AD.mk (jY r.In hcr.in_)
  haveI:=AD.mk (jY r.Ahead hcr.ahead)
  have hsz:∀q∈eL j6 [fp,fp,fp,fp,fp,aH 0] l.Rules i,q.length=6:=by
   intro q hq
   unfold eL at hq
   rw [List.mem_append] at hq
   rcases hq with hq | hq
   ·obtain ⟨_,_,rfl⟩:=List.mem_map.1 hq;rfl
   ·rw [(List.mem_replicate.1 hq).2];rfl
  have hfl:=nG (w:=j6) (z:=[fp,fp,fp,fp,fp,aH 0]) (l:=l.Rules) (i:=i) hi
  have hput:=lr (sz:=6) (l:=eL j6 [fp,fp,fp,fp,fp,aH 0] l.Rules i) (i:=i) (e:=j6 r) hsz rfl (by omega)
  rw [nH hri] at hput
  have hfll:(eL j6 [fp,fp,fp,fp,fp,aH 0] l.Rules i).flatten.length=l.Rules.length * 6:=by rw [eM _ hsz,hfl]
  clear h1
  repeat' (first|refine go ?_|refine ak ?_|refine HF a1 F8 ?_|(apply aX;first|refine aU a1 ?_|refine aK a1 ?_)|(apply aQ;first|refine HH 5 a1 0 HE ?_|refine HH 5 a1 1 HE ?_|refine HH 5 a1 2 HE ?_|refine HG a1 0 HD ?_|refine HG a1 1 HD ?_|refine HG a1 2 HD ?_|refine HG a1 3 HD ?_|fail)|refine bl a1 fun _=>?_|fail)
  refine bj 12 [(0,.v),(1,.v),(2,.v),(3,.v),(4,.v),(5,.v),(6,.v),(7,.v),(8,.v),(9,.v),(10,.v),(11,.v)] none ?_ trivial rfl (by kernel_rfl) (by kernel_rfl) (by kernel_rfl) mixed (by kernel_rfl) rfl
  repeat' (first|refine aE ?_|refine ba a1 ?_|(apply dm;refine dP ?_)|fail)
  refine HR [1,2,3,11,12,13,18,19,29] F8 ?_
  repeat' (first|(apply aX;first|refine aU a1 ?_|refine aK a1 ?_)|fail)
  refine ah a1 0 rfl rfl rfl rfl rfl rfl (Nat.ble_eq_true_of_le (by rw [hfll,Int.toNat_natCast];show 0+i * 6+6≤_;omega)) ?_
  repeat' (first|refine go ?_|refine HF a1 F8 ?_|(apply aZ;refine aY ?_)|fail)
  refine aF (i+1) rfl ⟨by rw [Hv];rfl,trivial⟩ hi2 (by omega) (fun _ _ hh=>?_)
  rw [←hput]
  rw [Int.toNat_natCast,Nat.zero_add] at hh
  exact hh
 ·have hi2:i=l.Rules.length:=by have:=Hx h1;omega
  subst hi2
  rw [nF]
  clear h1
  have hsz:∀q∈l.Rules.map j6,q.length=6:=fun q hq=>by obtain ⟨_,_,rfl⟩:=List.mem_map.1 hq;rfl
  have hml2:(l.Rules.map j6).flatten.length=l.Rules.length * 6:=by rw [eM _ hsz,Hu]
  refine bW (qH (t:=3) (sz:=6) (n:=l.Rules.length) (cap:=l.Rules.length) (l:=l.Rules.map j6) 0 rfl rfl (by rw [List.take_of_length_le (by omega)]) (by omega) hsz (Hu ..) (Nat.le_refl _) (by unfold maxLen;omega)) ?_
  refine bW (cA (t:=3) (c':= .imm 6 ((gq l).Rules.map bJ)) rfl fun σ v h=>?_) ?_
  ·have e:(gq l).Rules.map bJ=l.Rules.map fun r=>bJ (kr r):=by unfold gq;rw [List.map_map];rfl
   rw [e]
   exact ea.imm (xw zo l.Rules) σ v h
  repeat' (first|refine go ?_|refine HF a1 F8 ?_|(apply aQ;first|refine HH 5 a1 0 HE ?_|refine HH 5 a1 1 HE ?_|refine HH 5 a1 2 HE ?_|refine HG a1 0 HD ?_|refine HG a1 1 HD ?_|refine HG a1 2 HD ?_|refine HG a1 3 HD ?_|fail))
  exact Ct (cs:=[.agg (bF (gq l))]) [] ⟨⟨_,0,_,_,rfl,rfl,.inr ⟨it a1 rfl,rfl⟩⟩,trivial⟩ (List.nil_sublist _) rfl
abbrev Au:AV:= .sc (.func (.func 126) #[] #[])
def oP (l:aP):List AV:=[.imm 6 ((gq l).Rules.map bJ),c9 l.Ignore,Au,aH (g8 l.Rules),aH (iS l.Rules)]
theorem vB (rs:List bv):g8 (rs.map kr)=g8 rs∧iS (rs.map kr)=iS rs:=by
 unfold g8 iS
 rw [List.foldl_map,List.foldl_map]
 exact ⟨rfl,rfl⟩
theorem wV {rs:List bv} (h:∀r∈rs,pb r) (j:Nat):g8 (rs.take j)≤400∧iS (rs.take j)≤200:=⟨ma (by omega) fun r hr=>by have h1:=(h r (List.mem_of_mem_take hr)).in_.few;have h2:=(h r (List.mem_of_mem_take hr)).ahead.few;omega,ma (by omega) fun r hr=>(h r (List.mem_of_mem_take hr)).back.few⟩
theorem uF {l:aP} (hr:∀r∈l.Rules,pb r):∀r∈(gq l).Rules,pb r:=fun r h=>by
 obtain ⟨r',h',rfl⟩:=List.mem_map.1 h
 exact ⟨(hr r' h').back,(hr r' h').in_,(hr r' h').ahead⟩
set_option maxHeartbeats 4000000 in
theorem w9 (l:aP) (hl:l.Rules.length≤1000000) (hr:∀r∈l.Rules,pb r):bM Tryz.prog 124 [.agg (bF (gq l)),Au] (.iptr (oP l)):=by
 have hr2:=uF hr
 have hl2:(gq l).Rules.length=l.Rules.length:=Hu ..
 have hfs:=vB l.Rules
 have hcm:oP l=[.imm 6 ((gq l).Rules.map bJ),c9 l.Ignore,Au,aH (g8 (gq l).Rules),aH (iS (gq l).Rules)]:=by
  unfold oP
  rw [show (gq l).Rules=l.Rules.map kr from rfl,hfs.1,hfs.2]
 rw [hcm]
 have hig:(gq l).Ignore=l.Ignore:=rfl
 rw [←hig]
 generalize gq l=l2 at *
 refine aT Tryz.func124 rfl Tryz.ntmps124 rfl fun B=>?_
 have hml:(l2.Rules.map bJ).length=l2.Rules.length:=Hu ..
 repeat' (first|refine go ?_|refine ak ?_|refine HF a1 F8 ?_|refine rF (d:=14) fun _=>?_|refine bC ?_|fail)
 rename_i b
 refine aR [5,16,17] (α:=Nat) (fun j=>[(18,aH j)]) (fun j=>j≤l2.Rules.length) (fun j=>[(b,.box [.imm 6 (l2.Rules.map bJ),c9 l2.Ignore,Au,aH (g8 (l2.Rules.take j)),aH (iS (l2.Rules.take j))] 222)]) (fun j=>l2.Rules.length - j) 0 rfl ⟨rfl,trivial⟩ (Nat.zero_le _) (fun _ _ hh=>hh) fun j hj=>?_
 try dsimp only [Hs,Hr,Hq,Hl]
 repeat' (first|refine go ?_|refine HF a1 F8 ?_)
 refine ay rfl (fun h1=>?_) (fun h1=>?_)
 ·have hj2:j < l2.Rules.length:=by have:=Hy h1;omega
  obtain ⟨r,hri⟩:∃z,l2.Rules[j]?=some z:=⟨_,Hz hj2⟩
  have hrg:(l2.Rules.map bJ)[j]?=some (bJ r):=by simp [hri]
  have hrr:=hr2 r (Hw hri)
  obtain ⟨s1,s2⟩:=vA hri
  have hbd:=wV hr2 j
  have b1:=hrr.back.few
  have b2:=hrr.in_.few
  have b3:=hrr.ahead.few
  have c1:=d3 r.Back
  have c2:=d3 r.In
  have c3:=d3 r.Ahead
  clear h1
  repeat' (first|refine go ?_|refine ak ?_|refine HF a1 F8 ?_|(apply aX;first|refine aU a1 ?_|refine aK a1 ?_)|(apply aQ;first|refine HH 7 a1 0 HE ?_|refine HH 7 a1 1 HE ?_|refine HH 7 a1 2 HE ?_|refine HG a1 0 HD ?_|refine HG a1 1 HD ?_|refine HG a1 2 HD ?_|refine HG a1 3 HD ?_|fail)|refine bl a1 fun _=>?_|fail)
  refine bj 13 [(0,.v),(1,.v),(2,.v),(3,.v),(4,.l),(5,.v),(6,.v),(7,.v),(8,.v),(9,.v),(10,.v),(11,.v),(12,.v)] none ?_ trivial rfl (by kernel_rfl) (by kernel_rfl) (by kernel_rfl) mixed (by kernel_rfl) rfl
  repeat' (first|refine aE ?_|refine ba a1 ?_|(apply dB;refine eK ?_)|refine bX a1 0 rfl rfl rfl rfl (by first|trivial|rfl) ?_)
  refine HR [5,7,16,17,18,22,34] F8 ?_
  repeat' (first|refine go ?_|refine a8 ?_|refine HF a1 F8 ?_|(apply aQ;first|refine HH 7 a1 0 HE ?_|refine HH 7 a1 1 HE ?_|refine HH 7 a1 2 HE ?_|refine HG a1 0 HD ?_|refine HG a1 1 HD ?_|refine HG a1 2 HD ?_|refine HG a1 3 HD ?_|fail))
  refine bj 9 [(0,.v),(1,.v),(2,.v),(3,.v),(4,.l),(5,.v),(6,.v),(7,.v),(8,.v)] none ?_ trivial rfl (by kernel_rfl) (by kernel_rfl) (by kernel_rfl) mixed (by kernel_rfl) rfl
  repeat' (first|refine aE ?_|refine ba a1 ?_|refine bX a1 0 rfl rfl rfl rfl (by first|trivial|rfl) ?_)
  refine HR [5,16,17,18,37,45] F8 ?_
  repeat' (first|refine go ?_|refine a8 ?_|refine HF a1 F8 ?_|(apply aZ;refine aY ?_)|(apply aQ;first|refine HH 7 a1 0 HE ?_|refine HH 7 a1 1 HE ?_|refine HH 7 a1 2 HE ?_|refine HG a1 0 HD ?_|refine HG a1 1 HD ?_|refine HG a1 2 HD ?_|refine HG a1 3 HD ?_|fail))
  refine aF (j+1) rfl ⟨by rw [Hv];rfl,trivial⟩ hj2 (by omega) (fun _ _ hh=>?_)
  rw [s1,s2]
  have e1:((max (g8 (l2.Rules.take j)) (r.In.length+r.Ahead.length):Nat):Int)=max (g8 (l2.Rules.take j):Int) (((bz r.In).length:Int)+((bz r.Ahead).length:Int)):=by omega
  have e2:((max (iS (l2.Rules.take j)) r.Back.length:Nat):Int)=max (iS (l2.Rules.take j):Int) ((bz r.Back).length:Int):=by omega
  rw [e1,e2]
  exact hh
 ·have hj2:j=l2.Rules.length:=by have:=Hx h1;omega
  subst hj2
  rw [List.take_length]
  repeat' (first|refine go ?_|refine HF a1 F8 ?_)
  exact bk (qI (t:=4) 0 rfl rfl rfl) (HP HA)
abbrev zr (wb:Nat) (f:aL) (u v:AV):Nat×AB:=(wb,.box (cf f++[u,v]) 118)
theorem ry (wb:Nat) (f:aL) (u v:AV) (g:Int):AC Tryz.prog 208 [gI wb,aH g] [zr wb f u v] fun c L=>c=c9 (mR (aW f) g)∧L=[zr wb f u v]:=by
 refine aT Tryz.func208 rfl Tryz.ntmps208 rfl fun B=>?_
 have hgl:(f.Glyphs.map bS).length=f.Glyphs.length:=Hu ..
 repeat' (first|refine go ?_|refine HF a1 F8 ?_|refine HO F8 ?_|refine HS HB ?_|(apply bh;first|refine HJ a1 0 HC ?_|refine HJ a1 1 HC ?_|refine HJ a1 2 HC ?_|refine HJ a1 3 HC ?_|refine HK a1 0 HC ?_|refine HK a1 1 HC ?_|refine HK a1 2 HC ?_|refine HM a1 1 HA (by assumption) rfl ?_|refine HM a1 0 HA (by assumption) rfl ?_|fail)|refine be rfl rfl rfl (fun _=>?_) (fun _=>?_))
 ·rename_i h1 h2
  have h3:=Hy h1
  have h4:=Hy h2
  obtain ⟨x,hx⟩:∃x,f.Glyphs[g.toNat]?=some x:=⟨_,Hz (by omega)⟩
  have hxg:=bA (c:=bS) hx
  repeat' (first|refine go ?_|refine HF a1 F8 ?_|refine HO F8 ?_|(apply aX;first|refine aU a1 ?_|refine aK a1 ?_)|fail)
  refine HN F8 ⟨?_,rfl⟩
  rw [B8 h3 hx]
 ·rename_i h1 h2
  have h4:=Hx h2
  refine HN F8 ⟨?_,rfl⟩
  rw [rE (by omega)]
 ·rename_i h1
  have h4:=Hx h1
  refine HN F8 ⟨?_,rfl⟩
  rw [rE (by omega)]
def qp (wb:Nat) (ig:Bool) (a s:Int):AV:= .fn 210 [.iptr [aH a],.iptr [gI wb],.iptr [aH s],.iptr [c9 ig]]
theorem z6 (wb:Nat) (ig:Bool) (a s:Int):bM Tryz.prog 130 [gI wb,c9 ig,aH a,aH s] (qp wb ig a s):=by
 refine aT Tryz.func130 rfl Tryz.ntmps130 rfl fun B=>?_
 repeat' (first|refine go ?_|refine HF a1 F8 ?_|refine bC ?_|fail)
 exact HP HA
instance (wb:Nat) (ig:Bool) (a s:Int):AD Tryz.prog 130 [gI wb,c9 ig,aH a,aH s] (qp wb ig a s):=⟨z6 wb ig a s⟩
abbrev dZ (wb:Nat) (f:aL) (v:AV) (q:Option fy) (run:List b6):AL:=zr wb f (dC q run) v::gA q run
set_option maxHeartbeats 8000000 in
theorem xo {α:Type} {σ0:ci} {l wb:Nat} {f:aL} {v:AV} {q:Option fy} {run:List b6} (hq:di q run) (hr:run.length≤1000000) (ig up:Bool) (a0:Int) (ha0:j5 run up a0) (ha1:a0≤1000000) (E:α→AL) (J:Nat→α→Prop) (St:AL→Prop)
  (hy:∀i x p,J i x→(cq (aW f) ig run up a0)[i]?=some p→AY Tryz.prog σ0 l [aH (p:Nat)] (dZ wb f v q run++E x) fun c L=>(c=c9 true∧∃x',J (i+1) x'∧L=dZ wb f v q run++E x')∨(c=c9 false∧St L)) (x0:α) (h0:J 0 x0):
  zt Tryz.prog σ0 210 [.sc (.func (.yield l) #[] #[]),.iptr [aH a0],.iptr [gI wb],.iptr [aH (kv up)],.iptr [c9 ig]] (dZ wb f v q run++E x0) fun _ L=>(∃x,J (cq (aW f) ig run up a0).length x∧L=dZ wb f v q run++E x)∨St L:=by
 refine nu Tryz.func210 rfl Tryz.ntmps210 rfl fun B hB=>?_
 repeat' (first|refine go ?_|refine ak ?_|refine HF a1 F8 ?_)
 refine aR [0,2,3,4] (α:=Int×Nat×α) (fun y=>[(6,aH y.1)]) (fun y=>j5 run up y.1∧y.1≤1000000∧J y.2.1 y.2.2∧y.2.1≤(cq (aW f) ig run up a0).length∧cq (aW f) ig run up y.1=(cq (aW f) ig run up a0).drop y.2.1) (fun y=>dZ wb f v q run++E y.2.2) (fun y=>oy run up y.1) (a0,0,x0) rfl ⟨rfl,trivial⟩ ⟨ha0,ha1,h0,Nat.zero_le _,rfl⟩ (fun _ _ h=>h) ?_
 rintro ⟨a,i,x⟩ ⟨hra,ha2,hj,hil,hd⟩
 dsimp only at hra ha2 hj hil hd ⊢
 try dsimp only [Hs,Hr,Hq,Hl]
 repeat' (first|refine go ?_|refine HF a1 F8 ?_)
 refine cN [0,2,3,4,6] (0≤a∧a < run.length) rfl (fun Q' K=>?_) (fun hC=>?_) (fun hC=>?_)
 ·repeat' (first|refine go ?_|refine HF a1 F8 ?_|refine HO F8 ?_|refine HS HB ?_|(apply bh;first|refine HJ a1 0 HC ?_|refine HJ a1 1 HC ?_|refine HJ a1 2 HC ?_|refine HJ a1 3 HC ?_|refine HK a1 0 HC ?_|refine HK a1 1 HC ?_|refine HK a1 2 HC ?_|refine HM a1 1 HA (by assumption) rfl ?_|refine HM a1 0 HA (by assumption) rfl ?_|fail)|refine be rfl rfl rfl (fun _=>?_) (fun _=>?_))
  ·refine qb a1 rfl hq rfl rfl ?_
   repeat' (first|refine go ?_|refine HF a1 F8 ?_|refine HO F8 ?_)
   all_goals exact K _ _ rfl rfl (by simp_all <;> omega)
  ·exact K _ _ rfl rfl (by simp_all <;> omega)
 ·obtain ⟨h0,h1⟩:=hC
  obtain ⟨m,rfl⟩:=hq.lt (i:=a.toNat) (by omega)
  obtain ⟨z,hz⟩:∃z,run[a.toNat]?=some z:=⟨_,Hz (by omega)⟩
  have hst:=BM (ms:=aW f) (ig:=ig) (up:=up) h0 h1
  rw [rM hz] at hst
  have hnx:=j5.next (up:=up) h0 h1
  have hln:=vQ (up:=up) h0 h1
  have hk3:a+kv up≤1000000:=by have:=hnx.1;unfold kv;split <;> omega
  have hk4: -9223372036854775808≤a+kv up∧a+kv up≤9223372036854775807:=by have:=hnx.1;omega
  have hf0:=mG (j:=0) m.junk hz rfl
  rw [Int.toNat_of_nonneg h0] at hf0
  have him:=ry wb f (dC (some m) run) v z.Glyph
  have hyield:∀ha:a.toNat=a.toNat,(cq (aW f) ig run up a0)[i]?=some a.toNat→AY Tryz.prog σ0 l [aH a] (dZ wb f v (some m) run++E x) fun c L=>(c=c9 true∧∃x',J (i+1) x'∧L=dZ wb f v (some m) run++E x')∨(c=c9 false∧St L):=fun _ hip=>by
   have:=hy i x a.toNat hj hip
   rw [Int.toNat_of_nonneg h0] at this
   exact this
  cases ig
  ·rw [show l7 (aW f) false z=true from rfl,if_pos rfl] at hst
   have hip:=(oV (hd.symm.trans hst)).1
   have hyy:=hyield rfl hip
   repeat' (first|refine go ?_|refine ak ?_)
   refine bj 13 [(0,.v),(1,.v),(2,.v),(3,.v),(4,.v),(5,.v),(6,.v),(7,.v),(8,.v),(9,.v),(10,.v),(11,.v),(12,.v)] none ?_ trivial rfl (by kernel_rfl) (by kernel_rfl) (by kernel_rfl) mixed (by kernel_rfl) rfl
   repeat' (first|refine aE ?_|refine ba a1 ?_|refine kl rfl rfl ?_)
   refine HR [0,2,3,4,6,34] F8 ?_
   repeat' (first|refine go ?_|refine a8 ?_|refine HF a1 F8 ?_|refine bL rfl ?_)
   refine jV (dZ wb f v (some m) run++E x) [] hB hyy rfl rfl rfl (by rw [List.append_nil];exact Ho _) rfl rfl fun c L1 hc=>?_
   rcases hc with ⟨hc,x',hj',hL⟩ | ⟨hc,hL⟩
   ·subst hc;subst hL
    rw [List.append_nil]
    repeat' (first|refine go ?_|refine HF a1 F8 ?_|(apply aZ;refine aY ?_)|refine bL rfl ?_)
    exact aF (a+kv up,i+1,x') rfl ⟨rfl,trivial⟩ ⟨hnx,hk3,hj',(Hp hip).1,(oV (hd.symm.trans hst)).2⟩ hln (fun _ _ h=>h)
   ·subst hc
    rw [List.append_nil]
    repeat' (first|refine go ?_|refine HF a1 F8 ?_|refine bR rfl ?_)
    exact lm rfl (.inr hL)
  ·have hsg:l7 (aW f) true z= !(mR (aW f) z.Glyph):=by unfold l7;rw [Bool.true_and]
   rw [hsg] at hst
   repeat' (first|refine go ?_|refine ak ?_)
   refine bj 13 [(0,.v),(1,.v),(2,.v),(3,.v),(4,.v),(5,.v),(6,.l),(7,.v),(8,.v),(9,.v),(10,.l),(11,.e),(12,.v)] none ?_ trivial rfl (by kernel_rfl) (by kernel_rfl) (by kernel_rfl) mixed (by kernel_rfl) rfl
   repeat' (first|refine aE ?_|refine ba a1 ?_|refine bX a1 0 rfl rfl rfl rfl (by first|trivial|rfl) ?_)
   refine dx a1 rfl rfl rfl ⟨by omega,by omega⟩ rfl ?_
   repeat' (first|refine aE ?_|refine ba a1 ?_|fail)
   refine bX a1 1 rfl rfl rfl hf0 rfl ?_
   repeat' (first|refine aE ?_|fail)
   refine fj [zr wb f (dC (some m) run) v] _ him rfl rfl (Ho _) rfl fun c L1 ⟨hc,hL⟩=>?_
   subst hc;subst hL
   repeat' (first|refine aE ?_|refine ba a1 ?_|fail)
   refine HR [0,2,3,4,6,34] F8 ?_
   repeat' (first|refine go ?_|refine a8 ?_|fail)
   refine ay rfl (fun hb=>?_) (fun hb=>?_)
   ·rw [hb,if_neg (by simp)] at hst
    repeat' (first|refine go ?_|refine HF a1 F8 ?_|(apply aZ;refine aY ?_)|fail)
    exact aF (a+kv up,i,x) rfl ⟨rfl,trivial⟩ ⟨hnx,hk3,hj,hil,hst.symm.trans hd⟩ hln (fun _ _ h=>h)
   ·rw [hb,if_pos (show (!false)=true from rfl)] at hst
    have hip:=(oV (hd.symm.trans hst)).1
    have hyy:=hyield rfl hip
    repeat' (first|refine go ?_|refine HF a1 F8 ?_)
    refine jV (dZ wb f v (some m) run++E x) [] hB hyy rfl rfl rfl (by rw [List.append_nil];exact Ho _) rfl rfl fun c L1 hc=>?_
    rcases hc with ⟨hc,x',hj',hL⟩ | ⟨hc,hL⟩
    ·subst hc;subst hL
     rw [List.append_nil]
     repeat' (first|refine go ?_|refine HF a1 F8 ?_|(apply aZ;refine aY ?_)|refine bL rfl ?_)
     exact aF (a+kv up,i+1,x') rfl ⟨rfl,trivial⟩ ⟨hnx,hk3,hj',(Hp hip).1,(oV (hd.symm.trans hst)).2⟩ hln (fun _ _ h=>h)
    ·subst hc
     rw [List.append_nil]
     repeat' (first|refine go ?_|refine HF a1 F8 ?_|refine bR rfl ?_)
     exact lm rfl (.inr hL)
 ·rw [z7 hra hC] at hd
  have hie:i=(cq (aW f) ig run up a0).length:=by
   have:=congrArg List.length hd
   rw [List.length_drop] at this
   simp at this
   omega
  repeat' (first|refine go ?_|fail)
  exact ce rfl (.inl ⟨x,hie▸hj,rfl⟩)
end Go.Proofs.YtpbinloeemebkaaGreat
