/-
  The library: rows of rows, one behind the other.
-/
import Derived.Test.YtpmdfoaadejmkaaGreatDoorM21
import Derived.Test.YtpmdfoaadejmkaaGreatDoorM07
namespace Go.Proofs.YtpmdfoaadejmkaaGreatDoor
open Go.RowKit
attribute [local irreducible] AT bI AX AO Av Kt bi dx DA cK
theorem Ey (n:Nat) (hn:n≤1000000):AC Tryz.prog 271 [.sc (.slice none 0 0),aF n] [] fun c L=>∃k,c= .vec k 1 []∧L=tok k 22 1 0:=by
 refine aM Tryz.func271 rfl Tryz.ntmps271 rfl fun B=>?_
 repeat' (first|refine Ji ?_|refine JF a5 H6 ?_|refine bA rfl ?_)
 refine tA a5 rfl rfl rfl ?_
 repeat' (first|refine Ji ?_|refine JF a5 H6 ?_|(apply aS;refine aR ?_)|fail)
 by_cases h0:n=0
 ·subst h0
  repeat' (first|refine Ji ?_|refine JF a5 H6 ?_|refine bA rfl ?_)
  refine bk (bQ (t:=4) (c':= .vec none 1 []) rfl fun σ v h=>cS 1 h) (JL H6 ⟨none,rfl,rfl⟩)
 ·refine ar rfl (fun h2=>?_) (fun h2=>?_)
  ·repeat' (first|refine Ji ?_|refine JF a5 H6 ?_)
   refine tA a5 rfl rfl rfl ?_
   repeat' (first|fail)
   refine GP a5 rfl rfl rfl rfl ?_
   repeat' (first|refine JF a5 H6 ?_)
   refine zH a5 n rfl Tryz.underlying3 rfl rfl (by omega) (by omega) (by omega) (by omega) rfl fun b cap h3 h4=>?_
   repeat' (first|refine JF a5 H6 ?_)
   refine CD a5 0 rfl rfl rfl rfl (by omega) (by omega) rfl ?_
   repeat' (first|refine Ji ?_|refine JF a5 H6 ?_)
   refine bk (bQ (t:=4) (c':= .vec (some (b,cap)) 1 []) rfl fun σ v h=>Fh h4 h) (JL H6 ⟨some (b,cap),rfl,rfl⟩)
  ·exact absurd (Jx h2) (by omega)
def rc (l:List (List (List Int))):List (List AV):=l.map fun r=>[.imm 1 (b9 r)]
def gL (l:List (List (List Int))):Nat:=(l.map List.length).sum
theorem pe {l:List (List (List Int))} {i:Nat} {r:List (List Int)} (h:l[i]?=some r):gL (l.take (i+1))=gL (l.take i)+r.length:=by
 unfold gL
 rw [List.take_add_one,h]
 simp
theorem sR (l:List (List (List Int))) (i:Nat):gL (l.take i)≤gL l:=by
 have h:((l.take i++l.drop i).map List.length).sum=(l.map List.length).sum:=by rw [List.take_append_drop]
 rw [List.map_append,List.sum_append] at h
 unfold gL
 omega
theorem BQ (l:List (List (List Int))):l.flatten.length=gL l:=by
 unfold gL
 rw [List.length_flatten]
theorem zW (a b:List (List Int)):b9 a++b9 b=b9 (a++b):=by unfold b9;rw [List.map_append]
set_option maxHeartbeats 1000000 in
theorem wn (l:List (List (List Int))) (hs:gL l≤1000000):bJ Tryz.prog 216 [.imm 1 (rc l)] (.imm 1 (b9 l.flatten)):=by
 refine aM Tryz.func216 rfl Tryz.ntmps216 rfl fun B=>?_
 have hrl:(rc l).length=l.length:=by simp [rc]
 refine cI 0 rfl rfl fun hlen=>?_
 rw [hrl] at hlen
 repeat' (first|refine Ji ?_|refine am ?_|refine JF a5 H6 ?_)
 refine aP [0,9,10] (α:=Nat) (fun i=>[(11,aF i),(3,aF (gL (l.take i)))]) (fun i=>i≤l.length) (fun _=>[]) (fun i=>l.length - i) 0 rfl ⟨rfl,rfl,trivial⟩ (Nat.zero_le _) (fun _ _ h=>h) fun i hi=>?_
 try dsimp only [Js,Jr,Jq,Jl]
 repeat' (first|refine Ji ?_|refine JF a5 H6 ?_)
 refine ar rfl (fun h=>?_) (fun h=>?_)
 ·have hil:i < l.length:=by have:=Jy h;rw [hrl] at this;omega
  obtain ⟨z,hz⟩:∃z,l[i]?=some z:=⟨_,Jz hil⟩
  have hzg:(rc l)[i]?=some [.imm 1 (b9 z)]:=by simp [rc,hz]
  have hsz:=pe hz
  have hle:=sR l (i+1)
  have hzl:(b9 z).length=z.length:=by simp [b9]
  repeat' (first|refine Ji ?_|refine am ?_|refine JF a5 H6 ?_|(apply aS;refine aR ?_)|(apply aO;first|refine aN a5 ?_|refine aG a5 ?_)|refine bA rfl ?_)
  exact aC (i+1) rfl ⟨by rw [Jv];rfl,by rw [hsz,Jv,hzl];rfl,trivial⟩ (by omega) (by omega) (fun _ _ h=>h)
 have hil:i=l.length:=by have:=Jx h;rw [hrl] at this;omega
 subst hil
 rw [List.take_length]
 clear h
 repeat' (first|refine Ji ?_|refine JF a5 H6 ?_)
 refine b8 [] [] (Ey (gL l) hs) rfl rfl (Jo _) rfl fun c L1 ⟨k,hc,hL⟩=>?_
 subst hc;subst hL
 rw [List.append_nil]
 repeat' (first|refine Ji ?_|refine am ?_|refine JF a5 H6 ?_)
 refine aP [25,26] (α:=Nat×Option (Nat×Nat)) (fun x=>[(27,aF x.1),(6,.vec x.2 1 (b9 (l.take x.1).flatten))]) (fun x=>x.1≤l.length) (fun x=>tok x.2 22 1 (b9 (l.take x.1).flatten).length) (fun x=>l.length - x.1) (0,k) rfl ⟨rfl,rfl,trivial⟩ (Nat.zero_le _) (fun _ _ h=>h) ?_
 rintro ⟨i,k⟩ hi
 dsimp only at hi ⊢
 try dsimp only [Js,Jr,Jq,Jl]
 repeat' (first|refine Ji ?_|refine JF a5 H6 ?_)
 refine ar rfl (fun h=>?_) (fun h=>?_)
 ·have hil:i < l.length:=by have:=Jy h;rw [hrl] at this;omega
  obtain ⟨z,hz⟩:∃z,l[i]?=some z:=⟨_,Jz hil⟩
  have hzg:(rc l)[i]?=some [.imm 1 (b9 z)]:=by simp [rc,hz]
  have hsz:=pe hz
  have hle:=sR l (i+1)
  have hzl:(b9 z).length=z.length:=by simp [b9]
  have hfl:(b9 (l.take i).flatten).length=gL (l.take i):=by rw [cq,BQ]
  have hcat:b9 (l.take i).flatten++b9 z=b9 (l.take (i+1)).flatten:=by rw [zW,List.take_add_one,hz];simp
  repeat' (first|refine Ji ?_|refine am ?_|refine JF a5 H6 ?_|(apply aO;first|refine aN a5 ?_|refine aG a5 ?_)|fail)
  refine bK a5 [] rfl rfl rfl rfl (by rw [List.append_nil]) (by rw [hfl,hzl];omega) (by rw [hfl,hzl];omega) rfl fun k'=>?_
  rw [hcat,List.append_nil]
  repeat' (first|refine Ji ?_|refine JF a5 H6 ?_|(apply aS;refine aR ?_)|fail)
  exact aC (i+1,k') rfl ⟨by rw [Jv];rfl,rfl,trivial⟩ (by dsimp only;omega) (by dsimp only;omega) (fun _ _ h=>h)
 ·have hil:i=l.length:=by have:=Jx h;rw [hrl] at this;omega
  subst hil
  rw [List.take_length]
  repeat' (first|refine Ji ?_|refine JF a5 H6 ?_)
  exact Bg rfl rfl rfl rfl
def kp (l:List Int):Bool:=decide (∀i,i < l.length - 1→l.getD i 0 < l.getD (i+1) 0)
theorem l9 {l:List Int} {i:Nat} {z:Int} (h:l[i]?=some z):l.getD i 0=z:=by simp [h]
theorem x9 (l:List Int):bJ Tryz.prog 253 [.imm 1 (aX l)] (dV (kp l)):=by
 refine aM Tryz.func253 rfl Tryz.ntmps253 rfl fun B=>?_
 refine cI 0 rfl rfl fun hlen=>?_
 have hll:=aZ l
 rw [aZ] at hlen
 repeat' (first|refine Ji ?_|refine am ?_|refine JF a5 H6 ?_)
 refine aP [0] (α:=Nat) (fun i=>[(3,aF (i+1:Nat))]) (fun i=>i≤l.length∧∀j,j < i→j+1 < l.length→l.getD j 0 < l.getD (j+1) 0) (fun _=>[]) (fun i=>l.length - i) 0 rfl ⟨rfl,trivial⟩ ⟨Nat.zero_le _,fun j hj=>absurd hj (Nat.not_lt_zero _)⟩ (fun _ _ h=>h) fun i ⟨hi,hall⟩=>?_
 try dsimp only [Js,Jr,Jq,Jl]
 repeat' (first|refine Ji ?_|refine JF a5 H6 ?_)
 refine ar rfl (fun h=>?_) (fun h=>?_)
 ·have hil:i+1 < l.length:=by have:=Jy h;rw [aZ] at this;omega
  obtain ⟨y,hy⟩:∃z,l[i]?=some z:=⟨_,Jz (by omega)⟩
  obtain ⟨z,hz⟩:∃z,l[i+1]?=some z:=⟨_,Jz hil⟩
  have hyg:(aX l)[(((i+1:Nat):Int) - 1).toNat]?=some [aF y]:=by rw [show (((i+1:Nat):Int) - 1).toNat=i by omega];exact bP hy
  have hzg:=bP hz
  repeat' (first|refine Ji ?_|refine am ?_)
  refine bw 9 [(0,.v),(1,.v),(2,.v),(3,.v),(4,.v),(5,.v),(6,.v),(7,.v),(8,.v)] none ?_ trivial rfl (by kernel_rfl) (by kernel_rfl) (by kernel_rfl) bR (by kernel_rfl) rfl
  repeat' (first|refine aD ?_|refine b7 a5 ?_|(apply ea;refine fz ?_)|(apply bV;refine cn a5 ?_)|fail)
  refine JQ [0,3,13,18] H6 ?_
  repeat' (first|refine Ji ?_|refine a7 ?_|refine JF a5 H6 ?_)
  refine ar rfl (fun h2=>?_) (fun h2=>?_)
  ·have h2':=Jy h2
   repeat' (first|refine Ji ?_|refine JF a5 H6 ?_)
   refine JL H6 ?_
   rw [show kp l=false from decide_eq_false (fun hh=>by have:=hh i (by omega);rw [l9 hy,l9 hz] at this;omega)]
  ·have h2':=Jx h2
   repeat' (first|refine Ji ?_|refine JF a5 H6 ?_|(apply aS;refine aR ?_)|fail)
   refine aC (i+1) rfl ⟨by rw [Jv (i+1) 1];rfl,trivial⟩ ⟨by omega,fun j hj hjl=>?_⟩ (by omega) (fun _ _ h=>h)
   by_cases e:j=i
   ·subst e;rw [l9 hy,l9 hz];omega
   ·exact hall j (by omega) hjl
 ·have hil:l.length≤i+1:=by have:=Jx h;rw [aZ] at this;omega
  repeat' (first|refine Ji ?_|refine JF a5 H6 ?_)
  refine JL H6 ?_
  rw [show kp l=true from decide_eq_true (fun j hj=>hall j (by omega) (by omega))]
instance (l:List Int):AD Tryz.prog 253 [.imm 1 (aX l)] (dV (kp l)):=⟨x9 l⟩
def mr (f:b6) (l:List Int):Bool:=decide (0 < l.length) && (kp l && (lb f (l.getD 0 0) && lb f (l.getD (l.length - 1) 0)))
set_option maxHeartbeats 1000000 in
theorem zq (f:b6) (l:List Int):bJ Tryz.prog 218 [bZ f,.imm 1 (aX l)] (dV (mr f l)):=by
 refine aM Tryz.func218 rfl Tryz.ntmps218 rfl fun B=>?_
 refine cI 1 rfl rfl fun hlen=>?_
 cases l with
 | nil=>
  repeat' (first|refine Ji ?_|refine JF a5 H6 ?_|refine bf ?_|fail)
  refine bw 24 [(0,.v),(1,.v),(2,.v),(3,.v),(4,.v),(5,.v),(6,.v),(7,.v),(8,.v),(9,.v),(10,.v),(11,.v),(12,.v),(13,.v),(14,.v),(15,.v),(16,.v),(17,.v),(18,.v),(19,.v),(20,.v),(21,.v),(22,.v),(23,.v)] none ?_ trivial rfl (by kernel_rfl) (by kernel_rfl) (by kernel_rfl) bR (by kernel_rfl) rfl
  repeat' (first|refine aD ?_|refine b7 a5 ?_|refine oM rfl rfl ?_)
  refine JQ [28] H6 ?_
  repeat' (first|refine Ji ?_|refine a7 ?_|refine JF a5 H6 ?_)
  exact JM JA
 | cons y q=>
  have hll:(aX (y::q)).length=q.length+1:=by rw [aZ];rfl
  rw [hll] at hlen
  obtain ⟨z,hz⟩:∃z,(y::q)[q.length]?=some z:=⟨_,Jz (by simp)⟩
  have hzg:(aX (y::q))[((((aX (y::q)).length:Nat):Int) - 1).toNat]?=some [aF z]:=by rw [show ((((aX (y::q)).length:Nat):Int) - 1).toNat=q.length by rw [hll];omega];exact bP hz
  have hyg:(aX (y::q))[(0:Int).toNat]?=some [aF y]:=rfl
  have hval:mr f (y::q)=(kp (y::q) && (lb f y && lb f z)):=by
   unfold mr
   rw [show (y::q).length - 1=q.length by simp,l9 hz]
   simp
  rw [hval]
  have hpos:decide (0 < (((aX (y::q)).length:Nat):Int))=true:=decide_eq_true (by rw [hll];omega)
  repeat' (first|refine Ji ?_|refine JF a5 H6 ?_|refine bf ?_|fail)
  refine bw 24 [(0,.v),(1,.v),(2,.v),(3,.v),(4,.v),(5,.v),(6,.v),(7,.v),(8,.v),(9,.v),(10,.v),(11,.v),(12,.v),(13,.v),(14,.v),(15,.v),(16,.v),(17,.v),(18,.v),(19,.v),(20,.v),(21,.v),(22,.v),(23,.v)] none ?_ trivial rfl (by kernel_rfl) (by kernel_rfl) (by kernel_rfl) bR (by kernel_rfl) rfl
  repeat' (first|refine aD ?_|refine b7 a5 ?_|fail)
  rw [hpos]
  repeat' (first|refine aD ?_|refine b7 a5 ?_|(apply cQ;refine dg ?_)|fail)
  generalize kp (y::q)=b1
  cases b1
  ·repeat' (first|refine aD ?_|refine b7 a5 ?_|refine oM rfl rfl ?_)
   refine JQ [28] H6 ?_
   repeat' (first|refine Ji ?_|refine a7 ?_|refine JF a5 H6 ?_)
   exact JM JA
  repeat' (first|refine aD ?_|refine b7 a5 ?_|(apply bV;refine cn a5 ?_)|(apply cQ;refine dg ?_)|fail)
  generalize lb f y=b2
  cases b2
  ·repeat' (first|refine aD ?_|refine b7 a5 ?_|refine oM rfl rfl ?_)
   refine JQ [28] H6 ?_
   repeat' (first|refine Ji ?_|refine a7 ?_|refine JF a5 H6 ?_)
   exact JM JA
  repeat' (first|refine aD ?_|refine b7 a5 ?_|(apply ea;refine fz ?_)|(apply bV;refine cn a5 ?_)|(apply cQ;refine dg ?_)|fail)
  refine JQ [28] H6 ?_
  repeat' (first|refine Ji ?_|refine a7 ?_|refine JF a5 H6 ?_)
  exact JM JA
instance (f:b6) (l:List Int):AD Tryz.prog 218 [bZ f,.imm 1 (aX l)] (dV (mr f l)):=⟨zq f l⟩
def eR (kind:Int) (r:bc):Bool:=if kind=1∨kind=2∨kind=5 then decide ((r.In.length:Int)≠1) else if kind=6 then decide ((r.In.length:Int)≠2∨(r.Back.length:Int) > 0∨(r.Ahead.length:Int) > 0) else decide ((r.In.length:Int)=0)
def m8 (kind:Int) (r:bc):Int:=if (r.Back.length:Int) > 6∨(r.In.length:Int) > 6∨(r.Ahead.length:Int) > 6 then 2 else dY (eR kind r) 40
set_option maxHeartbeats 1000000 in
theorem CX (kind:Int) (r:bc):bJ Tryz.prog 213 [aF kind,.agg (bB r)] (aF (m8 kind r)):=by
 refine aM Tryz.func213 rfl Tryz.ntmps213 rfl fun B=>?_
 unfold m8 eR
 have hB:=cq r.Back
 have hI:=cq r.In
 have hA:=cq r.Ahead
 rw [←hB,←hI,←hA]
 repeat' (first|refine Ji ?_|refine JF a5 H6 ?_|refine bf ?_|fail)
 refine bX [0,3] (((b9 r.Back).length:Int) > 6∨((b9 r.In).length:Int) > 6∨((b9 r.Ahead).length:Int) > 6) rfl (fun Q' K=>?_) (fun hC=>?_) (fun hC=>?_)
 ·repeat' (first|refine Ji ?_|refine JF a5 H6 ?_|refine JN H6 ?_|refine JO JB ?_|refine JR JA (fun _=>?_) (fun _=>?_))
  all_goals exact K _ _ rfl rfl (by clear K;grind)
 ·rw [if_pos hC]
  repeat' (first|refine Ji ?_|refine JF a5 H6 ?_)
  exact JM JA
 rw [if_neg hC]
 by_cases h1:kind=1
 ·subst h1
  repeat' (first|refine Ji ?_|refine am ?_|refine JF a5 H6 ?_|(apply bz;refine bo ?_)|refine bC rfl ?_)
  exact JM JA
 by_cases h2:kind=2
 ·subst h2
  repeat' (first|refine Ji ?_|refine am ?_|refine JF a5 H6 ?_|(apply bz;refine bo ?_)|refine bC rfl ?_|refine bA rfl ?_)
  exact JM JA
 by_cases h5:kind=5
 ·subst h5
  repeat' (first|refine Ji ?_|refine am ?_|refine JF a5 H6 ?_|(apply bz;refine bo ?_)|refine bC rfl ?_|refine bA rfl ?_)
  exact JM JA
 rw [if_neg (by omega)]
 by_cases h6:kind=6
 ·subst h6
  rw [if_pos rfl]
  repeat' (first|refine Ji ?_|refine am ?_|refine JF a5 H6 ?_|refine bC rfl ?_|refine bA rfl ?_)
  refine dq (t:=5) [] (((b9 r.In).length:Int)≠2∨((b9 r.Back).length:Int) > 0∨((b9 r.Ahead).length:Int) > 0) rfl (fun Q' K=>?_) ?_
  ·repeat' (first|refine Ji ?_|refine JF a5 H6 ?_|refine JN H6 ?_|refine JO JB ?_|refine JR JA (fun _=>?_) (fun _=>?_))
   all_goals exact K _ _ rfl rfl (by clear K;grind)
  repeat' (first|refine Ji ?_|refine JF a5 H6 ?_|(apply bz;refine bo ?_)|fail)
  exact JM JA
 rw [if_neg h6]
 repeat' (first|refine Ji ?_|refine am ?_|refine JF a5 H6 ?_)
 refine ar rfl (fun h=>absurd (Jy h) h1) (fun h=>?_)
 repeat' (first|refine Ji ?_|refine JF a5 H6 ?_)
 refine ar rfl (fun h=>absurd (Jy h) h2) (fun h=>?_)
 repeat' (first|refine Ji ?_|refine JF a5 H6 ?_)
 refine ar rfl (fun h=>absurd (Jy h) h5) (fun h=>?_)
 rw [decide_eq_false h5]
 repeat' (first|refine Ji ?_|refine JF a5 H6 ?_)
 refine ar rfl (fun h=>absurd (Jy h) h6) (fun h=>?_)
 repeat' (first|refine Ji ?_|refine JF a5 H6 ?_|(apply bz;refine bo ?_)|fail)
 exact JM JA
instance (kind:Int) (r:bc):AD Tryz.prog 213 [aF kind,.agg (bB r)] (aF (m8 kind r)):=⟨CX kind r⟩
theorem yj {kind:Int} {r:bc} (h:m8 kind r=0):r.In≠[]∧r.Back.length≤6∧r.In.length≤6∧r.Ahead.length≤6:=by
 unfold m8 at h
 split at h
 ·cases h
 ·rename_i hc
  refine ⟨fun e=>?_,by omega,by omega,by omega⟩
  have hw:eR kind r=true:=by
   unfold eR
   rw [e]
   split
   ·decide
   ·split <;> simp
  rw [hw] at h
  cases h
def pj (kind:Int) (r:bc):Bool:=if kind=1∨kind=5 then decide ((r.Out.length:Int)=((r.In.headD []).length:Int)) else if kind=2 then decide ((r.Out.length:Int)≤6) else if kind=3 then decide ((r.Out.length:Int)=1) else decide ((r.Out.length:Int)=0)
set_option maxHeartbeats 1000000 in
theorem EL (kind:Int) (r:bc) (hin:r.In≠[]):bJ Tryz.prog 220 [aF kind,.agg (bB r)] (dV (pj kind r)):=by
 refine aM Tryz.func220 rfl Tryz.ntmps220 rfl fun B=>?_
 obtain ⟨y,hy⟩:∃y,r.In[0]?=some y:=⟨_,Jz (List.length_pos_iff.2 hin)⟩
 have hyg:=gI hy
 have hv:pj kind r=if kind=1∨kind=5 then decide (((aX r.Out).length:Int)=((aX y).length:Int)) else if kind=2 then decide (((aX r.Out).length:Int)≤6) else if kind=3 then decide (((aX r.Out).length:Int)=1) else decide (((aX r.Out).length:Int)=0):=by
  have hd:r.In.headD []=y:=by
   cases hI:r.In with
   | nil=>exact absurd hI hin
   | cons y' q=>rw [hI] at hy;simpa using hy
  unfold pj
  rw [hd,aZ,aZ]
 rw [hv]
 by_cases h1:kind=1
 ·subst h1
  repeat' (first|refine Ji ?_|refine am ?_|refine JF a5 H6 ?_|refine bf ?_|refine bC rfl ?_)
  refine bw 8 [(0,.v),(1,.v),(2,.v),(3,.v),(4,.v),(5,.v),(6,.v),(7,.v)] none ?_ trivial rfl (by kernel_rfl) (by kernel_rfl) (by kernel_rfl) bR (by kernel_rfl) rfl
  repeat' (first|refine aD ?_|refine b7 a5 ?_|(apply bV;refine cn a5 ?_)|fail)
  refine JQ [11,16] H6 ?_
  repeat' (first|refine Ji ?_|refine a7 ?_|refine JF a5 H6 ?_)
  exact JM JA
 by_cases h5:kind=5
 ·subst h5
  repeat' (first|refine Ji ?_|refine am ?_|refine JF a5 H6 ?_|refine bf ?_|refine bC rfl ?_|refine bA rfl ?_)
  refine bw 8 [(0,.v),(1,.v),(2,.v),(3,.v),(4,.v),(5,.v),(6,.v),(7,.v)] none ?_ trivial rfl (by kernel_rfl) (by kernel_rfl) (by kernel_rfl) bR (by kernel_rfl) rfl
  repeat' (first|refine aD ?_|refine b7 a5 ?_|(apply bV;refine cn a5 ?_)|fail)
  refine JQ [11,16] H6 ?_
  repeat' (first|refine Ji ?_|refine a7 ?_|refine JF a5 H6 ?_)
  exact JM JA
 rw [if_neg (by omega)]
 by_cases h2:kind=2
 ·subst h2
  repeat' (first|refine Ji ?_|refine am ?_|refine JF a5 H6 ?_|refine bf ?_|refine bC rfl ?_|refine bA rfl ?_)
  exact JM JA
 rw [if_neg h2]
 by_cases h3:kind=3
 ·subst h3
  repeat' (first|refine Ji ?_|refine am ?_|refine JF a5 H6 ?_|refine bf ?_|refine bC rfl ?_|refine bA rfl ?_)
  exact JM JA
 rw [if_neg h3]
 repeat' (first|refine Ji ?_|refine am ?_|refine JF a5 H6 ?_|refine bf ?_|fail)
 refine ar rfl (fun h=>absurd (Jy h) h1) (fun h=>?_)
 repeat' (first|refine Ji ?_|refine JF a5 H6 ?_)
 refine ar rfl (fun h=>absurd (Jy h) h5) (fun h=>?_)
 rw [decide_eq_false h5]
 repeat' (first|refine Ji ?_|refine JF a5 H6 ?_)
 refine ar rfl (fun h=>absurd (Jy h) h2) (fun h=>?_)
 repeat' (first|refine Ji ?_|refine JF a5 H6 ?_)
 refine ar rfl (fun h=>absurd (Jy h) h3) (fun h=>?_)
 repeat' (first|refine Ji ?_|refine JF a5 H6 ?_)
 exact JM JA
def qD (f:b6) (n:Int):Int:=match f.Lookups[n.toNat]? with | some l=>l.Kind | none=>0
def ux (f:b6) (r:bc) (_:Nat) (c:gR):Int:=if c.At < 0∨c.At≥r.In.length then 40 else if c.Lookup < 0∨c.Lookup≥f.Lookups.length then 42 else dY (decide (qD f c.Lookup < 1∨qD f c.Lookup > 4)) 42
set_option maxHeartbeats 1000000 in
theorem Bp (f:b6) (r:bc) (i:Nat) (c:gR):bJ Tryz.prog 273 [aF i,.agg (eM c),.iptr (bB r),.iptr (cD f)] (aF (ux f r i c)):=by
 refine aM Tryz.func273 rfl Tryz.ntmps273 rfl fun B=>?_
 unfold ux
 have hI:=cq r.In
 have hL:(f.Lookups.map bh).length=f.Lookups.length:=Ju ..
 rw [←hI]
 repeat' (first|refine Ji ?_|refine am ?_|refine JF a5 H6 ?_|refine bf ?_|fail)
 refine bX [3,5] (c.At < 0∨c.At≥((b9 r.In).length:Int)) rfl (fun Q' K=>?_) (fun hC=>?_) (fun hC=>?_)
 ·repeat' (first|refine Ji ?_|refine JF a5 H6 ?_|refine JN H6 ?_|refine JO JB ?_|refine JR JA (fun _=>?_) (fun _=>?_))
  all_goals exact K _ _ rfl rfl (by clear K;grind)
 ·rw [if_pos hC]
  repeat' (first|refine Ji ?_|refine JF a5 H6 ?_)
  exact JM JA
 rw [if_neg hC]
 repeat' (first|refine Ji ?_|refine JF a5 H6 ?_)
 refine bX [3,5] (c.Lookup < 0∨c.Lookup≥f.Lookups.length) rfl (fun Q' K=>?_) (fun hC=>?_) (fun hC=>?_)
 ·repeat' (first|refine Ji ?_|refine JF a5 H6 ?_|refine JN H6 ?_|refine JO JB ?_|refine JR JA (fun _=>?_) (fun _=>?_))
  all_goals exact K _ _ rfl rfl (by clear K;grind)
 ·rw [if_pos hC]
  repeat' (first|refine Ji ?_|refine JF a5 H6 ?_)
  exact JM JA
 rw [if_neg hC]
 obtain ⟨l,hl⟩:∃l,f.Lookups[c.Lookup.toNat]?=some l:=⟨_,Jz (by omega)⟩
 have hlg:=bG (c:=bh) hl
 have hk:qD f c.Lookup=l.Kind:=by unfold qD;rw [hl]
 rw [hk]
 repeat' (first|refine Ji ?_|refine JF a5 H6 ?_|(apply aO;first|refine aN a5 ?_|refine aG a5 ?_)|fail)
 by_cases h1:l.Kind < 1
 ·rw [decide_eq_true h1,decide_eq_true (Or.inl h1)]
  repeat' (first|refine Ji ?_|refine JF a5 H6 ?_|refine JO JB ?_|(apply bz;refine bo ?_)|fail)
  exact JM JA
 ·rw [decide_eq_false h1,show decide (l.Kind < 1∨l.Kind > 4)=decide (4 < l.Kind) from decide_eq_decide.2 ⟨fun h=>h.resolve_left h1,Or.inr⟩]
  repeat' (first|refine Ji ?_|refine JF a5 H6 ?_|refine JN H6 ?_|(apply bz;refine bo ?_)|fail)
  exact JM JA
def kT (f:b6) (kind:Int) (r:bc):Int:=if (r.Calls.length:Int) > 6 then 2 else if (r.Calls.length:Int) > 0∧kind≠4 then 40 else (d4 r.Calls (ux f r)).1
set_option maxHeartbeats 1000000 in
theorem yX (f:b6) (kind:Int) (r:bc):bJ Tryz.prog 224 [bZ f,aF kind,.agg (bB r)] (aF (kT f kind r)):=by
 refine aM Tryz.func224 rfl Tryz.ntmps224 rfl fun B=>?_
 unfold kT
 have hL:(r.Calls.map eM).length=r.Calls.length:=Ju ..
 rw [←hL]
 repeat' (first|refine Ji ?_|refine am ?_|refine JF a5 H6 ?_|refine bf ?_|fail)
 refine ar rfl (fun h=>?_) (fun h=>?_)
 ·rw [if_pos (Jy h)]
  repeat' (first|refine Ji ?_|refine JF a5 H6 ?_)
  exact JM JA
 rw [if_neg (Jx h)]
 repeat' (first|refine Ji ?_|refine JF a5 H6 ?_)
 refine bX [3,5] (((r.Calls.map eM).length:Int) > 0∧kind≠4) rfl (fun Q' K=>?_) (fun hC=>?_) (fun hC=>?_)
 ·repeat' (first|refine Ji ?_|refine JF a5 H6 ?_|refine JN H6 ?_|refine JO JB ?_|refine JR JA (fun _=>?_) (fun _=>?_))
  all_goals exact K _ _ rfl rfl (by clear K;grind)
 ·rw [if_pos hC]
  repeat' (first|refine Ji ?_|refine JF a5 H6 ?_)
  exact JM JA
 rw [if_neg hC]
 repeat' (first|refine Ji ?_|refine JF a5 H6 ?_)
 refine b8 [] [] (Eo (u:= .fn 273 [.iptr (bB r),.iptr (cD f)]) (g:=273) rfl r.Calls _ (fun _ _=>True) [] trivial (da (fun i x _=>Bp f r i x))) rfl rfl (Jo _) rfl fun c L1 hc=>?_
 have hc:c=cu (d4 r.Calls (ux f r)):=hc
 subst hc
 unfold cu
 repeat' (first|refine Ji ?_|refine JF a5 H6 ?_)
 exact JM JA
instance (f:b6) (kind:Int) (r:bc):AD Tryz.prog 224 [bZ f,aF kind,.agg (bB r)] (aF (kT f kind r)):=⟨yX f kind r⟩
def A9 (f:b6) (_:Nat) (l:List Int):Int:=dY (!(mr f l)) 41
def zL (f:b6) (_:Nat) (n:Int):Int:=dY (!(lb f n)) 32
def xE (kind:Int) (r:bc):Int:=dY (decide (r.X≠0∧kind≠6)) 40
def pb (r:bc):List (List Int):=r.Back++(r.In++r.Ahead)
theorem zX (kind:Int) (r:bc):bJ Tryz.prog 212 [.iptr [aF kind],.iptr (bB r)] (cu (m8 kind r,0)):=by
 refine aM Tryz.func212 rfl Tryz.ntmps212 rfl fun B=>?_
 repeat' (first|refine Ji ?_|refine JF a5 H6 ?_|(apply bz;refine bo ?_)|fail)
 exact JS JB
theorem xc (f:b6) (i:Nat) (l:List Int):bJ Tryz.prog 217 [aF i,.imm 1 (aX l),.iptr (cD f)] (aF (A9 f i l)):=by
 refine aM Tryz.func217 rfl Tryz.ntmps217 rfl fun B=>?_
 repeat' (first|refine Ji ?_|refine JF a5 H6 ?_|(apply bz;refine bo ?_)|fail)
 exact JM JA
theorem zY (f:b6) (r:bc) (h:r.Back.length≤6∧r.In.length≤6∧r.Ahead.length≤6):bJ Tryz.prog 214 [.iptr (bB r),.iptr (cD f)] (cu (d4 (pb r) (A9 f))):=by
 refine aM Tryz.func214 rfl Tryz.ntmps214 rfl fun B=>?_
 repeat' (first|refine Ji ?_|refine JF a5 H6 ?_|refine bM a5 ?_|fail)
 refine bo (hc:=⟨wn [r.Back,r.In,r.Ahead] (by simp [gL];omega)⟩) ?_
 rw [show ([r.Back,r.In,r.Ahead]:List (List (List Int))).flatten=pb r by simp [pb]]
 repeat' (first|refine JF a5 H6 ?_)
 refine b8 [] [] (Em (u:= .fn 217 [.iptr (cD f)]) (g:=217) rfl (pb r) _ (fun _ _=>True) [] trivial (da (fun i x _=>xc f i x))) rfl rfl (Jo _) rfl fun c L1 hc=>?_
 have hc:c=cu (d4 (pb r) (A9 f)):=hc
 subst hc
 unfold cu
 repeat' (first|refine Ji ?_|refine JF a5 H6 ?_)
 exact JS JB
theorem zZ (kind:Int) (r:bc) (hin:r.In≠[]):bJ Tryz.prog 219 [.iptr [aF kind],.iptr (bB r)] (cu (dY (!(pj kind r)) 40,0)):=by
 refine aM Tryz.func219 rfl Tryz.ntmps219 rfl fun B=>?_
 repeat' (first|refine Ji ?_|refine JF a5 H6 ?_)
 refine bo (hc:=⟨EL kind r hin⟩) ?_
 repeat' (first|refine Ji ?_|refine JF a5 H6 ?_|(apply bz;refine bo ?_)|fail)
 exact JS JB
theorem xd (f:b6) (i:Nat) (n:Int):bJ Tryz.prog 222 [aF i,aF n,.iptr (cD f)] (aF (zL f i n)):=by
 refine aM Tryz.func222 rfl Tryz.ntmps222 rfl fun B=>?_
 repeat' (first|refine Ji ?_|refine JF a5 H6 ?_|(apply bz;refine bo ?_)|fail)
 exact JM JA
theorem A3 (f:b6) (r:bc):bJ Tryz.prog 221 [.iptr (bB r),.iptr (cD f)] (cu (d4 r.Out (zL f))):=by
 refine aM Tryz.func221 rfl Tryz.ntmps221 rfl fun B=>?_
 repeat' (first|refine Ji ?_|refine JF a5 H6 ?_)
 refine b8 [] [] (mU (u:= .fn 222 [.iptr (cD f)]) (g:=222) rfl r.Out _ (fun _ _=>True) [] trivial (da (fun i x _=>xd f i x))) rfl rfl (Jo _) rfl fun c L1 hc=>?_
 have hc:c=cu (d4 r.Out (zL f)):=hc
 subst hc
 unfold cu
 repeat' (first|refine Ji ?_|refine JF a5 H6 ?_)
 exact JS JB
theorem A4 (f:b6) (kind:Int) (r:bc):bJ Tryz.prog 223 [.iptr (cD f),.iptr [aF kind],.iptr (bB r)] (cu (kT f kind r,0)):=by
 refine aM Tryz.func223 rfl Tryz.ntmps223 rfl fun B=>?_
 repeat' (first|refine Ji ?_|refine JF a5 H6 ?_|(apply bz;refine bo ?_)|fail)
 exact JS JB
theorem A5 (r:bc):bJ Tryz.prog 225 [.iptr (bB r)] (cu (dY (!([r.X].all gn)) 1,0)):=by
 refine aM Tryz.func225 rfl Tryz.ntmps225 rfl fun B=>?_
 repeat' (first|refine Ji ?_|refine JF a5 H6 ?_|refine bM a5 ?_|(apply bz;refine bo ?_)|fail)
 exact JS JB
theorem A6 (kind:Int) (r:bc):bJ Tryz.prog 226 [.iptr (bB r),.iptr [aF kind]] (cu (xE kind r,0)):=by
 refine aM Tryz.func226 rfl Tryz.ntmps226 rfl fun B=>?_
 unfold xE
 by_cases h:r.X≠0
 ·rw [show decide (r.X≠0∧kind≠6)=decide (kind≠6) from decide_eq_decide.2 ⟨fun q=>q.2,fun q=>⟨h,q⟩⟩]
  repeat' (first|refine Ji ?_|refine JF a5 H6 ?_)
  rw [decide_eq_true h]
  repeat' (first|refine Ji ?_|refine JF a5 H6 ?_|refine JN H6 ?_|(apply bz;refine bo ?_)|fail)
  exact JS JB
 ·rw [show decide (r.X≠0∧kind≠6)=false from decide_eq_false (fun q=>h q.1)]
  repeat' (first|refine Ji ?_|refine JF a5 H6 ?_)
  rw [decide_eq_false h]
  repeat' (first|refine Ji ?_|refine JF a5 H6 ?_|refine JO JB ?_|(apply bz;refine bo ?_)|fail)
  exact JS JB
def jH (f:b6) (kind:Int) (r:bc):Int:=(gF [(m8 kind r,0),d4 (pb r) (A9 f),(dY (!(pj kind r)) 40,0),d4 r.Out (zL f),(kT f kind r,0),(dY (!([r.X].all gn)) 1,0),(xE kind r,0)]).1
set_option maxHeartbeats 1000000 in
theorem D2 (f:b6) (kind:Int) (r:bc):bJ Tryz.prog 141 [bZ f,aF kind,.agg (bB r)] (aF (jH f kind r)):=by
 refine aM Tryz.func141 rfl Tryz.ntmps141 rfl fun B=>?_
 repeat' (first|refine Ji ?_|refine JF a5 H6 ?_|refine bf ?_|refine bM a5 ?_|fail)
 refine b8 [] [] (ju [⟨212,[.iptr [aF kind],.iptr (bB r)],[],m8 kind r,0⟩,⟨214,[.iptr (bB r),.iptr (cD f)],[],(d4 (pb r) (A9 f)).1,(d4 (pb r) (A9 f)).2⟩,⟨219,[.iptr [aF kind],.iptr (bB r)],[],dY (!(pj kind r)) 40,0⟩,⟨221,[.iptr (bB r),.iptr (cD f)],[],(d4 r.Out (zL f)).1,(d4 r.Out (zL f)).2⟩,⟨223,[.iptr (cD f),.iptr [aF kind],.iptr (bB r)],[],kT f kind r,0⟩,⟨225,[.iptr (bB r)],[],dY (!([r.X].all gn)) 1,0⟩,⟨226,[.iptr (bB r),.iptr [aF kind]],[],xE kind r,0⟩] ?_) rfl rfl (Jo _) rfl fun c L1 hc=>?_
 ·exact ⟨⟨inferInstance,zX kind r⟩,fun h1=>⟨⟨inferInstance,zY f r (yj h1).2⟩,fun _=>⟨⟨inferInstance,zZ kind r (yj h1).1⟩,fun _=>⟨⟨inferInstance,A3 f r⟩,fun _=>⟨⟨inferInstance,A4 f kind r⟩,fun _=>⟨⟨inferInstance,A5 r⟩,fun _=>⟨⟨inferInstance,A6 kind r⟩,fun _=>trivial⟩⟩⟩⟩⟩⟩⟩
 rw [ki] at hc
 subst hc
 unfold cu
 repeat' (first|refine Ji ?_|refine JF a5 H6 ?_)
 exact JM JA
instance (f:b6) (kind:Int) (r:bc):AD Tryz.prog 141 [bZ f,aF kind,.agg (bB r)] (aF (jH f kind r)):=⟨D2 f kind r⟩
theorem oT (l:aL):bJ Tryz.prog 136 [.iptr (bh l)] (cu (dY (decide ((l.Rules.length:Int) > 60)) 2,0)):=by
 refine aM Tryz.func136 rfl Tryz.ntmps136 rfl fun B=>?_
 rw [show (l.Rules.length:Int)=((l.Rules.map bB).length:Int) by rw [Ju]]
 repeat' (first|refine Ji ?_|refine JF a5 H6 ?_|(apply bz;refine bo ?_)|fail)
 exact JS JB
def pN (l:aL):Int:=dY (decide (l.Kind=7∨l.Kind=8) && decide ((l.Rules.length:Int) > 0)) 40
theorem oU (l:aL) (b:Bool) (hb:b=decide (l.Kind=7∨l.Kind=8)):bJ Tryz.prog 137 [.iptr [dV b],.iptr (bh l)] (cu (pN l,0)):=by
 refine aM Tryz.func137 rfl Tryz.ntmps137 rfl fun B=>?_
 unfold pN
 rw [←hb,show (l.Rules.length:Int)=((l.Rules.map bB).length:Int) by rw [Ju]]
 cases b
 ·repeat' (first|refine Ji ?_|refine JF a5 H6 ?_|refine JO JB ?_|(apply bz;refine bo ?_)|fail)
  exact JS JB
 ·repeat' (first|refine Ji ?_|refine JF a5 H6 ?_|refine JN H6 ?_|(apply bz;refine bo ?_)|fail)
  exact JS JB
theorem tp (f:b6) (l:aL) (i:Nat) (r:bc):bJ Tryz.prog 140 [aF i,.agg (bB r),.iptr (cD f),.iptr (bh l)] (aF (jH f l.Kind r)):=by
 refine aM Tryz.func140 rfl Tryz.ntmps140 rfl fun B=>?_
 repeat' (first|refine Ji ?_|refine JF a5 H6 ?_|refine bf ?_|(apply bz;refine bo ?_)|fail)
 exact JM JA
theorem oV (f:b6) (l:aL):bJ Tryz.prog 138 [.iptr (bh l),.iptr (cD f)] (cu (d4 l.Rules fun _ r=>jH f l.Kind r)):=by
 refine aM Tryz.func138 rfl Tryz.ntmps138 rfl fun B=>?_
 repeat' (first|refine Ji ?_|refine JF a5 H6 ?_)
 refine b8 [] [] (Ec (u:= .fn 140 [.iptr (cD f),.iptr (bh l)]) (g:=140) rfl l.Rules _ (fun _ _=>True) [] trivial (da (w:=fun _ r=>jH f l.Kind r) (fun i x _=>tp f l i x))) rfl rfl (Jo _) rfl fun c L1 hc=>?_
 have hc:c=cu (d4 l.Rules fun _ r=>jH f l.Kind r):=hc
 subst hc
 unfold cu
 repeat' (first|refine Ji ?_|refine JF a5 H6 ?_)
 exact JS JB
def lK (f:b6) (l:aL):Int:=if l.Kind < 1∨l.Kind > 8 then 42 else (gF [(dY (decide ((l.Rules.length:Int) > 60)) 2,0),(pN l,0),d4 l.Rules fun _ r=>jH f l.Kind r]).1
set_option maxHeartbeats 1000000 in
theorem wP (f:b6) (l:aL):bJ Tryz.prog 62 [bZ f,.agg (bh l)] (aF (lK f l)):=by
 refine aM Tryz.func62 rfl Tryz.ntmps62 rfl fun B=>?_
 unfold lK
 repeat' (first|refine Ji ?_|refine JF a5 H6 ?_|refine bf ?_|fail)
 refine bX [2,3] (l.Kind < 1∨l.Kind > 8) rfl (fun Q' K=>?_) (fun hC=>?_) (fun hC=>?_)
 ·repeat' (first|refine Ji ?_|refine JF a5 H6 ?_|refine JN H6 ?_|refine JO JB ?_|refine JR JA (fun _=>?_) (fun _=>?_))
  all_goals exact K _ _ rfl rfl (by clear K;grind)
 ·rw [if_pos hC]
  repeat' (first|refine Ji ?_|refine JF a5 H6 ?_)
  exact JM JA
 rw [if_neg hC]
 repeat' (first|refine Ji ?_|refine JF a5 H6 ?_)
 by_cases h7:l.Kind=7
 ·rw [decide_eq_true h7]
  repeat' (first|refine Ji ?_|refine JF a5 H6 ?_|refine JO JB ?_|(apply aK;first|refine JH 5 a5 0 JE ?_|refine JH 5 a5 1 JE ?_|refine JH 5 a5 2 JE ?_|refine JG a5 0 JD ?_|refine JG a5 1 JD ?_|refine JG a5 2 JD ?_|refine JG a5 3 JD ?_|fail)|refine bj a5 fun _=>?_|refine bM a5 ?_|fail)
  refine b8 [] [] (ju [⟨136,[.iptr (bh l)],[],dY (decide ((l.Rules.length:Int) > 60)) 2,0⟩,⟨137,[.iptr [dV true],.iptr (bh l)],[],pN l,0⟩,⟨138,[.iptr (bh l),.iptr (cD f)],[],(d4 l.Rules fun _ r=>jH f l.Kind r).1,(d4 l.Rules fun _ r=>jH f l.Kind r).2⟩] ⟨⟨inferInstance,oT l⟩,fun _=>⟨⟨inferInstance,oU l true (decide_eq_true (Or.inl h7)).symm⟩,fun _=>⟨⟨inferInstance,oV f l⟩,fun _=>trivial⟩⟩⟩) rfl rfl (Jo _) rfl fun c L1 hc=>?_
  rw [ki] at hc
  subst hc
  unfold cu
  repeat' (first|refine Ji ?_|refine JF a5 H6 ?_)
  exact JM JA
 ·rw [decide_eq_false h7]
  repeat' (first|refine Ji ?_|refine JF a5 H6 ?_|refine JN H6 ?_|(apply aK;first|refine JH 5 a5 0 JE ?_|refine JH 5 a5 1 JE ?_|refine JH 5 a5 2 JE ?_|refine JG a5 0 JD ?_|refine JG a5 1 JD ?_|refine JG a5 2 JD ?_|refine JG a5 3 JD ?_|fail)|refine bj a5 fun _=>?_|refine bM a5 ?_|fail)
  refine b8 [] [] (ju [⟨136,[.iptr (bh l)],[],dY (decide ((l.Rules.length:Int) > 60)) 2,0⟩,⟨137,[.iptr [dV (decide (l.Kind=8))],.iptr (bh l)],[],pN l,0⟩,⟨138,[.iptr (bh l),.iptr (cD f)],[],(d4 l.Rules fun _ r=>jH f l.Kind r).1,(d4 l.Rules fun _ r=>jH f l.Kind r).2⟩] ⟨⟨inferInstance,oT l⟩,fun _=>⟨⟨inferInstance,oU l (decide (l.Kind=8)) (decide_eq_decide.2 ⟨Or.inr,fun h=>h.resolve_left h7⟩)⟩,fun _=>⟨⟨inferInstance,oV f l⟩,fun _=>trivial⟩⟩⟩) rfl rfl (Jo _) rfl fun c L1 hc=>?_
  rw [ki] at hc
  subst hc
  unfold cu
  repeat' (first|refine Ji ?_|refine JF a5 H6 ?_)
  exact JM JA
instance (f:b6) (l:aL):AD Tryz.prog 62 [bZ f,.agg (bh l)] (aF (lK f l)):=⟨wP f l⟩
theorem tq (f:b6) (i:Nat) (l:aL):bJ Tryz.prog 61 [aF i,.agg (bh l),.iptr (cD f)] (aF (lK f l)):=by
 refine aM Tryz.func61 rfl Tryz.ntmps61 rfl fun B=>?_
 repeat' (first|refine Ji ?_|refine JF a5 H6 ?_|refine bf ?_|(apply bz;refine bo ?_)|fail)
 exact JM JA
end Go.Proofs.YtpmdfoaadejmkaaGreatDoor
