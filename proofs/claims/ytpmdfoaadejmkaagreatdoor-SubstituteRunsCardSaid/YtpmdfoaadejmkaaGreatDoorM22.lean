/-
  The library: rows of rows, one behind the other.
-/
import Derived.Test.YtpmdfoaadejmkaaGreatDoorM21
import Derived.Test.YtpmdfoaadejmkaaGreatDoorM07
namespace Go.Proofs.YtpmdfoaadejmkaaGreatDoor
open Go.RowKit
attribute [local irreducible] AT bK AX AO Av Kt bh dw DA cK
theorem EE (n:Nat) (hn:n≤1000000):AC Tryz.prog 271 [.sc (.slice none 0 0),aF n] [] fun c L=>∃k,c= .vec k 1 []∧L=tok k 22 1 0:=by
 refine aN Tryz.func271 rfl Tryz.ntmps271 rfl fun B=>?_
 repeat' (first|refine JU ?_|refine JG a5 JA ?_|refine bC rfl ?_)
 refine tx a5 rfl rfl rfl ?_
 repeat' (first|refine JU ?_|refine JG a5 JA ?_|(apply aS;refine aQ ?_)|fail)
 by_cases h0:n=0
 ·subst h0
  repeat' (first|refine JU ?_|refine JG a5 JA ?_|refine bC rfl ?_)
  refine bk (bL (t:=4) (c':= .vec none 1 []) rfl fun σ v h=>cR 1 h) (JM JA ⟨none,rfl,rfl⟩)
 ·refine ar rfl (fun h2=>?_) (fun h2=>?_)
  ·repeat' (first|refine JU ?_|refine JG a5 JA ?_)
   refine tx a5 rfl rfl rfl ?_
   repeat' (first|fail)
   refine GU a5 rfl rfl rfl rfl ?_
   repeat' (first|refine JG a5 JA ?_)
   refine zN a5 n rfl Tryz.underlying3 rfl rfl (by omega) (by omega) (by omega) (by omega) rfl fun b cap h3 h4=>?_
   repeat' (first|refine JG a5 JA ?_)
   refine CI a5 0 rfl rfl rfl rfl (by omega) (by omega) rfl ?_
   repeat' (first|refine JU ?_|refine JG a5 JA ?_)
   refine bk (bL (t:=4) (c':= .vec (some (b,cap)) 1 []) rfl fun σ v h=>Fm h4 h) (JM JA ⟨some (b,cap),rfl,rfl⟩)
  ·exact absurd (Jy h2) (by omega)
def r9 (l:List (List (List Int))):List (List AV):=l.map fun r=>[.imm 1 (b6 r)]
def gK (l:List (List (List Int))):Nat:=(l.map List.length).sum
theorem pa {l:List (List (List Int))} {i:Nat} {r:List (List Int)} (h:l[i]?=some r):gK (l.take (i+1))=gK (l.take i)+r.length:=by
 unfold gK
 rw [List.take_add_one,h]
 simp
theorem sP (l:List (List (List Int))) (i:Nat):gK (l.take i)≤gK l:=by
 have h:((l.take i++l.drop i).map List.length).sum=(l.map List.length).sum:=by rw [List.take_append_drop]
 rw [List.map_append,List.sum_append] at h
 unfold gK
 omega
theorem BV (l:List (List (List Int))):l.flatten.length=gK l:=by
 unfold gK
 rw [List.length_flatten]
theorem A4 (a b:List (List Int)):b6 a++b6 b=b6 (a++b):=by unfold b6;rw [List.map_append]
set_option maxHeartbeats 1000000 in
theorem wn (l:List (List (List Int))) (hs:gK l≤1000000):bJ Tryz.prog 216 [.imm 1 (r9 l)] (.imm 1 (b6 l.flatten)):=by
 refine aN Tryz.func216 rfl Tryz.ntmps216 rfl fun B=>?_
 have hrl:(r9 l).length=l.length:=by simp [r9]
 refine cB 0 rfl rfl fun hlen=>?_
 rw [hrl] at hlen
 repeat' (first|refine JU ?_|refine am ?_|refine JG a5 JA ?_)
 refine aP [0,9,10] (α:=Nat) (fun i=>[(11,aF i),(3,aF (gK (l.take i)))]) (fun i=>i≤l.length) (fun _=>[]) (fun i=>l.length - i) 0 rfl ⟨rfl,rfl,trivial⟩ (Nat.zero_le _) (fun _ _ h=>h) fun i hi=>?_
 try dsimp only [Jt,Js,Jr,Kz]
 repeat' (first|refine JU ?_|refine JG a5 JA ?_)
 refine ar rfl (fun h=>?_) (fun h=>?_)
 ·have hil:i < l.length:=by have:=Jz h;rw [hrl] at this;omega
  obtain ⟨z,hz⟩:∃z,l[i]?=some z:=⟨_,Hb hil⟩
  have hzg:(r9 l)[i]?=some [.imm 1 (b6 z)]:=by simp [r9,hz]
  have hsz:=pa hz
  have hle:=sP l (i+1)
  have hzl:(b6 z).length=z.length:=by simp [b6]
  repeat' (first|refine JU ?_|refine am ?_|refine JG a5 JA ?_|(apply aS;refine aQ ?_)|(apply aL;first|refine aK a5 ?_|refine aG a5 ?_)|refine bC rfl ?_)
  exact aC (i+1) rfl ⟨by rw [Jw];rfl,by rw [hsz,Jw,hzl];rfl,trivial⟩ (by omega) (by omega) (fun _ _ h=>h)
 have hil:i=l.length:=by have:=Jy h;rw [hrl] at this;omega
 subst hil
 rw [List.take_length]
 clear h
 repeat' (first|refine JU ?_|refine JG a5 JA ?_)
 refine b9 [] [] (EE (gK l) hs) rfl rfl (Jp _) rfl fun c L1 ⟨k,hc,hL⟩=>?_
 subst hc;subst hL
 rw [List.append_nil]
 repeat' (first|refine JU ?_|refine am ?_|refine JG a5 JA ?_)
 refine aP [25,26] (α:=Nat×Option (Nat×Nat)) (fun x=>[(27,aF x.1),(6,.vec x.2 1 (b6 (l.take x.1).flatten))]) (fun x=>x.1≤l.length) (fun x=>tok x.2 22 1 (b6 (l.take x.1).flatten).length) (fun x=>l.length - x.1) (0,k) rfl ⟨rfl,rfl,trivial⟩ (Nat.zero_le _) (fun _ _ h=>h) ?_
 rintro ⟨i,k⟩ hi
 dsimp only at hi ⊢
 try dsimp only [Jt,Js,Jr,Kz]
 repeat' (first|refine JU ?_|refine JG a5 JA ?_)
 refine ar rfl (fun h=>?_) (fun h=>?_)
 ·have hil:i < l.length:=by have:=Jz h;rw [hrl] at this;omega
  obtain ⟨z,hz⟩:∃z,l[i]?=some z:=⟨_,Hb hil⟩
  have hzg:(r9 l)[i]?=some [.imm 1 (b6 z)]:=by simp [r9,hz]
  have hsz:=pa hz
  have hle:=sP l (i+1)
  have hzl:(b6 z).length=z.length:=by simp [b6]
  have hfl:(b6 (l.take i).flatten).length=gK (l.take i):=by rw [c6,BV]
  have hcat:b6 (l.take i).flatten++b6 z=b6 (l.take (i+1)).flatten:=by rw [A4,List.take_add_one,hz];simp
  repeat' (first|refine JU ?_|refine am ?_|refine JG a5 JA ?_|(apply aL;first|refine aK a5 ?_|refine aG a5 ?_)|fail)
  refine bI a5 [] rfl rfl rfl rfl (by rw [List.append_nil]) (by rw [hfl,hzl];omega) (by rw [hfl,hzl];omega) rfl fun k'=>?_
  rw [hcat,List.append_nil]
  repeat' (first|refine JU ?_|refine JG a5 JA ?_|(apply aS;refine aQ ?_)|fail)
  exact aC (i+1,k') rfl ⟨by rw [Jw];rfl,rfl,trivial⟩ (by dsimp only;omega) (by dsimp only;omega) (fun _ _ h=>h)
 ·have hil:i=l.length:=by have:=Jy h;rw [hrl] at this;omega
  subst hil
  rw [List.take_length]
  repeat' (first|refine JU ?_|refine JG a5 JA ?_)
  exact Bl rfl rfl rfl rfl
def kp (l:List Int):Bool:=decide (∀i,i < l.length - 1→l.getD i 0 < l.getD (i+1) 0)
theorem l8 {l:List Int} {i:Nat} {z:Int} (h:l[i]?=some z):l.getD i 0=z:=by simp [h]
theorem xa (l:List Int):bJ Tryz.prog 253 [.imm 1 (aW l)] (dY (kp l)):=by
 refine aN Tryz.func253 rfl Tryz.ntmps253 rfl fun B=>?_
 refine cB 0 rfl rfl fun hlen=>?_
 have hll:=aZ l
 rw [aZ] at hlen
 repeat' (first|refine JU ?_|refine am ?_|refine JG a5 JA ?_)
 refine aP [0] (α:=Nat) (fun i=>[(3,aF (i+1:Nat))]) (fun i=>i≤l.length∧∀j,j < i→j+1 < l.length→l.getD j 0 < l.getD (j+1) 0) (fun _=>[]) (fun i=>l.length - i) 0 rfl ⟨rfl,trivial⟩ ⟨Nat.zero_le _,fun j hj=>absurd hj (Nat.not_lt_zero _)⟩ (fun _ _ h=>h) fun i ⟨hi,hall⟩=>?_
 try dsimp only [Jt,Js,Jr,Kz]
 repeat' (first|refine JU ?_|refine JG a5 JA ?_)
 refine ar rfl (fun h=>?_) (fun h=>?_)
 ·have hil:i+1 < l.length:=by have:=Jz h;rw [aZ] at this;omega
  obtain ⟨y,hy⟩:∃z,l[i]?=some z:=⟨_,Hb (by omega)⟩
  obtain ⟨z,hz⟩:∃z,l[i+1]?=some z:=⟨_,Hb hil⟩
  have hyg:(aW l)[(((i+1:Nat):Int) - 1).toNat]?=some [aF y]:=by rw [show (((i+1:Nat):Int) - 1).toNat=i by omega];exact bO hy
  have hzg:=bO hz
  repeat' (first|refine JU ?_|refine am ?_)
  refine br 9 [(0,.v),(1,.v),(2,.v),(3,.v),(4,.v),(5,.v),(6,.v),(7,.v),(8,.v)] none ?_ trivial rfl (by kernel_rfl) (by kernel_rfl) (by kernel_rfl) bQ (by kernel_rfl) rfl
  repeat' (first|refine aD ?_|refine b8 a5 ?_|(apply ea;refine fA ?_)|(apply bW;refine ci a5 ?_)|fail)
  refine JQ [0,3,13,18] JA ?_
  repeat' (first|refine JU ?_|refine a7 ?_|refine JG a5 JA ?_)
  refine ar rfl (fun h2=>?_) (fun h2=>?_)
  ·have h2':=Jz h2
   repeat' (first|refine JU ?_|refine JG a5 JA ?_)
   refine JM JA ?_
   rw [show kp l=false from decide_eq_false (fun hh=>by have:=hh i (by omega);rw [l8 hy,l8 hz] at this;omega)]
  ·have h2':=Jy h2
   repeat' (first|refine JU ?_|refine JG a5 JA ?_|(apply aS;refine aQ ?_)|fail)
   refine aC (i+1) rfl ⟨by rw [Jw (i+1) 1];rfl,trivial⟩ ⟨by omega,fun j hj hjl=>?_⟩ (by omega) (fun _ _ h=>h)
   by_cases e:j=i
   ·subst e;rw [l8 hy,l8 hz];omega
   ·exact hall j (by omega) hjl
 ·have hil:l.length≤i+1:=by have:=Jy h;rw [aZ] at this;omega
  repeat' (first|refine JU ?_|refine JG a5 JA ?_)
  refine JM JA ?_
  rw [show kp l=true from decide_eq_true (fun j hj=>hall j (by omega) (by omega))]
instance (l:List Int):AD Tryz.prog 253 [.imm 1 (aW l)] (dY (kp l)):=⟨xa l⟩
def mo (f:b7) (l:List Int):Bool:=decide (0 < l.length) && (kp l && (la f (l.getD 0 0) && la f (l.getD (l.length - 1) 0)))
set_option maxHeartbeats 1000000 in
theorem zx (f:b7) (l:List Int):bJ Tryz.prog 218 [bZ f,.imm 1 (aW l)] (dY (mo f l)):=by
 refine aN Tryz.func218 rfl Tryz.ntmps218 rfl fun B=>?_
 refine cB 1 rfl rfl fun hlen=>?_
 cases l with
 | nil=>
  repeat' (first|refine JU ?_|refine JG a5 JA ?_|refine bf ?_|fail)
  refine br 24 [(0,.v),(1,.v),(2,.v),(3,.v),(4,.v),(5,.v),(6,.v),(7,.v),(8,.v),(9,.v),(10,.v),(11,.v),(12,.v),(13,.v),(14,.v),(15,.v),(16,.v),(17,.v),(18,.v),(19,.v),(20,.v),(21,.v),(22,.v),(23,.v)] none ?_ trivial rfl (by kernel_rfl) (by kernel_rfl) (by kernel_rfl) bQ (by kernel_rfl) rfl
  repeat' (first|refine aD ?_|refine b8 a5 ?_|refine oJ rfl rfl ?_)
  refine JQ [28] JA ?_
  repeat' (first|refine JU ?_|refine a7 ?_|refine JG a5 JA ?_)
  exact JN JB
 | cons y q=>
  have hll:(aW (y::q)).length=q.length+1:=by rw [aZ];rfl
  rw [hll] at hlen
  obtain ⟨z,hz⟩:∃z,(y::q)[q.length]?=some z:=⟨_,Hb (by simp)⟩
  have hzg:(aW (y::q))[((((aW (y::q)).length:Nat):Int) - 1).toNat]?=some [aF z]:=by rw [show ((((aW (y::q)).length:Nat):Int) - 1).toNat=q.length by rw [hll];omega];exact bO hz
  have hyg:(aW (y::q))[(0:Int).toNat]?=some [aF y]:=rfl
  have hval:mo f (y::q)=(kp (y::q) && (la f y && la f z)):=by
   unfold mo
   rw [show (y::q).length - 1=q.length by simp,l8 hz]
   simp
  rw [hval]
  have hpos:decide (0 < (((aW (y::q)).length:Nat):Int))=true:=decide_eq_true (by rw [hll];omega)
  repeat' (first|refine JU ?_|refine JG a5 JA ?_|refine bf ?_|fail)
  refine br 24 [(0,.v),(1,.v),(2,.v),(3,.v),(4,.v),(5,.v),(6,.v),(7,.v),(8,.v),(9,.v),(10,.v),(11,.v),(12,.v),(13,.v),(14,.v),(15,.v),(16,.v),(17,.v),(18,.v),(19,.v),(20,.v),(21,.v),(22,.v),(23,.v)] none ?_ trivial rfl (by kernel_rfl) (by kernel_rfl) (by kernel_rfl) bQ (by kernel_rfl) rfl
  repeat' (first|refine aD ?_|refine b8 a5 ?_|fail)
  rw [hpos]
  repeat' (first|refine aD ?_|refine b8 a5 ?_|(apply cW;refine du ?_)|fail)
  generalize kp (y::q)=b1
  cases b1
  ·repeat' (first|refine aD ?_|refine b8 a5 ?_|refine oJ rfl rfl ?_)
   refine JQ [28] JA ?_
   repeat' (first|refine JU ?_|refine a7 ?_|refine JG a5 JA ?_)
   exact JN JB
  repeat' (first|refine aD ?_|refine b8 a5 ?_|(apply bW;refine ci a5 ?_)|(apply cW;refine du ?_)|fail)
  generalize la f y=b2
  cases b2
  ·repeat' (first|refine aD ?_|refine b8 a5 ?_|refine oJ rfl rfl ?_)
   refine JQ [28] JA ?_
   repeat' (first|refine JU ?_|refine a7 ?_|refine JG a5 JA ?_)
   exact JN JB
  repeat' (first|refine aD ?_|refine b8 a5 ?_|(apply ea;refine fA ?_)|(apply bW;refine ci a5 ?_)|(apply cW;refine du ?_)|fail)
  refine JQ [28] JA ?_
  repeat' (first|refine JU ?_|refine a7 ?_|refine JG a5 JA ?_)
  exact JN JB
instance (f:b7) (l:List Int):AD Tryz.prog 218 [bZ f,.imm 1 (aW l)] (dY (mo f l)):=⟨zx f l⟩
def eS (kind:Int) (r:bc):Bool:=if kind=1∨kind=2∨kind=5 then decide ((r.In.length:Int)≠1) else if kind=6 then decide ((r.In.length:Int)≠2∨(r.Back.length:Int) > 0∨(r.Ahead.length:Int) > 0) else decide ((r.In.length:Int)=0)
def m5 (kind:Int) (r:bc):Int:=if (r.Back.length:Int) > 6∨(r.In.length:Int) > 6∨(r.Ahead.length:Int) > 6 then 2 else dX (eS kind r) 40
set_option maxHeartbeats 1000000 in
theorem D2 (kind:Int) (r:bc):bJ Tryz.prog 213 [aF kind,.agg (bB r)] (aF (m5 kind r)):=by
 refine aN Tryz.func213 rfl Tryz.ntmps213 rfl fun B=>?_
 unfold m5 eS
 have hB:=c6 r.Back
 have hI:=c6 r.In
 have hA:=c6 r.Ahead
 rw [←hB,←hI,←hA]
 repeat' (first|refine JU ?_|refine JG a5 JA ?_|refine bf ?_|fail)
 refine bX [0,3] (((b6 r.Back).length:Int) > 6∨((b6 r.In).length:Int) > 6∨((b6 r.Ahead).length:Int) > 6) rfl (fun Q' K=>?_) (fun hC=>?_) (fun hC=>?_)
 ·repeat' (first|refine JU ?_|refine JG a5 JA ?_|refine JO JA ?_|refine JP JC ?_|refine JS JB (fun _=>?_) (fun _=>?_))
  all_goals exact K _ _ rfl rfl (by clear K;grind)
 ·rw [if_pos hC]
  repeat' (first|refine JU ?_|refine JG a5 JA ?_)
  exact JN JB
 rw [if_neg hC]
 by_cases h1:kind=1
 ·subst h1
  repeat' (first|refine JU ?_|refine am ?_|refine JG a5 JA ?_|(apply bw;refine bn ?_)|refine bD rfl ?_)
  exact JN JB
 by_cases h2:kind=2
 ·subst h2
  repeat' (first|refine JU ?_|refine am ?_|refine JG a5 JA ?_|(apply bw;refine bn ?_)|refine bD rfl ?_|refine bC rfl ?_)
  exact JN JB
 by_cases h5:kind=5
 ·subst h5
  repeat' (first|refine JU ?_|refine am ?_|refine JG a5 JA ?_|(apply bw;refine bn ?_)|refine bD rfl ?_|refine bC rfl ?_)
  exact JN JB
 rw [if_neg (by omega)]
 by_cases h6:kind=6
 ·subst h6
  rw [if_pos rfl]
  repeat' (first|refine JU ?_|refine am ?_|refine JG a5 JA ?_|refine bD rfl ?_|refine bC rfl ?_)
  refine dp (t:=5) [] (((b6 r.In).length:Int)≠2∨((b6 r.Back).length:Int) > 0∨((b6 r.Ahead).length:Int) > 0) rfl (fun Q' K=>?_) ?_
  ·repeat' (first|refine JU ?_|refine JG a5 JA ?_|refine JO JA ?_|refine JP JC ?_|refine JS JB (fun _=>?_) (fun _=>?_))
   all_goals exact K _ _ rfl rfl (by clear K;grind)
  repeat' (first|refine JU ?_|refine JG a5 JA ?_|(apply bw;refine bn ?_)|fail)
  exact JN JB
 rw [if_neg h6]
 repeat' (first|refine JU ?_|refine am ?_|refine JG a5 JA ?_)
 refine ar rfl (fun h=>absurd (Jz h) h1) (fun h=>?_)
 repeat' (first|refine JU ?_|refine JG a5 JA ?_)
 refine ar rfl (fun h=>absurd (Jz h) h2) (fun h=>?_)
 repeat' (first|refine JU ?_|refine JG a5 JA ?_)
 refine ar rfl (fun h=>absurd (Jz h) h5) (fun h=>?_)
 rw [decide_eq_false h5]
 repeat' (first|refine JU ?_|refine JG a5 JA ?_)
 refine ar rfl (fun h=>absurd (Jz h) h6) (fun h=>?_)
 repeat' (first|refine JU ?_|refine JG a5 JA ?_|(apply bw;refine bn ?_)|fail)
 exact JN JB
instance (kind:Int) (r:bc):AD Tryz.prog 213 [aF kind,.agg (bB r)] (aF (m5 kind r)):=⟨D2 kind r⟩
theorem yn {kind:Int} {r:bc} (h:m5 kind r=0):r.In≠[]∧r.Back.length≤6∧r.In.length≤6∧r.Ahead.length≤6:=by
 unfold m5 at h
 split at h
 ·cases h
 ·rename_i hc
  refine ⟨fun e=>?_,by omega,by omega,by omega⟩
  have hw:eS kind r=true:=by
   unfold eS
   rw [e]
   split
   ·decide
   ·split <;> simp
  rw [hw] at h
  cases h
def ph (kind:Int) (r:bc):Bool:=if kind=1∨kind=5 then decide ((r.Out.length:Int)=((r.In.headD []).length:Int)) else if kind=2 then decide ((r.Out.length:Int)≤6) else if kind=3 then decide ((r.Out.length:Int)=1) else decide ((r.Out.length:Int)=0)
set_option maxHeartbeats 1000000 in
theorem ER (kind:Int) (r:bc) (hin:r.In≠[]):bJ Tryz.prog 220 [aF kind,.agg (bB r)] (dY (ph kind r)):=by
 refine aN Tryz.func220 rfl Tryz.ntmps220 rfl fun B=>?_
 obtain ⟨y,hy⟩:∃y,r.In[0]?=some y:=⟨_,Hb (List.length_pos_iff.2 hin)⟩
 have hyg:=eR hy
 have hv:ph kind r=if kind=1∨kind=5 then decide (((aW r.Out).length:Int)=((aW y).length:Int)) else if kind=2 then decide (((aW r.Out).length:Int)≤6) else if kind=3 then decide (((aW r.Out).length:Int)=1) else decide (((aW r.Out).length:Int)=0):=by
  have hd:r.In.headD []=y:=by
   cases hI:r.In with
   | nil=>exact absurd hI hin
   | cons y' q=>rw [hI] at hy;simpa using hy
  unfold ph
  rw [hd,aZ,aZ]
 rw [hv]
 by_cases h1:kind=1
 ·subst h1
  repeat' (first|refine JU ?_|refine am ?_|refine JG a5 JA ?_|refine bf ?_|refine bD rfl ?_)
  refine br 8 [(0,.v),(1,.v),(2,.v),(3,.v),(4,.v),(5,.v),(6,.v),(7,.v)] none ?_ trivial rfl (by kernel_rfl) (by kernel_rfl) (by kernel_rfl) bQ (by kernel_rfl) rfl
  repeat' (first|refine aD ?_|refine b8 a5 ?_|(apply bW;refine ci a5 ?_)|fail)
  refine JQ [11,16] JA ?_
  repeat' (first|refine JU ?_|refine a7 ?_|refine JG a5 JA ?_)
  exact JN JB
 by_cases h5:kind=5
 ·subst h5
  repeat' (first|refine JU ?_|refine am ?_|refine JG a5 JA ?_|refine bf ?_|refine bD rfl ?_|refine bC rfl ?_)
  refine br 8 [(0,.v),(1,.v),(2,.v),(3,.v),(4,.v),(5,.v),(6,.v),(7,.v)] none ?_ trivial rfl (by kernel_rfl) (by kernel_rfl) (by kernel_rfl) bQ (by kernel_rfl) rfl
  repeat' (first|refine aD ?_|refine b8 a5 ?_|(apply bW;refine ci a5 ?_)|fail)
  refine JQ [11,16] JA ?_
  repeat' (first|refine JU ?_|refine a7 ?_|refine JG a5 JA ?_)
  exact JN JB
 rw [if_neg (by omega)]
 by_cases h2:kind=2
 ·subst h2
  repeat' (first|refine JU ?_|refine am ?_|refine JG a5 JA ?_|refine bf ?_|refine bD rfl ?_|refine bC rfl ?_)
  exact JN JB
 rw [if_neg h2]
 by_cases h3:kind=3
 ·subst h3
  repeat' (first|refine JU ?_|refine am ?_|refine JG a5 JA ?_|refine bf ?_|refine bD rfl ?_|refine bC rfl ?_)
  exact JN JB
 rw [if_neg h3]
 repeat' (first|refine JU ?_|refine am ?_|refine JG a5 JA ?_|refine bf ?_|fail)
 refine ar rfl (fun h=>absurd (Jz h) h1) (fun h=>?_)
 repeat' (first|refine JU ?_|refine JG a5 JA ?_)
 refine ar rfl (fun h=>absurd (Jz h) h5) (fun h=>?_)
 rw [decide_eq_false h5]
 repeat' (first|refine JU ?_|refine JG a5 JA ?_)
 refine ar rfl (fun h=>absurd (Jz h) h2) (fun h=>?_)
 repeat' (first|refine JU ?_|refine JG a5 JA ?_)
 refine ar rfl (fun h=>absurd (Jz h) h3) (fun h=>?_)
 repeat' (first|refine JU ?_|refine JG a5 JA ?_)
 exact JN JB
def qA (f:b7) (n:Int):Int:=match f.Lookups[n.toNat]? with | some l=>l.Kind | none=>0
def uv (f:b7) (r:bc) (_:Nat) (c:gQ):Int:=if c.At < 0∨c.At≥r.In.length then 40 else if c.Lookup < 0∨c.Lookup≥f.Lookups.length then 42 else dX (decide (qA f c.Lookup < 1∨qA f c.Lookup > 4)) 42
set_option maxHeartbeats 1000000 in
theorem Bv (f:b7) (r:bc) (i:Nat) (c:gQ):bJ Tryz.prog 273 [aF i,.agg (eM c),.iptr (bB r),.iptr (cE f)] (aF (uv f r i c)):=by
 refine aN Tryz.func273 rfl Tryz.ntmps273 rfl fun B=>?_
 unfold uv
 have hI:=c6 r.In
 have hL:(f.Lookups.map bi).length=f.Lookups.length:=Jv ..
 rw [←hI]
 repeat' (first|refine JU ?_|refine am ?_|refine JG a5 JA ?_|refine bf ?_|fail)
 refine bX [3,5] (c.At < 0∨c.At≥((b6 r.In).length:Int)) rfl (fun Q' K=>?_) (fun hC=>?_) (fun hC=>?_)
 ·repeat' (first|refine JU ?_|refine JG a5 JA ?_|refine JO JA ?_|refine JP JC ?_|refine JS JB (fun _=>?_) (fun _=>?_))
  all_goals exact K _ _ rfl rfl (by clear K;grind)
 ·rw [if_pos hC]
  repeat' (first|refine JU ?_|refine JG a5 JA ?_)
  exact JN JB
 rw [if_neg hC]
 repeat' (first|refine JU ?_|refine JG a5 JA ?_)
 refine bX [3,5] (c.Lookup < 0∨c.Lookup≥f.Lookups.length) rfl (fun Q' K=>?_) (fun hC=>?_) (fun hC=>?_)
 ·repeat' (first|refine JU ?_|refine JG a5 JA ?_|refine JO JA ?_|refine JP JC ?_|refine JS JB (fun _=>?_) (fun _=>?_))
  all_goals exact K _ _ rfl rfl (by clear K;grind)
 ·rw [if_pos hC]
  repeat' (first|refine JU ?_|refine JG a5 JA ?_)
  exact JN JB
 rw [if_neg hC]
 obtain ⟨l,hl⟩:∃l,f.Lookups[c.Lookup.toNat]?=some l:=⟨_,Hb (by omega)⟩
 have hlg:=bH (c:=bi) hl
 have hk:qA f c.Lookup=l.Kind:=by unfold qA;rw [hl]
 rw [hk]
 repeat' (first|refine JU ?_|refine JG a5 JA ?_|(apply aL;first|refine aK a5 ?_|refine aG a5 ?_)|fail)
 by_cases h1:l.Kind < 1
 ·rw [decide_eq_true h1,decide_eq_true (Or.inl h1)]
  repeat' (first|refine JU ?_|refine JG a5 JA ?_|refine JP JC ?_|(apply bw;refine bn ?_)|fail)
  exact JN JB
 ·rw [decide_eq_false h1,show decide (l.Kind < 1∨l.Kind > 4)=decide (4 < l.Kind) from decide_eq_decide.2 ⟨fun h=>h.resolve_left h1,Or.inr⟩]
  repeat' (first|refine JU ?_|refine JG a5 JA ?_|refine JO JA ?_|(apply bw;refine bn ?_)|fail)
  exact JN JB
def kS (f:b7) (kind:Int) (r:bc):Int:=if (r.Calls.length:Int) > 6 then 2 else if (r.Calls.length:Int) > 0∧kind≠4 then 40 else (d5 r.Calls (uv f r)).1
set_option maxHeartbeats 1000000 in
theorem z3 (f:b7) (kind:Int) (r:bc):bJ Tryz.prog 224 [bZ f,aF kind,.agg (bB r)] (aF (kS f kind r)):=by
 refine aN Tryz.func224 rfl Tryz.ntmps224 rfl fun B=>?_
 unfold kS
 have hL:(r.Calls.map eM).length=r.Calls.length:=Jv ..
 rw [←hL]
 repeat' (first|refine JU ?_|refine am ?_|refine JG a5 JA ?_|refine bf ?_|fail)
 refine ar rfl (fun h=>?_) (fun h=>?_)
 ·rw [if_pos (Jz h)]
  repeat' (first|refine JU ?_|refine JG a5 JA ?_)
  exact JN JB
 rw [if_neg (Jy h)]
 repeat' (first|refine JU ?_|refine JG a5 JA ?_)
 refine bX [3,5] (((r.Calls.map eM).length:Int) > 0∧kind≠4) rfl (fun Q' K=>?_) (fun hC=>?_) (fun hC=>?_)
 ·repeat' (first|refine JU ?_|refine JG a5 JA ?_|refine JO JA ?_|refine JP JC ?_|refine JS JB (fun _=>?_) (fun _=>?_))
  all_goals exact K _ _ rfl rfl (by clear K;grind)
 ·rw [if_pos hC]
  repeat' (first|refine JU ?_|refine JG a5 JA ?_)
  exact JN JB
 rw [if_neg hC]
 repeat' (first|refine JU ?_|refine JG a5 JA ?_)
 refine b9 [] [] (Ev (u:= .fn 273 [.iptr (bB r),.iptr (cE f)]) (g:=273) rfl r.Calls _ (fun _ _=>True) [] trivial (da (fun i x _=>Bv f r i x))) rfl rfl (Jp _) rfl fun c L1 hc=>?_
 have hc:c=cu (d5 r.Calls (uv f r)):=hc
 subst hc
 unfold cu
 repeat' (first|refine JU ?_|refine JG a5 JA ?_)
 exact JN JB
instance (f:b7) (kind:Int) (r:bc):AD Tryz.prog 224 [bZ f,aF kind,.agg (bB r)] (aF (kS f kind r)):=⟨z3 f kind r⟩
def Ah (f:b7) (_:Nat) (l:List Int):Int:=dX (!(mo f l)) 41
def zQ (f:b7) (_:Nat) (n:Int):Int:=dX (!(la f n)) 32
def xE (kind:Int) (r:bc):Int:=dX (decide (r.X≠0∧kind≠6)) 40
def p8 (r:bc):List (List Int):=r.Back++(r.In++r.Ahead)
theorem A5 (kind:Int) (r:bc):bJ Tryz.prog 212 [.iptr [aF kind],.iptr (bB r)] (cu (m5 kind r,0)):=by
 refine aN Tryz.func212 rfl Tryz.ntmps212 rfl fun B=>?_
 repeat' (first|refine JU ?_|refine JG a5 JA ?_|(apply bw;refine bn ?_)|fail)
 exact JT JC
theorem xe (f:b7) (i:Nat) (l:List Int):bJ Tryz.prog 217 [aF i,.imm 1 (aW l),.iptr (cE f)] (aF (Ah f i l)):=by
 refine aN Tryz.func217 rfl Tryz.ntmps217 rfl fun B=>?_
 repeat' (first|refine JU ?_|refine JG a5 JA ?_|(apply bw;refine bn ?_)|fail)
 exact JN JB
theorem A6 (f:b7) (r:bc) (h:r.Back.length≤6∧r.In.length≤6∧r.Ahead.length≤6):bJ Tryz.prog 214 [.iptr (bB r),.iptr (cE f)] (cu (d5 (p8 r) (Ah f))):=by
 refine aN Tryz.func214 rfl Tryz.ntmps214 rfl fun B=>?_
 repeat' (first|refine JU ?_|refine JG a5 JA ?_|refine bN a5 ?_|fail)
 refine bn (hc:=⟨wn [r.Back,r.In,r.Ahead] (by simp [gK];omega)⟩) ?_
 rw [show ([r.Back,r.In,r.Ahead]:List (List (List Int))).flatten=p8 r by simp [p8]]
 repeat' (first|refine JG a5 JA ?_)
 refine b9 [] [] (Et (u:= .fn 217 [.iptr (cE f)]) (g:=217) rfl (p8 r) _ (fun _ _=>True) [] trivial (da (fun i x _=>xe f i x))) rfl rfl (Jp _) rfl fun c L1 hc=>?_
 have hc:c=cu (d5 (p8 r) (Ah f)):=hc
 subst hc
 unfold cu
 repeat' (first|refine JU ?_|refine JG a5 JA ?_)
 exact JT JC
theorem A7 (kind:Int) (r:bc) (hin:r.In≠[]):bJ Tryz.prog 219 [.iptr [aF kind],.iptr (bB r)] (cu (dX (!(ph kind r)) 40,0)):=by
 refine aN Tryz.func219 rfl Tryz.ntmps219 rfl fun B=>?_
 repeat' (first|refine JU ?_|refine JG a5 JA ?_)
 refine bn (hc:=⟨ER kind r hin⟩) ?_
 repeat' (first|refine JU ?_|refine JG a5 JA ?_|(apply bw;refine bn ?_)|fail)
 exact JT JC
theorem xf (f:b7) (i:Nat) (n:Int):bJ Tryz.prog 222 [aF i,aF n,.iptr (cE f)] (aF (zQ f i n)):=by
 refine aN Tryz.func222 rfl Tryz.ntmps222 rfl fun B=>?_
 repeat' (first|refine JU ?_|refine JG a5 JA ?_|(apply bw;refine bn ?_)|fail)
 exact JN JB
theorem A8 (f:b7) (r:bc):bJ Tryz.prog 221 [.iptr (bB r),.iptr (cE f)] (cu (d5 r.Out (zQ f))):=by
 refine aN Tryz.func221 rfl Tryz.ntmps221 rfl fun B=>?_
 repeat' (first|refine JU ?_|refine JG a5 JA ?_)
 refine b9 [] [] (mS (u:= .fn 222 [.iptr (cE f)]) (g:=222) rfl r.Out _ (fun _ _=>True) [] trivial (da (fun i x _=>xf f i x))) rfl rfl (Jp _) rfl fun c L1 hc=>?_
 have hc:c=cu (d5 r.Out (zQ f)):=hc
 subst hc
 unfold cu
 repeat' (first|refine JU ?_|refine JG a5 JA ?_)
 exact JT JC
theorem A9 (f:b7) (kind:Int) (r:bc):bJ Tryz.prog 223 [.iptr (cE f),.iptr [aF kind],.iptr (bB r)] (cu (kS f kind r,0)):=by
 refine aN Tryz.func223 rfl Tryz.ntmps223 rfl fun B=>?_
 repeat' (first|refine JU ?_|refine JG a5 JA ?_|(apply bw;refine bn ?_)|fail)
 exact JT JC
theorem Aa (r:bc):bJ Tryz.prog 225 [.iptr (bB r)] (cu (dX (!([r.X].all gp)) 1,0)):=by
 refine aN Tryz.func225 rfl Tryz.ntmps225 rfl fun B=>?_
 repeat' (first|refine JU ?_|refine JG a5 JA ?_|refine bN a5 ?_|(apply bw;refine bn ?_)|fail)
 exact JT JC
theorem Ab (kind:Int) (r:bc):bJ Tryz.prog 226 [.iptr (bB r),.iptr [aF kind]] (cu (xE kind r,0)):=by
 refine aN Tryz.func226 rfl Tryz.ntmps226 rfl fun B=>?_
 unfold xE
 by_cases h:r.X≠0
 ·rw [show decide (r.X≠0∧kind≠6)=decide (kind≠6) from decide_eq_decide.2 ⟨fun q=>q.2,fun q=>⟨h,q⟩⟩]
  repeat' (first|refine JU ?_|refine JG a5 JA ?_)
  rw [decide_eq_true h]
  repeat' (first|refine JU ?_|refine JG a5 JA ?_|refine JO JA ?_|(apply bw;refine bn ?_)|fail)
  exact JT JC
 ·rw [show decide (r.X≠0∧kind≠6)=false from decide_eq_false (fun q=>h q.1)]
  repeat' (first|refine JU ?_|refine JG a5 JA ?_)
  rw [decide_eq_false h]
  repeat' (first|refine JU ?_|refine JG a5 JA ?_|refine JP JC ?_|(apply bw;refine bn ?_)|fail)
  exact JT JC
def jG (f:b7) (kind:Int) (r:bc):Int:=(gG [(m5 kind r,0),d5 (p8 r) (Ah f),(dX (!(ph kind r)) 40,0),d5 r.Out (zQ f),(kS f kind r,0),(dX (!([r.X].all gp)) 1,0),(xE kind r,0)]).1
set_option maxHeartbeats 1000000 in
theorem D6 (f:b7) (kind:Int) (r:bc):bJ Tryz.prog 141 [bZ f,aF kind,.agg (bB r)] (aF (jG f kind r)):=by
 refine aN Tryz.func141 rfl Tryz.ntmps141 rfl fun B=>?_
 repeat' (first|refine JU ?_|refine JG a5 JA ?_|refine bf ?_|refine bN a5 ?_|fail)
 refine b9 [] [] (jt [⟨212,[.iptr [aF kind],.iptr (bB r)],[],m5 kind r,0⟩,⟨214,[.iptr (bB r),.iptr (cE f)],[],(d5 (p8 r) (Ah f)).1,(d5 (p8 r) (Ah f)).2⟩,⟨219,[.iptr [aF kind],.iptr (bB r)],[],dX (!(ph kind r)) 40,0⟩,⟨221,[.iptr (bB r),.iptr (cE f)],[],(d5 r.Out (zQ f)).1,(d5 r.Out (zQ f)).2⟩,⟨223,[.iptr (cE f),.iptr [aF kind],.iptr (bB r)],[],kS f kind r,0⟩,⟨225,[.iptr (bB r)],[],dX (!([r.X].all gp)) 1,0⟩,⟨226,[.iptr (bB r),.iptr [aF kind]],[],xE kind r,0⟩] ?_) rfl rfl (Jp _) rfl fun c L1 hc=>?_
 ·exact ⟨⟨inferInstance,A5 kind r⟩,fun h1=>⟨⟨inferInstance,A6 f r (yn h1).2⟩,fun _=>⟨⟨inferInstance,A7 kind r (yn h1).1⟩,fun _=>⟨⟨inferInstance,A8 f r⟩,fun _=>⟨⟨inferInstance,A9 f kind r⟩,fun _=>⟨⟨inferInstance,Aa r⟩,fun _=>⟨⟨inferInstance,Ab kind r⟩,fun _=>trivial⟩⟩⟩⟩⟩⟩⟩
 rw [ki] at hc
 subst hc
 unfold cu
 repeat' (first|refine JU ?_|refine JG a5 JA ?_)
 exact JN JB
instance (f:b7) (kind:Int) (r:bc):AD Tryz.prog 141 [bZ f,aF kind,.agg (bB r)] (aF (jG f kind r)):=⟨D6 f kind r⟩
theorem oQ (l:aO):bJ Tryz.prog 136 [.iptr (bi l)] (cu (dX (decide ((l.Rules.length:Int) > 60)) 2,0)):=by
 refine aN Tryz.func136 rfl Tryz.ntmps136 rfl fun B=>?_
 rw [show (l.Rules.length:Int)=((l.Rules.map bB).length:Int) by rw [Jv]]
 repeat' (first|refine JU ?_|refine JG a5 JA ?_|(apply bw;refine bn ?_)|fail)
 exact JT JC
def pK (l:aO):Int:=dX (decide (l.Kind=7∨l.Kind=8) && decide ((l.Rules.length:Int) > 0)) 40
theorem oR (l:aO) (b:Bool) (hb:b=decide (l.Kind=7∨l.Kind=8)):bJ Tryz.prog 137 [.iptr [dY b],.iptr (bi l)] (cu (pK l,0)):=by
 refine aN Tryz.func137 rfl Tryz.ntmps137 rfl fun B=>?_
 unfold pK
 rw [←hb,show (l.Rules.length:Int)=((l.Rules.map bB).length:Int) by rw [Jv]]
 cases b
 ·repeat' (first|refine JU ?_|refine JG a5 JA ?_|refine JP JC ?_|(apply bw;refine bn ?_)|fail)
  exact JT JC
 ·repeat' (first|refine JU ?_|refine JG a5 JA ?_|refine JO JA ?_|(apply bw;refine bn ?_)|fail)
  exact JT JC
theorem tl (f:b7) (l:aO) (i:Nat) (r:bc):bJ Tryz.prog 140 [aF i,.agg (bB r),.iptr (cE f),.iptr (bi l)] (aF (jG f l.Kind r)):=by
 refine aN Tryz.func140 rfl Tryz.ntmps140 rfl fun B=>?_
 repeat' (first|refine JU ?_|refine JG a5 JA ?_|refine bf ?_|(apply bw;refine bn ?_)|fail)
 exact JN JB
theorem oS (f:b7) (l:aO):bJ Tryz.prog 138 [.iptr (bi l),.iptr (cE f)] (cu (d5 l.Rules fun _ r=>jG f l.Kind r)):=by
 refine aN Tryz.func138 rfl Tryz.ntmps138 rfl fun B=>?_
 repeat' (first|refine JU ?_|refine JG a5 JA ?_)
 refine b9 [] [] (Ei (u:= .fn 140 [.iptr (cE f),.iptr (bi l)]) (g:=140) rfl l.Rules _ (fun _ _=>True) [] trivial (da (w:=fun _ r=>jG f l.Kind r) (fun i x _=>tl f l i x))) rfl rfl (Jp _) rfl fun c L1 hc=>?_
 have hc:c=cu (d5 l.Rules fun _ r=>jG f l.Kind r):=hc
 subst hc
 unfold cu
 repeat' (first|refine JU ?_|refine JG a5 JA ?_)
 exact JT JC
def lI (f:b7) (l:aO):Int:=if l.Kind < 1∨l.Kind > 8 then 42 else (gG [(dX (decide ((l.Rules.length:Int) > 60)) 2,0),(pK l,0),d5 l.Rules fun _ r=>jG f l.Kind r]).1
set_option maxHeartbeats 1000000 in
theorem wQ (f:b7) (l:aO):bJ Tryz.prog 62 [bZ f,.agg (bi l)] (aF (lI f l)):=by
 refine aN Tryz.func62 rfl Tryz.ntmps62 rfl fun B=>?_
 unfold lI
 repeat' (first|refine JU ?_|refine JG a5 JA ?_|refine bf ?_|fail)
 refine bX [2,3] (l.Kind < 1∨l.Kind > 8) rfl (fun Q' K=>?_) (fun hC=>?_) (fun hC=>?_)
 ·repeat' (first|refine JU ?_|refine JG a5 JA ?_|refine JO JA ?_|refine JP JC ?_|refine JS JB (fun _=>?_) (fun _=>?_))
  all_goals exact K _ _ rfl rfl (by clear K;grind)
 ·rw [if_pos hC]
  repeat' (first|refine JU ?_|refine JG a5 JA ?_)
  exact JN JB
 rw [if_neg hC]
 repeat' (first|refine JU ?_|refine JG a5 JA ?_)
 by_cases h7:l.Kind=7
 ·rw [decide_eq_true h7]
  repeat' (first|refine JU ?_|refine JG a5 JA ?_|refine JP JC ?_|(apply aM;first|refine JI 5 a5 0 JF ?_|refine JI 5 a5 1 JF ?_|refine JI 5 a5 2 JF ?_|refine JH a5 0 JE ?_|refine JH a5 1 JE ?_|refine JH a5 2 JE ?_|refine JH a5 3 JE ?_|fail)|refine bj a5 fun _=>?_|refine bN a5 ?_|fail)
  refine b9 [] [] (jt [⟨136,[.iptr (bi l)],[],dX (decide ((l.Rules.length:Int) > 60)) 2,0⟩,⟨137,[.iptr [dY true],.iptr (bi l)],[],pK l,0⟩,⟨138,[.iptr (bi l),.iptr (cE f)],[],(d5 l.Rules fun _ r=>jG f l.Kind r).1,(d5 l.Rules fun _ r=>jG f l.Kind r).2⟩] ⟨⟨inferInstance,oQ l⟩,fun _=>⟨⟨inferInstance,oR l true (decide_eq_true (Or.inl h7)).symm⟩,fun _=>⟨⟨inferInstance,oS f l⟩,fun _=>trivial⟩⟩⟩) rfl rfl (Jp _) rfl fun c L1 hc=>?_
  rw [ki] at hc
  subst hc
  unfold cu
  repeat' (first|refine JU ?_|refine JG a5 JA ?_)
  exact JN JB
 ·rw [decide_eq_false h7]
  repeat' (first|refine JU ?_|refine JG a5 JA ?_|refine JO JA ?_|(apply aM;first|refine JI 5 a5 0 JF ?_|refine JI 5 a5 1 JF ?_|refine JI 5 a5 2 JF ?_|refine JH a5 0 JE ?_|refine JH a5 1 JE ?_|refine JH a5 2 JE ?_|refine JH a5 3 JE ?_|fail)|refine bj a5 fun _=>?_|refine bN a5 ?_|fail)
  refine b9 [] [] (jt [⟨136,[.iptr (bi l)],[],dX (decide ((l.Rules.length:Int) > 60)) 2,0⟩,⟨137,[.iptr [dY (decide (l.Kind=8))],.iptr (bi l)],[],pK l,0⟩,⟨138,[.iptr (bi l),.iptr (cE f)],[],(d5 l.Rules fun _ r=>jG f l.Kind r).1,(d5 l.Rules fun _ r=>jG f l.Kind r).2⟩] ⟨⟨inferInstance,oQ l⟩,fun _=>⟨⟨inferInstance,oR l (decide (l.Kind=8)) (decide_eq_decide.2 ⟨Or.inr,fun h=>h.resolve_left h7⟩)⟩,fun _=>⟨⟨inferInstance,oS f l⟩,fun _=>trivial⟩⟩⟩) rfl rfl (Jp _) rfl fun c L1 hc=>?_
  rw [ki] at hc
  subst hc
  unfold cu
  repeat' (first|refine JU ?_|refine JG a5 JA ?_)
  exact JN JB
instance (f:b7) (l:aO):AD Tryz.prog 62 [bZ f,.agg (bi l)] (aF (lI f l)):=⟨wQ f l⟩
theorem to (f:b7) (i:Nat) (l:aO):bJ Tryz.prog 61 [aF i,.agg (bi l),.iptr (cE f)] (aF (lI f l)):=by
 refine aN Tryz.func61 rfl Tryz.ntmps61 rfl fun B=>?_
 repeat' (first|refine JU ?_|refine JG a5 JA ?_|refine bf ?_|(apply bw;refine bn ?_)|fail)
 exact JN JB
end Go.Proofs.YtpmdfoaadejmkaaGreatDoor
