/-
  The library: rows of rows, one behind the other.
-/
import Derived.Test.YtpmdfoaadejmkaaGreatDoorM21
import Derived.Test.YtpmdfoaadejmkaaGreatDoorM07
namespace Go.Proofs.YtpmdfoaadejmkaaGreatDoor
open Go.RowKit
attribute [local irreducible] AT bv AX AO Av Kt b9 dh DA cE
theorem DG (n:Nat) (hn:n≤1000000):AC Tryz.prog 271 [.sc (.slice none 0 0),aF n] [] fun c L=>∃k,c= .vec k 1 []∧L=tok k 22 1 0:=by
 refine aL Tryz.func271 rfl Tryz.ntmps271 rfl fun B=>?_
 repeat' (first|refine IT ?_|refine IF a5 G9 ?_|refine bK rfl ?_)
 refine sG a5 rfl rfl rfl ?_
 repeat' (first|refine IT ?_|refine IF a5 G9 ?_|(apply aV;refine aU ?_)|fail)
 by_cases h0:n=0
 ·subst h0
  repeat' (first|refine IT ?_|refine IF a5 G9 ?_|refine bK rfl ?_)
  refine bh (bS (t:=4) (c':= .vec none 1 []) rfl fun σ v h=>cL 1 h) (IL G9 ⟨none,rfl,rfl⟩)
 ·refine ar rfl (fun h2=>?_) (fun h2=>?_)
  ·repeat' (first|refine IT ?_|refine IF a5 G9 ?_)
   refine sG a5 rfl rfl rfl ?_
   repeat' (first|fail)
   refine FQ a5 rfl rfl rfl rfl ?_
   repeat' (first|refine IF a5 G9 ?_)
   refine yH a5 n rfl Tryz.underlying3 rfl rfl (by omega) (by omega) (by omega) (by omega) rfl fun b cap h3 h4=>?_
   repeat' (first|refine IF a5 G9 ?_)
   refine BK a5 0 rfl rfl rfl rfl (by omega) (by omega) rfl ?_
   repeat' (first|refine IT ?_|refine IF a5 G9 ?_)
   refine bh (bS (t:=4) (c':= .vec (some (b,cap)) 1 []) rfl fun σ v h=>En h4 h) (IL G9 ⟨some (b,cap),rfl,rfl⟩)
  ·exact absurd (Ix h2) (by omega)
def qk (l:List (List (List Int))):List (List AV):=l.map fun r=>[.imm 1 (b7 r)]
def gx (l:List (List (List Int))):Nat:=(l.map List.length).sum
theorem ox {l:List (List (List Int))} {i:Nat} {r:List (List Int)} (h:l[i]?=some r):gx (l.take (i+1))=gx (l.take i)+r.length:=by
 unfold gx
 rw [List.take_add_one,h]
 simp
theorem rW (l:List (List (List Int))) (i:Nat):gx (l.take i)≤gx l:=by
 have h:((l.take i++l.drop i).map List.length).sum=(l.map List.length).sum:=by rw [List.take_append_drop]
 rw [List.map_append,List.sum_append] at h
 unfold gx
 omega
theorem AR (l:List (List (List Int))):l.flatten.length=gx l:=by
 unfold gx
 rw [List.length_flatten]
theorem yV (a b:List (List Int)):b7 a++b7 b=b7 (a++b):=by unfold b7;rw [List.map_append]
set_option maxHeartbeats 1000000 in
theorem vu (l:List (List (List Int))) (hs:gx l≤1000000):bN Tryz.prog 216 [.imm 1 (qk l)] (.imm 1 (b7 l.flatten)):=by
 refine aL Tryz.func216 rfl Tryz.ntmps216 rfl fun B=>?_
 have hrl:(qk l).length=l.length:=by simp [qk]
 refine cJ 0 rfl rfl fun hlen=>?_
 rw [hrl] at hlen
 repeat' (first|refine IT ?_|refine am ?_|refine IF a5 G9 ?_)
 refine aO [0,9,10] (α:=Nat) (fun i=>[(11,aF i),(3,aF (gx (l.take i)))]) (fun i=>i≤l.length) (fun _=>[]) (fun i=>l.length - i) 0 rfl ⟨rfl,rfl,trivial⟩ (Nat.zero_le _) (fun _ _ h=>h) fun i hi=>?_
 try dsimp only [Jx,Jw,Jv,Jq]
 repeat' (first|refine IT ?_|refine IF a5 G9 ?_)
 refine ar rfl (fun h=>?_) (fun h=>?_)
 ·have hil:i < l.length:=by have:=Iy h;rw [hrl] at this;omega
  obtain ⟨z,hz⟩:∃z,l[i]?=some z:=⟨_,Iz hil⟩
  have hzg:(qk l)[i]?=some [.imm 1 (b7 z)]:=by simp [qk,hz]
  have hsz:=ox hz
  have hle:=rW l (i+1)
  have hzl:(b7 z).length=z.length:=by simp [b7]
  repeat' (first|refine IT ?_|refine am ?_|refine IF a5 G9 ?_|(apply aV;refine aU ?_)|(apply aS;first|refine aQ a5 ?_|refine aG a5 ?_)|refine bK rfl ?_)
  exact aC (i+1) rfl ⟨by rw [Iv];rfl,by rw [hsz,Iv,hzl];rfl,trivial⟩ (by omega) (by omega) (fun _ _ h=>h)
 have hil:i=l.length:=by have:=Ix h;rw [hrl] at this;omega
 subst hil
 rw [List.take_length]
 clear h
 repeat' (first|refine IT ?_|refine IF a5 G9 ?_)
 refine aX [] [] (DG (gx l) hs) rfl rfl (Jt _) rfl fun c L1 ⟨k,hc,hL⟩=>?_
 subst hc;subst hL
 rw [List.append_nil]
 repeat' (first|refine IT ?_|refine am ?_|refine IF a5 G9 ?_)
 refine aO [25,26] (α:=Nat×Option (Nat×Nat)) (fun x=>[(27,aF x.1),(6,.vec x.2 1 (b7 (l.take x.1).flatten))]) (fun x=>x.1≤l.length) (fun x=>tok x.2 22 1 (b7 (l.take x.1).flatten).length) (fun x=>l.length - x.1) (0,k) rfl ⟨rfl,rfl,trivial⟩ (Nat.zero_le _) (fun _ _ h=>h) ?_
 rintro ⟨i,k⟩ hi
 dsimp only at hi ⊢
 try dsimp only [Jx,Jw,Jv,Jq]
 repeat' (first|refine IT ?_|refine IF a5 G9 ?_)
 refine ar rfl (fun h=>?_) (fun h=>?_)
 ·have hil:i < l.length:=by have:=Iy h;rw [hrl] at this;omega
  obtain ⟨z,hz⟩:∃z,l[i]?=some z:=⟨_,Iz hil⟩
  have hzg:(qk l)[i]?=some [.imm 1 (b7 z)]:=by simp [qk,hz]
  have hsz:=ox hz
  have hle:=rW l (i+1)
  have hzl:(b7 z).length=z.length:=by simp [b7]
  have hfl:(b7 (l.take i).flatten).length=gx (l.take i):=by rw [cn,AR]
  have hcat:b7 (l.take i).flatten++b7 z=b7 (l.take (i+1)).flatten:=by rw [yV,List.take_add_one,hz];simp
  repeat' (first|refine IT ?_|refine am ?_|refine IF a5 G9 ?_|(apply aS;first|refine aQ a5 ?_|refine aG a5 ?_)|fail)
  refine bM a5 [] rfl rfl rfl rfl (by rw [List.append_nil]) (by rw [hfl,hzl];omega) (by rw [hfl,hzl];omega) rfl fun k'=>?_
  rw [hcat,List.append_nil]
  repeat' (first|refine IT ?_|refine IF a5 G9 ?_|(apply aV;refine aU ?_)|fail)
  exact aC (i+1,k') rfl ⟨by rw [Iv];rfl,rfl,trivial⟩ (by dsimp only;omega) (by dsimp only;omega) (fun _ _ h=>h)
 ·have hil:i=l.length:=by have:=Ix h;rw [hrl] at this;omega
  subst hil
  rw [List.take_length]
  repeat' (first|refine IT ?_|refine IF a5 G9 ?_)
  exact A7 rfl rfl rfl rfl
def jN (l:List Int):Bool:=decide (∀i,i < l.length - 1→l.getD i 0 < l.getD (i+1) 0)
theorem kE {l:List Int} {i:Nat} {z:Int} (h:l[i]?=some z):l.getD i 0=z:=by simp [h]
theorem wf (l:List Int):bN Tryz.prog 253 [.imm 1 (aT l)] (ec (jN l)):=by
 refine aL Tryz.func253 rfl Tryz.ntmps253 rfl fun B=>?_
 refine cJ 0 rfl rfl fun hlen=>?_
 have hll:=b6 l
 rw [b6] at hlen
 repeat' (first|refine IT ?_|refine am ?_|refine IF a5 G9 ?_)
 refine aO [0] (α:=Nat) (fun i=>[(3,aF (i+1:Nat))]) (fun i=>i≤l.length∧∀j,j < i→j+1 < l.length→l.getD j 0 < l.getD (j+1) 0) (fun _=>[]) (fun i=>l.length - i) 0 rfl ⟨rfl,trivial⟩ ⟨Nat.zero_le _,fun j hj=>absurd hj (Nat.not_lt_zero _)⟩ (fun _ _ h=>h) fun i ⟨hi,hall⟩=>?_
 try dsimp only [Jx,Jw,Jv,Jq]
 repeat' (first|refine IT ?_|refine IF a5 G9 ?_)
 refine ar rfl (fun h=>?_) (fun h=>?_)
 ·have hil:i+1 < l.length:=by have:=Iy h;rw [b6] at this;omega
  obtain ⟨y,hy⟩:∃z,l[i]?=some z:=⟨_,Iz (by omega)⟩
  obtain ⟨z,hz⟩:∃z,l[i+1]?=some z:=⟨_,Iz hil⟩
  have hyg:(aT l)[(((i+1:Nat):Int) - 1).toNat]?=some [aF y]:=by rw [show (((i+1:Nat):Int) - 1).toNat=i by omega];exact bR hy
  have hzg:=bR hz
  repeat' (first|refine IT ?_|refine am ?_)
  refine bA 9 [(0,.v),(1,.v),(2,.v),(3,.v),(4,.v),(5,.v),(6,.v),(7,.v),(8,.v)] none ?_ trivial rfl (by kernel_rfl) (by kernel_rfl) (by kernel_rfl) bU (by kernel_rfl) rfl
  repeat' (first|refine aD ?_|refine b8 a5 ?_|(apply ek;refine fH ?_)|(apply cB;refine cT a5 ?_)|fail)
  refine IQ [0,3,13,18] G9 ?_
  repeat' (first|refine IT ?_|refine a7 ?_|refine IF a5 G9 ?_)
  refine ar rfl (fun h2=>?_) (fun h2=>?_)
  ·have h2':=Iy h2
   repeat' (first|refine IT ?_|refine IF a5 G9 ?_)
   refine IL G9 ?_
   rw [show jN l=false from decide_eq_false (fun hh=>by have:=hh i (by omega);rw [kE hy,kE hz] at this;omega)]
  ·have h2':=Ix h2
   repeat' (first|refine IT ?_|refine IF a5 G9 ?_|(apply aV;refine aU ?_)|fail)
   refine aC (i+1) rfl ⟨by rw [Iv (i+1) 1];rfl,trivial⟩ ⟨by omega,fun j hj hjl=>?_⟩ (by omega) (fun _ _ h=>h)
   by_cases e:j=i
   ·subst e;rw [kE hy,kE hz];omega
   ·exact hall j (by omega) hjl
 ·have hil:l.length≤i+1:=by have:=Ix h;rw [b6] at this;omega
  repeat' (first|refine IT ?_|refine IF a5 G9 ?_)
  refine IL G9 ?_
  rw [show jN l=true from decide_eq_true (fun j hj=>hall j (by omega) (by omega))]
instance (l:List Int):AD Tryz.prog 253 [.imm 1 (aT l)] (ec (jN l)):=⟨wf l⟩
def lL (f:aZ) (l:List Int):Bool:=decide (0 < l.length) && (jN l && (kG f (l.getD 0 0) && kG f (l.getD (l.length - 1) 0)))
set_option maxHeartbeats 1000000 in
theorem yq (f:aZ) (l:List Int):bN Tryz.prog 218 [cR f,.imm 1 (aT l)] (ec (lL f l)):=by
 refine aL Tryz.func218 rfl Tryz.ntmps218 rfl fun B=>?_
 refine cJ 1 rfl rfl fun hlen=>?_
 cases l with
 | nil=>
  repeat' (first|refine IT ?_|refine IF a5 G9 ?_|refine bo ?_|fail)
  refine bA 24 [(0,.v),(1,.v),(2,.v),(3,.v),(4,.v),(5,.v),(6,.v),(7,.v),(8,.v),(9,.v),(10,.v),(11,.v),(12,.v),(13,.v),(14,.v),(15,.v),(16,.v),(17,.v),(18,.v),(19,.v),(20,.v),(21,.v),(22,.v),(23,.v)] none ?_ trivial rfl (by kernel_rfl) (by kernel_rfl) (by kernel_rfl) bU (by kernel_rfl) rfl
  repeat' (first|refine aD ?_|refine b8 a5 ?_|refine rd rfl rfl ?_)
  refine IQ [28] G9 ?_
  repeat' (first|refine IT ?_|refine a7 ?_|refine IF a5 G9 ?_)
  exact IN IA
 | cons y q=>
  have hll:(aT (y::q)).length=q.length+1:=by rw [b6];rfl
  rw [hll] at hlen
  obtain ⟨z,hz⟩:∃z,(y::q)[q.length]?=some z:=⟨_,Iz (by simp)⟩
  have hzg:(aT (y::q))[((((aT (y::q)).length:Nat):Int) - 1).toNat]?=some [aF z]:=by rw [show ((((aT (y::q)).length:Nat):Int) - 1).toNat=q.length by rw [hll];omega];exact bR hz
  have hyg:(aT (y::q))[(0:Int).toNat]?=some [aF y]:=rfl
  have hval:lL f (y::q)=(jN (y::q) && (kG f y && kG f z)):=by
   unfold lL
   rw [show (y::q).length - 1=q.length by simp,kE hz]
   simp
  rw [hval]
  have hpos:decide (0 < (((aT (y::q)).length:Nat):Int))=true:=decide_eq_true (by rw [hll];omega)
  repeat' (first|refine IT ?_|refine IF a5 G9 ?_|refine bo ?_|fail)
  refine bA 24 [(0,.v),(1,.v),(2,.v),(3,.v),(4,.v),(5,.v),(6,.v),(7,.v),(8,.v),(9,.v),(10,.v),(11,.v),(12,.v),(13,.v),(14,.v),(15,.v),(16,.v),(17,.v),(18,.v),(19,.v),(20,.v),(21,.v),(22,.v),(23,.v)] none ?_ trivial rfl (by kernel_rfl) (by kernel_rfl) (by kernel_rfl) bU (by kernel_rfl) rfl
  repeat' (first|refine aD ?_|refine b8 a5 ?_|fail)
  rw [hpos]
  repeat' (first|refine aD ?_|refine b8 a5 ?_|(apply dy;refine ej ?_)|fail)
  generalize jN (y::q)=b1
  cases b1
  ·repeat' (first|refine aD ?_|refine b8 a5 ?_|refine rd rfl rfl ?_)
   refine IQ [28] G9 ?_
   repeat' (first|refine IT ?_|refine a7 ?_|refine IF a5 G9 ?_)
   exact IN IA
  repeat' (first|refine aD ?_|refine b8 a5 ?_|(apply cB;refine cT a5 ?_)|(apply dy;refine ej ?_)|fail)
  generalize kG f y=b2
  cases b2
  ·repeat' (first|refine aD ?_|refine b8 a5 ?_|refine rd rfl rfl ?_)
   refine IQ [28] G9 ?_
   repeat' (first|refine IT ?_|refine a7 ?_|refine IF a5 G9 ?_)
   exact IN IA
  repeat' (first|refine aD ?_|refine b8 a5 ?_|(apply ek;refine fH ?_)|(apply cB;refine cT a5 ?_)|(apply dy;refine ej ?_)|fail)
  refine IQ [28] G9 ?_
  repeat' (first|refine IT ?_|refine a7 ?_|refine IF a5 G9 ?_)
  exact IN IA
instance (f:aZ) (l:List Int):AD Tryz.prog 218 [cR f,.imm 1 (aT l)] (ec (lL f l)):=⟨yq f l⟩
def eI (kind:Int) (r:bb):Bool:=if kind=1∨kind=2∨kind=5 then decide ((r.In.length:Int)≠1) else if kind=6 then decide ((r.In.length:Int)≠2∨(r.Back.length:Int) > 0∨(r.Ahead.length:Int) > 0) else decide ((r.In.length:Int)=0)
def lu (kind:Int) (r:bb):Int:=if (r.Back.length:Int) > 6∨(r.In.length:Int) > 6∨(r.Ahead.length:Int) > 6 then 2 else dK (eI kind r) 40
set_option maxHeartbeats 1000000 in
theorem C6 (kind:Int) (r:bb):bN Tryz.prog 213 [aF kind,.agg (bB r)] (aF (lu kind r)):=by
 refine aL Tryz.func213 rfl Tryz.ntmps213 rfl fun B=>?_
 unfold lu eI
 have hB:=cn r.Back
 have hI:=cn r.In
 have hA:=cn r.Ahead
 rw [←hB,←hI,←hA]
 repeat' (first|refine IT ?_|refine IF a5 G9 ?_|refine bo ?_|fail)
 refine c7 [0,3] (((b7 r.Back).length:Int) > 6∨((b7 r.In).length:Int) > 6∨((b7 r.Ahead).length:Int) > 6) rfl (fun Q' K=>?_) (fun hC=>?_) (fun hC=>?_)
 ·repeat' (first|refine IT ?_|refine IF a5 G9 ?_|refine IM G9 ?_|refine IP IB ?_|refine IR IA (fun _=>?_) (fun _=>?_))
  all_goals exact K _ _ rfl rfl (by clear K;grind)
 ·rw [if_pos hC]
  repeat' (first|refine IT ?_|refine IF a5 G9 ?_)
  exact IN IA
 rw [if_neg hC]
 by_cases h1:kind=1
 ·subst h1
  repeat' (first|refine IT ?_|refine am ?_|refine IF a5 G9 ?_|(apply bk;refine bf ?_)|refine bQ rfl ?_)
  exact IN IA
 by_cases h2:kind=2
 ·subst h2
  repeat' (first|refine IT ?_|refine am ?_|refine IF a5 G9 ?_|(apply bk;refine bf ?_)|refine bQ rfl ?_|refine bK rfl ?_)
  exact IN IA
 by_cases h5:kind=5
 ·subst h5
  repeat' (first|refine IT ?_|refine am ?_|refine IF a5 G9 ?_|(apply bk;refine bf ?_)|refine bQ rfl ?_|refine bK rfl ?_)
  exact IN IA
 rw [if_neg (by omega)]
 by_cases h6:kind=6
 ·subst h6
  rw [if_pos rfl]
  repeat' (first|refine IT ?_|refine am ?_|refine IF a5 G9 ?_|refine bQ rfl ?_|refine bK rfl ?_)
  refine df (t:=5) [] (((b7 r.In).length:Int)≠2∨((b7 r.Back).length:Int) > 0∨((b7 r.Ahead).length:Int) > 0) rfl (fun Q' K=>?_) ?_
  ·repeat' (first|refine IT ?_|refine IF a5 G9 ?_|refine IM G9 ?_|refine IP IB ?_|refine IR IA (fun _=>?_) (fun _=>?_))
   all_goals exact K _ _ rfl rfl (by clear K;grind)
  repeat' (first|refine IT ?_|refine IF a5 G9 ?_|(apply bk;refine bf ?_)|fail)
  exact IN IA
 rw [if_neg h6]
 repeat' (first|refine IT ?_|refine am ?_|refine IF a5 G9 ?_)
 refine ar rfl (fun h=>absurd (Iy h) h1) (fun h=>?_)
 repeat' (first|refine IT ?_|refine IF a5 G9 ?_)
 refine ar rfl (fun h=>absurd (Iy h) h2) (fun h=>?_)
 repeat' (first|refine IT ?_|refine IF a5 G9 ?_)
 refine ar rfl (fun h=>absurd (Iy h) h5) (fun h=>?_)
 rw [decide_eq_false h5]
 repeat' (first|refine IT ?_|refine IF a5 G9 ?_)
 refine ar rfl (fun h=>absurd (Iy h) h6) (fun h=>?_)
 repeat' (first|refine IT ?_|refine IF a5 G9 ?_|(apply bk;refine bf ?_)|fail)
 exact IN IA
instance (kind:Int) (r:bb):AD Tryz.prog 213 [aF kind,.agg (bB r)] (aF (lu kind r)):=⟨C6 kind r⟩
theorem xk {kind:Int} {r:bb} (h:lu kind r=0):r.In≠[]∧r.Back.length≤6∧r.In.length≤6∧r.Ahead.length≤6:=by
 unfold lu at h
 split at h
 ·cases h
 ·rename_i hc
  refine ⟨fun e=>?_,by omega,by omega,by omega⟩
  have hw:eI kind r=true:=by
   unfold eI
   rw [e]
   split
   ·decide
   ·split <;> simp
  rw [hw] at h
  cases h
def oE (kind:Int) (r:bb):Bool:=if kind=1∨kind=5 then decide ((r.Out.length:Int)=((r.In.headD []).length:Int)) else if kind=2 then decide ((r.Out.length:Int)≤6) else if kind=3 then decide ((r.Out.length:Int)=1) else decide ((r.Out.length:Int)=0)
set_option maxHeartbeats 1000000 in
theorem DS (kind:Int) (r:bb) (hin:r.In≠[]):bN Tryz.prog 220 [aF kind,.agg (bB r)] (ec (oE kind r)):=by
 refine aL Tryz.func220 rfl Tryz.ntmps220 rfl fun B=>?_
 obtain ⟨y,hy⟩:∃y,r.In[0]?=some y:=⟨_,Iz (List.length_pos_iff.2 hin)⟩
 have hyg:=gu hy
 have hv:oE kind r=if kind=1∨kind=5 then decide (((aT r.Out).length:Int)=((aT y).length:Int)) else if kind=2 then decide (((aT r.Out).length:Int)≤6) else if kind=3 then decide (((aT r.Out).length:Int)=1) else decide (((aT r.Out).length:Int)=0):=by
  have hd:r.In.headD []=y:=by
   cases hI:r.In with
   | nil=>exact absurd hI hin
   | cons y' q=>rw [hI] at hy;simpa using hy
  unfold oE
  rw [hd,b6,b6]
 rw [hv]
 by_cases h1:kind=1
 ·subst h1
  repeat' (first|refine IT ?_|refine am ?_|refine IF a5 G9 ?_|refine bo ?_|refine bQ rfl ?_)
  refine bA 8 [(0,.v),(1,.v),(2,.v),(3,.v),(4,.v),(5,.v),(6,.v),(7,.v)] none ?_ trivial rfl (by kernel_rfl) (by kernel_rfl) (by kernel_rfl) bU (by kernel_rfl) rfl
  repeat' (first|refine aD ?_|refine b8 a5 ?_|(apply cB;refine cT a5 ?_)|fail)
  refine IQ [11,16] G9 ?_
  repeat' (first|refine IT ?_|refine a7 ?_|refine IF a5 G9 ?_)
  exact IN IA
 by_cases h5:kind=5
 ·subst h5
  repeat' (first|refine IT ?_|refine am ?_|refine IF a5 G9 ?_|refine bo ?_|refine bQ rfl ?_|refine bK rfl ?_)
  refine bA 8 [(0,.v),(1,.v),(2,.v),(3,.v),(4,.v),(5,.v),(6,.v),(7,.v)] none ?_ trivial rfl (by kernel_rfl) (by kernel_rfl) (by kernel_rfl) bU (by kernel_rfl) rfl
  repeat' (first|refine aD ?_|refine b8 a5 ?_|(apply cB;refine cT a5 ?_)|fail)
  refine IQ [11,16] G9 ?_
  repeat' (first|refine IT ?_|refine a7 ?_|refine IF a5 G9 ?_)
  exact IN IA
 rw [if_neg (by omega)]
 by_cases h2:kind=2
 ·subst h2
  repeat' (first|refine IT ?_|refine am ?_|refine IF a5 G9 ?_|refine bo ?_|refine bQ rfl ?_|refine bK rfl ?_)
  exact IN IA
 rw [if_neg h2]
 by_cases h3:kind=3
 ·subst h3
  repeat' (first|refine IT ?_|refine am ?_|refine IF a5 G9 ?_|refine bo ?_|refine bQ rfl ?_|refine bK rfl ?_)
  exact IN IA
 rw [if_neg h3]
 repeat' (first|refine IT ?_|refine am ?_|refine IF a5 G9 ?_|refine bo ?_|fail)
 refine ar rfl (fun h=>absurd (Iy h) h1) (fun h=>?_)
 repeat' (first|refine IT ?_|refine IF a5 G9 ?_)
 refine ar rfl (fun h=>absurd (Iy h) h5) (fun h=>?_)
 rw [decide_eq_false h5]
 repeat' (first|refine IT ?_|refine IF a5 G9 ?_)
 refine ar rfl (fun h=>absurd (Iy h) h2) (fun h=>?_)
 repeat' (first|refine IT ?_|refine IF a5 G9 ?_)
 refine ar rfl (fun h=>absurd (Iy h) h3) (fun h=>?_)
 repeat' (first|refine IT ?_|refine IF a5 G9 ?_)
 exact IN IA
def pI (f:aZ) (n:Int):Int:=match f.Lookups[n.toNat]? with | some l=>l.Kind | none=>0
def tF (f:aZ) (r:bb) (_:Nat) (c:gO):Int:=if c.At < 0∨c.At≥r.In.length then 40 else if c.Lookup < 0∨c.Lookup≥f.Lookups.length then 42 else dK (decide (pI f c.Lookup < 1∨pI f c.Lookup > 4)) 42
set_option maxHeartbeats 1000000 in
theorem Ai (f:aZ) (r:bb) (i:Nat) (c:gO):bN Tryz.prog 273 [aF i,.agg (eT c),.iptr (bB r),.iptr (cw f)] (aF (tF f r i c)):=by
 refine aL Tryz.func273 rfl Tryz.ntmps273 rfl fun B=>?_
 unfold tF
 have hI:=cn r.In
 have hL:(f.Lookups.map bC).length=f.Lookups.length:=Jz ..
 rw [←hI]
 repeat' (first|refine IT ?_|refine am ?_|refine IF a5 G9 ?_|refine bo ?_|fail)
 refine c7 [3,5] (c.At < 0∨c.At≥((b7 r.In).length:Int)) rfl (fun Q' K=>?_) (fun hC=>?_) (fun hC=>?_)
 ·repeat' (first|refine IT ?_|refine IF a5 G9 ?_|refine IM G9 ?_|refine IP IB ?_|refine IR IA (fun _=>?_) (fun _=>?_))
  all_goals exact K _ _ rfl rfl (by clear K;grind)
 ·rw [if_pos hC]
  repeat' (first|refine IT ?_|refine IF a5 G9 ?_)
  exact IN IA
 rw [if_neg hC]
 repeat' (first|refine IT ?_|refine IF a5 G9 ?_)
 refine c7 [3,5] (c.Lookup < 0∨c.Lookup≥f.Lookups.length) rfl (fun Q' K=>?_) (fun hC=>?_) (fun hC=>?_)
 ·repeat' (first|refine IT ?_|refine IF a5 G9 ?_|refine IM G9 ?_|refine IP IB ?_|refine IR IA (fun _=>?_) (fun _=>?_))
  all_goals exact K _ _ rfl rfl (by clear K;grind)
 ·rw [if_pos hC]
  repeat' (first|refine IT ?_|refine IF a5 G9 ?_)
  exact IN IA
 rw [if_neg hC]
 obtain ⟨l,hl⟩:∃l,f.Lookups[c.Lookup.toNat]?=some l:=⟨_,Iz (by omega)⟩
 have hlg:=cC (c:=bC) hl
 have hk:pI f c.Lookup=l.Kind:=by unfold pI;rw [hl]
 rw [hk]
 repeat' (first|refine IT ?_|refine IF a5 G9 ?_|(apply aS;first|refine aQ a5 ?_|refine aG a5 ?_)|fail)
 by_cases h1:l.Kind < 1
 ·rw [decide_eq_true h1,decide_eq_true (Or.inl h1)]
  repeat' (first|refine IT ?_|refine IF a5 G9 ?_|refine IP IB ?_|(apply bk;refine bf ?_)|fail)
  exact IN IA
 ·rw [decide_eq_false h1,show decide (l.Kind < 1∨l.Kind > 4)=decide (4 < l.Kind) from decide_eq_decide.2 ⟨fun h=>h.resolve_left h1,Or.inr⟩]
  repeat' (first|refine IT ?_|refine IF a5 G9 ?_|refine IM G9 ?_|(apply bk;refine bf ?_)|fail)
  exact IN IA
def ku (f:aZ) (kind:Int) (r:bb):Int:=if (r.Calls.length:Int) > 6 then 2 else if (r.Calls.length:Int) > 0∧kind≠4 then 40 else (cV r.Calls (tF f r)).1
set_option maxHeartbeats 1000000 in
theorem xZ (f:aZ) (kind:Int) (r:bb):bN Tryz.prog 224 [cR f,aF kind,.agg (bB r)] (aF (ku f kind r)):=by
 refine aL Tryz.func224 rfl Tryz.ntmps224 rfl fun B=>?_
 unfold ku
 have hL:(r.Calls.map eT).length=r.Calls.length:=Jz ..
 rw [←hL]
 repeat' (first|refine IT ?_|refine am ?_|refine IF a5 G9 ?_|refine bo ?_|fail)
 refine ar rfl (fun h=>?_) (fun h=>?_)
 ·rw [if_pos (Iy h)]
  repeat' (first|refine IT ?_|refine IF a5 G9 ?_)
  exact IN IA
 rw [if_neg (Ix h)]
 repeat' (first|refine IT ?_|refine IF a5 G9 ?_)
 refine c7 [3,5] (((r.Calls.map eT).length:Int) > 0∧kind≠4) rfl (fun Q' K=>?_) (fun hC=>?_) (fun hC=>?_)
 ·repeat' (first|refine IT ?_|refine IF a5 G9 ?_|refine IM G9 ?_|refine IP IB ?_|refine IR IA (fun _=>?_) (fun _=>?_))
  all_goals exact K _ _ rfl rfl (by clear K;grind)
 ·rw [if_pos hC]
  repeat' (first|refine IT ?_|refine IF a5 G9 ?_)
  exact IN IA
 rw [if_neg hC]
 repeat' (first|refine IT ?_|refine IF a5 G9 ?_)
 refine aX [] [] (Dv (u:= .fn 273 [.iptr (bB r),.iptr (cw f)]) (g:=273) rfl r.Calls _ (fun _ _=>True) [] trivial (d4 (fun i x _=>Ai f r i x))) rfl rfl (Jt _) rfl fun c L1 hc=>?_
 have hc:c=ck (cV r.Calls (tF f r)):=hc
 subst hc
 unfold ck
 repeat' (first|refine IT ?_|refine IF a5 G9 ?_)
 exact IN IA
instance (f:aZ) (kind:Int) (r:bb):AD Tryz.prog 224 [cR f,aF kind,.agg (bB r)] (aF (ku f kind r)):=⟨xZ f kind r⟩
def z7 (f:aZ) (_:Nat) (l:List Int):Int:=dK (!(lL f l)) 41
def yL (f:aZ) (_:Nat) (n:Int):Int:=dK (!(kG f n)) 32
def xE (kind:Int) (r:bb):Int:=dK (decide (r.X≠0∧kind≠6)) 40
def ou (r:bb):List (List Int):=r.Back++(r.In++r.Ahead)
theorem yW (kind:Int) (r:bb):bN Tryz.prog 212 [.iptr [aF kind],.iptr (bB r)] (ck (lu kind r,0)):=by
 refine aL Tryz.func212 rfl Tryz.ntmps212 rfl fun B=>?_
 repeat' (first|refine IT ?_|refine IF a5 G9 ?_|(apply bk;refine bf ?_)|fail)
 exact aY rfl rfl rfl rfl
theorem wh (f:aZ) (i:Nat) (l:List Int):bN Tryz.prog 217 [aF i,.imm 1 (aT l),.iptr (cw f)] (aF (z7 f i l)):=by
 refine aL Tryz.func217 rfl Tryz.ntmps217 rfl fun B=>?_
 repeat' (first|refine IT ?_|refine IF a5 G9 ?_|(apply bk;refine bf ?_)|fail)
 exact IN IA
theorem yX (f:aZ) (r:bb) (h:r.Back.length≤6∧r.In.length≤6∧r.Ahead.length≤6):bN Tryz.prog 214 [.iptr (bB r),.iptr (cw f)] (ck (cV (ou r) (z7 f))):=by
 refine aL Tryz.func214 rfl Tryz.ntmps214 rfl fun B=>?_
 repeat' (first|refine IT ?_|refine IF a5 G9 ?_|refine bH a5 ?_|fail)
 refine bf (hc:=⟨vu [r.Back,r.In,r.Ahead] (by simp [gx];omega)⟩) ?_
 rw [show ([r.Back,r.In,r.Ahead]:List (List (List Int))).flatten=ou r by simp [ou]]
 repeat' (first|refine IF a5 G9 ?_)
 refine aX [] [] (Dt (u:= .fn 217 [.iptr (cw f)]) (g:=217) rfl (ou r) _ (fun _ _=>True) [] trivial (d4 (fun i x _=>wh f i x))) rfl rfl (Jt _) rfl fun c L1 hc=>?_
 have hc:c=ck (cV (ou r) (z7 f)):=hc
 subst hc
 unfold ck
 repeat' (first|refine IT ?_|refine IF a5 G9 ?_)
 exact aY rfl rfl rfl rfl
theorem yY (kind:Int) (r:bb) (hin:r.In≠[]):bN Tryz.prog 219 [.iptr [aF kind],.iptr (bB r)] (ck (dK (!(oE kind r)) 40,0)):=by
 refine aL Tryz.func219 rfl Tryz.ntmps219 rfl fun B=>?_
 repeat' (first|refine IT ?_|refine IF a5 G9 ?_)
 refine bf (hc:=⟨DS kind r hin⟩) ?_
 repeat' (first|refine IT ?_|refine IF a5 G9 ?_|(apply bk;refine bf ?_)|fail)
 exact aY rfl rfl rfl rfl
theorem wi (f:aZ) (i:Nat) (n:Int):bN Tryz.prog 222 [aF i,aF n,.iptr (cw f)] (aF (yL f i n)):=by
 refine aL Tryz.func222 rfl Tryz.ntmps222 rfl fun B=>?_
 repeat' (first|refine IT ?_|refine IF a5 G9 ?_|(apply bk;refine bf ?_)|fail)
 exact IN IA
theorem yZ (f:aZ) (r:bb):bN Tryz.prog 221 [.iptr (bB r),.iptr (cw f)] (ck (cV r.Out (yL f))):=by
 refine aL Tryz.func221 rfl Tryz.ntmps221 rfl fun B=>?_
 repeat' (first|refine IT ?_|refine IF a5 G9 ?_)
 refine aX [] [] (md (u:= .fn 222 [.iptr (cw f)]) (g:=222) rfl r.Out _ (fun _ _=>True) [] trivial (d4 (fun i x _=>wi f i x))) rfl rfl (Jt _) rfl fun c L1 hc=>?_
 have hc:c=ck (cV r.Out (yL f)):=hc
 subst hc
 unfold ck
 repeat' (first|refine IT ?_|refine IF a5 G9 ?_)
 exact aY rfl rfl rfl rfl
theorem z0 (f:aZ) (kind:Int) (r:bb):bN Tryz.prog 223 [.iptr (cw f),.iptr [aF kind],.iptr (bB r)] (ck (ku f kind r,0)):=by
 refine aL Tryz.func223 rfl Tryz.ntmps223 rfl fun B=>?_
 repeat' (first|refine IT ?_|refine IF a5 G9 ?_|(apply bk;refine bf ?_)|fail)
 exact aY rfl rfl rfl rfl
theorem z2 (r:bb):bN Tryz.prog 225 [.iptr (bB r)] (ck (dK (!([r.X].all g8)) 1,0)):=by
 refine aL Tryz.func225 rfl Tryz.ntmps225 rfl fun B=>?_
 repeat' (first|refine IT ?_|refine IF a5 G9 ?_|refine bH a5 ?_|(apply bk;refine bf ?_)|fail)
 exact aY rfl rfl rfl rfl
theorem z3 (kind:Int) (r:bb):bN Tryz.prog 226 [.iptr (bB r),.iptr [aF kind]] (ck (xE kind r,0)):=by
 refine aL Tryz.func226 rfl Tryz.ntmps226 rfl fun B=>?_
 unfold xE
 by_cases h:r.X≠0
 ·rw [show decide (r.X≠0∧kind≠6)=decide (kind≠6) from decide_eq_decide.2 ⟨fun q=>q.2,fun q=>⟨h,q⟩⟩]
  repeat' (first|refine IT ?_|refine IF a5 G9 ?_)
  rw [decide_eq_true h]
  repeat' (first|refine IT ?_|refine IF a5 G9 ?_|refine IM G9 ?_|(apply bk;refine bf ?_)|fail)
  exact aY rfl rfl rfl rfl
 ·rw [show decide (r.X≠0∧kind≠6)=false from decide_eq_false (fun q=>h q.1)]
  repeat' (first|refine IT ?_|refine IF a5 G9 ?_)
  rw [decide_eq_false h]
  repeat' (first|refine IT ?_|refine IF a5 G9 ?_|refine IP IB ?_|(apply bk;refine bf ?_)|fail)
  exact aY rfl rfl rfl rfl
def jj (f:aZ) (kind:Int) (r:bb):Int:=(gq [(lu kind r,0),cV (ou r) (z7 f),(dK (!(oE kind r)) 40,0),cV r.Out (yL f),(ku f kind r,0),(dK (!([r.X].all g8)) 1,0),(xE kind r,0)]).1
set_option maxHeartbeats 1000000 in
theorem Ca (f:aZ) (kind:Int) (r:bb):bN Tryz.prog 141 [cR f,aF kind,.agg (bB r)] (aF (jj f kind r)):=by
 refine aL Tryz.func141 rfl Tryz.ntmps141 rfl fun B=>?_
 repeat' (first|refine IT ?_|refine IF a5 G9 ?_|refine bo ?_|refine bH a5 ?_|fail)
 refine aX [] [] (j4 [⟨212,[.iptr [aF kind],.iptr (bB r)],[],lu kind r,0⟩,⟨214,[.iptr (bB r),.iptr (cw f)],[],(cV (ou r) (z7 f)).1,(cV (ou r) (z7 f)).2⟩,⟨219,[.iptr [aF kind],.iptr (bB r)],[],dK (!(oE kind r)) 40,0⟩,⟨221,[.iptr (bB r),.iptr (cw f)],[],(cV r.Out (yL f)).1,(cV r.Out (yL f)).2⟩,⟨223,[.iptr (cw f),.iptr [aF kind],.iptr (bB r)],[],ku f kind r,0⟩,⟨225,[.iptr (bB r)],[],dK (!([r.X].all g8)) 1,0⟩,⟨226,[.iptr (bB r),.iptr [aF kind]],[],xE kind r,0⟩] ?_) rfl rfl (Jt _) rfl fun c L1 hc=>?_
 ·exact ⟨⟨inferInstance,yW kind r⟩,fun h1=>⟨⟨inferInstance,yX f r (xk h1).2⟩,fun _=>⟨⟨inferInstance,yY kind r (xk h1).1⟩,fun _=>⟨⟨inferInstance,yZ f r⟩,fun _=>⟨⟨inferInstance,z0 f kind r⟩,fun _=>⟨⟨inferInstance,z2 r⟩,fun _=>⟨⟨inferInstance,z3 kind r⟩,fun _=>trivial⟩⟩⟩⟩⟩⟩⟩
 rw [jK] at hc
 subst hc
 unfold ck
 repeat' (first|refine IT ?_|refine IF a5 G9 ?_)
 exact IN IA
instance (f:aZ) (kind:Int) (r:bb):AD Tryz.prog 141 [cR f,aF kind,.agg (bB r)] (aF (jj f kind r)):=⟨Ca f kind r⟩
theorem o8 (l:aN):bN Tryz.prog 136 [.iptr (bC l)] (ck (dK (decide ((l.Rules.length:Int) > 60)) 2,0)):=by
 refine aL Tryz.func136 rfl Tryz.ntmps136 rfl fun B=>?_
 rw [show (l.Rules.length:Int)=((l.Rules.map bB).length:Int) by rw [Jz]]
 repeat' (first|refine IT ?_|refine IF a5 G9 ?_|(apply bk;refine bf ?_)|fail)
 exact aY rfl rfl rfl rfl
def p8 (l:aN):Int:=dK (decide (l.Kind=7∨l.Kind=8) && decide ((l.Rules.length:Int) > 0)) 40
theorem o9 (l:aN) (b:Bool) (hb:b=decide (l.Kind=7∨l.Kind=8)):bN Tryz.prog 137 [.iptr [ec b],.iptr (bC l)] (ck (p8 l,0)):=by
 refine aL Tryz.func137 rfl Tryz.ntmps137 rfl fun B=>?_
 unfold p8
 rw [←hb,show (l.Rules.length:Int)=((l.Rules.map bB).length:Int) by rw [Jz]]
 cases b
 ·repeat' (first|refine IT ?_|refine IF a5 G9 ?_|refine IP IB ?_|(apply bk;refine bf ?_)|fail)
  exact aY rfl rfl rfl rfl
 ·repeat' (first|refine IT ?_|refine IF a5 G9 ?_|refine IM G9 ?_|(apply bk;refine bf ?_)|fail)
  exact aY rfl rfl rfl rfl
theorem sx (f:aZ) (l:aN) (i:Nat) (r:bb):bN Tryz.prog 140 [aF i,.agg (bB r),.iptr (cw f),.iptr (bC l)] (aF (jj f l.Kind r)):=by
 refine aL Tryz.func140 rfl Tryz.ntmps140 rfl fun B=>?_
 repeat' (first|refine IT ?_|refine IF a5 G9 ?_|refine bo ?_|(apply bk;refine bf ?_)|fail)
 exact IN IA
theorem oa (f:aZ) (l:aN):bN Tryz.prog 138 [.iptr (bC l),.iptr (cw f)] (ck (cV l.Rules fun _ r=>jj f l.Kind r)):=by
 refine aL Tryz.func138 rfl Tryz.ntmps138 rfl fun B=>?_
 repeat' (first|refine IT ?_|refine IF a5 G9 ?_)
 refine aX [] [] (Dj (u:= .fn 140 [.iptr (cw f),.iptr (bC l)]) (g:=140) rfl l.Rules _ (fun _ _=>True) [] trivial (d4 (w:=fun _ r=>jj f l.Kind r) (fun i x _=>sx f l i x))) rfl rfl (Jt _) rfl fun c L1 hc=>?_
 have hc:c=ck (cV l.Rules fun _ r=>jj f l.Kind r):=hc
 subst hc
 unfold ck
 repeat' (first|refine IT ?_|refine IF a5 G9 ?_)
 exact aY rfl rfl rfl rfl
def l7 (f:aZ) (l:aN):Int:=if l.Kind < 1∨l.Kind > 8 then 42 else (gq [(dK (decide ((l.Rules.length:Int) > 60)) 2,0),(p8 l,0),cV l.Rules fun _ r=>jj f l.Kind r]).1
set_option maxHeartbeats 1000000 in
theorem vV (f:aZ) (l:aN):bN Tryz.prog 62 [cR f,.agg (bC l)] (aF (l7 f l)):=by
 refine aL Tryz.func62 rfl Tryz.ntmps62 rfl fun B=>?_
 unfold l7
 repeat' (first|refine IT ?_|refine IF a5 G9 ?_|refine bo ?_|fail)
 refine c7 [2,3] (l.Kind < 1∨l.Kind > 8) rfl (fun Q' K=>?_) (fun hC=>?_) (fun hC=>?_)
 ·repeat' (first|refine IT ?_|refine IF a5 G9 ?_|refine IM G9 ?_|refine IP IB ?_|refine IR IA (fun _=>?_) (fun _=>?_))
  all_goals exact K _ _ rfl rfl (by clear K;grind)
 ·rw [if_pos hC]
  repeat' (first|refine IT ?_|refine IF a5 G9 ?_)
  exact IN IA
 rw [if_neg hC]
 repeat' (first|refine IT ?_|refine IF a5 G9 ?_)
 by_cases h7:l.Kind=7
 ·rw [decide_eq_true h7]
  repeat' (first|refine IT ?_|refine IF a5 G9 ?_|refine IP IB ?_|(apply aK;first|refine IH 5 a5 0 IE ?_|refine IH 5 a5 1 IE ?_|refine IH 5 a5 2 IE ?_|refine IG a5 0 ID ?_|refine IG a5 1 ID ?_|refine IG a5 2 ID ?_|refine IG a5 3 ID ?_|fail)|refine bi a5 fun _=>?_|refine bH a5 ?_|fail)
  refine aX [] [] (j4 [⟨136,[.iptr (bC l)],[],dK (decide ((l.Rules.length:Int) > 60)) 2,0⟩,⟨137,[.iptr [ec true],.iptr (bC l)],[],p8 l,0⟩,⟨138,[.iptr (bC l),.iptr (cw f)],[],(cV l.Rules fun _ r=>jj f l.Kind r).1,(cV l.Rules fun _ r=>jj f l.Kind r).2⟩] ⟨⟨inferInstance,o8 l⟩,fun _=>⟨⟨inferInstance,o9 l true (decide_eq_true (Or.inl h7)).symm⟩,fun _=>⟨⟨inferInstance,oa f l⟩,fun _=>trivial⟩⟩⟩) rfl rfl (Jt _) rfl fun c L1 hc=>?_
  rw [jK] at hc
  subst hc
  unfold ck
  repeat' (first|refine IT ?_|refine IF a5 G9 ?_)
  exact IN IA
 ·rw [decide_eq_false h7]
  repeat' (first|refine IT ?_|refine IF a5 G9 ?_|refine IM G9 ?_|(apply aK;first|refine IH 5 a5 0 IE ?_|refine IH 5 a5 1 IE ?_|refine IH 5 a5 2 IE ?_|refine IG a5 0 ID ?_|refine IG a5 1 ID ?_|refine IG a5 2 ID ?_|refine IG a5 3 ID ?_|fail)|refine bi a5 fun _=>?_|refine bH a5 ?_|fail)
  refine aX [] [] (j4 [⟨136,[.iptr (bC l)],[],dK (decide ((l.Rules.length:Int) > 60)) 2,0⟩,⟨137,[.iptr [ec (decide (l.Kind=8))],.iptr (bC l)],[],p8 l,0⟩,⟨138,[.iptr (bC l),.iptr (cw f)],[],(cV l.Rules fun _ r=>jj f l.Kind r).1,(cV l.Rules fun _ r=>jj f l.Kind r).2⟩] ⟨⟨inferInstance,o8 l⟩,fun _=>⟨⟨inferInstance,o9 l (decide (l.Kind=8)) (decide_eq_decide.2 ⟨Or.inr,fun h=>h.resolve_left h7⟩)⟩,fun _=>⟨⟨inferInstance,oa f l⟩,fun _=>trivial⟩⟩⟩) rfl rfl (Jt _) rfl fun c L1 hc=>?_
  rw [jK] at hc
  subst hc
  unfold ck
  repeat' (first|refine IT ?_|refine IF a5 G9 ?_)
  exact IN IA
instance (f:aZ) (l:aN):AD Tryz.prog 62 [cR f,.agg (bC l)] (aF (l7 f l)):=⟨vV f l⟩
theorem sy (f:aZ) (i:Nat) (l:aN):bN Tryz.prog 61 [aF i,.agg (bC l),.iptr (cw f)] (aF (l7 f l)):=by
 refine aL Tryz.func61 rfl Tryz.ntmps61 rfl fun B=>?_
 repeat' (first|refine IT ?_|refine IF a5 G9 ?_|refine bo ?_|(apply bk;refine bf ?_)|fail)
 exact IN IA
end Go.Proofs.YtpmdfoaadejmkaaGreatDoor
