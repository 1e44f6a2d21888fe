/-
  The library: rows of rows, one behind the other.
-/
import Derived.Test.YtpmdfoaadejmkaaGreatDoorM21
import Derived.Test.YtpmdfoaadejmkaaGreatDoorM07
namespace Go.Proofs.YtpmdfoaadejmkaaGreatDoor
open Go.RowKit
attribute [local irreducible] AT bJ AX AO Av Kt bi dq DA cG
theorem Fx (n:Nat) (hn:n≤1000000):AC Tryz.prog 271 [.sc (.slice none 0 0),aF n] [] fun c L=>∃k,c= .vec k 1 []∧L=tok k 22 1 0:=by
 refine aN Tryz.func271 rfl Tryz.ntmps271 rfl fun B=>?_
 repeat' (first|refine L3 ?_|refine KG a4 HY ?_|refine bE rfl ?_)
 refine rB a4 rfl rfl rfl ?_
 repeat' (first|refine L3 ?_|refine KG a4 HY ?_|(apply aU;refine aT ?_)|fail)
 by_cases h0:n=0
 ·subst h0
  repeat' (first|refine L3 ?_|refine KG a4 HY ?_|refine bE rfl ?_)
  refine bj (bS (t:=4) (c':= .vec none 1 []) rfl fun σ v h=>d5 1 h) (KP HY ⟨none,rfl,rfl⟩)
 ·refine aw rfl (fun h2=>?_) (fun h2=>?_)
  ·repeat' (first|refine L3 ?_|refine KG a4 HY ?_)
   refine rB a4 rfl rfl rfl ?_
   repeat' (first|fail)
   refine HD a4 rfl rfl rfl rfl ?_
   repeat' (first|refine KG a4 HY ?_)
   refine AK a4 n rfl Tryz.underlying3 rfl rfl (by omega) (by omega) (by omega) (by omega) rfl fun b cap h3 h4=>?_
   repeat' (first|refine KG a4 HY ?_)
   refine DB a4 0 rfl rfl rfl rfl (by omega) (by omega) rfl ?_
   repeat' (first|refine L3 ?_|refine KG a4 HY ?_)
   refine bj (bS (t:=4) (c':= .vec (some (b,cap)) 1 []) rfl fun σ v h=>Gf h4 h) (KP HY ⟨some (b,cap),rfl,rfl⟩)
  ·exact absurd (Kx h2) (by omega)
def rU (l:List (List (List Int))):List (List AV):=l.map fun r=>[.imm 1 (bc r)]
def hQ (l:List (List (List Int))):Nat:=(l.map List.length).sum
theorem pN {l:List (List (List Int))} {i:Nat} {r:List (List Int)} (h:l[i]?=some r):hQ (l.take (i+1))=hQ (l.take i)+r.length:=by
 unfold hQ
 rw [List.take_add_one,h]
 simp
theorem tC (l:List (List (List Int))) (i:Nat):hQ (l.take i)≤hQ l:=by
 have h:((l.take i++l.drop i).map List.length).sum=(l.map List.length).sum:=by rw [List.take_append_drop]
 rw [List.map_append,List.sum_append] at h
 unfold hQ
 omega
theorem CM (l:List (List (List Int))):l.flatten.length=hQ l:=by
 unfold hQ
 rw [List.length_flatten]
theorem B5 (a b:List (List Int)):bc a++bc b=bc (a++b):=by unfold bc;rw [List.map_append]
set_option maxHeartbeats 1000000 in
theorem xc (l:List (List (List Int))) (hs:hQ l≤1000000):bU Tryz.prog 216 [.imm 1 (rU l)] (.imm 1 (bc l.flatten)):=by
 refine aN Tryz.func216 rfl Tryz.ntmps216 rfl fun B=>?_
 have hrl:(rU l).length=l.length:=by simp [rU]
 refine cW 0 rfl rfl fun hlen=>?_
 rw [hrl] at hlen
 repeat' (first|refine L3 ?_|refine ak ?_|refine KG a4 HY ?_)
 refine aR [0,9,10] (α:=Nat) (fun i=>[(11,aF i),(3,aF (hQ (l.take i)))]) (fun i=>i≤l.length) (fun _=>[]) (fun i=>l.length - i) 0 rfl ⟨rfl,rfl,trivial⟩ (Nat.zero_le _) (fun _ _ h=>h) fun i hi=>?_
 try dsimp only [Kr,Kq,Kp,Lv]
 repeat' (first|refine L3 ?_|refine KG a4 HY ?_)
 refine aw rfl (fun h=>?_) (fun h=>?_)
 ·have hil:i < l.length:=by have:=Ky h;rw [hrl] at this;omega
  obtain ⟨z,hz⟩:∃z,l[i]?=some z:=⟨_,Kz hil⟩
  have hzg:(rU l)[i]?=some [.imm 1 (bc z)]:=by simp [rU,hz]
  have hsz:=pN hz
  have hle:=tC l (i+1)
  have hzl:(bc z).length=z.length:=by simp [bc]
  repeat' (first|refine L3 ?_|refine ak ?_|refine KG a4 HY ?_|(apply aU;refine aT ?_)|(apply aQ;first|refine aO a4 ?_|refine aG a4 ?_)|refine bE rfl ?_)
  exact aD (i+1) rfl ⟨by rw [Kv];rfl,by rw [hsz,Kv,hzl];rfl,trivial⟩ (by omega) (by omega) (fun _ _ h=>h)
 have hil:i=l.length:=by have:=Kx h;rw [hrl] at this;omega
 subst hil
 rw [List.take_length]
 clear h
 repeat' (first|refine L3 ?_|refine KG a4 HY ?_)
 refine b6 [] [] (Fx (hQ l) hs) rfl rfl (Lz _) rfl fun c L1 ⟨k,hc,hL⟩=>?_
 subst hc;subst hL
 rw [List.append_nil]
 repeat' (first|refine L3 ?_|refine ak ?_|refine KG a4 HY ?_)
 refine aR [25,26] (α:=Nat×Option (Nat×Nat)) (fun x=>[(27,aF x.1),(6,.vec x.2 1 (bc (l.take x.1).flatten))]) (fun x=>x.1≤l.length) (fun x=>tok x.2 22 1 (bc (l.take x.1).flatten).length) (fun x=>l.length - x.1) (0,k) rfl ⟨rfl,rfl,trivial⟩ (Nat.zero_le _) (fun _ _ h=>h) ?_
 rintro ⟨i,k⟩ hi
 dsimp only at hi ⊢
 try dsimp only [Kr,Kq,Kp,Lv]
 repeat' (first|refine L3 ?_|refine KG a4 HY ?_)
 refine aw rfl (fun h=>?_) (fun h=>?_)
 ·have hil:i < l.length:=by have:=Ky h;rw [hrl] at this;omega
  obtain ⟨z,hz⟩:∃z,l[i]?=some z:=⟨_,Kz hil⟩
  have hzg:(rU l)[i]?=some [.imm 1 (bc z)]:=by simp [rU,hz]
  have hsz:=pN hz
  have hle:=tC l (i+1)
  have hzl:(bc z).length=z.length:=by simp [bc]
  have hfl:(bc (l.take i).flatten).length=hQ (l.take i):=by rw [bY,CM]
  have hcat:bc (l.take i).flatten++bc z=bc (l.take (i+1)).flatten:=by rw [B5,List.take_add_one,hz];simp
  repeat' (first|refine L3 ?_|refine ak ?_|refine KG a4 HY ?_|(apply aQ;first|refine aO a4 ?_|refine aG a4 ?_)|fail)
  refine bV a4 [] rfl rfl rfl rfl (by rw [List.append_nil]) (by rw [hfl,hzl];omega) (by rw [hfl,hzl];omega) rfl fun k'=>?_
  rw [hcat,List.append_nil]
  repeat' (first|refine L3 ?_|refine KG a4 HY ?_|(apply aU;refine aT ?_)|fail)
  exact aD (i+1,k') rfl ⟨by rw [Kv];rfl,rfl,trivial⟩ (by dsimp only;omega) (by dsimp only;omega) (fun _ _ h=>h)
 ·have hil:i=l.length:=by have:=Kx h;rw [hrl] at this;omega
  subst hil
  rw [List.take_length]
  repeat' (first|refine L3 ?_|refine KG a4 HY ?_)
  exact Ca rfl rfl rfl rfl
def kW (l:List Int):Bool:=decide (∀i,i < l.length - 1→l.getD i 0 < l.getD (i+1) 0)
theorem lL {l:List Int} {i:Nat} {z:Int} (h:l[i]?=some z):l.getD i 0=z:=by simp [h]
theorem xY (l:List Int):bU Tryz.prog 253 [.imm 1 (aW l)] (d6 (kW l)):=by
 refine aN Tryz.func253 rfl Tryz.ntmps253 rfl fun B=>?_
 refine cW 0 rfl rfl fun hlen=>?_
 have hll:=bb l
 rw [bb] at hlen
 repeat' (first|refine L3 ?_|refine ak ?_|refine KG a4 HY ?_)
 refine aR [0] (α:=Nat) (fun i=>[(3,aF (i+1:Nat))]) (fun i=>i≤l.length∧∀j,j < i→j+1 < l.length→l.getD j 0 < l.getD (j+1) 0) (fun _=>[]) (fun i=>l.length - i) 0 rfl ⟨rfl,trivial⟩ ⟨Nat.zero_le _,fun j hj=>absurd hj (Nat.not_lt_zero _)⟩ (fun _ _ h=>h) fun i ⟨hi,hall⟩=>?_
 try dsimp only [Kr,Kq,Kp,Lv]
 repeat' (first|refine L3 ?_|refine KG a4 HY ?_)
 refine aw rfl (fun h=>?_) (fun h=>?_)
 ·have hil:i+1 < l.length:=by have:=Ky h;rw [bb] at this;omega
  obtain ⟨y,hy⟩:∃z,l[i]?=some z:=⟨_,Kz (by omega)⟩
  obtain ⟨z,hz⟩:∃z,l[i+1]?=some z:=⟨_,Kz hil⟩
  have hyg:(aW l)[(((i+1:Nat):Int) - 1).toNat]?=some [aF y]:=by rw [show (((i+1:Nat):Int) - 1).toNat=i by omega];exact bP hy
  have hzg:=bP hz
  repeat' (first|refine L3 ?_|refine ak ?_)
  refine bn 9 [(0,.v),(1,.v),(2,.v),(3,.v),(4,.v),(5,.v),(6,.v),(7,.v),(8,.v)] none ?_ trivial rfl (by kernel_rfl) (by kernel_rfl) (by kernel_rfl) bI (by kernel_rfl) rfl
  repeat' (first|refine aB ?_|refine aX a4 ?_|(apply dz;refine eL ?_)|(apply cm;refine cA a4 ?_)|fail)
  refine KU [0,3,13,18] HY ?_
  repeat' (first|refine L3 ?_|refine a7 ?_|refine KG a4 HY ?_)
  refine aw rfl (fun h2=>?_) (fun h2=>?_)
  ·have h2':=Ky h2
   repeat' (first|refine L3 ?_|refine KG a4 HY ?_)
   refine KP HY ?_
   rw [show kW l=false from decide_eq_false (fun hh=>by have:=hh i (by omega);rw [lL hy,lL hz] at this;omega)]
  ·have h2':=Kx h2
   repeat' (first|refine L3 ?_|refine KG a4 HY ?_|(apply aU;refine aT ?_)|fail)
   refine aD (i+1) rfl ⟨by rw [Kv (i+1) 1];rfl,trivial⟩ ⟨by omega,fun j hj hjl=>?_⟩ (by omega) (fun _ _ h=>h)
   by_cases e:j=i
   ·subst e;rw [lL hy,lL hz];omega
   ·exact hall j (by omega) hjl
 ·have hil:l.length≤i+1:=by have:=Kx h;rw [bb] at this;omega
  repeat' (first|refine L3 ?_|refine KG a4 HY ?_)
  refine KP HY ?_
  rw [show kW l=true from decide_eq_true (fun j hj=>hall j (by omega) (by omega))]
instance (l:List Int):AD Tryz.prog 253 [.imm 1 (aW l)] (d6 (kW l)):=⟨xY l⟩
def n5 (f:aZ) (l:List Int):Bool:=decide (0 < l.length) && (kW l && (lN f (l.getD 0 0) && lN f (l.getD (l.length - 1) 0)))
set_option maxHeartbeats 1000000 in
theorem Ap (f:aZ) (l:List Int):bU Tryz.prog 218 [df f,.imm 1 (aW l)] (d6 (n5 f l)):=by
 refine aN Tryz.func218 rfl Tryz.ntmps218 rfl fun B=>?_
 refine cW 1 rfl rfl fun hlen=>?_
 cases l with
 | nil=>
  repeat' (first|refine L3 ?_|refine KG a4 HY ?_|refine bA ?_|fail)
  refine bn 24 [(0,.v),(1,.v),(2,.v),(3,.v),(4,.v),(5,.v),(6,.v),(7,.v),(8,.v),(9,.v),(10,.v),(11,.v),(12,.v),(13,.v),(14,.v),(15,.v),(16,.v),(17,.v),(18,.v),(19,.v),(20,.v),(21,.v),(22,.v),(23,.v)] none ?_ trivial rfl (by kernel_rfl) (by kernel_rfl) (by kernel_rfl) bI (by kernel_rfl) rfl
  repeat' (first|refine aB ?_|refine aX a4 ?_|refine ld rfl rfl ?_)
  refine KU [28] HY ?_
  repeat' (first|refine L3 ?_|refine a7 ?_|refine KG a4 HY ?_)
  exact KQ KA
 | cons y q=>
  have hll:(aW (y::q)).length=q.length+1:=by rw [bb];rfl
  rw [hll] at hlen
  obtain ⟨z,hz⟩:∃z,(y::q)[q.length]?=some z:=⟨_,Kz (by simp)⟩
  have hzg:(aW (y::q))[((((aW (y::q)).length:Nat):Int) - 1).toNat]?=some [aF z]:=by rw [show ((((aW (y::q)).length:Nat):Int) - 1).toNat=q.length by rw [hll];omega];exact bP hz
  have hyg:(aW (y::q))[(0:Int).toNat]?=some [aF y]:=rfl
  have hval:n5 f (y::q)=(kW (y::q) && (lN f y && lN f z)):=by
   unfold n5
   rw [show (y::q).length - 1=q.length by simp,lL hz]
   simp
  rw [hval]
  have hpos:decide (0 < (((aW (y::q)).length:Nat):Int))=true:=decide_eq_true (by rw [hll];omega)
  repeat' (first|refine L3 ?_|refine KG a4 HY ?_|refine bA ?_|fail)
  refine bn 24 [(0,.v),(1,.v),(2,.v),(3,.v),(4,.v),(5,.v),(6,.v),(7,.v),(8,.v),(9,.v),(10,.v),(11,.v),(12,.v),(13,.v),(14,.v),(15,.v),(16,.v),(17,.v),(18,.v),(19,.v),(20,.v),(21,.v),(22,.v),(23,.v)] none ?_ trivial rfl (by kernel_rfl) (by kernel_rfl) (by kernel_rfl) bI (by kernel_rfl) rfl
  repeat' (first|refine aB ?_|refine aX a4 ?_|fail)
  rw [hpos]
  repeat' (first|refine aB ?_|refine aX a4 ?_|(apply dh;refine dK ?_)|fail)
  generalize kW (y::q)=b1
  cases b1
  ·repeat' (first|refine aB ?_|refine aX a4 ?_|refine ld rfl rfl ?_)
   refine KU [28] HY ?_
   repeat' (first|refine L3 ?_|refine a7 ?_|refine KG a4 HY ?_)
   exact KQ KA
  repeat' (first|refine aB ?_|refine aX a4 ?_|(apply cm;refine cA a4 ?_)|(apply dh;refine dK ?_)|fail)
  generalize lN f y=b2
  cases b2
  ·repeat' (first|refine aB ?_|refine aX a4 ?_|refine ld rfl rfl ?_)
   refine KU [28] HY ?_
   repeat' (first|refine L3 ?_|refine a7 ?_|refine KG a4 HY ?_)
   exact KQ KA
  repeat' (first|refine aB ?_|refine aX a4 ?_|(apply dz;refine eL ?_)|(apply cm;refine cA a4 ?_)|(apply dh;refine dK ?_)|fail)
  refine KU [28] HY ?_
  repeat' (first|refine L3 ?_|refine a7 ?_|refine KG a4 HY ?_)
  exact KQ KA
instance (f:aZ) (l:List Int):AD Tryz.prog 218 [df f,.imm 1 (aW l)] (d6 (n5 f l)):=⟨Ap f l⟩
def fa (kind:Int) (r:bh):Bool:=if kind=1∨kind=2∨kind=5 then decide ((r.In.length:Int)≠1) else if kind=6 then decide ((r.In.length:Int)≠2∨(r.Back.length:Int) > 0∨(r.Ahead.length:Int) > 0) else decide ((r.In.length:Int)=0)
def mM (kind:Int) (r:bh):Int:=if (r.Back.length:Int) > 6∨(r.In.length:Int) > 6∨(r.Ahead.length:Int) > 6 then 2 else eu (fa kind r) 40
set_option maxHeartbeats 1000000 in
theorem E1 (kind:Int) (r:bh):bU Tryz.prog 213 [aF kind,.agg (bC r)] (aF (mM kind r)):=by
 refine aN Tryz.func213 rfl Tryz.ntmps213 rfl fun B=>?_
 unfold mM fa
 have hB:=bY r.Back
 have hI:=bY r.In
 have hA:=bY r.Ahead
 rw [←hB,←hI,←hA]
 repeat' (first|refine L3 ?_|refine KG a4 HY ?_|refine bA ?_|fail)
 refine ce [0,3] (((bc r.Back).length:Int) > 6∨((bc r.In).length:Int) > 6∨((bc r.Ahead).length:Int) > 6) rfl (fun Q' K=>?_) (fun hC=>?_) (fun hC=>?_)
 ·repeat' (first|refine L3 ?_|refine KG a4 HY ?_|refine KR HY ?_|refine KV KB ?_|refine KW KA (fun _=>?_) (fun _=>?_))
  all_goals exact K _ _ rfl rfl (by clear K;grind)
 ·rw [if_pos hC]
  repeat' (first|refine L3 ?_|refine KG a4 HY ?_)
  exact KQ KA
 rw [if_neg hC]
 by_cases h1:kind=1
 ·subst h1
  repeat' (first|refine L3 ?_|refine ak ?_|refine KG a4 HY ?_|(apply bF;refine bv ?_)|refine bH rfl ?_)
  exact KQ KA
 by_cases h2:kind=2
 ·subst h2
  repeat' (first|refine L3 ?_|refine ak ?_|refine KG a4 HY ?_|(apply bF;refine bv ?_)|refine bH rfl ?_|refine bE rfl ?_)
  exact KQ KA
 by_cases h5:kind=5
 ·subst h5
  repeat' (first|refine L3 ?_|refine ak ?_|refine KG a4 HY ?_|(apply bF;refine bv ?_)|refine bH rfl ?_|refine bE rfl ?_)
  exact KQ KA
 rw [if_neg (by omega)]
 by_cases h6:kind=6
 ·subst h6
  rw [if_pos rfl]
  repeat' (first|refine L3 ?_|refine ak ?_|refine KG a4 HY ?_|refine bH rfl ?_|refine bE rfl ?_)
  refine dG (t:=5) [] (((bc r.In).length:Int)≠2∨((bc r.Back).length:Int) > 0∨((bc r.Ahead).length:Int) > 0) rfl (fun Q' K=>?_) ?_
  ·repeat' (first|refine L3 ?_|refine KG a4 HY ?_|refine KR HY ?_|refine KV KB ?_|refine KW KA (fun _=>?_) (fun _=>?_))
   all_goals exact K _ _ rfl rfl (by clear K;grind)
  repeat' (first|refine L3 ?_|refine KG a4 HY ?_|(apply bF;refine bv ?_)|fail)
  exact KQ KA
 rw [if_neg h6]
 repeat' (first|refine L3 ?_|refine ak ?_|refine KG a4 HY ?_)
 refine aw rfl (fun h=>absurd (Ky h) h1) (fun h=>?_)
 repeat' (first|refine L3 ?_|refine KG a4 HY ?_)
 refine aw rfl (fun h=>absurd (Ky h) h2) (fun h=>?_)
 repeat' (first|refine L3 ?_|refine KG a4 HY ?_)
 refine aw rfl (fun h=>absurd (Ky h) h5) (fun h=>?_)
 rw [decide_eq_false h5]
 repeat' (first|refine L3 ?_|refine KG a4 HY ?_)
 refine aw rfl (fun h=>absurd (Ky h) h6) (fun h=>?_)
 repeat' (first|refine L3 ?_|refine KG a4 HY ?_|(apply bF;refine bv ?_)|fail)
 exact KQ KA
instance (kind:Int) (r:bh):AD Tryz.prog 213 [aF kind,.agg (bC r)] (aF (mM kind r)):=⟨E1 kind r⟩
theorem za {kind:Int} {r:bh} (h:mM kind r=0):r.In≠[]∧r.Back.length≤6∧r.In.length≤6∧r.Ahead.length≤6:=by
 unfold mM at h
 split at h
 ·cases h
 ·rename_i hc
  refine ⟨fun e=>?_,by omega,by omega,by omega⟩
  have hw:fa kind r=true:=by
   unfold fa
   rw [e]
   split
   ·decide
   ·split <;> simp
  rw [hw] at h
  cases h
def pT (kind:Int) (r:bh):Bool:=if kind=1∨kind=5 then decide ((r.Out.length:Int)=((r.In.headD []).length:Int)) else if kind=2 then decide ((r.Out.length:Int)≤6) else if kind=3 then decide ((r.Out.length:Int)=1) else decide ((r.Out.length:Int)=0)
set_option maxHeartbeats 1000000 in
theorem FM (kind:Int) (r:bh) (hin:r.In≠[]):bU Tryz.prog 220 [aF kind,.agg (bC r)] (d6 (pT kind r)):=by
 refine aN Tryz.func220 rfl Tryz.ntmps220 rfl fun B=>?_
 obtain ⟨y,hy⟩:∃y,r.In[0]?=some y:=⟨_,Kz (List.length_pos_iff.2 hin)⟩
 have hyg:=gn hy
 have hv:pT kind r=if kind=1∨kind=5 then decide (((aW r.Out).length:Int)=((aW y).length:Int)) else if kind=2 then decide (((aW r.Out).length:Int)≤6) else if kind=3 then decide (((aW r.Out).length:Int)=1) else decide (((aW r.Out).length:Int)=0):=by
  have hd:r.In.headD []=y:=by
   cases hI:r.In with
   | nil=>exact absurd hI hin
   | cons y' q=>rw [hI] at hy;simpa using hy
  unfold pT
  rw [hd,bb,bb]
 rw [hv]
 by_cases h1:kind=1
 ·subst h1
  repeat' (first|refine L3 ?_|refine ak ?_|refine KG a4 HY ?_|refine bA ?_|refine bH rfl ?_)
  refine bn 8 [(0,.v),(1,.v),(2,.v),(3,.v),(4,.v),(5,.v),(6,.v),(7,.v)] none ?_ trivial rfl (by kernel_rfl) (by kernel_rfl) (by kernel_rfl) bI (by kernel_rfl) rfl
  repeat' (first|refine aB ?_|refine aX a4 ?_|(apply cm;refine cA a4 ?_)|fail)
  refine KU [11,16] HY ?_
  repeat' (first|refine L3 ?_|refine a7 ?_|refine KG a4 HY ?_)
  exact KQ KA
 by_cases h5:kind=5
 ·subst h5
  repeat' (first|refine L3 ?_|refine ak ?_|refine KG a4 HY ?_|refine bA ?_|refine bH rfl ?_|refine bE rfl ?_)
  refine bn 8 [(0,.v),(1,.v),(2,.v),(3,.v),(4,.v),(5,.v),(6,.v),(7,.v)] none ?_ trivial rfl (by kernel_rfl) (by kernel_rfl) (by kernel_rfl) bI (by kernel_rfl) rfl
  repeat' (first|refine aB ?_|refine aX a4 ?_|(apply cm;refine cA a4 ?_)|fail)
  refine KU [11,16] HY ?_
  repeat' (first|refine L3 ?_|refine a7 ?_|refine KG a4 HY ?_)
  exact KQ KA
 rw [if_neg (by omega)]
 by_cases h2:kind=2
 ·subst h2
  repeat' (first|refine L3 ?_|refine ak ?_|refine KG a4 HY ?_|refine bA ?_|refine bH rfl ?_|refine bE rfl ?_)
  exact KQ KA
 rw [if_neg h2]
 by_cases h3:kind=3
 ·subst h3
  repeat' (first|refine L3 ?_|refine ak ?_|refine KG a4 HY ?_|refine bA ?_|refine bH rfl ?_|refine bE rfl ?_)
  exact KQ KA
 rw [if_neg h3]
 repeat' (first|refine L3 ?_|refine ak ?_|refine KG a4 HY ?_|refine bA ?_|fail)
 refine aw rfl (fun h=>absurd (Ky h) h1) (fun h=>?_)
 repeat' (first|refine L3 ?_|refine KG a4 HY ?_)
 refine aw rfl (fun h=>absurd (Ky h) h5) (fun h=>?_)
 rw [decide_eq_false h5]
 repeat' (first|refine L3 ?_|refine KG a4 HY ?_)
 refine aw rfl (fun h=>absurd (Ky h) h2) (fun h=>?_)
 repeat' (first|refine L3 ?_|refine KG a4 HY ?_)
 refine aw rfl (fun h=>absurd (Ky h) h3) (fun h=>?_)
 repeat' (first|refine L3 ?_|refine KG a4 HY ?_)
 exact KQ KA
def rh (f:aZ) (n:Int):Int:=match f.Lookups[n.toNat]? with | some l=>l.Kind | none=>0
def vd (f:aZ) (r:bh) (_:Nat) (c:gK):Int:=if c.At < 0∨c.At≥r.In.length then 40 else if c.Lookup < 0∨c.Lookup≥f.Lookups.length then 42 else eu (decide (rh f c.Lookup < 1∨rh f c.Lookup > 4)) 42
set_option maxHeartbeats 1000000 in
theorem Ck (f:aZ) (r:bh) (i:Nat) (c:gK):bU Tryz.prog 273 [aF i,.agg (eK c),.iptr (bC r),.iptr (cJ f)] (aF (vd f r i c)):=by
 refine aN Tryz.func273 rfl Tryz.ntmps273 rfl fun B=>?_
 unfold vd
 have hI:=bY r.In
 have hL:(f.Lookups.map bw).length=f.Lookups.length:=Ku ..
 rw [←hI]
 repeat' (first|refine L3 ?_|refine ak ?_|refine KG a4 HY ?_|refine bA ?_|fail)
 refine ce [3,5] (c.At < 0∨c.At≥((bc r.In).length:Int)) rfl (fun Q' K=>?_) (fun hC=>?_) (fun hC=>?_)
 ·repeat' (first|refine L3 ?_|refine KG a4 HY ?_|refine KR HY ?_|refine KV KB ?_|refine KW KA (fun _=>?_) (fun _=>?_))
  all_goals exact K _ _ rfl rfl (by clear K;grind)
 ·rw [if_pos hC]
  repeat' (first|refine L3 ?_|refine KG a4 HY ?_)
  exact KQ KA
 rw [if_neg hC]
 repeat' (first|refine L3 ?_|refine KG a4 HY ?_)
 refine ce [3,5] (c.Lookup < 0∨c.Lookup≥f.Lookups.length) rfl (fun Q' K=>?_) (fun hC=>?_) (fun hC=>?_)
 ·repeat' (first|refine L3 ?_|refine KG a4 HY ?_|refine KR HY ?_|refine KV KB ?_|refine KW KA (fun _=>?_) (fun _=>?_))
  all_goals exact K _ _ rfl rfl (by clear K;grind)
 ·rw [if_pos hC]
  repeat' (first|refine L3 ?_|refine KG a4 HY ?_)
  exact KQ KA
 rw [if_neg hC]
 obtain ⟨l,hl⟩:∃l,f.Lookups[c.Lookup.toNat]?=some l:=⟨_,Kz (by omega)⟩
 have hlg:=c5 (c:=bw) hl
 have hk:rh f c.Lookup=l.Kind:=by unfold rh;rw [hl]
 rw [hk]
 repeat' (first|refine L3 ?_|refine KG a4 HY ?_|(apply aQ;first|refine aO a4 ?_|refine aG a4 ?_)|fail)
 by_cases h1:l.Kind < 1
 ·rw [decide_eq_true h1,decide_eq_true (Or.inl h1)]
  repeat' (first|refine L3 ?_|refine KG a4 HY ?_|refine KV KB ?_|(apply bF;refine bv ?_)|fail)
  exact KQ KA
 ·rw [decide_eq_false h1,show decide (l.Kind < 1∨l.Kind > 4)=decide (4 < l.Kind) from decide_eq_decide.2 ⟨fun h=>h.resolve_left h1,Or.inr⟩]
  repeat' (first|refine L3 ?_|refine KG a4 HY ?_|refine KR HY ?_|(apply bF;refine bv ?_)|fail)
  exact KQ KA
def lD (f:aZ) (kind:Int) (r:bh):Int:=if (r.Calls.length:Int) > 6 then 2 else if (r.Calls.length:Int) > 0∧kind≠4 then 40 else (dm r.Calls (vd f r)).1
set_option maxHeartbeats 1000000 in
theorem zT (f:aZ) (kind:Int) (r:bh):bU Tryz.prog 224 [df f,aF kind,.agg (bC r)] (aF (lD f kind r)):=by
 refine aN Tryz.func224 rfl Tryz.ntmps224 rfl fun B=>?_
 unfold lD
 have hL:(r.Calls.map eK).length=r.Calls.length:=Ku ..
 rw [←hL]
 repeat' (first|refine L3 ?_|refine ak ?_|refine KG a4 HY ?_|refine bA ?_|fail)
 refine aw rfl (fun h=>?_) (fun h=>?_)
 ·rw [if_pos (Ky h)]
  repeat' (first|refine L3 ?_|refine KG a4 HY ?_)
  exact KQ KA
 rw [if_neg (Kx h)]
 repeat' (first|refine L3 ?_|refine KG a4 HY ?_)
 refine ce [3,5] (((r.Calls.map eK).length:Int) > 0∧kind≠4) rfl (fun Q' K=>?_) (fun hC=>?_) (fun hC=>?_)
 ·repeat' (first|refine L3 ?_|refine KG a4 HY ?_|refine KR HY ?_|refine KV KB ?_|refine KW KA (fun _=>?_) (fun _=>?_))
  all_goals exact K _ _ rfl rfl (by clear K;grind)
 ·rw [if_pos hC]
  repeat' (first|refine L3 ?_|refine KG a4 HY ?_)
  exact KQ KA
 rw [if_neg hC]
 repeat' (first|refine L3 ?_|refine KG a4 HY ?_)
 refine b6 [] [] (Fl (u:= .fn 273 [.iptr (bC r),.iptr (cJ f)]) (g:=273) rfl r.Calls _ (fun _ _=>True) [] trivial (dw (fun i x _=>Ck f r i x))) rfl rfl (Lz _) rfl fun c L1 hc=>?_
 have hc:c=cD (dm r.Calls (vd f r)):=hc
 subst hc
 unfold cD
 repeat' (first|refine L3 ?_|refine KG a4 HY ?_)
 exact KQ KA
instance (f:aZ) (kind:Int) (r:bh):AD Tryz.prog 224 [df f,aF kind,.agg (bC r)] (aF (lD f kind r)):=⟨zT f kind r⟩
def Bj (f:aZ) (_:Nat) (l:List Int):Int:=eu (!(n5 f l)) 41
def AN (f:aZ) (_:Nat) (n:Int):Int:=eu (!(lN f n)) 32
def xE (kind:Int) (r:bh):Int:=eu (decide (r.X≠0∧kind≠6)) 40
def pK (r:bh):List (List Int):=r.Back++(r.In++r.Ahead)
theorem B6 (kind:Int) (r:bh):bU Tryz.prog 212 [.iptr [aF kind],.iptr (bC r)] (cD (mM kind r,0)):=by
 refine aN Tryz.func212 rfl Tryz.ntmps212 rfl fun B=>?_
 repeat' (first|refine L3 ?_|refine KG a4 HY ?_|(apply bF;refine bv ?_)|fail)
 exact bf rfl rfl rfl rfl
theorem y3 (f:aZ) (i:Nat) (l:List Int):bU Tryz.prog 217 [aF i,.imm 1 (aW l),.iptr (cJ f)] (aF (Bj f i l)):=by
 refine aN Tryz.func217 rfl Tryz.ntmps217 rfl fun B=>?_
 repeat' (first|refine L3 ?_|refine KG a4 HY ?_|(apply bF;refine bv ?_)|fail)
 exact KQ KA
theorem B7 (f:aZ) (r:bh) (h:r.Back.length≤6∧r.In.length≤6∧r.Ahead.length≤6):bU Tryz.prog 214 [.iptr (bC r),.iptr (cJ f)] (cD (dm (pK r) (Bj f))):=by
 refine aN Tryz.func214 rfl Tryz.ntmps214 rfl fun B=>?_
 repeat' (first|refine L3 ?_|refine KG a4 HY ?_|refine bW a4 ?_|fail)
 refine bv (hc:=⟨xc [r.Back,r.In,r.Ahead] (by simp [hQ];omega)⟩) ?_
 rw [show ([r.Back,r.In,r.Ahead]:List (List (List Int))).flatten=pK r by simp [pK]]
 repeat' (first|refine KG a4 HY ?_)
 refine b6 [] [] (Fj (u:= .fn 217 [.iptr (cJ f)]) (g:=217) rfl (pK r) _ (fun _ _=>True) [] trivial (dw (fun i x _=>y3 f i x))) rfl rfl (Lz _) rfl fun c L1 hc=>?_
 have hc:c=cD (dm (pK r) (Bj f)):=hc
 subst hc
 unfold cD
 repeat' (first|refine L3 ?_|refine KG a4 HY ?_)
 exact bf rfl rfl rfl rfl
theorem B8 (kind:Int) (r:bh) (hin:r.In≠[]):bU Tryz.prog 219 [.iptr [aF kind],.iptr (bC r)] (cD (eu (!(pT kind r)) 40,0)):=by
 refine aN Tryz.func219 rfl Tryz.ntmps219 rfl fun B=>?_
 repeat' (first|refine L3 ?_|refine KG a4 HY ?_)
 refine bv (hc:=⟨FM kind r hin⟩) ?_
 repeat' (first|refine L3 ?_|refine KG a4 HY ?_|(apply bF;refine bv ?_)|fail)
 exact bf rfl rfl rfl rfl
theorem y4 (f:aZ) (i:Nat) (n:Int):bU Tryz.prog 222 [aF i,aF n,.iptr (cJ f)] (aF (AN f i n)):=by
 refine aN Tryz.func222 rfl Tryz.ntmps222 rfl fun B=>?_
 repeat' (first|refine L3 ?_|refine KG a4 HY ?_|(apply bF;refine bv ?_)|fail)
 exact KQ KA
theorem B9 (f:aZ) (r:bh):bU Tryz.prog 221 [.iptr (bC r),.iptr (cJ f)] (cD (dm r.Out (AN f))):=by
 refine aN Tryz.func221 rfl Tryz.ntmps221 rfl fun B=>?_
 repeat' (first|refine L3 ?_|refine KG a4 HY ?_)
 refine b6 [] [] (nz (u:= .fn 222 [.iptr (cJ f)]) (g:=222) rfl r.Out _ (fun _ _=>True) [] trivial (dw (fun i x _=>y4 f i x))) rfl rfl (Lz _) rfl fun c L1 hc=>?_
 have hc:c=cD (dm r.Out (AN f)):=hc
 subst hc
 unfold cD
 repeat' (first|refine L3 ?_|refine KG a4 HY ?_)
 exact bf rfl rfl rfl rfl
theorem Ba (f:aZ) (kind:Int) (r:bh):bU Tryz.prog 223 [.iptr (cJ f),.iptr [aF kind],.iptr (bC r)] (cD (lD f kind r,0)):=by
 refine aN Tryz.func223 rfl Tryz.ntmps223 rfl fun B=>?_
 repeat' (first|refine L3 ?_|refine KG a4 HY ?_|(apply bF;refine bv ?_)|fail)
 exact bf rfl rfl rfl rfl
theorem Bb (r:bh):bU Tryz.prog 225 [.iptr (bC r)] (cD (eu (!([r.X].all gD)) 1,0)):=by
 refine aN Tryz.func225 rfl Tryz.ntmps225 rfl fun B=>?_
 repeat' (first|refine L3 ?_|refine KG a4 HY ?_|refine bW a4 ?_|(apply bF;refine bv ?_)|fail)
 exact bf rfl rfl rfl rfl
theorem Bc (kind:Int) (r:bh):bU Tryz.prog 226 [.iptr (bC r),.iptr [aF kind]] (cD (xE kind r,0)):=by
 refine aN Tryz.func226 rfl Tryz.ntmps226 rfl fun B=>?_
 unfold xE
 by_cases h:r.X≠0
 ·rw [show decide (r.X≠0∧kind≠6)=decide (kind≠6) from decide_eq_decide.2 ⟨fun q=>q.2,fun q=>⟨h,q⟩⟩]
  repeat' (first|refine L3 ?_|refine KG a4 HY ?_)
  rw [decide_eq_true h]
  repeat' (first|refine L3 ?_|refine KG a4 HY ?_|refine KR HY ?_|(apply bF;refine bv ?_)|fail)
  exact bf rfl rfl rfl rfl
 ·rw [show decide (r.X≠0∧kind≠6)=false from decide_eq_false (fun q=>h q.1)]
  repeat' (first|refine L3 ?_|refine KG a4 HY ?_)
  rw [decide_eq_false h]
  repeat' (first|refine L3 ?_|refine KG a4 HY ?_|refine KV KB ?_|(apply bF;refine bv ?_)|fail)
  exact bf rfl rfl rfl rfl
def kq (f:aZ) (kind:Int) (r:bh):Int:=(gV [(mM kind r,0),dm (pK r) (Bj f),(eu (!(pT kind r)) 40,0),dm r.Out (AN f),(lD f kind r,0),(eu (!([r.X].all gD)) 1,0),(xE kind r,0)]).1
set_option maxHeartbeats 1000000 in
theorem E5 (f:aZ) (kind:Int) (r:bh):bU Tryz.prog 141 [df f,aF kind,.agg (bC r)] (aF (kq f kind r)):=by
 refine aN Tryz.func141 rfl Tryz.ntmps141 rfl fun B=>?_
 repeat' (first|refine L3 ?_|refine KG a4 HY ?_|refine bA ?_|refine bW a4 ?_|fail)
 refine b6 [] [] (jY [⟨212,[.iptr [aF kind],.iptr (bC r)],[],mM kind r,0⟩,⟨214,[.iptr (bC r),.iptr (cJ f)],[],(dm (pK r) (Bj f)).1,(dm (pK r) (Bj f)).2⟩,⟨219,[.iptr [aF kind],.iptr (bC r)],[],eu (!(pT kind r)) 40,0⟩,⟨221,[.iptr (bC r),.iptr (cJ f)],[],(dm r.Out (AN f)).1,(dm r.Out (AN f)).2⟩,⟨223,[.iptr (cJ f),.iptr [aF kind],.iptr (bC r)],[],lD f kind r,0⟩,⟨225,[.iptr (bC r)],[],eu (!([r.X].all gD)) 1,0⟩,⟨226,[.iptr (bC r),.iptr [aF kind]],[],xE kind r,0⟩] ?_) rfl rfl (Lz _) rfl fun c L1 hc=>?_
 ·exact ⟨⟨inferInstance,B6 kind r⟩,fun h1=>⟨⟨inferInstance,B7 f r (za h1).2⟩,fun _=>⟨⟨inferInstance,B8 kind r (za h1).1⟩,fun _=>⟨⟨inferInstance,B9 f r⟩,fun _=>⟨⟨inferInstance,Ba f kind r⟩,fun _=>⟨⟨inferInstance,Bb r⟩,fun _=>⟨⟨inferInstance,Bc kind r⟩,fun _=>trivial⟩⟩⟩⟩⟩⟩⟩
 rw [kR] at hc
 subst hc
 unfold cD
 repeat' (first|refine L3 ?_|refine KG a4 HY ?_)
 exact KQ KA
instance (f:aZ) (kind:Int) (r:bh):AD Tryz.prog 141 [df f,aF kind,.agg (bC r)] (aF (kq f kind r)):=⟨E5 f kind r⟩
theorem pw (l:aL):bU Tryz.prog 136 [.iptr (bw l)] (cD (eu (decide ((l.Rules.length:Int) > 60)) 2,0)):=by
 refine aN Tryz.func136 rfl Tryz.ntmps136 rfl fun B=>?_
 rw [show (l.Rules.length:Int)=((l.Rules.map bC).length:Int) by rw [Ku]]
 repeat' (first|refine L3 ?_|refine KG a4 HY ?_|(apply bF;refine bv ?_)|fail)
 exact bf rfl rfl rfl rfl
def qz (l:aL):Int:=eu (decide (l.Kind=7∨l.Kind=8) && decide ((l.Rules.length:Int) > 0)) 40
theorem px (l:aL) (b:Bool) (hb:b=decide (l.Kind=7∨l.Kind=8)):bU Tryz.prog 137 [.iptr [d6 b],.iptr (bw l)] (cD (qz l,0)):=by
 refine aN Tryz.func137 rfl Tryz.ntmps137 rfl fun B=>?_
 unfold qz
 rw [←hb,show (l.Rules.length:Int)=((l.Rules.map bC).length:Int) by rw [Ku]]
 cases b
 ·repeat' (first|refine L3 ?_|refine KG a4 HY ?_|refine KV KB ?_|(apply bF;refine bv ?_)|fail)
  exact bf rfl rfl rfl rfl
 ·repeat' (first|refine L3 ?_|refine KG a4 HY ?_|refine KR HY ?_|(apply bF;refine bv ?_)|fail)
  exact bf rfl rfl rfl rfl
theorem u5 (f:aZ) (l:aL) (i:Nat) (r:bh):bU Tryz.prog 140 [aF i,.agg (bC r),.iptr (cJ f),.iptr (bw l)] (aF (kq f l.Kind r)):=by
 refine aN Tryz.func140 rfl Tryz.ntmps140 rfl fun B=>?_
 repeat' (first|refine L3 ?_|refine KG a4 HY ?_|refine bA ?_|(apply bF;refine bv ?_)|fail)
 exact KQ KA
theorem py (f:aZ) (l:aL):bU Tryz.prog 138 [.iptr (bw l),.iptr (cJ f)] (cD (dm l.Rules fun _ r=>kq f l.Kind r)):=by
 refine aN Tryz.func138 rfl Tryz.ntmps138 rfl fun B=>?_
 repeat' (first|refine L3 ?_|refine KG a4 HY ?_)
 refine b6 [] [] (F9 (u:= .fn 140 [.iptr (cJ f),.iptr (bw l)]) (g:=140) rfl l.Rules _ (fun _ _=>True) [] trivial (dw (w:=fun _ r=>kq f l.Kind r) (fun i x _=>u5 f l i x))) rfl rfl (Lz _) rfl fun c L1 hc=>?_
 have hc:c=cD (dm l.Rules fun _ r=>kq f l.Kind r):=hc
 subst hc
 unfold cD
 repeat' (first|refine L3 ?_|refine KG a4 HY ?_)
 exact bf rfl rfl rfl rfl
def ml (f:aZ) (l:aL):Int:=if l.Kind < 1∨l.Kind > 8 then 42 else (gV [(eu (decide ((l.Rules.length:Int) > 60)) 2,0),(qz l,0),dm l.Rules fun _ r=>kq f l.Kind r]).1
set_option maxHeartbeats 1000000 in
theorem xF (f:aZ) (l:aL):bU Tryz.prog 62 [df f,.agg (bw l)] (aF (ml f l)):=by
 refine aN Tryz.func62 rfl Tryz.ntmps62 rfl fun B=>?_
 unfold ml
 repeat' (first|refine L3 ?_|refine KG a4 HY ?_|refine bA ?_|fail)
 refine ce [2,3] (l.Kind < 1∨l.Kind > 8) rfl (fun Q' K=>?_) (fun hC=>?_) (fun hC=>?_)
 ·repeat' (first|refine L3 ?_|refine KG a4 HY ?_|refine KR HY ?_|refine KV KB ?_|refine KW KA (fun _=>?_) (fun _=>?_))
  all_goals exact K _ _ rfl rfl (by clear K;grind)
 ·rw [if_pos hC]
  repeat' (first|refine L3 ?_|refine KG a4 HY ?_)
  exact KQ KA
 rw [if_neg hC]
 repeat' (first|refine L3 ?_|refine KG a4 HY ?_)
 by_cases h7:l.Kind=7
 ·rw [decide_eq_true h7]
  repeat' (first|refine L3 ?_|refine KG a4 HY ?_|refine KV KB ?_|(apply aM;first|refine KL 5 a4 0 KF ?_|refine KL 5 a4 1 KF ?_|refine KL 5 a4 2 KF ?_|refine KH a4 0 KE ?_|refine KH a4 1 KE ?_|refine KH a4 2 KE ?_|refine KH a4 3 KE ?_|fail)|refine bq a4 fun _=>?_|refine bW a4 ?_|fail)
  refine b6 [] [] (jY [⟨136,[.iptr (bw l)],[],eu (decide ((l.Rules.length:Int) > 60)) 2,0⟩,⟨137,[.iptr [d6 true],.iptr (bw l)],[],qz l,0⟩,⟨138,[.iptr (bw l),.iptr (cJ f)],[],(dm l.Rules fun _ r=>kq f l.Kind r).1,(dm l.Rules fun _ r=>kq f l.Kind r).2⟩] ⟨⟨inferInstance,pw l⟩,fun _=>⟨⟨inferInstance,px l true (decide_eq_true (Or.inl h7)).symm⟩,fun _=>⟨⟨inferInstance,py f l⟩,fun _=>trivial⟩⟩⟩) rfl rfl (Lz _) rfl fun c L1 hc=>?_
  rw [kR] at hc
  subst hc
  unfold cD
  repeat' (first|refine L3 ?_|refine KG a4 HY ?_)
  exact KQ KA
 ·rw [decide_eq_false h7]
  repeat' (first|refine L3 ?_|refine KG a4 HY ?_|refine KR HY ?_|(apply aM;first|refine KL 5 a4 0 KF ?_|refine KL 5 a4 1 KF ?_|refine KL 5 a4 2 KF ?_|refine KH a4 0 KE ?_|refine KH a4 1 KE ?_|refine KH a4 2 KE ?_|refine KH a4 3 KE ?_|fail)|refine bq a4 fun _=>?_|refine bW a4 ?_|fail)
  refine b6 [] [] (jY [⟨136,[.iptr (bw l)],[],eu (decide ((l.Rules.length:Int) > 60)) 2,0⟩,⟨137,[.iptr [d6 (decide (l.Kind=8))],.iptr (bw l)],[],qz l,0⟩,⟨138,[.iptr (bw l),.iptr (cJ f)],[],(dm l.Rules fun _ r=>kq f l.Kind r).1,(dm l.Rules fun _ r=>kq f l.Kind r).2⟩] ⟨⟨inferInstance,pw l⟩,fun _=>⟨⟨inferInstance,px l (decide (l.Kind=8)) (decide_eq_decide.2 ⟨Or.inr,fun h=>h.resolve_left h7⟩)⟩,fun _=>⟨⟨inferInstance,py f l⟩,fun _=>trivial⟩⟩⟩) rfl rfl (Lz _) rfl fun c L1 hc=>?_
  rw [kR] at hc
  subst hc
  unfold cD
  repeat' (first|refine L3 ?_|refine KG a4 HY ?_)
  exact KQ KA
instance (f:aZ) (l:aL):AD Tryz.prog 62 [df f,.agg (bw l)] (aF (ml f l)):=⟨xF f l⟩
theorem u6 (f:aZ) (i:Nat) (l:aL):bU Tryz.prog 61 [aF i,.agg (bw l),.iptr (cJ f)] (aF (ml f l)):=by
 refine aN Tryz.func61 rfl Tryz.ntmps61 rfl fun B=>?_
 repeat' (first|refine L3 ?_|refine KG a4 HY ?_|refine bA ?_|(apply bF;refine bv ?_)|fail)
 exact KQ KA
end Go.Proofs.YtpmdfoaadejmkaaGreatDoor
