/-
  The library: rows of rows, one behind the other.
-/
import Derived.Test.YtpmdfoaadejmkaaGreatDoorM21
import Derived.Test.YtpmdfoaadejmkaaGreatDoorM07
namespace Go.Proofs.YtpmdfoaadejmkaaGreatDoor
open Go.RowKit
attribute [local irreducible] AT br AX AO Av Kt b7 dm DA cA
theorem FS (n:Nat) (hn:n≤1000000):AC Tryz.prog 271 [.sc (.slice none 0 0),aI n] [] fun c L=>∃k,c= .vec k 1 []∧L=tok k 22 1 0:=by
 refine aS Tryz.func271 rfl Tryz.ntmps271 rfl fun B=>?_
 refine W0G ?_
 refine ue a5 rfl rfl rfl ?_
 refine W0L ?_
 by_cases h0:n=0
 ·subst h0
  refine W1Z ?_
  refine bc (bA (t:=4) (c':= .vec none 1 []) rfl fun σ v h=>cC 1 h) (LM KZ ⟨none,rfl,rfl⟩)
 ·refine ar rfl (fun h2=>?_) (fun h2=>?_)
  ·refine W1f ?_
   refine ue a5 rfl rfl rfl ?_
   repeat' (first|fail)
   refine Ib a5 rfl rfl rfl rfl ?_
   repeat' (first|refine LG a5 KZ ?_)
   refine B2 a5 n rfl Tryz.underlying3 rfl rfl (by omega) (by omega) (by omega) (by omega) rfl fun b cap h3 h4=>?_
   repeat' (first|refine LG a5 KZ ?_)
   refine DX a5 0 rfl rfl rfl rfl (by omega) (by omega) rfl ?_
   refine W0u ?_
   refine bc (bA (t:=4) (c':= .vec (some (b,cap)) 1 []) rfl fun σ v h=>GL h4 h) (LM KZ ⟨some (b,cap),rfl,rfl⟩)
  ·exact absurd (Ly h2) (by omega)
def rJ (l:List (List (List Int))):List (List AV):=l.map fun r=>[.imm 1 (bj r)]
def hQ (l:List (List (List Int))):Nat:=(l.map List.length).sum
theorem pH {l:List (List (List Int))} {i:Nat} {r:List (List Int)} (h:l[i]?=some r):hQ (l.take (i+1))=hQ (l.take i)+r.length:=by
 unfold hQ
 rw [List.take_add_one,h]
 simp
theorem to (l:List (List (List Int))) (i:Nat):hQ (l.take i)≤hQ l:=by
 have h:((l.take i++l.drop i).map List.length).sum=(l.map List.length).sum:=by rw [List.take_append_drop]
 rw [List.map_append,List.sum_append] at h
 unfold hQ
 omega
theorem Da (l:List (List (List Int))):l.flatten.length=hQ l:=by
 unfold hQ
 rw [List.length_flatten]
theorem Bl (a b:List (List Int)):bj a++bj b=bj (a++b):=by unfold bj;rw [List.map_append]
set_option maxHeartbeats 1000000 in
theorem xc (l:List (List (List Int))) (hs:hQ l≤1000000):c5 Tryz.prog 216 [.imm 1 (rJ l)] (.imm 1 (bj l.flatten)):=by
 refine aS Tryz.func216 rfl Tryz.ntmps216 rfl fun B=>?_
 have hrl:(rJ l).length=l.length:=by simp [rJ]
 refine cW 0 rfl rfl fun hlen=>?_
 rw [hrl] at hlen
 refine W04 ?_
 refine aN [0,9,10] (α:=Nat) (fun i=>[(11,aI i),(3,aI (hQ (l.take i)))]) (fun i=>i≤l.length) (fun _=>[]) (fun i=>l.length - i) 0 rfl ⟨rfl,rfl,trivial⟩ (Nat.zero_le _) (fun _ _ h=>h) fun i hi=>?_
 try dsimp only [Lr,Lq,Lp,Li]
 refine W01 ?_
 refine ar rfl (fun h=>?_) (fun h=>?_)
 ·have hil:i < l.length:=by have:=Lz h;rw [hrl] at this;omega
  obtain ⟨z,hz⟩:∃z,l[i]?=some z:=⟨_,Iy hil⟩
  have hzg:(rJ l)[i]?=some [.imm 1 (bj z)]:=by simp [rJ,hz]
  have hsz:=pH hz
  have hle:=to l (i+1)
  have hzl:(bj z).length=z.length:=by simp [bj]
  repeat' (first|refine a9 ?_|refine a4 ?_|refine ai ?_|refine aj ?_|refine a6 ?_|refine aK ?_|refine a7 ?_|refine LG a5 KZ ?_|(apply aU;refine aT ?_)|(apply aL;first|refine aJ a5 ?_|refine aF a5 ?_)|refine bB rfl ?_)
  exact aC (i+1) rfl ⟨by rw [Lv];rfl,by rw [hsz,Lv,hzl];rfl,trivial⟩ (by omega) (by omega) (fun _ _ h=>h)
 have hil:i=l.length:=by have:=Ly h;rw [hrl] at this;omega
 subst hil
 rw [List.take_length]
 clear h
 refine W0R ?_
 refine b9 [] [] (FS (hQ l) hs) rfl rfl (Lm _) rfl fun c L1 ⟨k,hc,hL⟩=>?_
 subst hc;subst hL
 rw [List.append_nil]
 refine W04 ?_
 refine aN [25,26] (α:=Nat×Option (Nat×Nat)) (fun x=>[(27,aI x.1),(6,.vec x.2 1 (bj (l.take x.1).flatten))]) (fun x=>x.1≤l.length) (fun x=>tok x.2 22 1 (bj (l.take x.1).flatten).length) (fun x=>l.length - x.1) (0,k) rfl ⟨rfl,rfl,trivial⟩ (Nat.zero_le _) (fun _ _ h=>h) ?_
 rintro ⟨i,k⟩ hi
 dsimp only at hi ⊢
 try dsimp only [Lr,Lq,Lp,Li]
 refine W01 ?_
 refine ar rfl (fun h=>?_) (fun h=>?_)
 ·have hil:i < l.length:=by have:=Lz h;rw [hrl] at this;omega
  obtain ⟨z,hz⟩:∃z,l[i]?=some z:=⟨_,Iy hil⟩
  have hzg:(rJ l)[i]?=some [.imm 1 (bj z)]:=by simp [rJ,hz]
  have hsz:=pH hz
  have hle:=to l (i+1)
  have hzl:(bj z).length=z.length:=by simp [bj]
  have hfl:(bj (l.take i).flatten).length=hQ (l.take i):=by rw [bZ,Da]
  have hcat:bj (l.take i).flatten++bj z=bj (l.take (i+1)).flatten:=by rw [Bl,List.take_add_one,hz];simp
  refine W08 ?_
  refine bE a5 [] rfl rfl rfl rfl (by rw [List.append_nil]) (by rw [hfl,hzl];omega) (by rw [hfl,hzl];omega) rfl fun k'=>?_
  rw [hcat,List.append_nil]
  refine W05 ?_
  exact aC (i+1,k') rfl ⟨by rw [Lv];rfl,rfl,trivial⟩ (by dsimp only;omega) (by dsimp only;omega) (fun _ _ h=>h)
 ·have hil:i=l.length:=by have:=Ly h;rw [hrl] at this;omega
  subst hil
  rw [List.take_length]
  refine W02 ?_
  exact CA rfl rfl rfl rfl
def kX (l:List Int):Bool:=decide (∀i,i < l.length - 1→l.getD i 0 < l.getD (i+1) 0)
theorem lM {l:List Int} {i:Nat} {z:Int} (h:l[i]?=some z):l.getD i 0=z:=by simp [h]
theorem xY (l:List Int):c5 Tryz.prog 253 [.imm 1 (aQ l)] (eo (kX l)):=by
 refine aS Tryz.func253 rfl Tryz.ntmps253 rfl fun B=>?_
 refine cW 0 rfl rfl fun hlen=>?_
 have hll:=aX l
 rw [aX] at hlen
 refine W04 ?_
 refine aN [0] (α:=Nat) (fun i=>[(3,aI (i+1:Nat))]) (fun i=>i≤l.length∧∀j,j < i→j+1 < l.length→l.getD j 0 < l.getD (j+1) 0) (fun _=>[]) (fun i=>l.length - i) 0 rfl ⟨rfl,trivial⟩ ⟨Nat.zero_le _,fun j hj=>absurd hj (Nat.not_lt_zero _)⟩ (fun _ _ h=>h) fun i ⟨hi,hall⟩=>?_
 try dsimp only [Lr,Lq,Lp,Li]
 refine W01 ?_
 refine ar rfl (fun h=>?_) (fun h=>?_)
 ·have hil:i+1 < l.length:=by have:=Lz h;rw [aX] at this;omega
  obtain ⟨y,hy⟩:∃z,l[i]?=some z:=⟨_,Iy (by omega)⟩
  obtain ⟨z,hz⟩:∃z,l[i+1]?=some z:=⟨_,Iy hil⟩
  have hyg:(aQ l)[(((i+1:Nat):Int) - 1).toNat]?=some [aI y]:=by rw [show (((i+1:Nat):Int) - 1).toNat=i by omega];exact bW hy
  have hzg:=bW hz
  refine W0K ?_
  refine bz 9 [(0,.v),(1,.v),(2,.v),(3,.v),(4,.v),(5,.v),(6,.v),(7,.v),(8,.v)] none ?_ trivial rfl (by kernel_rfl) (by kernel_rfl) (by kernel_rfl) bX (by kernel_rfl) rfl
  refine W2c ?_
  refine LQ [0,3,13,18] KZ ?_
  refine W0r ?_
  refine ar rfl (fun h2=>?_) (fun h2=>?_)
  ·have h2':=Lz h2
   refine W09 ?_
   refine LM KZ ?_
   rw [show kX l=false from decide_eq_false (fun hh=>by have:=hh i (by omega);rw [lM hy,lM hz] at this;omega)]
  ·have h2':=Ly h2
   refine W06 ?_
   refine aC (i+1) rfl ⟨by rw [Lv (i+1) 1];rfl,trivial⟩ ⟨by omega,fun j hj hjl=>?_⟩ (by omega) (fun _ _ h=>h)
   by_cases e:j=i
   ·subst e;rw [lM hy,lM hz];omega
   ·exact hall j (by omega) hjl
 ·have hil:l.length≤i+1:=by have:=Ly h;rw [aX] at this;omega
  refine W02 ?_
  refine LM KZ ?_
  rw [show kX l=true from decide_eq_true (fun j hj=>hall j (by omega) (by omega))]
instance (l:List Int):AD Tryz.prog 253 [.imm 1 (aQ l)] (eo (kX l)):=⟨xY l⟩
def mU (f:aY) (l:List Int):Bool:=decide (0 < l.length) && (kX l && (lO f (l.getD 0 0) && lO f (l.getD (l.length - 1) 0)))
set_option maxHeartbeats 1000000 in
theorem AF (f:aY) (l:List Int):c5 Tryz.prog 218 [d7 f,.imm 1 (aQ l)] (eo (mU f l)):=by
 refine aS Tryz.func218 rfl Tryz.ntmps218 rfl fun B=>?_
 refine cW 1 rfl rfl fun hlen=>?_
 cases l with
 | nil=>
  refine W0b ?_
  refine bz 24 [(0,.v),(1,.v),(2,.v),(3,.v),(4,.v),(5,.v),(6,.v),(7,.v),(8,.v),(9,.v),(10,.v),(11,.v),(12,.v),(13,.v),(14,.v),(15,.v),(16,.v),(17,.v),(18,.v),(19,.v),(20,.v),(21,.v),(22,.v),(23,.v)] none ?_ trivial rfl (by kernel_rfl) (by kernel_rfl) (by kernel_rfl) bX (by kernel_rfl) rfl
  refine W2e ?_
  refine LQ [28] KZ ?_
  refine W0c ?_
  exact LN LA
 | cons y q=>
  have hll:(aQ (y::q)).length=q.length+1:=by rw [aX];rfl
  rw [hll] at hlen
  obtain ⟨z,hz⟩:∃z,(y::q)[q.length]?=some z:=⟨_,Iy (by simp)⟩
  have hzg:(aQ (y::q))[((((aQ (y::q)).length:Nat):Int) - 1).toNat]?=some [aI z]:=by rw [show ((((aQ (y::q)).length:Nat):Int) - 1).toNat=q.length by rw [hll];omega];exact bW hz
  have hyg:(aQ (y::q))[(0:Int).toNat]?=some [aI y]:=rfl
  have hval:mU f (y::q)=(kX (y::q) && (lO f y && lO f z)):=by
   unfold mU
   rw [show (y::q).length - 1=q.length by simp,lM hz]
   simp
  rw [hval]
  have hpos:decide (0 < (((aQ (y::q)).length:Nat):Int))=true:=decide_eq_true (by rw [hll];omega)
  refine W0b ?_
  refine bz 24 [(0,.v),(1,.v),(2,.v),(3,.v),(4,.v),(5,.v),(6,.v),(7,.v),(8,.v),(9,.v),(10,.v),(11,.v),(12,.v),(13,.v),(14,.v),(15,.v),(16,.v),(17,.v),(18,.v),(19,.v),(20,.v),(21,.v),(22,.v),(23,.v)] none ?_ trivial rfl (by kernel_rfl) (by kernel_rfl) (by kernel_rfl) bX (by kernel_rfl) rfl
  refine W0a ?_
  rw [hpos]
  refine W0W ?_
  generalize kX (y::q)=b1
  cases b1
  ·refine W2e ?_
   refine LQ [28] KZ ?_
   refine W0c ?_
   exact LN LA
  repeat' (first|refine aD ?_|refine b6 a5 ?_|(apply cK;refine df a5 ?_)|(apply dQ;refine eT ?_)|fail)
  generalize lO f y=b2
  cases b2
  ·refine W2e ?_
   refine LQ [28] KZ ?_
   refine W0c ?_
   exact LN LA
  refine W20 ?_
  refine LQ [28] KZ ?_
  refine W0c ?_
  exact LN LA
instance (f:aY) (l:List Int):AD Tryz.prog 218 [d7 f,.imm 1 (aQ l)] (eo (mU f l)):=⟨AF f l⟩
def fh (kind:Int) (r:b8):Bool:=if kind=1∨kind=2∨kind=5 then decide ((r.In.length:Int)≠1) else if kind=6 then decide ((r.In.length:Int)≠2∨(r.Back.length:Int) > 0∨(r.Ahead.length:Int) > 0) else decide ((r.In.length:Int)=0)
def mH (kind:Int) (r:b8):Int:=if (r.Back.length:Int) > 6∨(r.In.length:Int) > 6∨(r.Ahead.length:Int) > 6 then 2 else er (fh kind r) 40
set_option maxHeartbeats 1000000 in
theorem Ej (kind:Int) (r:b8):c5 Tryz.prog 213 [aI kind,.agg (bV r)] (aI (mH kind r)):=by
 refine aS Tryz.func213 rfl Tryz.ntmps213 rfl fun B=>?_
 unfold mH fh
 have hB:=bZ r.Back
 have hI:=bZ r.In
 have hA:=bZ r.Ahead
 rw [←hB,←hI,←hA]
 refine W0b ?_
 refine ce [0,3] (((bj r.Back).length:Int) > 6∨((bj r.In).length:Int) > 6∨((bj r.Ahead).length:Int) > 6) rfl (fun Q' K=>?_) (fun hC=>?_) (fun hC=>?_)
 ·repeat' (first|refine a7 ?_|refine LG a5 KZ ?_|refine LO KZ ?_|refine LP LB ?_|refine LR LA (fun _=>?_) (fun _=>?_))
  all_goals exact K _ _ rfl rfl (by clear K;grind)
 ·rw [if_pos hC]
  refine W07 ?_
  exact LN LA
 rw [if_neg hC]
 by_cases h1:kind=1
 ·subst h1
  repeat' (first|refine a9 ?_|refine a4 ?_|refine ai ?_|refine aj ?_|refine am ?_|refine a6 ?_|refine aK ?_|refine a7 ?_|refine LG a5 KZ ?_|(apply bw;refine bn ?_)|refine bR rfl ?_)
  exact LN LA
 by_cases h2:kind=2
 ·subst h2
  refine W1s ?_
  exact LN LA
 by_cases h5:kind=5
 ·subst h5
  refine W1s ?_
  exact LN LA
 rw [if_neg (by omega)]
 by_cases h6:kind=6
 ·subst h6
  rw [if_pos rfl]
  refine W1Q ?_
  refine dz (t:=5) [] (((bj r.In).length:Int)≠2∨((bj r.Back).length:Int) > 0∨((bj r.Ahead).length:Int) > 0) rfl (fun Q' K=>?_) ?_
  ·repeat' (first|refine a7 ?_|refine LG a5 KZ ?_|refine LO KZ ?_|refine LP LB ?_|refine LR LA (fun _=>?_) (fun _=>?_))
   all_goals exact K _ _ rfl rfl (by clear K;grind)
  repeat' (first|refine a9 ?_|refine a4 ?_|refine am ?_|refine a6 ?_|refine aK ?_|refine a7 ?_|refine LG a5 KZ ?_|(apply bw;refine bn ?_)|fail)
  exact LN LA
 rw [if_neg h6]
 refine W0x ?_
 refine ar rfl (fun h=>absurd (Lz h) h1) (fun h=>?_)
 refine W01 ?_
 refine ar rfl (fun h=>absurd (Lz h) h2) (fun h=>?_)
 refine W1a ?_
 refine ar rfl (fun h=>absurd (Lz h) h5) (fun h=>?_)
 rw [decide_eq_false h5]
 refine W01 ?_
 refine ar rfl (fun h=>absurd (Lz h) h6) (fun h=>?_)
 refine W1K ?_
 exact LN LA
instance (kind:Int) (r:b8):AD Tryz.prog 213 [aI kind,.agg (bV r)] (aI (mH kind r)):=⟨Ej kind r⟩
theorem zn {kind:Int} {r:b8} (h:mH kind r=0):r.In≠[]∧r.Back.length≤6∧r.In.length≤6∧r.Ahead.length≤6:=by
 unfold mH at h
 split at h
 ·cases h
 ·rename_i hc
  refine ⟨fun e=>?_,by omega,by omega,by omega⟩
  have hw:fh kind r=true:=by
   unfold fh
   rw [e]
   split
   ·decide
   ·split <;> simp
  rw [hw] at h
  cases h
def pO (kind:Int) (r:b8):Bool:=if kind=1∨kind=5 then decide ((r.Out.length:Int)=((r.In.headD []).length:Int)) else if kind=2 then decide ((r.Out.length:Int)≤6) else if kind=3 then decide ((r.Out.length:Int)=1) else decide ((r.Out.length:Int)=0)
set_option maxHeartbeats 1000000 in
theorem Gd (kind:Int) (r:b8) (hin:r.In≠[]):c5 Tryz.prog 220 [aI kind,.agg (bV r)] (eo (pO kind r)):=by
 refine aS Tryz.func220 rfl Tryz.ntmps220 rfl fun B=>?_
 obtain ⟨y,hy⟩:∃y,r.In[0]?=some y:=⟨_,Iy (List.length_pos_iff.2 hin)⟩
 have hyg:=gr hy
 have hv:pO kind r=if kind=1∨kind=5 then decide (((aQ r.Out).length:Int)=((aQ y).length:Int)) else if kind=2 then decide (((aQ r.Out).length:Int)≤6) else if kind=3 then decide (((aQ r.Out).length:Int)=1) else decide (((aQ r.Out).length:Int)=0):=by
  have hd:r.In.headD []=y:=by
   cases hI:r.In with
   | nil=>exact absurd hI hin
   | cons y' q=>rw [hI] at hy;simpa using hy
  unfold pO
  rw [hd,aX,aX]
 rw [hv]
 by_cases h1:kind=1
 ·subst h1
  repeat' (first|refine a9 ?_|refine a4 ?_|refine ai ?_|refine aj ?_|refine a6 ?_|refine a7 ?_|refine LG a5 KZ ?_|refine bk ?_|refine bR rfl ?_)
  refine bz 8 [(0,.v),(1,.v),(2,.v),(3,.v),(4,.v),(5,.v),(6,.v),(7,.v)] none ?_ trivial rfl (by kernel_rfl) (by kernel_rfl) (by kernel_rfl) bX (by kernel_rfl) rfl
  refine W18 ?_
  refine LQ [11,16] KZ ?_
  refine W2d ?_
  exact LN LA
 by_cases h5:kind=5
 ·subst h5
  repeat' (first|refine a9 ?_|refine a4 ?_|refine ai ?_|refine a6 ?_|refine a7 ?_|refine LG a5 KZ ?_|refine bk ?_|refine bR rfl ?_|refine bB rfl ?_)
  refine bz 8 [(0,.v),(1,.v),(2,.v),(3,.v),(4,.v),(5,.v),(6,.v),(7,.v)] none ?_ trivial rfl (by kernel_rfl) (by kernel_rfl) (by kernel_rfl) bX (by kernel_rfl) rfl
  refine W18 ?_
  refine LQ [11,16] KZ ?_
  refine W2d ?_
  exact LN LA
 rw [if_neg (by omega)]
 by_cases h2:kind=2
 ·subst h2
  refine W1x ?_
  exact LN LA
 rw [if_neg h2]
 by_cases h3:kind=3
 ·subst h3
  refine W1x ?_
  exact LN LA
 rw [if_neg h3]
 refine W0V ?_
 refine ar rfl (fun h=>absurd (Lz h) h1) (fun h=>?_)
 refine W1a ?_
 refine ar rfl (fun h=>absurd (Lz h) h5) (fun h=>?_)
 rw [decide_eq_false h5]
 refine W01 ?_
 refine ar rfl (fun h=>absurd (Lz h) h2) (fun h=>?_)
 refine W01 ?_
 refine ar rfl (fun h=>absurd (Lz h) h3) (fun h=>?_)
 refine W1k ?_
 exact LN LA
def r7 (f:aY) (n:Int):Int:=match f.Lookups[n.toNat]? with | some l=>l.Kind | none=>0
def vl (f:aY) (r:b8) (_:Nat) (c:gO):Int:=if c.At < 0∨c.At≥r.In.length then 40 else if c.Lookup < 0∨c.Lookup≥f.Lookups.length then 42 else er (decide (r7 f c.Lookup < 1∨r7 f c.Lookup > 4)) 42
set_option maxHeartbeats 1000000 in
theorem CI (f:aY) (r:b8) (i:Nat) (c:gO):c5 Tryz.prog 273 [aI i,.agg (dC c),.iptr (bV r),.iptr (cG f)] (aI (vl f r i c)):=by
 refine aS Tryz.func273 rfl Tryz.ntmps273 rfl fun B=>?_
 unfold vl
 have hI:=bZ r.In
 have hL:(f.Lookups.map bJ).length=f.Lookups.length:=Lu ..
 rw [←hI]
 refine W0V ?_
 refine ce [3,5] (c.At < 0∨c.At≥((bj r.In).length:Int)) rfl (fun Q' K=>?_) (fun hC=>?_) (fun hC=>?_)
 ·repeat' (first|refine a7 ?_|refine LG a5 KZ ?_|refine LO KZ ?_|refine LP LB ?_|refine LR LA (fun _=>?_) (fun _=>?_))
  all_goals exact K _ _ rfl rfl (by clear K;grind)
 ·rw [if_pos hC]
  refine W0f ?_
  exact LN LA
 rw [if_neg hC]
 refine W0k ?_
 refine ce [3,5] (c.Lookup < 0∨c.Lookup≥f.Lookups.length) rfl (fun Q' K=>?_) (fun hC=>?_) (fun hC=>?_)
 ·repeat' (first|refine a7 ?_|refine LG a5 KZ ?_|refine LO KZ ?_|refine LP LB ?_|refine LR LA (fun _=>?_) (fun _=>?_))
  all_goals exact K _ _ rfl rfl (by clear K;grind)
 ·rw [if_pos hC]
  refine W0f ?_
  exact LN LA
 rw [if_neg hC]
 obtain ⟨l,hl⟩:∃l,f.Lookups[c.Lookup.toNat]?=some l:=⟨_,Iy (by omega)⟩
 have hlg:=cO (c:=bJ) hl
 have hk:r7 f c.Lookup=l.Kind:=by unfold r7;rw [hl]
 rw [hk]
 repeat' (first|refine a9 ?_|refine a4 ?_|refine aj ?_|refine a6 ?_|refine aK ?_|refine a7 ?_|refine LG a5 KZ ?_|(apply aL;first|refine aJ a5 ?_|refine aF a5 ?_)|fail)
 by_cases h1:l.Kind < 1
 ·rw [decide_eq_true h1,decide_eq_true (Or.inl h1)]
  refine W24 ?_
  exact LN LA
 ·rw [decide_eq_false h1,show decide (l.Kind < 1∨l.Kind > 4)=decide (4 < l.Kind) from decide_eq_decide.2 ⟨fun h=>h.resolve_left h1,Or.inr⟩]
  refine W1B ?_
  exact LN LA
def lD (f:aY) (kind:Int) (r:b8):Int:=if (r.Calls.length:Int) > 6 then 2 else if (r.Calls.length:Int) > 0∧kind≠4 then 40 else (di r.Calls (vl f r)).1
set_option maxHeartbeats 1000000 in
theorem A7 (f:aY) (kind:Int) (r:b8):c5 Tryz.prog 224 [d7 f,aI kind,.agg (bV r)] (aI (lD f kind r)):=by
 refine aS Tryz.func224 rfl Tryz.ntmps224 rfl fun B=>?_
 unfold lD
 have hL:(r.Calls.map dC).length=r.Calls.length:=Lu ..
 rw [←hL]
 refine W0V ?_
 refine ar rfl (fun h=>?_) (fun h=>?_)
 ·rw [if_pos (Lz h)]
  refine W0f ?_
  exact LN LA
 rw [if_neg (Ly h)]
 refine W0k ?_
 refine ce [3,5] (((r.Calls.map dC).length:Int) > 0∧kind≠4) rfl (fun Q' K=>?_) (fun hC=>?_) (fun hC=>?_)
 ·repeat' (first|refine a7 ?_|refine LG a5 KZ ?_|refine LO KZ ?_|refine LP LB ?_|refine LR LA (fun _=>?_) (fun _=>?_))
  all_goals exact K _ _ rfl rfl (by clear K;grind)
 ·rw [if_pos hC]
  refine W0f ?_
  exact LN LA
 rw [if_neg hC]
 refine W1O ?_
 refine b9 [] [] (FN (u:= .fn 273 [.iptr (bV r),.iptr (cG f)]) (g:=273) rfl r.Calls _ (fun _ _=>True) [] trivial (du (fun i x _=>CI f r i x))) rfl rfl (Lm _) rfl fun c L1 hc=>?_
 have hc:c=cu (di r.Calls (vl f r)):=hc
 subst hc
 unfold cu
 refine W0u ?_
 exact LN LA
instance (f:aY) (kind:Int) (r:b8):AD Tryz.prog 224 [d7 f,aI kind,.agg (bV r)] (aI (lD f kind r)):=⟨A7 f kind r⟩
def Bw (f:aY) (_:Nat) (l:List Int):Int:=er (!(mU f l)) 41
def B8 (f:aY) (_:Nat) (n:Int):Int:=er (!(lO f n)) 32
def xE (kind:Int) (r:b8):Int:=er (decide (r.X≠0∧kind≠6)) 40
def pE (r:b8):List (List Int):=r.Back++(r.In++r.Ahead)
theorem Bm (kind:Int) (r:b8):c5 Tryz.prog 212 [.iptr [aI kind],.iptr (bV r)] (cu (mH kind r,0)):=by
 refine aS Tryz.func212 rfl Tryz.ntmps212 rfl fun B=>?_
 refine W0l ?_
 exact aZ rfl rfl rfl rfl
theorem y0 (f:aY) (i:Nat) (l:List Int):c5 Tryz.prog 217 [aI i,.imm 1 (aQ l),.iptr (cG f)] (aI (Bw f i l)):=by
 refine aS Tryz.func217 rfl Tryz.ntmps217 rfl fun B=>?_
 refine W0l ?_
 exact LN LA
theorem Bn (f:aY) (r:b8) (h:r.Back.length≤6∧r.In.length≤6∧r.Ahead.length≤6):c5 Tryz.prog 214 [.iptr (bV r),.iptr (cG f)] (cu (di (pE r) (Bw f))):=by
 refine aS Tryz.func214 rfl Tryz.ntmps214 rfl fun B=>?_
 refine W1G ?_
 refine bn (hc:=⟨xc [r.Back,r.In,r.Ahead] (by simp [hQ];omega)⟩) ?_
 rw [show ([r.Back,r.In,r.Ahead]:List (List (List Int))).flatten=pE r by simp [pE]]
 repeat' (first|refine LG a5 KZ ?_)
 refine b9 [] [] (FL (u:= .fn 217 [.iptr (cG f)]) (g:=217) rfl (pE r) _ (fun _ _=>True) [] trivial (du (fun i x _=>y0 f i x))) rfl rfl (Lm _) rfl fun c L1 hc=>?_
 have hc:c=cu (di (pE r) (Bw f)):=hc
 subst hc
 unfold cu
 refine W0c ?_
 exact aZ rfl rfl rfl rfl
theorem Bo (kind:Int) (r:b8) (hin:r.In≠[]):c5 Tryz.prog 219 [.iptr [aI kind],.iptr (bV r)] (cu (er (!(pO kind r)) 40,0)):=by
 refine aS Tryz.func219 rfl Tryz.ntmps219 rfl fun B=>?_
 refine W01 ?_
 refine bn (hc:=⟨Gd kind r hin⟩) ?_
 refine W1j ?_
 exact aZ rfl rfl rfl rfl
theorem y3 (f:aY) (i:Nat) (n:Int):c5 Tryz.prog 222 [aI i,aI n,.iptr (cG f)] (aI (B8 f i n)):=by
 refine aS Tryz.func222 rfl Tryz.ntmps222 rfl fun B=>?_
 refine W0l ?_
 exact LN LA
theorem Bp (f:aY) (r:b8):c5 Tryz.prog 221 [.iptr (bV r),.iptr (cG f)] (cu (di r.Out (B8 f))):=by
 refine aS Tryz.func221 rfl Tryz.ntmps221 rfl fun B=>?_
 refine W01 ?_
 refine b9 [] [] (np (u:= .fn 222 [.iptr (cG f)]) (g:=222) rfl r.Out _ (fun _ _=>True) [] trivial (du (fun i x _=>y3 f i x))) rfl rfl (Lm _) rfl fun c L1 hc=>?_
 have hc:c=cu (di r.Out (B8 f)):=hc
 subst hc
 unfold cu
 refine W0c ?_
 exact aZ rfl rfl rfl rfl
theorem Bq (f:aY) (kind:Int) (r:b8):c5 Tryz.prog 223 [.iptr (cG f),.iptr [aI kind],.iptr (bV r)] (cu (lD f kind r,0)):=by
 refine aS Tryz.func223 rfl Tryz.ntmps223 rfl fun B=>?_
 refine W0l ?_
 exact aZ rfl rfl rfl rfl
theorem Br (r:b8):c5 Tryz.prog 225 [.iptr (bV r)] (cu (er (!([r.X].all gK)) 1,0)):=by
 refine aS Tryz.func225 rfl Tryz.ntmps225 rfl fun B=>?_
 refine W1R ?_
 exact aZ rfl rfl rfl rfl
theorem Bt (kind:Int) (r:b8):c5 Tryz.prog 226 [.iptr (bV r),.iptr [aI kind]] (cu (xE kind r,0)):=by
 refine aS Tryz.func226 rfl Tryz.ntmps226 rfl fun B=>?_
 unfold xE
 by_cases h:r.X≠0
 ·rw [show decide (r.X≠0∧kind≠6)=decide (kind≠6) from decide_eq_decide.2 ⟨fun q=>q.2,fun q=>⟨h,q⟩⟩]
  refine W01 ?_
  rw [decide_eq_true h]
  refine W1B ?_
  exact aZ rfl rfl rfl rfl
 ·rw [show decide (r.X≠0∧kind≠6)=false from decide_eq_false (fun q=>h q.1)]
  refine W01 ?_
  rw [decide_eq_false h]
  refine W24 ?_
  exact aZ rfl rfl rfl rfl
def kf (f:aY) (kind:Int) (r:b8):Int:=(gX [(mH kind r,0),di (pE r) (Bw f),(er (!(pO kind r)) 40,0),di r.Out (B8 f),(lD f kind r,0),(er (!([r.X].all gK)) 1,0),(xE kind r,0)]).1
set_option maxHeartbeats 1000000 in
theorem En (f:aY) (kind:Int) (r:b8):c5 Tryz.prog 141 [d7 f,aI kind,.agg (bV r)] (aI (kf f kind r)):=by
 refine aS Tryz.func141 rfl Tryz.ntmps141 rfl fun B=>?_
 repeat' (first|refine a9 ?_|refine a4 ?_|refine a6 ?_|refine a7 ?_|refine LG a5 KZ ?_|refine bk ?_|refine bQ a5 ?_|fail)
 refine b9 [] [] (jN [⟨212,[.iptr [aI kind],.iptr (bV r)],[],mH kind r,0⟩,⟨214,[.iptr (bV r),.iptr (cG f)],[],(di (pE r) (Bw f)).1,(di (pE r) (Bw f)).2⟩,⟨219,[.iptr [aI kind],.iptr (bV r)],[],er (!(pO kind r)) 40,0⟩,⟨221,[.iptr (bV r),.iptr (cG f)],[],(di r.Out (B8 f)).1,(di r.Out (B8 f)).2⟩,⟨223,[.iptr (cG f),.iptr [aI kind],.iptr (bV r)],[],lD f kind r,0⟩,⟨225,[.iptr (bV r)],[],er (!([r.X].all gK)) 1,0⟩,⟨226,[.iptr (bV r),.iptr [aI kind]],[],xE kind r,0⟩] ?_) rfl rfl (Lm _) rfl fun c L1 hc=>?_
 ·exact ⟨⟨inferInstance,Bm kind r⟩,fun h1=>⟨⟨inferInstance,Bn f r (zn h1).2⟩,fun _=>⟨⟨inferInstance,Bo kind r (zn h1).1⟩,fun _=>⟨⟨inferInstance,Bp f r⟩,fun _=>⟨⟨inferInstance,Bq f kind r⟩,fun _=>⟨⟨inferInstance,Br r⟩,fun _=>⟨⟨inferInstance,Bt kind r⟩,fun _=>trivial⟩⟩⟩⟩⟩⟩⟩
 rw [kT] at hc
 subst hc
 unfold cu
 refine W0u ?_
 exact LN LA
instance (f:aY) (kind:Int) (r:b8):AD Tryz.prog 141 [d7 f,aI kind,.agg (bV r)] (aI (kf f kind r)):=⟨En f kind r⟩
theorem pp (l:aO):c5 Tryz.prog 136 [.iptr (bJ l)] (cu (er (decide ((l.Rules.length:Int) > 60)) 2,0)):=by
 refine aS Tryz.func136 rfl Tryz.ntmps136 rfl fun B=>?_
 rw [show (l.Rules.length:Int)=((l.Rules.map bV).length:Int) by rw [Lu]]
 refine W0l ?_
 exact aZ rfl rfl rfl rfl
def qp (l:aO):Int:=er (decide (l.Kind=7∨l.Kind=8) && decide ((l.Rules.length:Int) > 0)) 40
theorem pq (l:aO) (b:Bool) (hb:b=decide (l.Kind=7∨l.Kind=8)):c5 Tryz.prog 137 [.iptr [eo b],.iptr (bJ l)] (cu (qp l,0)):=by
 refine aS Tryz.func137 rfl Tryz.ntmps137 rfl fun B=>?_
 unfold qp
 rw [←hb,show (l.Rules.length:Int)=((l.Rules.map bV).length:Int) by rw [Lu]]
 cases b
 ·repeat' (first|refine a9 ?_|refine a4 ?_|refine am ?_|refine a6 ?_|refine a7 ?_|refine LG a5 KZ ?_|refine LP LB ?_|(apply bw;refine bn ?_)|fail)
  exact aZ rfl rfl rfl rfl
 ·repeat' (first|refine a9 ?_|refine a4 ?_|refine am ?_|refine a6 ?_|refine a7 ?_|refine LG a5 KZ ?_|refine LO KZ ?_|(apply bw;refine bn ?_)|fail)
  exact aZ rfl rfl rfl rfl
theorem tX (f:aY) (l:aO) (i:Nat) (r:b8):c5 Tryz.prog 140 [aI i,.agg (bV r),.iptr (cG f),.iptr (bJ l)] (aI (kf f l.Kind r)):=by
 refine aS Tryz.func140 rfl Tryz.ntmps140 rfl fun B=>?_
 refine W17 ?_
 exact LN LA
theorem pt (f:aY) (l:aO):c5 Tryz.prog 138 [.iptr (bJ l),.iptr (cG f)] (cu (di l.Rules fun _ r=>kf f l.Kind r)):=by
 refine aS Tryz.func138 rfl Tryz.ntmps138 rfl fun B=>?_
 refine W01 ?_
 refine b9 [] [] (FB (u:= .fn 140 [.iptr (cG f),.iptr (bJ l)]) (g:=140) rfl l.Rules _ (fun _ _=>True) [] trivial (du (w:=fun _ r=>kf f l.Kind r) (fun i x _=>tX f l i x))) rfl rfl (Lm _) rfl fun c L1 hc=>?_
 have hc:c=cu (di l.Rules fun _ r=>kf f l.Kind r):=hc
 subst hc
 unfold cu
 refine W0c ?_
 exact aZ rfl rfl rfl rfl
def mj (f:aY) (l:aO):Int:=if l.Kind < 1∨l.Kind > 8 then 42 else (gX [(er (decide ((l.Rules.length:Int) > 60)) 2,0),(qp l,0),di l.Rules fun _ r=>kf f l.Kind r]).1
set_option maxHeartbeats 1000000 in
theorem xD (f:aY) (l:aO):c5 Tryz.prog 62 [d7 f,.agg (bJ l)] (aI (mj f l)):=by
 refine aS Tryz.func62 rfl Tryz.ntmps62 rfl fun B=>?_
 unfold mj
 refine W0b ?_
 refine ce [2,3] (l.Kind < 1∨l.Kind > 8) rfl (fun Q' K=>?_) (fun hC=>?_) (fun hC=>?_)
 ·repeat' (first|refine a7 ?_|refine LG a5 KZ ?_|refine LO KZ ?_|refine LP LB ?_|refine LR LA (fun _=>?_) (fun _=>?_))
  all_goals exact K _ _ rfl rfl (by clear K;grind)
 ·rw [if_pos hC]
  refine W07 ?_
  exact LN LA
 rw [if_neg hC]
 refine W0e ?_
 by_cases h7:l.Kind=7
 ·rw [decide_eq_true h7]
  repeat' (first|refine a9 ?_|refine a4 ?_|refine a6 ?_|refine a7 ?_|refine LG a5 KZ ?_|refine LP LB ?_|(apply aM;first|refine LI 5 a5 0 LF ?_|refine LI 5 a5 1 LF ?_|refine LI 5 a5 2 LF ?_|refine LH a5 0 LE ?_|refine LH a5 1 LE ?_|refine LH a5 2 LE ?_|refine LH a5 3 LE ?_|fail)|refine bf a5 fun _=>?_|refine bQ a5 ?_|fail)
  refine b9 [] [] (jN [⟨136,[.iptr (bJ l)],[],er (decide ((l.Rules.length:Int) > 60)) 2,0⟩,⟨137,[.iptr [eo true],.iptr (bJ l)],[],qp l,0⟩,⟨138,[.iptr (bJ l),.iptr (cG f)],[],(di l.Rules fun _ r=>kf f l.Kind r).1,(di l.Rules fun _ r=>kf f l.Kind r).2⟩] ⟨⟨inferInstance,pp l⟩,fun _=>⟨⟨inferInstance,pq l true (decide_eq_true (Or.inl h7)).symm⟩,fun _=>⟨⟨inferInstance,pt f l⟩,fun _=>trivial⟩⟩⟩) rfl rfl (Lm _) rfl fun c L1 hc=>?_
  rw [kT] at hc
  subst hc
  unfold cu
  refine W0u ?_
  exact LN LA
 ·rw [decide_eq_false h7]
  repeat' (first|refine a9 ?_|refine a4 ?_|refine a6 ?_|refine a7 ?_|refine LG a5 KZ ?_|refine LO KZ ?_|(apply aM;first|refine LI 5 a5 0 LF ?_|refine LI 5 a5 1 LF ?_|refine LI 5 a5 2 LF ?_|refine LH a5 0 LE ?_|refine LH a5 1 LE ?_|refine LH a5 2 LE ?_|refine LH a5 3 LE ?_|fail)|refine bf a5 fun _=>?_|refine bQ a5 ?_|fail)
  refine b9 [] [] (jN [⟨136,[.iptr (bJ l)],[],er (decide ((l.Rules.length:Int) > 60)) 2,0⟩,⟨137,[.iptr [eo (decide (l.Kind=8))],.iptr (bJ l)],[],qp l,0⟩,⟨138,[.iptr (bJ l),.iptr (cG f)],[],(di l.Rules fun _ r=>kf f l.Kind r).1,(di l.Rules fun _ r=>kf f l.Kind r).2⟩] ⟨⟨inferInstance,pp l⟩,fun _=>⟨⟨inferInstance,pq l (decide (l.Kind=8)) (decide_eq_decide.2 ⟨Or.inr,fun h=>h.resolve_left h7⟩)⟩,fun _=>⟨⟨inferInstance,pt f l⟩,fun _=>trivial⟩⟩⟩) rfl rfl (Lm _) rfl fun c L1 hc=>?_
  rw [kT] at hc
  subst hc
  unfold cu
  refine W0u ?_
  exact LN LA
instance (f:aY) (l:aO):AD Tryz.prog 62 [d7 f,.agg (bJ l)] (aI (mj f l)):=⟨xD f l⟩
theorem tY (f:aY) (i:Nat) (l:aO):c5 Tryz.prog 61 [aI i,.agg (bJ l),.iptr (cG f)] (aI (mj f l)):=by
 refine aS Tryz.func61 rfl Tryz.ntmps61 rfl fun B=>?_
 refine W17 ?_
 exact LN LA
end Go.Proofs.YtpmdfoaadejmkaaGreatDoor
