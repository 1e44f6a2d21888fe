/-
  The program: looks at glyphs, features, axes by their numbers.
-/
import Derived.Test.YtjjpkibjffmceaaGreatM14
import Derived.Test.YtjjpkibjffmceaaGreatM08
namespace Go.Proofs.YtjjpkibjffmceaaGreat
open Go.RowKit
attribute [local irreducible] AT bW AX AO Av Kt bA eI DA dl
theorem kR (names:List ByteArray) (s:ByteArray):(da names (.string s)).getD (.sc (.int .i64 0))=aP ((dD names s).getD 0:Nat):=by
 show (Option.map (fun n:Nat=>aP (n:Int)) (dD names s)).getD (.sc (.int .i64 0))=_
 cases dD names s <;> rfl
def kv (names:List ByteArray) (i:Nat) (s:ByteArray):Bool:=decide ((((dD names s).getD 0:Nat):Int) < (i:Int))
def kl (f:aL):List ByteArray:=f.Glyphs.map br.Name
def ln (f:aL):List ByteArray:=f.Features.map bL.Name
def iO (f:aL):List ByteArray:=f.Axes.map eM.Name
def eE (f:aL) (i:Nat) (g:br):Int:=o8 f g (kQ (gF g.Name) (kv (kl f) i g.Name))
def ke (f:aL) (i:Nat) (t:bL):Int:=ug f t (kQ (fF t.Name) (kv (ln f) i t.Name))
def jV (f:aL) (i:Nat) (a:eM):Int:=tS a (kQ (gF a.Name) (kv (iO f) i a.Name))
set_option maxHeartbeats 1000000 in
theorem w4 (f:aL) (i:Nat) (g:br) (m:Nat):AC Tryz.prog 117 [aP i,.agg (bC g),.iptr (cb f),.iptr [.sc (.map (some m))]] [(m,cj .string (da (kl f)))] fun c L=>c=aP (eE f i g)∧L=[(m,cj .string (da (kl f)))]:=by
 refine aS Tryz.func117 rfl Tryz.ntmps117 rfl fun B=>?_
 repeat' (first|refine go ?_|refine HK a6 FS ?_|refine bh ?_|fail)
 refine bn 12 [(0,.v),(1,.v),(2,.v),(3,.v),(4,.v),(5,.v),(6,.v),(7,.v),(9,.v),(8,.e),(10,.v),(11,.v)] none ?_ trivial rfl (by kernel_rfl) (by kernel_rfl) (by kernel_rfl) mixed (by kernel_rfl) rfl
 repeat' (first|refine aC ?_|refine b7 a6 ?_|(apply bE;refine bS ?_)|fail)
 refine pX 0 (.int .i64 0) Tryz.underlying218 Tryz.underlying9 rfl rfl trivial rfl (by kernel_rfl) trivial ?_
 rw [kR]
 repeat' (first|refine aC ?_|refine b7 a6 ?_|(apply bE;refine bS ?_)|fail)
 refine HU [7,8,18] FS ?_
 repeat' (first|refine go ?_|refine aa ?_|refine HK a6 FS ?_|(apply bq;refine bg ?_)|fail)
 exact HS FS ⟨rfl,rfl⟩
set_option maxHeartbeats 1000000 in
theorem yk (f:aL) (i:Nat) (t:bL) (m:Nat):AC Tryz.prog 130 [aP i,.agg (bt t),.iptr (cb f),.iptr [.sc (.map (some m))]] [(m,cj .string (da (ln f)))] fun c L=>c=aP (ke f i t)∧L=[(m,cj .string (da (ln f)))]:=by
 refine aS Tryz.func130 rfl Tryz.ntmps130 rfl fun B=>?_
 repeat' (first|refine go ?_|refine HK a6 FS ?_|refine bh ?_|fail)
 refine bn 12 [(0,.v),(1,.v),(2,.v),(3,.v),(4,.v),(5,.v),(6,.v),(7,.v),(9,.v),(8,.e),(10,.v),(11,.v)] none ?_ trivial rfl (by kernel_rfl) (by kernel_rfl) (by kernel_rfl) mixed (by kernel_rfl) rfl
 repeat' (first|refine aC ?_|refine b7 a6 ?_|(apply bE;refine bS ?_)|fail)
 refine pX 0 (.int .i64 0) Tryz.underlying218 Tryz.underlying9 rfl rfl trivial rfl (by kernel_rfl) trivial ?_
 rw [kR]
 repeat' (first|refine aC ?_|refine b7 a6 ?_|(apply bE;refine bS ?_)|fail)
 refine HU [7,8,18] FS ?_
 repeat' (first|refine go ?_|refine aa ?_|refine HK a6 FS ?_|(apply bq;refine bg ?_)|fail)
 exact HS FS ⟨rfl,rfl⟩
set_option maxHeartbeats 1000000 in
theorem xQ (f:aL) (i:Nat) (a:eM) (m:Nat):AC Tryz.prog 134 [aP i,.agg (cD a),.iptr [.sc (.map (some m))]] [(m,cj .string (da (iO f)))] fun c L=>c=aP (jV f i a)∧L=[(m,cj .string (da (iO f)))]:=by
 refine aS Tryz.func134 rfl Tryz.ntmps134 rfl fun B=>?_
 repeat' (first|refine go ?_|refine HK a6 FS ?_|refine bh ?_|fail)
 refine bn 11 [(0,.v),(1,.v),(2,.v),(3,.v),(4,.v),(5,.v),(6,.v),(8,.v),(7,.e),(9,.v),(10,.v)] none ?_ trivial rfl (by kernel_rfl) (by kernel_rfl) (by kernel_rfl) mixed (by kernel_rfl) rfl
 repeat' (first|refine aC ?_|refine b7 a6 ?_|(apply bE;refine bS ?_)|fail)
 refine pX 0 (.int .i64 0) Tryz.underlying218 Tryz.underlying9 rfl rfl trivial rfl (by kernel_rfl) trivial ?_
 rw [kR]
 repeat' (first|refine aC ?_|refine b7 a6 ?_|(apply bE;refine bS ?_)|fail)
 refine HU [6,16] FS ?_
 repeat' (first|refine go ?_|refine aa ?_|refine HK a6 FS ?_|(apply bq;refine bg ?_)|fail)
 exact HS FS ⟨rfl,rfl⟩
theorem DC (n:Nat) (hn:n≤1000000):AC Tryz.prog 146 [.sc (.slice none 0 0),aP n] [] fun c L=>∃k,c= .vec k 1 []∧L=tok k 22 1 0:=by
 refine aS Tryz.func146 rfl Tryz.ntmps146 rfl fun B=>?_
 repeat' (first|refine go ?_|refine HK a6 FS ?_|refine bF rfl ?_)
 refine BH a6 rfl rfl rfl ?_
 repeat' (first|refine go ?_|refine HK a6 FS ?_|(apply aW;refine aV ?_)|fail)
 by_cases h0:n=0
 ·subst h0
  repeat' (first|refine go ?_|refine HK a6 FS ?_|refine bF rfl ?_)
  refine bc (bf (t:=4) (c':= .vec none 1 []) rfl fun σ v h=>cq 1 h) (HS FS ⟨none,rfl,rfl⟩)
 ·refine ay rfl (fun h2=>?_) (fun h2=>?_)
  ·repeat' (first|refine go ?_|refine HK a6 FS ?_)
   refine BH a6 rfl rfl rfl ?_
   repeat' (first|fail)
   refine Fy a6 rfl rfl rfl rfl ?_
   repeat' (first|refine HK a6 FS ?_)
   refine yM a6 n rfl Tryz.underlying3 rfl rfl (by omega) (by omega) (by omega) (by omega) rfl fun b cap h3 h4=>?_
   repeat' (first|refine HK a6 FS ?_)
   refine BJ a6 0 rfl rfl rfl rfl (by omega) (by omega) rfl ?_
   repeat' (first|refine go ?_|refine HK a6 FS ?_)
   refine bc (bf (t:=4) (c':= .vec (some (b,cap)) 1 []) rfl fun σ v h=>Ei h4 h) (HS FS ⟨some (b,cap),rfl,rfl⟩)
  ·exact absurd (Ix h2) (by omega)
def qF (l:List (List (List Int))):List (List AV):=l.map fun r=>[.imm 1 (bv r)]
def gq (l:List (List (List Int))):Nat:=(l.map List.length).sum
theorem p9 {l:List (List (List Int))} {i:Nat} {r:List (List Int)} (h:l[i]?=some r):gq (l.take (i+1))=gq (l.take i)+r.length:=by
 unfold gq
 rw [List.take_add_one,h]
 simp
theorem sm (l:List (List (List Int))) (i:Nat):gq (l.take i)≤gq l:=by
 have h:((l.take i++l.drop i).map List.length).sum=(l.map List.length).sum:=by rw [List.take_append_drop]
 rw [List.map_append,List.sum_append] at h
 unfold gq
 omega
theorem B5 (l:List (List (List Int))):l.flatten.length=gq l:=by
 unfold gq
 rw [List.length_flatten]
theorem yZ (a b:List (List Int)):bv a++bv b=bv (a++b):=by unfold bv;rw [List.map_append]
set_option maxHeartbeats 1000000 in
theorem pU (l:List (List (List Int))) (hs:gq l≤1000000):bV Tryz.prog 84 [.imm 1 (qF l)] (.imm 1 (bv l.flatten)):=by
 refine aS Tryz.func84 rfl Tryz.ntmps84 rfl fun B=>?_
 have hrl:(qF l).length=l.length:=by simp [qF]
 refine cH 0 rfl rfl fun hlen=>?_
 rw [hrl] at hlen
 repeat' (first|refine go ?_|refine ak ?_|refine HK a6 FS ?_)
 refine aJ [0,9,10] (α:=Nat) (fun i=>[(11,aP i),(3,aP (gq (l.take i)))]) (fun i=>i≤l.length) (fun _=>[]) (fun i=>l.length - i) 0 rfl ⟨rfl,rfl,trivial⟩ (Nat.zero_le _) (fun _ _ h=>h) fun i hi=>?_
 try dsimp only [Ir,Iq,Ip,Ij]
 repeat' (first|refine go ?_|refine HK a6 FS ?_)
 refine ay rfl (fun h=>?_) (fun h=>?_)
 ·have hil:i < l.length:=by have:=Iy h;rw [hrl] at this;omega
  obtain ⟨z,hz⟩:∃z,l[i]?=some z:=⟨_,Iz hil⟩
  have hzg:(qF l)[i]?=some [.imm 1 (bv z)]:=by simp [qF,hz]
  have hsz:=p9 hz
  have hle:=sm l (i+1)
  have hzl:(bv z).length=z.length:=by simp [bv]
  repeat' (first|refine go ?_|refine ak ?_|refine HK a6 FS ?_|(apply aW;refine aV ?_)|(apply aU;first|refine aT a6 ?_|refine aM a6 ?_)|refine bF rfl ?_)
  exact aB (i+1) rfl ⟨by rw [Iv];rfl,by rw [hsz,Iv,hzl];rfl,trivial⟩ (by omega) (by omega) (fun _ _ h=>h)
 have hil:i=l.length:=by have:=Ix h;rw [hrl] at this;omega
 subst hil
 rw [List.take_length]
 clear h
 repeat' (first|refine go ?_|refine HK a6 FS ?_)
 refine ba [] [] (DC (gq l) hs) rfl rfl (Im _) rfl fun c L1 ⟨k,hc,hL⟩=>?_
 subst hc;subst hL
 rw [List.append_nil]
 repeat' (first|refine go ?_|refine ak ?_|refine HK a6 FS ?_)
 refine aJ [25,26] (α:=Nat×Option (Nat×Nat)) (fun x=>[(27,aP x.1),(6,.vec x.2 1 (bv (l.take x.1).flatten))]) (fun x=>x.1≤l.length) (fun x=>tok x.2 22 1 (bv (l.take x.1).flatten).length) (fun x=>l.length - x.1) (0,k) rfl ⟨rfl,rfl,trivial⟩ (Nat.zero_le _) (fun _ _ h=>h) ?_
 rintro ⟨i,k⟩ hi
 dsimp only at hi ⊢
 try dsimp only [Ir,Iq,Ip,Ij]
 repeat' (first|refine go ?_|refine HK a6 FS ?_)
 refine ay rfl (fun h=>?_) (fun h=>?_)
 ·have hil:i < l.length:=by have:=Iy h;rw [hrl] at this;omega
  obtain ⟨z,hz⟩:∃z,l[i]?=some z:=⟨_,Iz hil⟩
  have hzg:(qF l)[i]?=some [.imm 1 (bv z)]:=by simp [qF,hz]
  have hsz:=p9 hz
  have hle:=sm l (i+1)
  have hzl:(bv z).length=z.length:=by simp [bv]
  have hfl:(bv (l.take i).flatten).length=gq (l.take i):=by rw [gt,B5]
  have hcat:bv (l.take i).flatten++bv z=bv (l.take (i+1)).flatten:=by rw [yZ,List.take_add_one,hz];simp
  repeat' (first|refine go ?_|refine ak ?_|refine HK a6 FS ?_|(apply aU;first|refine aT a6 ?_|refine aM a6 ?_)|fail)
  refine bB a6 [] rfl rfl rfl rfl (by rw [List.append_nil]) (by rw [hfl,hzl];omega) (by rw [hfl,hzl];omega) rfl fun k'=>?_
  rw [hcat,List.append_nil]
  repeat' (first|refine go ?_|refine HK a6 FS ?_|(apply aW;refine aV ?_)|fail)
  exact aB (i+1,k') rfl ⟨by rw [Iv];rfl,rfl,trivial⟩ (by dsimp only;omega) (by dsimp only;omega) (fun _ _ h=>h)
 ·have hil:i=l.length:=by have:=Ix h;rw [hrl] at this;omega
  subst hil
  rw [List.take_length]
  repeat' (first|refine go ?_|refine HK a6 FS ?_)
  exact pL rfl rfl rfl rfl
def ku (l:List Int):Bool:=decide (∀i,i < l.length - 1→l.getD i 0 < l.getD (i+1) 0)
theorem kX {l:List Int} {i:Nat} {z:Int} (h:l[i]?=some z):l.getD i 0=z:=by simp [h]
theorem wu (l:List Int):bV Tryz.prog 258 [.imm 1 (aZ l)] (cx (ku l)):=by
 refine aS Tryz.func258 rfl Tryz.ntmps258 rfl fun B=>?_
 refine cH 0 rfl rfl fun hlen=>?_
 have hll:=aQ l
 rw [aQ] at hlen
 repeat' (first|refine go ?_|refine ak ?_|refine HK a6 FS ?_)
 refine aJ [0] (α:=Nat) (fun i=>[(3,aP (i+1:Nat))]) (fun i=>i≤l.length∧∀j,j < i→j+1 < l.length→l.getD j 0 < l.getD (j+1) 0) (fun _=>[]) (fun i=>l.length - i) 0 rfl ⟨rfl,trivial⟩ ⟨Nat.zero_le _,fun j hj=>absurd hj (Nat.not_lt_zero _)⟩ (fun _ _ h=>h) fun i ⟨hi,hall⟩=>?_
 try dsimp only [Ir,Iq,Ip,Ij]
 repeat' (first|refine go ?_|refine HK a6 FS ?_)
 refine ay rfl (fun h=>?_) (fun h=>?_)
 ·have hil:i+1 < l.length:=by have:=Iy h;rw [aQ] at this;omega
  obtain ⟨y,hy⟩:∃z,l[i]?=some z:=⟨_,Iz (by omega)⟩
  obtain ⟨z,hz⟩:∃z,l[i+1]?=some z:=⟨_,Iz hil⟩
  have hyg:(aZ l)[(((i+1:Nat):Int) - 1).toNat]?=some [aP y]:=by rw [show (((i+1:Nat):Int) - 1).toNat=i by omega];exact bT hy
  have hzg:=bT hz
  repeat' (first|refine go ?_|refine ak ?_)
  refine bn 9 [(0,.v),(1,.v),(2,.v),(3,.v),(4,.v),(5,.v),(6,.v),(7,.v),(8,.v)] none ?_ trivial rfl (by kernel_rfl) (by kernel_rfl) (by kernel_rfl) mixed (by kernel_rfl) rfl
  repeat' (first|refine aC ?_|refine b7 a6 ?_|(apply fq;refine gK ?_)|(apply bY;refine cn a6 ?_)|fail)
  refine HU [0,3,13,18] FS ?_
  repeat' (first|refine go ?_|refine aa ?_|refine HK a6 FS ?_)
  refine ay rfl (fun h2=>?_) (fun h2=>?_)
  ·have h2':=Iy h2
   repeat' (first|refine go ?_|refine HK a6 FS ?_)
   refine HS FS ?_
   rw [show ku l=false from decide_eq_false (fun hh=>by have:=hh i (by omega);rw [kX hy,kX hz] at this;omega)]
  ·have h2':=Ix h2
   repeat' (first|refine go ?_|refine HK a6 FS ?_|(apply aW;refine aV ?_)|fail)
   refine aB (i+1) rfl ⟨by rw [Iv (i+1) 1];rfl,trivial⟩ ⟨by omega,fun j hj hjl=>?_⟩ (by omega) (fun _ _ h=>h)
   by_cases e:j=i
   ·subst e;rw [kX hy,kX hz];omega
   ·exact hall j (by omega) hjl
 ·have hil:l.length≤i+1:=by have:=Ix h;rw [aQ] at this;omega
  repeat' (first|refine go ?_|refine HK a6 FS ?_)
  refine HS FS ?_
  rw [show ku l=true from decide_eq_true (fun j hj=>hall j (by omega) (by omega))]
instance (l:List Int):AD Tryz.prog 258 [.imm 1 (aZ l)] (cx (ku l)):=⟨wu l⟩
def mn (f:aL) (l:List Int):Bool:=decide (0 < l.length) && (ku l && (l9 f (l.getD 0 0) && l9 f (l.getD (l.length - 1) 0)))
set_option maxHeartbeats 1000000 in
theorem yw (f:aL) (l:List Int):bV Tryz.prog 233 [cr f,.imm 1 (aZ l)] (cx (mn f l)):=by
 refine aS Tryz.func233 rfl Tryz.ntmps233 rfl fun B=>?_
 refine cH 1 rfl rfl fun hlen=>?_
 cases l with
 | nil=>
  repeat' (first|refine go ?_|refine HK a6 FS ?_|refine bh ?_|fail)
  refine bn 24 [(0,.v),(1,.v),(2,.v),(3,.v),(4,.v),(5,.v),(6,.v),(7,.v),(8,.v),(9,.v),(10,.v),(11,.v),(12,.v),(13,.v),(14,.v),(15,.v),(16,.v),(17,.v),(18,.v),(19,.v),(20,.v),(21,.v),(22,.v),(23,.v)] none ?_ trivial rfl (by kernel_rfl) (by kernel_rfl) (by kernel_rfl) mixed (by kernel_rfl) rfl
  repeat' (first|refine aC ?_|refine b7 a6 ?_|refine lK rfl rfl ?_)
  refine HU [28] FS ?_
  repeat' (first|refine go ?_|refine aa ?_|refine HK a6 FS ?_)
  exact HT HE
 | cons y q=>
  have hll:(aZ (y::q)).length=q.length+1:=by rw [aQ];rfl
  rw [hll] at hlen
  obtain ⟨z,hz⟩:∃z,(y::q)[q.length]?=some z:=⟨_,Iz (by simp)⟩
  have hzg:(aZ (y::q))[((((aZ (y::q)).length:Nat):Int) - 1).toNat]?=some [aP z]:=by rw [show ((((aZ (y::q)).length:Nat):Int) - 1).toNat=q.length by rw [hll];omega];exact bT hz
  have hyg:(aZ (y::q))[(0:Int).toNat]?=some [aP y]:=rfl
  have hval:mn f (y::q)=(ku (y::q) && (l9 f y && l9 f z)):=by
   unfold mn
   rw [show (y::q).length - 1=q.length by simp,kX hz]
   simp
  rw [hval]
  have hpos:decide (0 < (((aZ (y::q)).length:Nat):Int))=true:=decide_eq_true (by rw [hll];omega)
  repeat' (first|refine go ?_|refine HK a6 FS ?_|refine bh ?_|fail)
  refine bn 24 [(0,.v),(1,.v),(2,.v),(3,.v),(4,.v),(5,.v),(6,.v),(7,.v),(8,.v),(9,.v),(10,.v),(11,.v),(12,.v),(13,.v),(14,.v),(15,.v),(16,.v),(17,.v),(18,.v),(19,.v),(20,.v),(21,.v),(22,.v),(23,.v)] none ?_ trivial rfl (by kernel_rfl) (by kernel_rfl) (by kernel_rfl) mixed (by kernel_rfl) rfl
  repeat' (first|refine aC ?_|refine b7 a6 ?_|fail)
  rw [hpos]
  repeat' (first|refine aC ?_|refine b7 a6 ?_|(apply bE;refine bS ?_)|fail)
  generalize ku (y::q)=b1
  cases b1
  ·repeat' (first|refine aC ?_|refine b7 a6 ?_|refine lK rfl rfl ?_)
   refine HU [28] FS ?_
   repeat' (first|refine go ?_|refine aa ?_|refine HK a6 FS ?_)
   exact HT HE
  repeat' (first|refine aC ?_|refine b7 a6 ?_|(apply bY;refine cn a6 ?_)|(apply bE;refine bS ?_)|fail)
  generalize l9 f y=b2
  cases b2
  ·repeat' (first|refine aC ?_|refine b7 a6 ?_|refine lK rfl rfl ?_)
   refine HU [28] FS ?_
   repeat' (first|refine go ?_|refine aa ?_|refine HK a6 FS ?_)
   exact HT HE
  repeat' (first|refine aC ?_|refine b7 a6 ?_|(apply fq;refine gK ?_)|(apply bY;refine cn a6 ?_)|(apply bE;refine bS ?_)|fail)
  refine HU [28] FS ?_
  repeat' (first|refine go ?_|refine aa ?_|refine HK a6 FS ?_)
  exact HT HE
instance (f:aL) (l:List Int):AD Tryz.prog 233 [cr f,.imm 1 (aZ l)] (cx (mn f l)):=⟨yw f l⟩
def fo (kind:Int) (r:bX):Bool:=if kind=1∨kind=2∨kind=5 then decide ((r.In.length:Int)≠1) else if kind=6 then decide ((r.In.length:Int)≠2∨(r.Back.length:Int) > 0∨(r.Ahead.length:Int) > 0) else decide ((r.In.length:Int)=0)
def lR (kind:Int) (r:bX):Int:=if (r.Back.length:Int) > 6∨(r.In.length:Int) > 6∨(r.Ahead.length:Int) > 6 then 2 else eH (fo kind r) 40
set_option maxHeartbeats 1000000 in
theorem C6 (kind:Int) (r:bX):bV Tryz.prog 229 [aP kind,.agg (bI r)] (aP (lR kind r)):=by
 refine aS Tryz.func229 rfl Tryz.ntmps229 rfl fun B=>?_
 unfold lR fo
 have hB:=gt r.Back
 have hI:=gt r.In
 have hA:=gt r.Ahead
 rw [←hB,←hI,←hA]
 repeat' (first|refine go ?_|refine HK a6 FS ?_|refine bh ?_|fail)
 refine eo [0,3] (((bv r.Back).length:Int) > 6∨((bv r.In).length:Int) > 6∨((bv r.Ahead).length:Int) > 6) rfl (fun Q' K=>?_) (fun hC=>?_) (fun hC=>?_)
 ·repeat' (first|refine go ?_|refine HK a6 FS ?_|refine HV FS ?_|refine HW HF ?_|refine bk rfl rfl rfl (fun _=>?_) (fun _=>?_))
  all_goals exact K _ _ rfl rfl (by clear K;grind)
 ·rw [if_pos hC]
  repeat' (first|refine go ?_|refine HK a6 FS ?_)
  exact HT HE
 rw [if_neg hC]
 by_cases h1:kind=1
 ·subst h1
  repeat' (first|refine go ?_|refine ak ?_|refine HK a6 FS ?_|(apply bq;refine bg ?_)|refine bP rfl ?_)
  exact HT HE
 by_cases h2:kind=2
 ·subst h2
  repeat' (first|refine go ?_|refine ak ?_|refine HK a6 FS ?_|(apply bq;refine bg ?_)|refine bP rfl ?_|refine bF rfl ?_)
  exact HT HE
 by_cases h5:kind=5
 ·subst h5
  repeat' (first|refine go ?_|refine ak ?_|refine HK a6 FS ?_|(apply bq;refine bg ?_)|refine bP rfl ?_|refine bF rfl ?_)
  exact HT HE
 rw [if_neg (by omega)]
 by_cases h6:kind=6
 ·subst h6
  rw [if_pos rfl]
  repeat' (first|refine go ?_|refine ak ?_|refine HK a6 FS ?_|refine bP rfl ?_|refine bF rfl ?_)
  refine du (t:=5) [] (((bv r.In).length:Int)≠2∨((bv r.Back).length:Int) > 0∨((bv r.Ahead).length:Int) > 0) rfl (fun Q' K=>?_) ?_
  ·repeat' (first|refine go ?_|refine HK a6 FS ?_|refine HV FS ?_|refine HW HF ?_|refine bk rfl rfl rfl (fun _=>?_) (fun _=>?_))
   all_goals exact K _ _ rfl rfl (by clear K;grind)
  repeat' (first|refine go ?_|refine HK a6 FS ?_|(apply bq;refine bg ?_)|fail)
  exact HT HE
 rw [if_neg h6]
 repeat' (first|refine go ?_|refine ak ?_|refine HK a6 FS ?_)
 refine ay rfl (fun h=>absurd (Iy h) h1) (fun h=>?_)
 repeat' (first|refine go ?_|refine HK a6 FS ?_)
 refine ay rfl (fun h=>absurd (Iy h) h2) (fun h=>?_)
 repeat' (first|refine go ?_|refine HK a6 FS ?_)
 refine ay rfl (fun h=>absurd (Iy h) h5) (fun h=>?_)
 rw [decide_eq_false h5]
 repeat' (first|refine go ?_|refine HK a6 FS ?_)
 refine ay rfl (fun h=>absurd (Iy h) h6) (fun h=>?_)
 repeat' (first|refine go ?_|refine HK a6 FS ?_|(apply bq;refine bg ?_)|fail)
 exact HT HE
instance (kind:Int) (r:bX):AD Tryz.prog 229 [aP kind,.agg (bI r)] (aP (lR kind r)):=⟨C6 kind r⟩
theorem xp {kind:Int} {r:bX} (h:lR kind r=0):r.In≠[]∧r.Back.length≤6∧r.In.length≤6∧r.Ahead.length≤6:=by
 unfold lR at h
 split at h
 ·cases h
 ·rename_i hc
  refine ⟨fun e=>?_,by omega,by omega,by omega⟩
  have hw:fo kind r=true:=by
   unfold fo
   rw [e]
   split
   ·decide
   ·split <;> simp
  rw [hw] at h
  cases h
def pf (kind:Int) (r:bX):Bool:=if kind=1∨kind=5 then decide ((r.Out.length:Int)=((r.In.headD []).length:Int)) else if kind=2 then decide ((r.Out.length:Int)≤6) else if kind=3 then decide ((r.Out.length:Int)=1) else decide ((r.Out.length:Int)=0)
set_option maxHeartbeats 1000000 in
theorem DP (kind:Int) (r:bX) (hin:r.In≠[]):bV Tryz.prog 235 [aP kind,.agg (bI r)] (cx (pf kind r)):=by
 refine aS Tryz.func235 rfl Tryz.ntmps235 rfl fun B=>?_
 obtain ⟨y,hy⟩:∃y,r.In[0]?=some y:=⟨_,Iz (List.length_pos_iff.2 hin)⟩
 have hyg:=oo hy
 have hv:pf kind r=if kind=1∨kind=5 then decide (((aZ r.Out).length:Int)=((aZ y).length:Int)) else if kind=2 then decide (((aZ r.Out).length:Int)≤6) else if kind=3 then decide (((aZ r.Out).length:Int)=1) else decide (((aZ r.Out).length:Int)=0):=by
  have hd:r.In.headD []=y:=by
   cases hI:r.In with
   | nil=>exact absurd hI hin
   | cons y' q=>rw [hI] at hy;simpa using hy
  unfold pf
  rw [hd,aQ,aQ]
 rw [hv]
 by_cases h1:kind=1
 ·subst h1
  repeat' (first|refine go ?_|refine ak ?_|refine HK a6 FS ?_|refine bh ?_|refine bP rfl ?_)
  refine bn 8 [(0,.v),(1,.v),(2,.v),(3,.v),(4,.v),(5,.v),(6,.v),(7,.v)] none ?_ trivial rfl (by kernel_rfl) (by kernel_rfl) (by kernel_rfl) mixed (by kernel_rfl) rfl
  repeat' (first|refine aC ?_|refine b7 a6 ?_|(apply bY;refine cn a6 ?_)|fail)
  refine HU [11,16] FS ?_
  repeat' (first|refine go ?_|refine aa ?_|refine HK a6 FS ?_)
  exact HT HE
 by_cases h5:kind=5
 ·subst h5
  repeat' (first|refine go ?_|refine ak ?_|refine HK a6 FS ?_|refine bh ?_|refine bP rfl ?_|refine bF rfl ?_)
  refine bn 8 [(0,.v),(1,.v),(2,.v),(3,.v),(4,.v),(5,.v),(6,.v),(7,.v)] none ?_ trivial rfl (by kernel_rfl) (by kernel_rfl) (by kernel_rfl) mixed (by kernel_rfl) rfl
  repeat' (first|refine aC ?_|refine b7 a6 ?_|(apply bY;refine cn a6 ?_)|fail)
  refine HU [11,16] FS ?_
  repeat' (first|refine go ?_|refine aa ?_|refine HK a6 FS ?_)
  exact HT HE
 rw [if_neg (by omega)]
 by_cases h2:kind=2
 ·subst h2
  repeat' (first|refine go ?_|refine ak ?_|refine HK a6 FS ?_|refine bh ?_|refine bP rfl ?_|refine bF rfl ?_)
  exact HT HE
 rw [if_neg h2]
 by_cases h3:kind=3
 ·subst h3
  repeat' (first|refine go ?_|refine ak ?_|refine HK a6 FS ?_|refine bh ?_|refine bP rfl ?_|refine bF rfl ?_)
  exact HT HE
 rw [if_neg h3]
 repeat' (first|refine go ?_|refine ak ?_|refine HK a6 FS ?_|refine bh ?_|fail)
 refine ay rfl (fun h=>absurd (Iy h) h1) (fun h=>?_)
 repeat' (first|refine go ?_|refine HK a6 FS ?_)
 refine ay rfl (fun h=>absurd (Iy h) h5) (fun h=>?_)
 rw [decide_eq_false h5]
 repeat' (first|refine go ?_|refine HK a6 FS ?_)
 refine ay rfl (fun h=>absurd (Iy h) h2) (fun h=>?_)
 repeat' (first|refine go ?_|refine HK a6 FS ?_)
 refine ay rfl (fun h=>absurd (Iy h) h3) (fun h=>?_)
 repeat' (first|refine go ?_|refine HK a6 FS ?_)
 exact HT HE
def qg (f:aL) (n:Int):Int:=match f.Lookups[n.toNat]? with | some l=>l.Kind | none=>0
def tX (f:aL) (r:bX) (_:Nat) (c:gw):Int:=if c.At < 0∨c.At≥r.In.length then 40 else if c.Lookup < 0∨c.Lookup≥f.Lookups.length then 42 else eH (decide (qg f c.Lookup < 1∨qg f c.Lookup > 4)) 42
set_option maxHeartbeats 1000000 in
theorem Ar (f:aL) (r:bX) (i:Nat) (c:gw):bV Tryz.prog 260 [aP i,.agg (dI c),.iptr (bI r),.iptr (cb f)] (aP (tX f r i c)):=by
 refine aS Tryz.func260 rfl Tryz.ntmps260 rfl fun B=>?_
 unfold tX
 have hI:=gt r.In
 have hL:(f.Lookups.map bj).length=f.Lookups.length:=It ..
 rw [←hI]
 repeat' (first|refine go ?_|refine ak ?_|refine HK a6 FS ?_|refine bh ?_|fail)
 refine eo [3,5] (c.At < 0∨c.At≥((bv r.In).length:Int)) rfl (fun Q' K=>?_) (fun hC=>?_) (fun hC=>?_)
 ·repeat' (first|refine go ?_|refine HK a6 FS ?_|refine HV FS ?_|refine HW HF ?_|refine bk rfl rfl rfl (fun _=>?_) (fun _=>?_))
  all_goals exact K _ _ rfl rfl (by clear K;grind)
 ·rw [if_pos hC]
  repeat' (first|refine go ?_|refine HK a6 FS ?_)
  exact HT HE
 rw [if_neg hC]
 repeat' (first|refine go ?_|refine HK a6 FS ?_)
 refine eo [3,5] (c.Lookup < 0∨c.Lookup≥f.Lookups.length) rfl (fun Q' K=>?_) (fun hC=>?_) (fun hC=>?_)
 ·repeat' (first|refine go ?_|refine HK a6 FS ?_|refine HV FS ?_|refine HW HF ?_|refine bk rfl rfl rfl (fun _=>?_) (fun _=>?_))
  all_goals exact K _ _ rfl rfl (by clear K;grind)
 ·rw [if_pos hC]
  repeat' (first|refine go ?_|refine HK a6 FS ?_)
  exact HT HE
 rw [if_neg hC]
 obtain ⟨l,hl⟩:∃l,f.Lookups[c.Lookup.toNat]?=some l:=⟨_,Iz (by omega)⟩
 have hlg:=bi (c:=bj) hl
 have hk:qg f c.Lookup=l.Kind:=by unfold qg;rw [hl]
 rw [hk]
 repeat' (first|refine go ?_|refine HK a6 FS ?_|(apply aU;first|refine aT a6 ?_|refine aM a6 ?_)|fail)
 by_cases h1:l.Kind < 1
 ·rw [decide_eq_true h1,decide_eq_true (Or.inl h1)]
  repeat' (first|refine go ?_|refine HK a6 FS ?_|refine HW HF ?_|(apply bq;refine bg ?_)|fail)
  exact HT HE
 ·rw [decide_eq_false h1,show decide (l.Kind < 1∨l.Kind > 4)=decide (4 < l.Kind) from decide_eq_decide.2 ⟨fun h=>h.resolve_left h1,Or.inr⟩]
  repeat' (first|refine go ?_|refine HK a6 FS ?_|refine HV FS ?_|(apply bq;refine bg ?_)|fail)
  exact HT HE
def kP (f:aL) (kind:Int) (r:bX):Int:=if (r.Calls.length:Int) > 6 then 2 else if (r.Calls.length:Int) > 0∧kind≠4 then 40 else (dE r.Calls (tX f r)).1
set_option maxHeartbeats 1000000 in
theorem xV (f:aL) (kind:Int) (r:bX):bV Tryz.prog 239 [cr f,aP kind,.agg (bI r)] (aP (kP f kind r)):=by
 refine aS Tryz.func239 rfl Tryz.ntmps239 rfl fun B=>?_
 unfold kP
 have hL:(r.Calls.map dI).length=r.Calls.length:=It ..
 rw [←hL]
 repeat' (first|refine go ?_|refine ak ?_|refine HK a6 FS ?_|refine bh ?_|fail)
 refine ay rfl (fun h=>?_) (fun h=>?_)
 ·rw [if_pos (Iy h)]
  repeat' (first|refine go ?_|refine HK a6 FS ?_)
  exact HT HE
 rw [if_neg (Ix h)]
 repeat' (first|refine go ?_|refine HK a6 FS ?_)
 refine eo [3,5] (((r.Calls.map dI).length:Int) > 0∧kind≠4) rfl (fun Q' K=>?_) (fun hC=>?_) (fun hC=>?_)
 ·repeat' (first|refine go ?_|refine HK a6 FS ?_|refine HV FS ?_|refine HW HF ?_|refine bk rfl rfl rfl (fun _=>?_) (fun _=>?_))
  all_goals exact K _ _ rfl rfl (by clear K;grind)
 ·rw [if_pos hC]
  repeat' (first|refine go ?_|refine HK a6 FS ?_)
  exact HT HE
 rw [if_neg hC]
 repeat' (first|refine go ?_|refine HK a6 FS ?_)
 refine ba [] [] (Dm (u:= .fn 260 [.iptr (bI r),.iptr (cb f)]) (g:=260) rfl r.Calls _ (fun _ _=>True) [] trivial (dM (fun i x _=>Ar f r i x))) rfl rfl (Im _) rfl fun c L1 hc=>?_
 have hc:c=cJ (dE r.Calls (tX f r)):=hc
 subst hc
 unfold cJ
 repeat' (first|refine go ?_|refine HK a6 FS ?_)
 exact HT HE
instance (f:aL) (kind:Int) (r:bX):AD Tryz.prog 239 [cr f,aP kind,.agg (bI r)] (aP (kP f kind r)):=⟨xV f kind r⟩
def zp (f:aL) (_:Nat) (l:List Int):Int:=eH (!(mn f l)) 41
def yS (f:aL) (_:Nat) (n:Int):Int:=eH (!(l9 f n)) 32
def xE (kind:Int) (r:bX):Int:=eH (decide (r.X≠0∧kind≠6)) 40
def oY (r:bX):List (List Int):=r.Back++(r.In++r.Ahead)
theorem za (kind:Int) (r:bX):bV Tryz.prog 228 [.iptr [aP kind],.iptr (bI r)] (cJ (lR kind r,0)):=by
 refine aS Tryz.func228 rfl Tryz.ntmps228 rfl fun B=>?_
 repeat' (first|refine go ?_|refine HK a6 FS ?_|(apply bq;refine bg ?_)|fail)
 exact be rfl rfl rfl rfl
theorem wv (f:aL) (i:Nat) (l:List Int):bV Tryz.prog 232 [aP i,.imm 1 (aZ l),.iptr (cb f)] (aP (zp f i l)):=by
 refine aS Tryz.func232 rfl Tryz.ntmps232 rfl fun B=>?_
 repeat' (first|refine go ?_|refine HK a6 FS ?_|(apply bq;refine bg ?_)|fail)
 exact HT HE
theorem zb (f:aL) (r:bX) (h:r.Back.length≤6∧r.In.length≤6∧r.Ahead.length≤6):bV Tryz.prog 230 [.iptr (bI r),.iptr (cb f)] (cJ (dE (oY r) (zp f))):=by
 refine aS Tryz.func230 rfl Tryz.ntmps230 rfl fun B=>?_
 repeat' (first|refine go ?_|refine HK a6 FS ?_|refine bG a6 ?_|fail)
 refine bg (hc:=⟨pU [r.Back,r.In,r.Ahead] (by simp [gq];omega)⟩) ?_
 rw [show ([r.Back,r.In,r.Ahead]:List (List (List Int))).flatten=oY r by simp [oY]]
 repeat' (first|refine HK a6 FS ?_)
 refine ba [] [] (Dj (u:= .fn 232 [.iptr (cb f)]) (g:=232) rfl (oY r) _ (fun _ _=>True) [] trivial (dM (fun i x _=>wv f i x))) rfl rfl (Im _) rfl fun c L1 hc=>?_
 have hc:c=cJ (dE (oY r) (zp f)):=hc
 subst hc
 unfold cJ
 repeat' (first|refine go ?_|refine HK a6 FS ?_)
 exact be rfl rfl rfl rfl
theorem zd (kind:Int) (r:bX) (hin:r.In≠[]):bV Tryz.prog 234 [.iptr [aP kind],.iptr (bI r)] (cJ (eH (!(pf kind r)) 40,0)):=by
 refine aS Tryz.func234 rfl Tryz.ntmps234 rfl fun B=>?_
 repeat' (first|refine go ?_|refine HK a6 FS ?_)
 refine bg (hc:=⟨DP kind r hin⟩) ?_
 repeat' (first|refine go ?_|refine HK a6 FS ?_|(apply bq;refine bg ?_)|fail)
 exact be rfl rfl rfl rfl
theorem ww (f:aL) (i:Nat) (n:Int):bV Tryz.prog 237 [aP i,aP n,.iptr (cb f)] (aP (yS f i n)):=by
 refine aS Tryz.func237 rfl Tryz.ntmps237 rfl fun B=>?_
 repeat' (first|refine go ?_|refine HK a6 FS ?_|(apply bq;refine bg ?_)|fail)
 exact HT HE
theorem zf (f:aL) (r:bX):bV Tryz.prog 236 [.iptr (bI r),.iptr (cb f)] (cJ (dE r.Out (yS f))):=by
 refine aS Tryz.func236 rfl Tryz.ntmps236 rfl fun B=>?_
 repeat' (first|refine go ?_|refine HK a6 FS ?_)
 refine ba [] [] (mU (u:= .fn 237 [.iptr (cb f)]) (g:=237) rfl r.Out _ (fun _ _=>True) [] trivial (dM (fun i x _=>ww f i x))) rfl rfl (Im _) rfl fun c L1 hc=>?_
 have hc:c=cJ (dE r.Out (yS f)):=hc
 subst hc
 unfold cJ
 repeat' (first|refine go ?_|refine HK a6 FS ?_)
 exact be rfl rfl rfl rfl
theorem zg (f:aL) (kind:Int) (r:bX):bV Tryz.prog 238 [.iptr (cb f),.iptr [aP kind],.iptr (bI r)] (cJ (kP f kind r,0)):=by
 refine aS Tryz.func238 rfl Tryz.ntmps238 rfl fun B=>?_
 repeat' (first|refine go ?_|refine HK a6 FS ?_|(apply bq;refine bg ?_)|fail)
 exact be rfl rfl rfl rfl
theorem zh (r:bX):bV Tryz.prog 240 [.iptr (bI r)] (cJ (eH (!([r.X].all gG)) 1,0)):=by
 refine aS Tryz.func240 rfl Tryz.ntmps240 rfl fun B=>?_
 repeat' (first|refine go ?_|refine HK a6 FS ?_|refine bG a6 ?_|(apply bq;refine bg ?_)|fail)
 exact be rfl rfl rfl rfl
theorem zi (kind:Int) (r:bX):bV Tryz.prog 241 [.iptr (bI r),.iptr [aP kind]] (cJ (xE kind r,0)):=by
 refine aS Tryz.func241 rfl Tryz.ntmps241 rfl fun B=>?_
 unfold xE
 by_cases h:r.X≠0
 ·rw [show decide (r.X≠0∧kind≠6)=decide (kind≠6) from decide_eq_decide.2 ⟨fun q=>q.2,fun q=>⟨h,q⟩⟩]
  repeat' (first|refine go ?_|refine HK a6 FS ?_)
  rw [decide_eq_true h]
  repeat' (first|refine go ?_|refine HK a6 FS ?_|refine HV FS ?_|(apply bq;refine bg ?_)|fail)
  exact be rfl rfl rfl rfl
 ·rw [show decide (r.X≠0∧kind≠6)=false from decide_eq_false (fun q=>h q.1)]
  repeat' (first|refine go ?_|refine HK a6 FS ?_)
  rw [decide_eq_false h]
  repeat' (first|refine go ?_|refine HK a6 FS ?_|refine HW HF ?_|(apply bq;refine bg ?_)|fail)
  exact be rfl rfl rfl rfl
def jL (f:aL) (kind:Int) (r:bX):Int:=(gR [(lR kind r,0),dE (oY r) (zp f),(eH (!(pf kind r)) 40,0),dE r.Out (yS f),(kP f kind r,0),(eH (!([r.X].all gG)) 1,0),(xE kind r,0)]).1
set_option maxHeartbeats 1000000 in
theorem Ca (f:aL) (kind:Int) (r:bX):bV Tryz.prog 186 [cr f,aP kind,.agg (bI r)] (aP (jL f kind r)):=by
 refine aS Tryz.func186 rfl Tryz.ntmps186 rfl fun B=>?_
 repeat' (first|refine go ?_|refine HK a6 FS ?_|refine bh ?_|refine bG a6 ?_|fail)
 refine ba [] [] (jw [⟨228,[.iptr [aP kind],.iptr (bI r)],[],lR kind r,0⟩,⟨230,[.iptr (bI r),.iptr (cb f)],[],(dE (oY r) (zp f)).1,(dE (oY r) (zp f)).2⟩,⟨234,[.iptr [aP kind],.iptr (bI r)],[],eH (!(pf kind r)) 40,0⟩,⟨236,[.iptr (bI r),.iptr (cb f)],[],(dE r.Out (yS f)).1,(dE r.Out (yS f)).2⟩,⟨238,[.iptr (cb f),.iptr [aP kind],.iptr (bI r)],[],kP f kind r,0⟩,⟨240,[.iptr (bI r)],[],eH (!([r.X].all gG)) 1,0⟩,⟨241,[.iptr (bI r),.iptr [aP kind]],[],xE kind r,0⟩] ?_) rfl rfl (Im _) rfl fun c L1 hc=>?_
 ·exact ⟨⟨inferInstance,za kind r⟩,fun h1=>⟨⟨inferInstance,zb f r (xp h1).2⟩,fun _=>⟨⟨inferInstance,zd kind r (xp h1).1⟩,fun _=>⟨⟨inferInstance,zf f r⟩,fun _=>⟨⟨inferInstance,zg f kind r⟩,fun _=>⟨⟨inferInstance,zh r⟩,fun _=>⟨⟨inferInstance,zi kind r⟩,fun _=>trivial⟩⟩⟩⟩⟩⟩⟩
 rw [kp] at hc
 subst hc
 unfold cJ
 repeat' (first|refine go ?_|refine HK a6 FS ?_)
 exact HT HE
instance (f:aL) (kind:Int) (r:bX):AD Tryz.prog 186 [cr f,aP kind,.agg (bI r)] (aP (jL f kind r)):=⟨Ca f kind r⟩
theorem oQ (l:bb):bV Tryz.prog 181 [.iptr (bj l)] (cJ (eH (decide ((l.Rules.length:Int) > 60)) 2,0)):=by
 refine aS Tryz.func181 rfl Tryz.ntmps181 rfl fun B=>?_
 rw [show (l.Rules.length:Int)=((l.Rules.map bI).length:Int) by rw [It]]
 repeat' (first|refine go ?_|refine HK a6 FS ?_|(apply bq;refine bg ?_)|fail)
 exact be rfl rfl rfl rfl
def pE (l:bb):Int:=eH (decide (l.Kind=7∨l.Kind=8) && decide ((l.Rules.length:Int) > 0)) 40
theorem oR (l:bb) (b:Bool) (hb:b=decide (l.Kind=7∨l.Kind=8)):bV Tryz.prog 182 [.iptr [cx b],.iptr (bj l)] (cJ (pE l,0)):=by
 refine aS Tryz.func182 rfl Tryz.ntmps182 rfl fun B=>?_
 unfold pE
 rw [←hb,show (l.Rules.length:Int)=((l.Rules.map bI).length:Int) by rw [It]]
 cases b
 ·repeat' (first|refine go ?_|refine HK a6 FS ?_|refine HW HF ?_|(apply bq;refine bg ?_)|fail)
  exact be rfl rfl rfl rfl
 ·repeat' (first|refine go ?_|refine HK a6 FS ?_|refine HV FS ?_|(apply bq;refine bg ?_)|fail)
  exact be rfl rfl rfl rfl
theorem sW (f:aL) (l:bb) (i:Nat) (r:bX):bV Tryz.prog 185 [aP i,.agg (bI r),.iptr (cb f),.iptr (bj l)] (aP (jL f l.Kind r)):=by
 refine aS Tryz.func185 rfl Tryz.ntmps185 rfl fun B=>?_
 repeat' (first|refine go ?_|refine HK a6 FS ?_|refine bh ?_|(apply bq;refine bg ?_)|fail)
 exact HT HE
theorem oS (f:aL) (l:bb):bV Tryz.prog 183 [.iptr (bj l),.iptr (cb f)] (cJ (dE l.Rules fun _ r=>jL f l.Kind r)):=by
 refine aS Tryz.func183 rfl Tryz.ntmps183 rfl fun B=>?_
 repeat' (first|refine go ?_|refine HK a6 FS ?_)
 refine ba [] [] (D9 (u:= .fn 185 [.iptr (cb f),.iptr (bj l)]) (g:=185) rfl l.Rules _ (fun _ _=>True) [] trivial (dM (w:=fun _ r=>jL f l.Kind r) (fun i x _=>sW f l i x))) rfl rfl (Im _) rfl fun c L1 hc=>?_
 have hc:c=cJ (dE l.Rules fun _ r=>jL f l.Kind r):=hc
 subst hc
 unfold cJ
 repeat' (first|refine go ?_|refine HK a6 FS ?_)
 exact be rfl rfl rfl rfl
def lC (f:aL) (l:bb):Int:=if l.Kind < 1∨l.Kind > 8 then 42 else (gR [(eH (decide ((l.Rules.length:Int) > 60)) 2,0),(pE l,0),dE l.Rules fun _ r=>jL f l.Kind r]).1
set_option maxHeartbeats 1000000 in
theorem wg (f:aL) (l:bb):bV Tryz.prog 128 [cr f,.agg (bj l)] (aP (lC f l)):=by
 refine aS Tryz.func128 rfl Tryz.ntmps128 rfl fun B=>?_
 unfold lC
 repeat' (first|refine go ?_|refine HK a6 FS ?_|refine bh ?_|fail)
 refine eo [2,3] (l.Kind < 1∨l.Kind > 8) rfl (fun Q' K=>?_) (fun hC=>?_) (fun hC=>?_)
 ·repeat' (first|refine go ?_|refine HK a6 FS ?_|refine HV FS ?_|refine HW HF ?_|refine bk rfl rfl rfl (fun _=>?_) (fun _=>?_))
  all_goals exact K _ _ rfl rfl (by clear K;grind)
 ·rw [if_pos hC]
  repeat' (first|refine go ?_|refine HK a6 FS ?_)
  exact HT HE
 rw [if_neg hC]
 repeat' (first|refine go ?_|refine HK a6 FS ?_)
 by_cases h7:l.Kind=7
 ·rw [decide_eq_true h7]
  repeat' (first|refine go ?_|refine HK a6 FS ?_|refine HW HF ?_|(apply aG;first|refine HN 5 a6 0 HJ ?_|refine HN 5 a6 1 HJ ?_|refine HN 5 a6 2 HJ ?_|refine HM a6 0 HH ?_|refine HM a6 1 HH ?_|refine HM a6 2 HH ?_|refine HM a6 3 HH ?_|fail)|refine aX a6 fun _=>?_|refine bG a6 ?_|fail)
  refine ba [] [] (jw [⟨181,[.iptr (bj l)],[],eH (decide ((l.Rules.length:Int) > 60)) 2,0⟩,⟨182,[.iptr [cx true],.iptr (bj l)],[],pE l,0⟩,⟨183,[.iptr (bj l),.iptr (cb f)],[],(dE l.Rules fun _ r=>jL f l.Kind r).1,(dE l.Rules fun _ r=>jL f l.Kind r).2⟩] ⟨⟨inferInstance,oQ l⟩,fun _=>⟨⟨inferInstance,oR l true (decide_eq_true (Or.inl h7)).symm⟩,fun _=>⟨⟨inferInstance,oS f l⟩,fun _=>trivial⟩⟩⟩) rfl rfl (Im _) rfl fun c L1 hc=>?_
  rw [kp] at hc
  subst hc
  unfold cJ
  repeat' (first|refine go ?_|refine HK a6 FS ?_)
  exact HT HE
 ·rw [decide_eq_false h7]
  repeat' (first|refine go ?_|refine HK a6 FS ?_|refine HV FS ?_|(apply aG;first|refine HN 5 a6 0 HJ ?_|refine HN 5 a6 1 HJ ?_|refine HN 5 a6 2 HJ ?_|refine HM a6 0 HH ?_|refine HM a6 1 HH ?_|refine HM a6 2 HH ?_|refine HM a6 3 HH ?_|fail)|refine aX a6 fun _=>?_|refine bG a6 ?_|fail)
  refine ba [] [] (jw [⟨181,[.iptr (bj l)],[],eH (decide ((l.Rules.length:Int) > 60)) 2,0⟩,⟨182,[.iptr [cx (decide (l.Kind=8))],.iptr (bj l)],[],pE l,0⟩,⟨183,[.iptr (bj l),.iptr (cb f)],[],(dE l.Rules fun _ r=>jL f l.Kind r).1,(dE l.Rules fun _ r=>jL f l.Kind r).2⟩] ⟨⟨inferInstance,oQ l⟩,fun _=>⟨⟨inferInstance,oR l (decide (l.Kind=8)) (decide_eq_decide.2 ⟨Or.inr,fun h=>h.resolve_left h7⟩)⟩,fun _=>⟨⟨inferInstance,oS f l⟩,fun _=>trivial⟩⟩⟩) rfl rfl (Im _) rfl fun c L1 hc=>?_
  rw [kp] at hc
  subst hc
  unfold cJ
  repeat' (first|refine go ?_|refine HK a6 FS ?_)
  exact HT HE
instance (f:aL) (l:bb):AD Tryz.prog 128 [cr f,.agg (bj l)] (aP (lC f l)):=⟨wg f l⟩
theorem sX (f:aL) (i:Nat) (l:bb):bV Tryz.prog 127 [aP i,.agg (bj l),.iptr (cb f)] (aP (lC f l)):=by
 refine aS Tryz.func127 rfl Tryz.ntmps127 rfl fun B=>?_
 repeat' (first|refine go ?_|refine HK a6 FS ?_|refine bh ?_|(apply bq;refine bg ?_)|fail)
 exact HT HE
end Go.Proofs.YtjjpkibjffmceaaGreat
