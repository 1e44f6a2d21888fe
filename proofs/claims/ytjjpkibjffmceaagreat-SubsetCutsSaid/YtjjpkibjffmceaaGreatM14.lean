/-
  The program: looks at glyphs, features, axes by their numbers.
-/
import Derived.Test.YtjjpkibjffmceaaGreatM13
import Derived.Test.YtjjpkibjffmceaaGreatM07
namespace Go.Proofs.YtjjpkibjffmceaaGreat
open Go.RowKit
attribute [local irreducible] AT cg AX AO Av Kt bJ eC DA du
theorem kT (names:List ByteArray) (s:ByteArray):(cY names (.string s)).getD (.sc (.int .i64 0))=aP ((ee names s).getD 0:Nat):=by
 show (Option.map (fun n:Nat=>aP (n:Int)) (ee names s)).getD (.sc (.int .i64 0))=_
 cases ee names s <;> rfl
def wN (names:List ByteArray) (i:Nat) (s:ByteArray):Bool:=decide ((((ee names s).getD 0:Nat):Int) < (i:Int))
def kY (f:aL):List ByteArray:=f.Glyphs.map bL.Name
def mB (f:aL):List ByteArray:=f.Features.map bX.Name
def lW (f:aL):List ByteArray:=f.Axes.map eB.Name
def eS (f:aL) (i:Nat) (g:bL):Int:=pX f g (pS (jl g.Name) (wN (kY f) i g.Name))
def mX (f:aL) (i:Nat) (t:bX):Int:=xp f t (pS (gu t.Name) (wN (mB f) i t.Name))
def mR (f:aL) (i:Nat) (a:eB):Int:=xf a (pS (jl a.Name) (wN (lW f) i a.Name))
set_option maxHeartbeats 1000000 in
theorem pW (f:aL) (i:Nat) (g:bL) (m:Nat):AC Tryz.prog 117 [aP i,.agg (bh g),.iptr (ci f),.iptr [.sc (.map (some m))]] [(m,cn .string (cY (kY f)))] fun c L=>c=aP (eS f i g)∧L=[(m,cn .string (cY (kY f)))]:=by
 refine aX Tryz.func117 rfl Tryz.ntmps117 rfl fun B=>?_
 repeat' (first|refine go ?_|refine IG a6 EV ?_|refine bD ?_|fail)
 refine br 12 [(0,.v),(1,.v),(2,.v),(3,.v),(4,.v),(5,.v),(6,.v),(7,.v),(9,.v),(8,.e),(10,.v),(11,.v)] none ?_ trivial rfl (by kernel_rfl) (by kernel_rfl) (by kernel_rfl) mixed (by kernel_rfl) rfl
 repeat' (first|refine aC ?_|refine aY a6 ?_|(apply bK;refine bR ?_)|fail)
 refine pO 0 (.int .i64 0) Tryz.underlying218 Tryz.underlying9 rfl rfl trivial rfl (by kernel_rfl) trivial ?_
 rw [kT]
 repeat' (first|refine aC ?_|refine aY a6 ?_|(apply bK;refine bR ?_)|fail)
 refine IQ [7,8,18] EV ?_
 repeat' (first|refine go ?_|refine aa ?_|refine IG a6 EV ?_|(apply bB;refine bq ?_)|fail)
 exact IM EV ⟨rfl,rfl⟩
set_option maxHeartbeats 1000000 in
theorem yP (f:aL) (i:Nat) (t:bX) (m:Nat):AC Tryz.prog 130 [aP i,.agg (bv t),.iptr (ci f),.iptr [.sc (.map (some m))]] [(m,cn .string (cY (mB f)))] fun c L=>c=aP (mX f i t)∧L=[(m,cn .string (cY (mB f)))]:=by
 refine aX Tryz.func130 rfl Tryz.ntmps130 rfl fun B=>?_
 repeat' (first|refine go ?_|refine IG a6 EV ?_|refine bD ?_|fail)
 refine br 12 [(0,.v),(1,.v),(2,.v),(3,.v),(4,.v),(5,.v),(6,.v),(7,.v),(9,.v),(8,.e),(10,.v),(11,.v)] none ?_ trivial rfl (by kernel_rfl) (by kernel_rfl) (by kernel_rfl) mixed (by kernel_rfl) rfl
 repeat' (first|refine aC ?_|refine aY a6 ?_|(apply bK;refine bR ?_)|fail)
 refine pO 0 (.int .i64 0) Tryz.underlying218 Tryz.underlying9 rfl rfl trivial rfl (by kernel_rfl) trivial ?_
 rw [kT]
 repeat' (first|refine aC ?_|refine aY a6 ?_|(apply bK;refine bR ?_)|fail)
 refine IQ [7,8,18] EV ?_
 repeat' (first|refine go ?_|refine aa ?_|refine IG a6 EV ?_|(apply bB;refine bq ?_)|fail)
 exact IM EV ⟨rfl,rfl⟩
set_option maxHeartbeats 1000000 in
theorem yn (f:aL) (i:Nat) (a:eB) (m:Nat):AC Tryz.prog 134 [aP i,.agg (cC a),.iptr [.sc (.map (some m))]] [(m,cn .string (cY (lW f)))] fun c L=>c=aP (mR f i a)∧L=[(m,cn .string (cY (lW f)))]:=by
 refine aX Tryz.func134 rfl Tryz.ntmps134 rfl fun B=>?_
 repeat' (first|refine go ?_|refine IG a6 EV ?_|refine bD ?_|fail)
 refine br 11 [(0,.v),(1,.v),(2,.v),(3,.v),(4,.v),(5,.v),(6,.v),(8,.v),(7,.e),(9,.v),(10,.v)] none ?_ trivial rfl (by kernel_rfl) (by kernel_rfl) (by kernel_rfl) mixed (by kernel_rfl) rfl
 repeat' (first|refine aC ?_|refine aY a6 ?_|(apply bK;refine bR ?_)|fail)
 refine pO 0 (.int .i64 0) Tryz.underlying218 Tryz.underlying9 rfl rfl trivial rfl (by kernel_rfl) trivial ?_
 rw [kT]
 repeat' (first|refine aC ?_|refine aY a6 ?_|(apply bK;refine bR ?_)|fail)
 refine IQ [6,16] EV ?_
 repeat' (first|refine go ?_|refine aa ?_|refine IG a6 EV ?_|(apply bB;refine bq ?_)|fail)
 exact IM EV ⟨rfl,rfl⟩
theorem E3 (n:Nat) (hn:n≤1000000):AC Tryz.prog 146 [.sc (.slice none 0 0),aP n] [] fun c L=>∃k,c= .vec k 1 []∧L=tok k 22 1 0:=by
 refine aX Tryz.func146 rfl Tryz.ntmps146 rfl fun B=>?_
 repeat' (first|refine go ?_|refine IG a6 EV ?_|refine bP rfl ?_)
 refine BZ a6 rfl rfl rfl ?_
 repeat' (first|refine go ?_|refine IG a6 EV ?_|(apply aW;refine aT ?_)|fail)
 by_cases h0:n=0
 ·subst h0
  repeat' (first|refine go ?_|refine IG a6 EV ?_|refine bP rfl ?_)
  refine ba (bo (t:=4) (c':= .vec none 1 []) rfl fun σ v h=>cO 1 h) (IM EV ⟨none,rfl,rfl⟩)
 ·refine au rfl (fun h2=>?_) (fun h2=>?_)
  ·repeat' (first|refine go ?_|refine IG a6 EV ?_)
   refine BZ a6 rfl rfl rfl ?_
   repeat' (first|fail)
   refine Gg a6 rfl rfl rfl rfl ?_
   repeat' (first|refine IG a6 EV ?_)
   refine zt a6 n rfl Tryz.underlying3 rfl rfl (by omega) (by omega) (by omega) (by omega) rfl fun b cap h3 h4=>?_
   repeat' (first|refine IG a6 EV ?_)
   refine C1 a6 0 rfl rfl rfl rfl (by omega) (by omega) rfl ?_
   repeat' (first|refine go ?_|refine IG a6 EV ?_)
   refine ba (bo (t:=4) (c':= .vec (some (b,cap)) 1 []) rfl fun σ v h=>EQ h4 h) (IM EV ⟨some (b,cap),rfl,rfl⟩)
  ·exact absurd (Jx h2) (by omega)
def qw (l:List (List (List Int))):List (List AV):=l.map fun r=>[.imm 1 (bw r)]
def gx (l:List (List (List Int))):Nat:=(l.map List.length).sum
theorem oY {l:List (List (List Int))} {i:Nat} {r:List (List Int)} (h:l[i]?=some r):gx (l.take (i+1))=gx (l.take i)+r.length:=by
 unfold gx
 rw [List.take_add_one,h]
 simp
theorem rR (l:List (List (List Int))) (i:Nat):gx (l.take i)≤gx l:=by
 have h:((l.take i++l.drop i).map List.length).sum=(l.map List.length).sum:=by rw [List.take_append_drop]
 rw [List.map_append,List.sum_append] at h
 unfold gx
 omega
theorem Bm (l:List (List (List Int))):l.flatten.length=gx l:=by
 unfold gx
 rw [List.length_flatten]
theorem zN (a b:List (List Int)):bw a++bw b=bw (a++b):=by unfold bw;rw [List.map_append]
set_option maxHeartbeats 1000000 in
theorem pM (l:List (List (List Int))) (hs:gx l≤1000000):bZ Tryz.prog 84 [.imm 1 (qw l)] (.imm 1 (bw l.flatten)):=by
 refine aX Tryz.func84 rfl Tryz.ntmps84 rfl fun B=>?_
 have hrl:(qw l).length=l.length:=by simp [qw]
 refine cN 0 rfl rfl fun hlen=>?_
 rw [hrl] at hlen
 repeat' (first|refine go ?_|refine am ?_|refine IG a6 EV ?_)
 refine aO [0,9,10] (α:=Nat) (fun i=>[(11,aP i),(3,aP (gx (l.take i)))]) (fun i=>i≤l.length) (fun _=>[]) (fun i=>l.length - i) 0 rfl ⟨rfl,rfl,trivial⟩ (Nat.zero_le _) (fun _ _ h=>h) fun i hi=>?_
 try dsimp only [Jr,Jq,Jp,Jk]
 repeat' (first|refine go ?_|refine IG a6 EV ?_)
 refine au rfl (fun h=>?_) (fun h=>?_)
 ·have hil:i < l.length:=by have:=Jy h;rw [hrl] at this;omega
  obtain ⟨z,hz⟩:∃z,l[i]?=some z:=⟨_,Jz hil⟩
  have hzg:(qw l)[i]?=some [.imm 1 (bw z)]:=by simp [qw,hz]
  have hsz:=oY hz
  have hle:=rR l (i+1)
  have hzl:(bw z).length=z.length:=by simp [bw]
  repeat' (first|refine go ?_|refine am ?_|refine IG a6 EV ?_|(apply aW;refine aT ?_)|(apply aV;first|refine aU a6 ?_|refine aN a6 ?_)|refine bP rfl ?_)
  exact aB (i+1) rfl ⟨by rw [Jv];rfl,by rw [hsz,Jv,hzl];rfl,trivial⟩ (by omega) (by omega) (fun _ _ h=>h)
 have hil:i=l.length:=by have:=Jx h;rw [hrl] at this;omega
 subst hil
 rw [List.take_length]
 clear h
 repeat' (first|refine go ?_|refine IG a6 EV ?_)
 refine bn [] [] (E3 (gx l) hs) rfl rfl (Jn _) rfl fun c L1 ⟨k,hc,hL⟩=>?_
 subst hc;subst hL
 rw [List.append_nil]
 repeat' (first|refine go ?_|refine am ?_|refine IG a6 EV ?_)
 refine aO [25,26] (α:=Nat×Option (Nat×Nat)) (fun x=>[(27,aP x.1),(6,.vec x.2 1 (bw (l.take x.1).flatten))]) (fun x=>x.1≤l.length) (fun x=>tok x.2 22 1 (bw (l.take x.1).flatten).length) (fun x=>l.length - x.1) (0,k) rfl ⟨rfl,rfl,trivial⟩ (Nat.zero_le _) (fun _ _ h=>h) ?_
 rintro ⟨i,k⟩ hi
 dsimp only at hi ⊢
 try dsimp only [Jr,Jq,Jp,Jk]
 repeat' (first|refine go ?_|refine IG a6 EV ?_)
 refine au rfl (fun h=>?_) (fun h=>?_)
 ·have hil:i < l.length:=by have:=Jy h;rw [hrl] at this;omega
  obtain ⟨z,hz⟩:∃z,l[i]?=some z:=⟨_,Jz hil⟩
  have hzg:(qw l)[i]?=some [.imm 1 (bw z)]:=by simp [qw,hz]
  have hsz:=oY hz
  have hle:=rR l (i+1)
  have hzl:(bw z).length=z.length:=by simp [bw]
  have hfl:(bw (l.take i).flatten).length=gx (l.take i):=by rw [fe,Bm]
  have hcat:bw (l.take i).flatten++bw z=bw (l.take (i+1)).flatten:=by rw [zN,List.take_add_one,hz];simp
  repeat' (first|refine go ?_|refine am ?_|refine IG a6 EV ?_|(apply aV;first|refine aU a6 ?_|refine aN a6 ?_)|fail)
  refine IS a6 [] IC (by rw [List.append_nil]) (by rw [hfl,hzl];omega) (by rw [hfl,hzl];omega) rfl fun k'=>?_
  rw [hcat,List.append_nil]
  repeat' (first|refine go ?_|refine IG a6 EV ?_|(apply aW;refine aT ?_)|fail)
  exact aB (i+1,k') rfl ⟨by rw [Jv];rfl,rfl,trivial⟩ (by dsimp only;omega) (by dsimp only;omega) (fun _ _ h=>h)
 ·have hil:i=l.length:=by have:=Jx h;rw [hrl] at this;omega
  subst hil
  rw [List.take_length]
  repeat' (first|refine go ?_|refine IG a6 EV ?_)
  exact pD rfl rfl rfl rfl
def jn (l:List Int):Bool:=decide (∀i,i < l.length - 1→l.getD i 0 < l.getD (i+1) 0)
theorem kZ {l:List Int} {i:Nat} {z:Int} (h:l[i]?=some z):l.getD i 0=z:=by simp [h]
theorem wy (l:List Int):bZ Tryz.prog 258 [.imm 1 (aS l)] (cM (jn l)):=by
 refine aX Tryz.func258 rfl Tryz.ntmps258 rfl fun B=>?_
 refine cN 0 rfl rfl fun hlen=>?_
 have hll:=aF l
 rw [aF] at hlen
 repeat' (first|refine go ?_|refine am ?_|refine IG a6 EV ?_)
 refine aO [0] (α:=Nat) (fun i=>[(3,aP (i+1:Nat))]) (fun i=>i≤l.length∧∀j,j < i→j+1 < l.length→l.getD j 0 < l.getD (j+1) 0) (fun _=>[]) (fun i=>l.length - i) 0 rfl ⟨rfl,trivial⟩ ⟨Nat.zero_le _,fun j hj=>absurd hj (Nat.not_lt_zero _)⟩ (fun _ _ h=>h) fun i ⟨hi,hall⟩=>?_
 try dsimp only [Jr,Jq,Jp,Jk]
 repeat' (first|refine go ?_|refine IG a6 EV ?_)
 refine au rfl (fun h=>?_) (fun h=>?_)
 ·have hil:i+1 < l.length:=by have:=Jy h;rw [aF] at this;omega
  obtain ⟨y,hy⟩:∃z,l[i]?=some z:=⟨_,Jz (by omega)⟩
  obtain ⟨z,hz⟩:∃z,l[i+1]?=some z:=⟨_,Jz hil⟩
  have hyg:(aS l)[(((i+1:Nat):Int) - 1).toNat]?=some [aP y]:=by rw [show (((i+1:Nat):Int) - 1).toNat=i by omega];exact bQ hy
  have hzg:=bQ hz
  repeat' (first|refine go ?_|refine am ?_)
  refine br 9 [(0,.v),(1,.v),(2,.v),(3,.v),(4,.v),(5,.v),(6,.v),(7,.v),(8,.v)] none ?_ trivial rfl (by kernel_rfl) (by kernel_rfl) (by kernel_rfl) mixed (by kernel_rfl) rfl
  repeat' (first|refine aC ?_|refine aY a6 ?_|(apply fk;refine gF ?_)|(apply bS;refine ce a6 ?_)|fail)
  refine IQ [0,3,13,18] EV ?_
  repeat' (first|refine go ?_|refine aa ?_|refine IG a6 EV ?_)
  refine au rfl (fun h2=>?_) (fun h2=>?_)
  ·have h2':=Jy h2
   repeat' (first|refine go ?_|refine IG a6 EV ?_)
   refine IM EV ?_
   rw [show jn l=false from decide_eq_false (fun hh=>by have:=hh i (by omega);rw [kZ hy,kZ hz] at this;omega)]
  ·have h2':=Jx h2
   repeat' (first|refine go ?_|refine IG a6 EV ?_|(apply aW;refine aT ?_)|fail)
   refine aB (i+1) rfl ⟨by rw [Jv (i+1) 1];rfl,trivial⟩ ⟨by omega,fun j hj hjl=>?_⟩ (by omega) (fun _ _ h=>h)
   by_cases e:j=i
   ·subst e;rw [kZ hy,kZ hz];omega
   ·exact hall j (by omega) hjl
 ·have hil:l.length≤i+1:=by have:=Jx h;rw [aF] at this;omega
  repeat' (first|refine go ?_|refine IG a6 EV ?_)
  refine IM EV ?_
  rw [show jn l=true from decide_eq_true (fun j hj=>hall j (by omega) (by omega))]
instance (l:List Int):AD Tryz.prog 258 [.imm 1 (aS l)] (cM (jn l)):=⟨wy l⟩
def mo (f:aL) (l:List Int):Bool:=decide (0 < l.length) && (jn l && (jk f (l.getD 0 0) && jk f (l.getD (l.length - 1) 0)))
set_option maxHeartbeats 1000000 in
theorem z8 (f:aL) (l:List Int):bZ Tryz.prog 233 [cr f,.imm 1 (aS l)] (cM (mo f l)):=by
 refine aX Tryz.func233 rfl Tryz.ntmps233 rfl fun B=>?_
 refine cN 1 rfl rfl fun hlen=>?_
 cases l with
 | nil=>
  repeat' (first|refine go ?_|refine IG a6 EV ?_|refine bD ?_|fail)
  refine br 24 [(0,.v),(1,.v),(2,.v),(3,.v),(4,.v),(5,.v),(6,.v),(7,.v),(8,.v),(9,.v),(10,.v),(11,.v),(12,.v),(13,.v),(14,.v),(15,.v),(16,.v),(17,.v),(18,.v),(19,.v),(20,.v),(21,.v),(22,.v),(23,.v)] none ?_ trivial rfl (by kernel_rfl) (by kernel_rfl) (by kernel_rfl) mixed (by kernel_rfl) rfl
  repeat' (first|refine aC ?_|refine aY a6 ?_|refine iU rfl rfl ?_)
  refine IQ [28] EV ?_
  repeat' (first|refine go ?_|refine aa ?_|refine IG a6 EV ?_)
  exact IP IB
 | cons y q=>
  have hll:(aS (y::q)).length=q.length+1:=by rw [aF];rfl
  rw [hll] at hlen
  obtain ⟨z,hz⟩:∃z,(y::q)[q.length]?=some z:=⟨_,Jz (by simp)⟩
  have hzg:(aS (y::q))[((((aS (y::q)).length:Nat):Int) - 1).toNat]?=some [aP z]:=by rw [show ((((aS (y::q)).length:Nat):Int) - 1).toNat=q.length by rw [hll];omega];exact bQ hz
  have hyg:(aS (y::q))[(0:Int).toNat]?=some [aP y]:=rfl
  have hval:mo f (y::q)=(jn (y::q) && (jk f y && jk f z)):=by
   unfold mo
   rw [show (y::q).length - 1=q.length by simp,kZ hz]
   simp
  rw [hval]
  have hpos:decide (0 < (((aS (y::q)).length:Nat):Int))=true:=decide_eq_true (by rw [hll];omega)
  repeat' (first|refine go ?_|refine IG a6 EV ?_|refine bD ?_|fail)
  refine br 24 [(0,.v),(1,.v),(2,.v),(3,.v),(4,.v),(5,.v),(6,.v),(7,.v),(8,.v),(9,.v),(10,.v),(11,.v),(12,.v),(13,.v),(14,.v),(15,.v),(16,.v),(17,.v),(18,.v),(19,.v),(20,.v),(21,.v),(22,.v),(23,.v)] none ?_ trivial rfl (by kernel_rfl) (by kernel_rfl) (by kernel_rfl) mixed (by kernel_rfl) rfl
  repeat' (first|refine aC ?_|refine aY a6 ?_|fail)
  rw [hpos]
  repeat' (first|refine aC ?_|refine aY a6 ?_|(apply bK;refine bR ?_)|fail)
  generalize jn (y::q)=b1
  cases b1
  ·repeat' (first|refine aC ?_|refine aY a6 ?_|refine iU rfl rfl ?_)
   refine IQ [28] EV ?_
   repeat' (first|refine go ?_|refine aa ?_|refine IG a6 EV ?_)
   exact IP IB
  repeat' (first|refine aC ?_|refine aY a6 ?_|(apply bS;refine ce a6 ?_)|(apply bK;refine bR ?_)|fail)
  generalize jk f y=b2
  cases b2
  ·repeat' (first|refine aC ?_|refine aY a6 ?_|refine iU rfl rfl ?_)
   refine IQ [28] EV ?_
   repeat' (first|refine go ?_|refine aa ?_|refine IG a6 EV ?_)
   exact IP IB
  repeat' (first|refine aC ?_|refine aY a6 ?_|(apply fk;refine gF ?_)|(apply bS;refine ce a6 ?_)|(apply bK;refine bR ?_)|fail)
  refine IQ [28] EV ?_
  repeat' (first|refine go ?_|refine aa ?_|refine IG a6 EV ?_)
  exact IP IB
instance (f:aL) (l:List Int):AD Tryz.prog 233 [cr f,.imm 1 (aS l)] (cM (mo f l)):=⟨z8 f l⟩
def fw (kind:Int) (r:cb):Bool:=if kind=1∨kind=2∨kind=5 then decide ((r.In.length:Int)≠1) else if kind=6 then decide ((r.In.length:Int)≠2∨(r.Back.length:Int) > 0∨(r.Ahead.length:Int) > 0) else decide ((r.In.length:Int)=0)
def oS (kind:Int) (r:cb):Int:=if (r.Back.length:Int) > 6∨(r.In.length:Int) > 6∨(r.Ahead.length:Int) > 6 then 2 else eL (fw kind r) 40
set_option maxHeartbeats 1000000 in
theorem Ct (kind:Int) (r:cb):bZ Tryz.prog 229 [aP kind,.agg (bE r)] (aP (oS kind r)):=by
 refine aX Tryz.func229 rfl Tryz.ntmps229 rfl fun B=>?_
 unfold oS fw
 have hB:=fe r.Back
 have hI:=fe r.In
 have hA:=fe r.Ahead
 rw [←hB,←hI,←hA]
 repeat' (first|refine go ?_|refine IG a6 EV ?_|refine bD ?_|fail)
 refine ej [0,3] (((bw r.Back).length:Int) > 6∨((bw r.In).length:Int) > 6∨((bw r.Ahead).length:Int) > 6) rfl (fun Q' K=>?_) (fun hC=>?_) (fun hC=>?_)
 ·repeat' (first|refine go ?_|refine IG a6 EV ?_|refine IR EV ?_|refine IT IC ?_|refine bF rfl rfl rfl (fun _=>?_) (fun _=>?_))
  all_goals exact K _ _ rfl rfl (by clear K;grind)
 ·rw [if_pos hC]
  repeat' (first|refine go ?_|refine IG a6 EV ?_)
  exact IP IB
 rw [if_neg hC]
 by_cases h1:kind=1
 ·subst h1
  repeat' (first|refine go ?_|refine am ?_|refine IG a6 EV ?_|(apply bB;refine bq ?_)|refine cf rfl ?_)
  exact IP IB
 by_cases h2:kind=2
 ·subst h2
  repeat' (first|refine go ?_|refine am ?_|refine IG a6 EV ?_|(apply bB;refine bq ?_)|refine cf rfl ?_|refine bP rfl ?_)
  exact IP IB
 by_cases h5:kind=5
 ·subst h5
  repeat' (first|refine go ?_|refine am ?_|refine IG a6 EV ?_|(apply bB;refine bq ?_)|refine cf rfl ?_|refine bP rfl ?_)
  exact IP IB
 rw [if_neg (by omega)]
 by_cases h6:kind=6
 ·subst h6
  rw [if_pos rfl]
  repeat' (first|refine go ?_|refine am ?_|refine IG a6 EV ?_|refine cf rfl ?_|refine bP rfl ?_)
  refine dH (t:=5) [] (((bw r.In).length:Int)≠2∨((bw r.Back).length:Int) > 0∨((bw r.Ahead).length:Int) > 0) rfl (fun Q' K=>?_) ?_
  ·repeat' (first|refine go ?_|refine IG a6 EV ?_|refine IR EV ?_|refine IT IC ?_|refine bF rfl rfl rfl (fun _=>?_) (fun _=>?_))
   all_goals exact K _ _ rfl rfl (by clear K;grind)
  repeat' (first|refine go ?_|refine IG a6 EV ?_|(apply bB;refine bq ?_)|fail)
  exact IP IB
 rw [if_neg h6]
 repeat' (first|refine go ?_|refine am ?_|refine IG a6 EV ?_)
 refine au rfl (fun h=>absurd (Jy h) h1) (fun h=>?_)
 repeat' (first|refine go ?_|refine IG a6 EV ?_)
 refine au rfl (fun h=>absurd (Jy h) h2) (fun h=>?_)
 repeat' (first|refine go ?_|refine IG a6 EV ?_)
 refine au rfl (fun h=>absurd (Jy h) h5) (fun h=>?_)
 rw [decide_eq_false h5]
 repeat' (first|refine go ?_|refine IG a6 EV ?_)
 refine au rfl (fun h=>absurd (Jy h) h6) (fun h=>?_)
 repeat' (first|refine go ?_|refine IG a6 EV ?_|(apply bB;refine bq ?_)|fail)
 exact IP IB
instance (kind:Int) (r:cb):AD Tryz.prog 229 [aP kind,.agg (bE r)] (aP (oS kind r)):=⟨Ct kind r⟩
theorem xT {kind:Int} {r:cb} (h:oS kind r=0):r.In≠[]∧r.Back.length≤6∧r.In.length≤6∧r.Ahead.length≤6:=by
 unfold oS at h
 split at h
 ·cases h
 ·rename_i hc
  refine ⟨fun e=>?_,by omega,by omega,by omega⟩
  have hw:fw kind r=true:=by
   unfold fw
   rw [e]
   split
   ·decide
   ·split <;> simp
  rw [hw] at h
  cases h
def p9 (kind:Int) (r:cb):Bool:=if kind=1∨kind=5 then decide ((r.Out.length:Int)=((r.In.headD []).length:Int)) else if kind=2 then decide ((r.Out.length:Int)≤6) else if kind=3 then decide ((r.Out.length:Int)=1) else decide ((r.Out.length:Int)=0)
set_option maxHeartbeats 1000000 in
theorem Ej (kind:Int) (r:cb) (hin:r.In≠[]):bZ Tryz.prog 235 [aP kind,.agg (bE r)] (cM (p9 kind r)):=by
 refine aX Tryz.func235 rfl Tryz.ntmps235 rfl fun B=>?_
 obtain ⟨y,hy⟩:∃y,r.In[0]?=some y:=⟨_,Jz (List.length_pos_iff.2 hin)⟩
 have hyg:=iP hy
 have hv:p9 kind r=if kind=1∨kind=5 then decide (((aS r.Out).length:Int)=((aS y).length:Int)) else if kind=2 then decide (((aS r.Out).length:Int)≤6) else if kind=3 then decide (((aS r.Out).length:Int)=1) else decide (((aS r.Out).length:Int)=0):=by
  have hd:r.In.headD []=y:=by
   cases hI:r.In with
   | nil=>exact absurd hI hin
   | cons y' q=>rw [hI] at hy;simpa using hy
  unfold p9
  rw [hd,aF,aF]
 rw [hv]
 by_cases h1:kind=1
 ·subst h1
  repeat' (first|refine go ?_|refine am ?_|refine IG a6 EV ?_|refine bD ?_|refine cf rfl ?_)
  refine br 8 [(0,.v),(1,.v),(2,.v),(3,.v),(4,.v),(5,.v),(6,.v),(7,.v)] none ?_ trivial rfl (by kernel_rfl) (by kernel_rfl) (by kernel_rfl) mixed (by kernel_rfl) rfl
  repeat' (first|refine aC ?_|refine aY a6 ?_|(apply bS;refine ce a6 ?_)|fail)
  refine IQ [11,16] EV ?_
  repeat' (first|refine go ?_|refine aa ?_|refine IG a6 EV ?_)
  exact IP IB
 by_cases h5:kind=5
 ·subst h5
  repeat' (first|refine go ?_|refine am ?_|refine IG a6 EV ?_|refine bD ?_|refine cf rfl ?_|refine bP rfl ?_)
  refine br 8 [(0,.v),(1,.v),(2,.v),(3,.v),(4,.v),(5,.v),(6,.v),(7,.v)] none ?_ trivial rfl (by kernel_rfl) (by kernel_rfl) (by kernel_rfl) mixed (by kernel_rfl) rfl
  repeat' (first|refine aC ?_|refine aY a6 ?_|(apply bS;refine ce a6 ?_)|fail)
  refine IQ [11,16] EV ?_
  repeat' (first|refine go ?_|refine aa ?_|refine IG a6 EV ?_)
  exact IP IB
 rw [if_neg (by omega)]
 by_cases h2:kind=2
 ·subst h2
  repeat' (first|refine go ?_|refine am ?_|refine IG a6 EV ?_|refine bD ?_|refine cf rfl ?_|refine bP rfl ?_)
  exact IP IB
 rw [if_neg h2]
 by_cases h3:kind=3
 ·subst h3
  repeat' (first|refine go ?_|refine am ?_|refine IG a6 EV ?_|refine bD ?_|refine cf rfl ?_|refine bP rfl ?_)
  exact IP IB
 rw [if_neg h3]
 repeat' (first|refine go ?_|refine am ?_|refine IG a6 EV ?_|refine bD ?_|fail)
 refine au rfl (fun h=>absurd (Jy h) h1) (fun h=>?_)
 repeat' (first|refine go ?_|refine IG a6 EV ?_)
 refine au rfl (fun h=>absurd (Jy h) h5) (fun h=>?_)
 rw [decide_eq_false h5]
 repeat' (first|refine go ?_|refine IG a6 EV ?_)
 refine au rfl (fun h=>absurd (Jy h) h2) (fun h=>?_)
 repeat' (first|refine go ?_|refine IG a6 EV ?_)
 refine au rfl (fun h=>absurd (Jy h) h3) (fun h=>?_)
 repeat' (first|refine go ?_|refine IG a6 EV ?_)
 exact IP IB
def sy (f:aL) (n:Int):Int:=match f.Lookups[n.toNat]? with | some l=>l.Kind | none=>0
def xg (f:aL) (r:cb) (_:Nat) (c:gy):Int:=if c.At < 0∨c.At≥r.In.length then 40 else if c.Lookup < 0∨c.Lookup≥f.Lookups.length then 42 else eL (decide (sy f c.Lookup < 1∨sy f c.Lookup > 4)) 42
set_option maxHeartbeats 1000000 in
theorem B0 (f:aL) (r:cb) (i:Nat) (c:gy):bZ Tryz.prog 260 [aP i,.agg (dI c),.iptr (bE r),.iptr (ci f)] (aP (xg f r i c)):=by
 refine aX Tryz.func260 rfl Tryz.ntmps260 rfl fun B=>?_
 unfold xg
 have hI:=fe r.In
 have hL:(f.Lookups.map bi).length=f.Lookups.length:=Jt ..
 rw [←hI]
 repeat' (first|refine go ?_|refine am ?_|refine IG a6 EV ?_|refine bD ?_|fail)
 refine ej [3,5] (c.At < 0∨c.At≥((bw r.In).length:Int)) rfl (fun Q' K=>?_) (fun hC=>?_) (fun hC=>?_)
 ·repeat' (first|refine go ?_|refine IG a6 EV ?_|refine IR EV ?_|refine IT IC ?_|refine bF rfl rfl rfl (fun _=>?_) (fun _=>?_))
  all_goals exact K _ _ rfl rfl (by clear K;grind)
 ·rw [if_pos hC]
  repeat' (first|refine go ?_|refine IG a6 EV ?_)
  exact IP IB
 rw [if_neg hC]
 repeat' (first|refine go ?_|refine IG a6 EV ?_)
 refine ej [3,5] (c.Lookup < 0∨c.Lookup≥f.Lookups.length) rfl (fun Q' K=>?_) (fun hC=>?_) (fun hC=>?_)
 ·repeat' (first|refine go ?_|refine IG a6 EV ?_|refine IR EV ?_|refine IT IC ?_|refine bF rfl rfl rfl (fun _=>?_) (fun _=>?_))
  all_goals exact K _ _ rfl rfl (by clear K;grind)
 ·rw [if_pos hC]
  repeat' (first|refine go ?_|refine IG a6 EV ?_)
  exact IP IB
 rw [if_neg hC]
 obtain ⟨l,hl⟩:∃l,f.Lookups[c.Lookup.toNat]?=some l:=⟨_,Jz (by omega)⟩
 have hlg:=bA (c:=bi) hl
 have hk:sy f c.Lookup=l.Kind:=by unfold sy;rw [hl]
 rw [hk]
 repeat' (first|refine go ?_|refine IG a6 EV ?_|(apply aV;first|refine aU a6 ?_|refine aN a6 ?_)|fail)
 by_cases h1:l.Kind < 1
 ·rw [decide_eq_true h1,decide_eq_true (Or.inl h1)]
  repeat' (first|refine go ?_|refine IG a6 EV ?_|refine IT IC ?_|(apply bB;refine bq ?_)|fail)
  exact IP IB
 ·rw [decide_eq_false h1,show decide (l.Kind < 1∨l.Kind > 4)=decide (4 < l.Kind) from decide_eq_decide.2 ⟨fun h=>h.resolve_left h1,Or.inr⟩]
  repeat' (first|refine go ?_|refine IG a6 EV ?_|refine IR EV ?_|(apply bB;refine bq ?_)|fail)
  exact IP IB
def nQ (f:aL) (kind:Int) (r:cb):Int:=if (r.Calls.length:Int) > 6 then 2 else if (r.Calls.length:Int) > 0∧kind≠4 then 40 else (dM r.Calls (xg f r)).1
set_option maxHeartbeats 1000000 in
theorem yt (f:aL) (kind:Int) (r:cb):bZ Tryz.prog 239 [cr f,aP kind,.agg (bE r)] (aP (nQ f kind r)):=by
 refine aX Tryz.func239 rfl Tryz.ntmps239 rfl fun B=>?_
 unfold nQ
 have hL:(r.Calls.map dI).length=r.Calls.length:=Jt ..
 rw [←hL]
 repeat' (first|refine go ?_|refine am ?_|refine IG a6 EV ?_|refine bD ?_|fail)
 refine au rfl (fun h=>?_) (fun h=>?_)
 ·rw [if_pos (Jy h)]
  repeat' (first|refine go ?_|refine IG a6 EV ?_)
  exact IP IB
 rw [if_neg (Jx h)]
 repeat' (first|refine go ?_|refine IG a6 EV ?_)
 refine ej [3,5] (((r.Calls.map dI).length:Int) > 0∧kind≠4) rfl (fun Q' K=>?_) (fun hC=>?_) (fun hC=>?_)
 ·repeat' (first|refine go ?_|refine IG a6 EV ?_|refine IR EV ?_|refine IT IC ?_|refine bF rfl rfl rfl (fun _=>?_) (fun _=>?_))
  all_goals exact K _ _ rfl rfl (by clear K;grind)
 ·rw [if_pos hC]
  repeat' (first|refine go ?_|refine IG a6 EV ?_)
  exact IP IB
 rw [if_neg hC]
 repeat' (first|refine go ?_|refine IG a6 EV ?_)
 refine bn [] [] (DS (u:= .fn 260 [.iptr (bE r),.iptr (ci f)]) (g:=260) rfl r.Calls _ (fun _ _=>True) [] trivial (dV (fun i x _=>B0 f r i x))) rfl rfl (Jn _) rfl fun c L1 hc=>?_
 have hc:c=cE (dM r.Calls (xg f r)):=hc
 subst hc
 unfold cE
 repeat' (first|refine go ?_|refine IG a6 EV ?_)
 exact IP IB
instance (f:aL) (kind:Int) (r:cb):AD Tryz.prog 239 [cr f,aP kind,.agg (bE r)] (aP (nQ f kind r)):=⟨yt f kind r⟩
def v6 (f:aL) (_:Nat) (l:List Int):Int:=eL (!(mo f l)) 41
def zB (f:aL) (_:Nat) (n:Int):Int:=eL (!(jk f n)) 32
def xE (kind:Int) (r:cb):Int:=eL (decide (r.X≠0∧kind≠6)) 40
def kJ (r:cb):List (List Int):=r.Back++(r.In++r.Ahead)
theorem zO (kind:Int) (r:cb):bZ Tryz.prog 228 [.iptr [aP kind],.iptr (bE r)] (cE (oS kind r,0)):=by
 refine aX Tryz.func228 rfl Tryz.ntmps228 rfl fun B=>?_
 repeat' (first|refine go ?_|refine IG a6 EV ?_|(apply bB;refine bq ?_)|fail)
 exact bk rfl rfl rfl rfl
theorem wA (f:aL) (i:Nat) (l:List Int):bZ Tryz.prog 232 [aP i,.imm 1 (aS l),.iptr (ci f)] (aP (v6 f i l)):=by
 refine aX Tryz.func232 rfl Tryz.ntmps232 rfl fun B=>?_
 repeat' (first|refine go ?_|refine IG a6 EV ?_|(apply bB;refine bq ?_)|fail)
 exact IP IB
theorem zP (f:aL) (r:cb) (h:r.Back.length≤6∧r.In.length≤6∧r.Ahead.length≤6):bZ Tryz.prog 230 [.iptr (bE r),.iptr (ci f)] (cE (dM (kJ r) (v6 f))):=by
 refine aX Tryz.func230 rfl Tryz.ntmps230 rfl fun B=>?_
 repeat' (first|refine go ?_|refine IG a6 EV ?_|refine bG a6 ?_|fail)
 refine bq (hc:=⟨pM [r.Back,r.In,r.Ahead] (by simp [gx];omega)⟩) ?_
 rw [show ([r.Back,r.In,r.Ahead]:List (List (List Int))).flatten=kJ r by simp [kJ]]
 repeat' (first|refine IG a6 EV ?_)
 refine bn [] [] (DQ (u:= .fn 232 [.iptr (ci f)]) (g:=232) rfl (kJ r) _ (fun _ _=>True) [] trivial (dV (fun i x _=>wA f i x))) rfl rfl (Jn _) rfl fun c L1 hc=>?_
 have hc:c=cE (dM (kJ r) (v6 f)):=hc
 subst hc
 unfold cE
 repeat' (first|refine go ?_|refine IG a6 EV ?_)
 exact bk rfl rfl rfl rfl
theorem zQ (kind:Int) (r:cb) (hin:r.In≠[]):bZ Tryz.prog 234 [.iptr [aP kind],.iptr (bE r)] (cE (eL (!(p9 kind r)) 40,0)):=by
 refine aX Tryz.func234 rfl Tryz.ntmps234 rfl fun B=>?_
 repeat' (first|refine go ?_|refine IG a6 EV ?_)
 refine bq (hc:=⟨Ej kind r hin⟩) ?_
 repeat' (first|refine go ?_|refine IG a6 EV ?_|(apply bB;refine bq ?_)|fail)
 exact bk rfl rfl rfl rfl
theorem wB (f:aL) (i:Nat) (n:Int):bZ Tryz.prog 237 [aP i,aP n,.iptr (ci f)] (aP (zB f i n)):=by
 refine aX Tryz.func237 rfl Tryz.ntmps237 rfl fun B=>?_
 repeat' (first|refine go ?_|refine IG a6 EV ?_|(apply bB;refine bq ?_)|fail)
 exact IP IB
theorem zS (f:aL) (r:cb):bZ Tryz.prog 236 [.iptr (bE r),.iptr (ci f)] (cE (dM r.Out (zB f))):=by
 refine aX Tryz.func236 rfl Tryz.ntmps236 rfl fun B=>?_
 repeat' (first|refine go ?_|refine IG a6 EV ?_)
 refine bn [] [] (mW (u:= .fn 237 [.iptr (ci f)]) (g:=237) rfl r.Out _ (fun _ _=>True) [] trivial (dV (fun i x _=>wB f i x))) rfl rfl (Jn _) rfl fun c L1 hc=>?_
 have hc:c=cE (dM r.Out (zB f)):=hc
 subst hc
 unfold cE
 repeat' (first|refine go ?_|refine IG a6 EV ?_)
 exact bk rfl rfl rfl rfl
theorem zT (f:aL) (kind:Int) (r:cb):bZ Tryz.prog 238 [.iptr (ci f),.iptr [aP kind],.iptr (bE r)] (cE (nQ f kind r,0)):=by
 refine aX Tryz.func238 rfl Tryz.ntmps238 rfl fun B=>?_
 repeat' (first|refine go ?_|refine IG a6 EV ?_|(apply bB;refine bq ?_)|fail)
 exact bk rfl rfl rfl rfl
theorem zU (r:cb):bZ Tryz.prog 240 [.iptr (bE r)] (cE (eL (!([r.X].all hQ)) 1,0)):=by
 refine aX Tryz.func240 rfl Tryz.ntmps240 rfl fun B=>?_
 repeat' (first|refine go ?_|refine IG a6 EV ?_|refine bG a6 ?_|(apply bB;refine bq ?_)|fail)
 exact bk rfl rfl rfl rfl
theorem zV (kind:Int) (r:cb):bZ Tryz.prog 241 [.iptr (bE r),.iptr [aP kind]] (cE (xE kind r,0)):=by
 refine aX Tryz.func241 rfl Tryz.ntmps241 rfl fun B=>?_
 unfold xE
 by_cases h:r.X≠0
 ·rw [show decide (r.X≠0∧kind≠6)=decide (kind≠6) from decide_eq_decide.2 ⟨fun q=>q.2,fun q=>⟨h,q⟩⟩]
  repeat' (first|refine go ?_|refine IG a6 EV ?_)
  rw [decide_eq_true h]
  repeat' (first|refine go ?_|refine IG a6 EV ?_|refine IR EV ?_|(apply bB;refine bq ?_)|fail)
  exact bk rfl rfl rfl rfl
 ·rw [show decide (r.X≠0∧kind≠6)=false from decide_eq_false (fun q=>h q.1)]
  repeat' (first|refine go ?_|refine IG a6 EV ?_)
  rw [decide_eq_false h]
  repeat' (first|refine go ?_|refine IG a6 EV ?_|refine IT IC ?_|(apply bB;refine bq ?_)|fail)
  exact bk rfl rfl rfl rfl
def jS (f:aL) (kind:Int) (r:cb):Int:=(gX [(oS kind r,0),dM (kJ r) (v6 f),(eL (!(p9 kind r)) 40,0),dM r.Out (zB f),(nQ f kind r,0),(eL (!([r.X].all hQ)) 1,0),(xE kind r,0)]).1
set_option maxHeartbeats 1000000 in
theorem Cx (f:aL) (kind:Int) (r:cb):bZ Tryz.prog 186 [cr f,aP kind,.agg (bE r)] (aP (jS f kind r)):=by
 refine aX Tryz.func186 rfl Tryz.ntmps186 rfl fun B=>?_
 repeat' (first|refine go ?_|refine IG a6 EV ?_|refine bD ?_|refine bG a6 ?_|fail)
 refine bn [] [] (jC [⟨228,[.iptr [aP kind],.iptr (bE r)],[],oS kind r,0⟩,⟨230,[.iptr (bE r),.iptr (ci f)],[],(dM (kJ r) (v6 f)).1,(dM (kJ r) (v6 f)).2⟩,⟨234,[.iptr [aP kind],.iptr (bE r)],[],eL (!(p9 kind r)) 40,0⟩,⟨236,[.iptr (bE r),.iptr (ci f)],[],(dM r.Out (zB f)).1,(dM r.Out (zB f)).2⟩,⟨238,[.iptr (ci f),.iptr [aP kind],.iptr (bE r)],[],nQ f kind r,0⟩,⟨240,[.iptr (bE r)],[],eL (!([r.X].all hQ)) 1,0⟩,⟨241,[.iptr (bE r),.iptr [aP kind]],[],xE kind r,0⟩] ?_) rfl rfl (Jn _) rfl fun c L1 hc=>?_
 ·exact ⟨⟨inferInstance,zO kind r⟩,fun h1=>⟨⟨inferInstance,zP f r (xT h1).2⟩,fun _=>⟨⟨inferInstance,zQ kind r (xT h1).1⟩,fun _=>⟨⟨inferInstance,zS f r⟩,fun _=>⟨⟨inferInstance,zT f kind r⟩,fun _=>⟨⟨inferInstance,zU r⟩,fun _=>⟨⟨inferInstance,zV kind r⟩,fun _=>trivial⟩⟩⟩⟩⟩⟩⟩
 rw [kq] at hc
 subst hc
 unfold cE
 repeat' (first|refine go ?_|refine IG a6 EV ?_)
 exact IP IB
instance (f:aL) (kind:Int) (r:cb):AD Tryz.prog 186 [cr f,aP kind,.agg (bE r)] (aP (jS f kind r)):=⟨Cx f kind r⟩
theorem oJ (l:bj):bZ Tryz.prog 181 [.iptr (bi l)] (cE (eL (decide ((l.Rules.length:Int) > 60)) 2,0)):=by
 refine aX Tryz.func181 rfl Tryz.ntmps181 rfl fun B=>?_
 rw [show (l.Rules.length:Int)=((l.Rules.map bE).length:Int) by rw [Jt]]
 repeat' (first|refine go ?_|refine IG a6 EV ?_|(apply bB;refine bq ?_)|fail)
 exact bk rfl rfl rfl rfl
def tC (l:bj):Int:=eL (decide (l.Kind=7∨l.Kind=8) && decide ((l.Rules.length:Int) > 0)) 40
theorem oK (l:bj) (b:Bool) (hb:b=decide (l.Kind=7∨l.Kind=8)):bZ Tryz.prog 182 [.iptr [cM b],.iptr (bi l)] (cE (tC l,0)):=by
 refine aX Tryz.func182 rfl Tryz.ntmps182 rfl fun B=>?_
 unfold tC
 rw [←hb,show (l.Rules.length:Int)=((l.Rules.map bE).length:Int) by rw [Jt]]
 cases b
 ·repeat' (first|refine go ?_|refine IG a6 EV ?_|refine IT IC ?_|(apply bB;refine bq ?_)|fail)
  exact bk rfl rfl rfl rfl
 ·repeat' (first|refine go ?_|refine IG a6 EV ?_|refine IR EV ?_|(apply bB;refine bq ?_)|fail)
  exact bk rfl rfl rfl rfl
theorem sD (f:aL) (l:bj) (i:Nat) (r:cb):bZ Tryz.prog 185 [aP i,.agg (bE r),.iptr (ci f),.iptr (bi l)] (aP (jS f l.Kind r)):=by
 refine aX Tryz.func185 rfl Tryz.ntmps185 rfl fun B=>?_
 repeat' (first|refine go ?_|refine IG a6 EV ?_|refine bD ?_|(apply bB;refine bq ?_)|fail)
 exact IP IB
theorem oL (f:aL) (l:bj):bZ Tryz.prog 183 [.iptr (bi l),.iptr (ci f)] (cE (dM l.Rules fun _ r=>jS f l.Kind r)):=by
 refine aX Tryz.func183 rfl Tryz.ntmps183 rfl fun B=>?_
 repeat' (first|refine go ?_|refine IG a6 EV ?_)
 refine bn [] [] (DF (u:= .fn 185 [.iptr (ci f),.iptr (bi l)]) (g:=185) rfl l.Rules _ (fun _ _=>True) [] trivial (dV (w:=fun _ r=>jS f l.Kind r) (fun i x _=>sD f l i x))) rfl rfl (Jn _) rfl fun c L1 hc=>?_
 have hc:c=cE (dM l.Rules fun _ r=>jS f l.Kind r):=hc
 subst hc
 unfold cE
 repeat' (first|refine go ?_|refine IG a6 EV ?_)
 exact bk rfl rfl rfl rfl
def kr (f:aL) (l:bj):Int:=if l.Kind < 1∨l.Kind > 8 then 42 else (gX [(eL (decide ((l.Rules.length:Int) > 60)) 2,0),(tC l,0),dM l.Rules fun _ r=>jS f l.Kind r]).1
set_option maxHeartbeats 1000000 in
theorem wa (f:aL) (l:bj):bZ Tryz.prog 128 [cr f,.agg (bi l)] (aP (kr f l)):=by
 refine aX Tryz.func128 rfl Tryz.ntmps128 rfl fun B=>?_
 unfold kr
 repeat' (first|refine go ?_|refine IG a6 EV ?_|refine bD ?_|fail)
 refine ej [2,3] (l.Kind < 1∨l.Kind > 8) rfl (fun Q' K=>?_) (fun hC=>?_) (fun hC=>?_)
 ·repeat' (first|refine go ?_|refine IG a6 EV ?_|refine IR EV ?_|refine IT IC ?_|refine bF rfl rfl rfl (fun _=>?_) (fun _=>?_))
  all_goals exact K _ _ rfl rfl (by clear K;grind)
 ·rw [if_pos hC]
  repeat' (first|refine go ?_|refine IG a6 EV ?_)
  exact IP IB
 rw [if_neg hC]
 repeat' (first|refine go ?_|refine IG a6 EV ?_)
 by_cases h7:l.Kind=7
 ·rw [decide_eq_true h7]
  repeat' (first|refine go ?_|refine IG a6 EV ?_|refine IT IC ?_|(apply aJ;first|refine II 5 a6 0 IF ?_|refine II 5 a6 1 IF ?_|refine II 5 a6 2 IF ?_|refine IH a6 0 IE ?_|refine IH a6 1 IE ?_|refine IH a6 2 IE ?_|refine IH a6 3 IE ?_|fail)|refine bc a6 fun _=>?_|refine bG a6 ?_|fail)
  refine bn [] [] (jC [⟨181,[.iptr (bi l)],[],eL (decide ((l.Rules.length:Int) > 60)) 2,0⟩,⟨182,[.iptr [cM true],.iptr (bi l)],[],tC l,0⟩,⟨183,[.iptr (bi l),.iptr (ci f)],[],(dM l.Rules fun _ r=>jS f l.Kind r).1,(dM l.Rules fun _ r=>jS f l.Kind r).2⟩] ⟨⟨inferInstance,oJ l⟩,fun _=>⟨⟨inferInstance,oK l true (decide_eq_true (Or.inl h7)).symm⟩,fun _=>⟨⟨inferInstance,oL f l⟩,fun _=>trivial⟩⟩⟩) rfl rfl (Jn _) rfl fun c L1 hc=>?_
  rw [kq] at hc
  subst hc
  unfold cE
  repeat' (first|refine go ?_|refine IG a6 EV ?_)
  exact IP IB
 ·rw [decide_eq_false h7]
  repeat' (first|refine go ?_|refine IG a6 EV ?_|refine IR EV ?_|(apply aJ;first|refine II 5 a6 0 IF ?_|refine II 5 a6 1 IF ?_|refine II 5 a6 2 IF ?_|refine IH a6 0 IE ?_|refine IH a6 1 IE ?_|refine IH a6 2 IE ?_|refine IH a6 3 IE ?_|fail)|refine bc a6 fun _=>?_|refine bG a6 ?_|fail)
  refine bn [] [] (jC [⟨181,[.iptr (bi l)],[],eL (decide ((l.Rules.length:Int) > 60)) 2,0⟩,⟨182,[.iptr [cM (decide (l.Kind=8))],.iptr (bi l)],[],tC l,0⟩,⟨183,[.iptr (bi l),.iptr (ci f)],[],(dM l.Rules fun _ r=>jS f l.Kind r).1,(dM l.Rules fun _ r=>jS f l.Kind r).2⟩] ⟨⟨inferInstance,oJ l⟩,fun _=>⟨⟨inferInstance,oK l (decide (l.Kind=8)) (decide_eq_decide.2 ⟨Or.inr,fun h=>h.resolve_left h7⟩)⟩,fun _=>⟨⟨inferInstance,oL f l⟩,fun _=>trivial⟩⟩⟩) rfl rfl (Jn _) rfl fun c L1 hc=>?_
  rw [kq] at hc
  subst hc
  unfold cE
  repeat' (first|refine go ?_|refine IG a6 EV ?_)
  exact IP IB
instance (f:aL) (l:bj):AD Tryz.prog 128 [cr f,.agg (bi l)] (aP (kr f l)):=⟨wa f l⟩
theorem sE (f:aL) (i:Nat) (l:bj):bZ Tryz.prog 127 [aP i,.agg (bi l),.iptr (ci f)] (aP (kr f l)):=by
 refine aX Tryz.func127 rfl Tryz.ntmps127 rfl fun B=>?_
 repeat' (first|refine go ?_|refine IG a6 EV ?_|refine bD ?_|(apply bB;refine bq ?_)|fail)
 exact IP IB
end Go.Proofs.YtjjpkibjffmceaaGreat
