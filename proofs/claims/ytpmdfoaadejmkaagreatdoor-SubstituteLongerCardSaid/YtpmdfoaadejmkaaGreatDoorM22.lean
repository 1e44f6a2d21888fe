/-
  The program: rules, lookups, as check looks at them.
-/
import Derived.Test.YtpmdfoaadejmkaaGreatDoorM21
namespace Go.Proofs.YtpmdfoaadejmkaaGreatDoor
open Go.RowKit
attribute [local irreducible] AT br AX AO Av Kt bb df DA cC
def jM (l:List Int):Bool:=decide (∀i,i < l.length - 1→l.getD i 0 < l.getD (i+1) 0)
theorem kD {l:List Int} {i:Nat} {z:Int} (h:l[i]?=some z):l.getD i 0=z:=by simp [h]
theorem w3 (l:List Int):bN Tryz.prog 253 [.imm 1 (aT l)] (ej (jM l)):=by
 refine aN Tryz.func253 rfl Tryz.ntmps253 rfl fun B=>?_
 refine cK 0 rfl rfl fun hlen=>?_
 have hll:=aZ l
 rw [aZ] at hlen
 repeat' (first|refine If ?_|refine ak ?_|refine IF a5 FN ?_)
 refine aO [0] (α:=Nat) (fun i=>[(3,aF (i+1:Nat))]) (fun i=>i≤l.length∧∀j,j < i→j+1 < l.length→l.getD j 0 < l.getD (j+1) 0) (fun _=>[]) (fun i=>l.length - i) 0 rfl ⟨rfl,trivial⟩ ⟨Nat.zero_le _,fun j hj=>absurd hj (Nat.not_lt_zero _)⟩ (fun _ _ h=>h) fun i ⟨hi,hall⟩=>?_
 try dsimp only [Is,Ir,Iq,Ik]
 repeat' (first|refine If ?_|refine IF a5 FN ?_)
 refine aq rfl (fun h=>?_) (fun h=>?_)
 ·have hil:i+1 < l.length:=by have:=Iy h;rw [aZ] at this;omega
  obtain ⟨y,hy⟩:∃z,l[i]?=some z:=⟨_,Iz (by omega)⟩
  obtain ⟨z,hz⟩:∃z,l[i+1]?=some z:=⟨_,Iz hil⟩
  have hyg:(aT l)[(((i+1:Nat):Int) - 1).toNat]?=some [aF y]:=by rw [show (((i+1:Nat):Int) - 1).toNat=i by omega];exact bR hy
  have hzg:=bR hz
  repeat' (first|refine If ?_|refine ak ?_)
  refine bz 9 [(0,.v),(1,.v),(2,.v),(3,.v),(4,.v),(5,.v),(6,.v),(7,.v),(8,.v)] none ?_ trivial rfl (by kernel_rfl) (by kernel_rfl) (by kernel_rfl) bT (by kernel_rfl) rfl
  repeat' (first|refine aC ?_|refine b6 a5 ?_|(apply dW;refine fz ?_)|(apply cB;refine cS a5 ?_)|fail)
  refine IQ [0,3,13,18] FN ?_
  repeat' (first|refine If ?_|refine a7 ?_|refine IF a5 FN ?_)
  refine aq rfl (fun h2=>?_) (fun h2=>?_)
  ·have h2':=Iy h2
   repeat' (first|refine If ?_|refine IF a5 FN ?_)
   refine IL FN ?_
   rw [show jM l=false from decide_eq_false (fun hh=>by have:=hh i (by omega);rw [kD hy,kD hz] at this;omega)]
  ·have h2':=Ix h2
   repeat' (first|refine If ?_|refine IF a5 FN ?_|(apply aV;refine aU ?_)|fail)
   refine aD (i+1) rfl ⟨by rw [Iv (i+1) 1];rfl,trivial⟩ ⟨by omega,fun j hj hjl=>?_⟩ (by omega) (fun _ _ h=>h)
   by_cases e:j=i
   ·subst e;rw [kD hy,kD hz];omega
   ·exact hall j (by omega) hjl
 ·have hil:l.length≤i+1:=by have:=Ix h;rw [aZ] at this;omega
  repeat' (first|refine If ?_|refine IF a5 FN ?_)
  refine IL FN ?_
  rw [show jM l=true from decide_eq_true (fun j hj=>hall j (by omega) (by omega))]
instance (l:List Int):AD Tryz.prog 253 [.imm 1 (aT l)] (ej (jM l)):=⟨w3 l⟩
def lL (f:aY) (l:List Int):Bool:=decide (0 < l.length) && (jM l && (kF f (l.getD 0 0) && kF f (l.getD (l.length - 1) 0)))
set_option maxHeartbeats 1000000 in
theorem yb (f:aY) (l:List Int):bN Tryz.prog 218 [cQ f,.imm 1 (aT l)] (ej (lL f l)):=by
 refine aN Tryz.func218 rfl Tryz.ntmps218 rfl fun B=>?_
 refine cK 1 rfl rfl fun hlen=>?_
 cases l with
 | nil=>
  repeat' (first|refine If ?_|refine IF a5 FN ?_|refine bk ?_|fail)
  refine bz 24 [(0,.v),(1,.v),(2,.v),(3,.v),(4,.v),(5,.v),(6,.v),(7,.v),(8,.v),(9,.v),(10,.v),(11,.v),(12,.v),(13,.v),(14,.v),(15,.v),(16,.v),(17,.v),(18,.v),(19,.v),(20,.v),(21,.v),(22,.v),(23,.v)] none ?_ trivial rfl (by kernel_rfl) (by kernel_rfl) (by kernel_rfl) bT (by kernel_rfl) rfl
  repeat' (first|refine aC ?_|refine b6 a5 ?_|refine qX rfl rfl ?_)
  refine IQ [28] FN ?_
  repeat' (first|refine If ?_|refine a7 ?_|refine IF a5 FN ?_)
  exact IM IA
 | cons y q=>
  have hll:(aT (y::q)).length=q.length+1:=by rw [aZ];rfl
  rw [hll] at hlen
  obtain ⟨z,hz⟩:∃z,(y::q)[q.length]?=some z:=⟨_,Iz (by simp)⟩
  have hzg:(aT (y::q))[((((aT (y::q)).length:Nat):Int) - 1).toNat]?=some [aF z]:=by rw [show ((((aT (y::q)).length:Nat):Int) - 1).toNat=q.length by rw [hll];omega];exact bR hz
  have hyg:(aT (y::q))[(0:Int).toNat]?=some [aF y]:=rfl
  have hval:lL f (y::q)=(jM (y::q) && (kF f y && kF f z)):=by
   unfold lL
   rw [show (y::q).length - 1=q.length by simp,kD hz]
   simp
  rw [hval]
  have hpos:decide (0 < (((aT (y::q)).length:Nat):Int))=true:=decide_eq_true (by rw [hll];omega)
  repeat' (first|refine If ?_|refine IF a5 FN ?_|refine bk ?_|fail)
  refine bz 24 [(0,.v),(1,.v),(2,.v),(3,.v),(4,.v),(5,.v),(6,.v),(7,.v),(8,.v),(9,.v),(10,.v),(11,.v),(12,.v),(13,.v),(14,.v),(15,.v),(16,.v),(17,.v),(18,.v),(19,.v),(20,.v),(21,.v),(22,.v),(23,.v)] none ?_ trivial rfl (by kernel_rfl) (by kernel_rfl) (by kernel_rfl) bT (by kernel_rfl) rfl
  repeat' (first|refine aC ?_|refine b6 a5 ?_|fail)
  rw [hpos]
  repeat' (first|refine aC ?_|refine b6 a5 ?_|(apply dy;refine eh ?_)|fail)
  generalize jM (y::q)=b1
  cases b1
  ·repeat' (first|refine aC ?_|refine b6 a5 ?_|refine qX rfl rfl ?_)
   refine IQ [28] FN ?_
   repeat' (first|refine If ?_|refine a7 ?_|refine IF a5 FN ?_)
   exact IM IA
  repeat' (first|refine aC ?_|refine b6 a5 ?_|(apply cB;refine cS a5 ?_)|(apply dy;refine eh ?_)|fail)
  generalize kF f y=b2
  cases b2
  ·repeat' (first|refine aC ?_|refine b6 a5 ?_|refine qX rfl rfl ?_)
   refine IQ [28] FN ?_
   repeat' (first|refine If ?_|refine a7 ?_|refine IF a5 FN ?_)
   exact IM IA
  repeat' (first|refine aC ?_|refine b6 a5 ?_|(apply dW;refine fz ?_)|(apply cB;refine cS a5 ?_)|(apply dy;refine eh ?_)|fail)
  refine IQ [28] FN ?_
  repeat' (first|refine If ?_|refine a7 ?_|refine IF a5 FN ?_)
  exact IM IA
instance (f:aY) (l:List Int):AD Tryz.prog 218 [cQ f,.imm 1 (aT l)] (ej (lL f l)):=⟨yb f l⟩
def eG (kind:Int) (r:b8):Bool:=if kind=1∨kind=2∨kind=5 then decide ((r.In.length:Int)≠1) else if kind=6 then decide ((r.In.length:Int)≠2∨(r.Back.length:Int) > 0∨(r.Ahead.length:Int) > 0) else decide ((r.In.length:Int)=0)
def lw (kind:Int) (r:b8):Int:=if (r.Back.length:Int) > 6∨(r.In.length:Int) > 6∨(r.Ahead.length:Int) > 6 then 2 else dK (eG kind r) 40
set_option maxHeartbeats 1000000 in
theorem BK (kind:Int) (r:b8):bN Tryz.prog 213 [aF kind,.agg (bA r)] (aF (lw kind r)):=by
 refine aN Tryz.func213 rfl Tryz.ntmps213 rfl fun B=>?_
 unfold lw eG
 have hB:=cq r.Back
 have hI:=cq r.In
 have hA:=cq r.Ahead
 rw [←hB,←hI,←hA]
 repeat' (first|refine If ?_|refine IF a5 FN ?_|refine bk ?_|fail)
 refine c9 [0,3] (((b7 r.Back).length:Int) > 6∨((b7 r.In).length:Int) > 6∨((b7 r.Ahead).length:Int) > 6) rfl (fun Q' K=>?_) (fun hC=>?_) (fun hC=>?_)
 ·repeat' (first|refine If ?_|refine IF a5 FN ?_|refine IN FN ?_|refine IP IB ?_|refine IR IA (fun _=>?_) (fun _=>?_))
  all_goals exact K _ _ rfl rfl (by clear K;grind)
 ·rw [if_pos hC]
  repeat' (first|refine If ?_|refine IF a5 FN ?_)
  exact IM IA
 rw [if_neg hC]
 by_cases h1:kind=1
 ·subst h1
  repeat' (first|refine If ?_|refine ak ?_|refine IF a5 FN ?_|(apply bv;refine bn ?_)|refine bQ rfl ?_)
  exact IM IA
 by_cases h2:kind=2
 ·subst h2
  repeat' (first|refine If ?_|refine ak ?_|refine IF a5 FN ?_|(apply bv;refine bn ?_)|refine bQ rfl ?_|refine bI rfl ?_)
  exact IM IA
 by_cases h5:kind=5
 ·subst h5
  repeat' (first|refine If ?_|refine ak ?_|refine IF a5 FN ?_|(apply bv;refine bn ?_)|refine bQ rfl ?_|refine bI rfl ?_)
  exact IM IA
 rw [if_neg (by omega)]
 by_cases h6:kind=6
 ·subst h6
  rw [if_pos rfl]
  repeat' (first|refine If ?_|refine ak ?_|refine IF a5 FN ?_|refine bQ rfl ?_|refine bI rfl ?_)
  refine da (t:=5) [] (((b7 r.In).length:Int)≠2∨((b7 r.Back).length:Int) > 0∨((b7 r.Ahead).length:Int) > 0) rfl (fun Q' K=>?_) ?_
  ·repeat' (first|refine If ?_|refine IF a5 FN ?_|refine IN FN ?_|refine IP IB ?_|refine IR IA (fun _=>?_) (fun _=>?_))
   all_goals exact K _ _ rfl rfl (by clear K;grind)
  repeat' (first|refine If ?_|refine IF a5 FN ?_|(apply bv;refine bn ?_)|fail)
  exact IM IA
 rw [if_neg h6]
 repeat' (first|refine If ?_|refine ak ?_|refine IF a5 FN ?_)
 refine aq rfl (fun h=>absurd (Iy h) h1) (fun h=>?_)
 repeat' (first|refine If ?_|refine IF a5 FN ?_)
 refine aq rfl (fun h=>absurd (Iy h) h2) (fun h=>?_)
 repeat' (first|refine If ?_|refine IF a5 FN ?_)
 refine aq rfl (fun h=>absurd (Iy h) h5) (fun h=>?_)
 rw [decide_eq_false h5]
 repeat' (first|refine If ?_|refine IF a5 FN ?_)
 refine aq rfl (fun h=>absurd (Iy h) h6) (fun h=>?_)
 repeat' (first|refine If ?_|refine IF a5 FN ?_|(apply bv;refine bn ?_)|fail)
 exact IM IA
instance (kind:Int) (r:b8):AD Tryz.prog 213 [aF kind,.agg (bA r)] (aF (lw kind r)):=⟨BK kind r⟩
theorem xb {kind:Int} {r:b8} (h:lw kind r=0):r.In≠[]∧r.Back.length≤6∧r.In.length≤6∧r.Ahead.length≤6:=by
 unfold lw at h
 split at h
 ·cases h
 ·rename_i hc
  refine ⟨fun e=>?_,by omega,by omega,by omega⟩
  have hw:eG kind r=true:=by
   unfold eG
   rw [e]
   split
   ·decide
   ·split <;> simp
  rw [hw] at h
  cases h
def oA (kind:Int) (r:b8):Bool:=if kind=1∨kind=5 then decide ((r.Out.length:Int)=((r.In.headD []).length:Int)) else if kind=2 then decide ((r.Out.length:Int)≤6) else if kind=3 then decide ((r.Out.length:Int)=1) else decide ((r.Out.length:Int)=0)
set_option maxHeartbeats 1000000 in
theorem Ds (kind:Int) (r:b8) (hin:r.In≠[]):bN Tryz.prog 220 [aF kind,.agg (bA r)] (ej (oA kind r)):=by
 refine aN Tryz.func220 rfl Tryz.ntmps220 rfl fun B=>?_
 obtain ⟨y,hy⟩:∃y,r.In[0]?=some y:=⟨_,Iz (List.length_pos_iff.2 hin)⟩
 have hyg:=i3 hy
 have hv:oA kind r=if kind=1∨kind=5 then decide (((aT r.Out).length:Int)=((aT y).length:Int)) else if kind=2 then decide (((aT r.Out).length:Int)≤6) else if kind=3 then decide (((aT r.Out).length:Int)=1) else decide (((aT r.Out).length:Int)=0):=by
  have hd:r.In.headD []=y:=by
   cases hI:r.In with
   | nil=>exact absurd hI hin
   | cons y' q=>rw [hI] at hy;simpa using hy
  unfold oA
  rw [hd,aZ,aZ]
 rw [hv]
 by_cases h1:kind=1
 ·subst h1
  repeat' (first|refine If ?_|refine ak ?_|refine IF a5 FN ?_|refine bk ?_|refine bQ rfl ?_)
  refine bz 8 [(0,.v),(1,.v),(2,.v),(3,.v),(4,.v),(5,.v),(6,.v),(7,.v)] none ?_ trivial rfl (by kernel_rfl) (by kernel_rfl) (by kernel_rfl) bT (by kernel_rfl) rfl
  repeat' (first|refine aC ?_|refine b6 a5 ?_|(apply cB;refine cS a5 ?_)|fail)
  refine IQ [11,16] FN ?_
  repeat' (first|refine If ?_|refine a7 ?_|refine IF a5 FN ?_)
  exact IM IA
 by_cases h5:kind=5
 ·subst h5
  repeat' (first|refine If ?_|refine ak ?_|refine IF a5 FN ?_|refine bk ?_|refine bQ rfl ?_|refine bI rfl ?_)
  refine bz 8 [(0,.v),(1,.v),(2,.v),(3,.v),(4,.v),(5,.v),(6,.v),(7,.v)] none ?_ trivial rfl (by kernel_rfl) (by kernel_rfl) (by kernel_rfl) bT (by kernel_rfl) rfl
  repeat' (first|refine aC ?_|refine b6 a5 ?_|(apply cB;refine cS a5 ?_)|fail)
  refine IQ [11,16] FN ?_
  repeat' (first|refine If ?_|refine a7 ?_|refine IF a5 FN ?_)
  exact IM IA
 rw [if_neg (by omega)]
 by_cases h2:kind=2
 ·subst h2
  repeat' (first|refine If ?_|refine ak ?_|refine IF a5 FN ?_|refine bk ?_|refine bQ rfl ?_|refine bI rfl ?_)
  exact IM IA
 rw [if_neg h2]
 by_cases h3:kind=3
 ·subst h3
  repeat' (first|refine If ?_|refine ak ?_|refine IF a5 FN ?_|refine bk ?_|refine bQ rfl ?_|refine bI rfl ?_)
  exact IM IA
 rw [if_neg h3]
 repeat' (first|refine If ?_|refine ak ?_|refine IF a5 FN ?_|refine bk ?_|fail)
 refine aq rfl (fun h=>absurd (Iy h) h1) (fun h=>?_)
 repeat' (first|refine If ?_|refine IF a5 FN ?_)
 refine aq rfl (fun h=>absurd (Iy h) h5) (fun h=>?_)
 rw [decide_eq_false h5]
 repeat' (first|refine If ?_|refine IF a5 FN ?_)
 refine aq rfl (fun h=>absurd (Iy h) h2) (fun h=>?_)
 repeat' (first|refine If ?_|refine IF a5 FN ?_)
 refine aq rfl (fun h=>absurd (Iy h) h3) (fun h=>?_)
 repeat' (first|refine If ?_|refine IF a5 FN ?_)
 exact IM IA
def pC (f:aY) (n:Int):Int:=match f.Lookups[n.toNat]? with | some l=>l.Kind | none=>0
def tu (f:aY) (r:b8) (_:Nat) (c:gD):Int:=if c.At < 0∨c.At≥r.In.length then 40 else if c.Lookup < 0∨c.Lookup≥f.Lookups.length then 42 else dK (decide (pC f c.Lookup < 1∨pC f c.Lookup > 4)) 42
set_option maxHeartbeats 1000000 in
theorem zS (f:aY) (r:b8) (i:Nat) (c:gD):bN Tryz.prog 273 [aF i,.agg (eS c),.iptr (bA r),.iptr (cx f)] (aF (tu f r i c)):=by
 refine aN Tryz.func273 rfl Tryz.ntmps273 rfl fun B=>?_
 unfold tu
 have hI:=cq r.In
 have hL:(f.Lookups.map bC).length=f.Lookups.length:=Iu ..
 rw [←hI]
 repeat' (first|refine If ?_|refine ak ?_|refine IF a5 FN ?_|refine bk ?_|fail)
 refine c9 [3,5] (c.At < 0∨c.At≥((b7 r.In).length:Int)) rfl (fun Q' K=>?_) (fun hC=>?_) (fun hC=>?_)
 ·repeat' (first|refine If ?_|refine IF a5 FN ?_|refine IN FN ?_|refine IP IB ?_|refine IR IA (fun _=>?_) (fun _=>?_))
  all_goals exact K _ _ rfl rfl (by clear K;grind)
 ·rw [if_pos hC]
  repeat' (first|refine If ?_|refine IF a5 FN ?_)
  exact IM IA
 rw [if_neg hC]
 repeat' (first|refine If ?_|refine IF a5 FN ?_)
 refine c9 [3,5] (c.Lookup < 0∨c.Lookup≥f.Lookups.length) rfl (fun Q' K=>?_) (fun hC=>?_) (fun hC=>?_)
 ·repeat' (first|refine If ?_|refine IF a5 FN ?_|refine IN FN ?_|refine IP IB ?_|refine IR IA (fun _=>?_) (fun _=>?_))
  all_goals exact K _ _ rfl rfl (by clear K;grind)
 ·rw [if_pos hC]
  repeat' (first|refine If ?_|refine IF a5 FN ?_)
  exact IM IA
 rw [if_neg hC]
 obtain ⟨l,hl⟩:∃l,f.Lookups[c.Lookup.toNat]?=some l:=⟨_,Iz (by omega)⟩
 have hlg:=cw (c:=bC) hl
 have hk:pC f c.Lookup=l.Kind:=by unfold pC;rw [hl]
 rw [hk]
 repeat' (first|refine If ?_|refine IF a5 FN ?_|(apply aS;first|refine aR a5 ?_|refine aH a5 ?_)|fail)
 by_cases h1:l.Kind < 1
 ·rw [decide_eq_true h1,decide_eq_true (Or.inl h1)]
  repeat' (first|refine If ?_|refine IF a5 FN ?_|refine IP IB ?_|(apply bv;refine bn ?_)|fail)
  exact IM IA
 ·rw [decide_eq_false h1,show decide (l.Kind < 1∨l.Kind > 4)=decide (4 < l.Kind) from decide_eq_decide.2 ⟨fun h=>h.resolve_left h1,Or.inr⟩]
  repeat' (first|refine If ?_|refine IF a5 FN ?_|refine IN FN ?_|(apply bv;refine bn ?_)|fail)
  exact IM IA
def kr (f:aY) (kind:Int) (r:b8):Int:=if (r.Calls.length:Int) > 6 then 2 else if (r.Calls.length:Int) > 0∧kind≠4 then 40 else (cU r.Calls (tu f r)).1
set_option maxHeartbeats 1000000 in
theorem xK (f:aY) (kind:Int) (r:b8):bN Tryz.prog 224 [cQ f,aF kind,.agg (bA r)] (aF (kr f kind r)):=by
 refine aN Tryz.func224 rfl Tryz.ntmps224 rfl fun B=>?_
 unfold kr
 have hL:(r.Calls.map eS).length=r.Calls.length:=Iu ..
 rw [←hL]
 repeat' (first|refine If ?_|refine ak ?_|refine IF a5 FN ?_|refine bk ?_|fail)
 refine aq rfl (fun h=>?_) (fun h=>?_)
 ·rw [if_pos (Iy h)]
  repeat' (first|refine If ?_|refine IF a5 FN ?_)
  exact IM IA
 rw [if_neg (Ix h)]
 repeat' (first|refine If ?_|refine IF a5 FN ?_)
 refine c9 [3,5] (((r.Calls.map eS).length:Int) > 0∧kind≠4) rfl (fun Q' K=>?_) (fun hC=>?_) (fun hC=>?_)
 ·repeat' (first|refine If ?_|refine IF a5 FN ?_|refine IN FN ?_|refine IP IB ?_|refine IR IA (fun _=>?_) (fun _=>?_))
  all_goals exact K _ _ rfl rfl (by clear K;grind)
 ·rw [if_pos hC]
  repeat' (first|refine If ?_|refine IF a5 FN ?_)
  exact IM IA
 rw [if_neg hC]
 repeat' (first|refine If ?_|refine IF a5 FN ?_)
 refine b9 [] [] (D9 (u:= .fn 273 [.iptr (bA r),.iptr (cx f)]) (g:=273) rfl r.Calls _ (fun _ _=>True) [] trivial (d3 (fun i x _=>zS f r i x))) rfl rfl (Io _) rfl fun c L1 hc=>?_
 have hc:c=ck (cU r.Calls (tu f r)):=hc
 subst hc
 unfold ck
 repeat' (first|refine If ?_|refine IF a5 FN ?_)
 exact IM IA
instance (f:aY) (kind:Int) (r:b8):AD Tryz.prog 224 [cQ f,aF kind,.agg (bA r)] (aF (kr f kind r)):=⟨xK f kind r⟩
def yP (f:aY) (_:Nat) (l:List Int):Int:=dK (!(lL f l)) 41
def yr (f:aY) (_:Nat) (n:Int):Int:=dK (!(kF f n)) 32
def xE (kind:Int) (r:b8):Int:=dK (decide (r.X≠0∧kind≠6)) 40
def oq (r:b8):List (List Int):=r.Back++(r.In++r.Ahead)
theorem yF (kind:Int) (r:b8):bN Tryz.prog 212 [.iptr [aF kind],.iptr (bA r)] (ck (lw kind r,0)):=by
 refine aN Tryz.func212 rfl Tryz.ntmps212 rfl fun B=>?_
 repeat' (first|refine If ?_|refine IF a5 FN ?_|(apply bv;refine bn ?_)|fail)
 exact aX rfl rfl rfl rfl
theorem w5 (f:aY) (i:Nat) (l:List Int):bN Tryz.prog 217 [aF i,.imm 1 (aT l),.iptr (cx f)] (aF (yP f i l)):=by
 refine aN Tryz.func217 rfl Tryz.ntmps217 rfl fun B=>?_
 repeat' (first|refine If ?_|refine IF a5 FN ?_|(apply bv;refine bn ?_)|fail)
 exact IM IA
theorem yG (f:aY) (r:b8) (h:r.Back.length≤6∧r.In.length≤6∧r.Ahead.length≤6):bN Tryz.prog 214 [.iptr (bA r),.iptr (cx f)] (ck (cU (oq r) (yP f))):=by
 refine aN Tryz.func214 rfl Tryz.ntmps214 rfl fun B=>?_
 repeat' (first|refine If ?_|refine IF a5 FN ?_|refine bG a5 ?_|fail)
 refine bn (hc:=⟨vf [r.Back,r.In,r.Ahead] (by simp [gz];omega)⟩) ?_
 rw [show ([r.Back,r.In,r.Ahead]:List (List (List Int))).flatten=oq r by simp [oq]]
 repeat' (first|refine IF a5 FN ?_)
 refine b9 [] [] (D7 (u:= .fn 217 [.iptr (cx f)]) (g:=217) rfl (oq r) _ (fun _ _=>True) [] trivial (d3 (fun i x _=>w5 f i x))) rfl rfl (Io _) rfl fun c L1 hc=>?_
 have hc:c=ck (cU (oq r) (yP f)):=hc
 subst hc
 unfold ck
 repeat' (first|refine If ?_|refine IF a5 FN ?_)
 exact aX rfl rfl rfl rfl
theorem yH (kind:Int) (r:b8) (hin:r.In≠[]):bN Tryz.prog 219 [.iptr [aF kind],.iptr (bA r)] (ck (dK (!(oA kind r)) 40,0)):=by
 refine aN Tryz.func219 rfl Tryz.ntmps219 rfl fun B=>?_
 repeat' (first|refine If ?_|refine IF a5 FN ?_)
 refine bn (hc:=⟨Ds kind r hin⟩) ?_
 repeat' (first|refine If ?_|refine IF a5 FN ?_|(apply bv;refine bn ?_)|fail)
 exact aX rfl rfl rfl rfl
theorem w6 (f:aY) (i:Nat) (n:Int):bN Tryz.prog 222 [aF i,aF n,.iptr (cx f)] (aF (yr f i n)):=by
 refine aN Tryz.func222 rfl Tryz.ntmps222 rfl fun B=>?_
 repeat' (first|refine If ?_|refine IF a5 FN ?_|(apply bv;refine bn ?_)|fail)
 exact IM IA
theorem yI (f:aY) (r:b8):bN Tryz.prog 221 [.iptr (bA r),.iptr (cx f)] (ck (cU r.Out (yr f))):=by
 refine aN Tryz.func221 rfl Tryz.ntmps221 rfl fun B=>?_
 repeat' (first|refine If ?_|refine IF a5 FN ?_)
 refine b9 [] [] (mf (u:= .fn 222 [.iptr (cx f)]) (g:=222) rfl r.Out _ (fun _ _=>True) [] trivial (d3 (fun i x _=>w6 f i x))) rfl rfl (Io _) rfl fun c L1 hc=>?_
 have hc:c=ck (cU r.Out (yr f)):=hc
 subst hc
 unfold ck
 repeat' (first|refine If ?_|refine IF a5 FN ?_)
 exact aX rfl rfl rfl rfl
theorem yJ (f:aY) (kind:Int) (r:b8):bN Tryz.prog 223 [.iptr (cx f),.iptr [aF kind],.iptr (bA r)] (ck (kr f kind r,0)):=by
 refine aN Tryz.func223 rfl Tryz.ntmps223 rfl fun B=>?_
 repeat' (first|refine If ?_|refine IF a5 FN ?_|(apply bv;refine bn ?_)|fail)
 exact aX rfl rfl rfl rfl
theorem yK (r:b8):bN Tryz.prog 225 [.iptr (bA r)] (ck (dK (!([r.X].all gc)) 1,0)):=by
 refine aN Tryz.func225 rfl Tryz.ntmps225 rfl fun B=>?_
 repeat' (first|refine If ?_|refine IF a5 FN ?_|refine bG a5 ?_|(apply bv;refine bn ?_)|fail)
 exact aX rfl rfl rfl rfl
theorem yL (kind:Int) (r:b8):bN Tryz.prog 226 [.iptr (bA r),.iptr [aF kind]] (ck (xE kind r,0)):=by
 refine aN Tryz.func226 rfl Tryz.ntmps226 rfl fun B=>?_
 unfold xE
 by_cases h:r.X≠0
 ·rw [show decide (r.X≠0∧kind≠6)=decide (kind≠6) from decide_eq_decide.2 ⟨fun q=>q.2,fun q=>⟨h,q⟩⟩]
  repeat' (first|refine If ?_|refine IF a5 FN ?_)
  rw [decide_eq_true h]
  repeat' (first|refine If ?_|refine IF a5 FN ?_|refine IN FN ?_|(apply bv;refine bn ?_)|fail)
  exact aX rfl rfl rfl rfl
 ·rw [show decide (r.X≠0∧kind≠6)=false from decide_eq_false (fun q=>h q.1)]
  repeat' (first|refine If ?_|refine IF a5 FN ?_)
  rw [decide_eq_false h]
  repeat' (first|refine If ?_|refine IF a5 FN ?_|refine IP IB ?_|(apply bv;refine bn ?_)|fail)
  exact aX rfl rfl rfl rfl
def ji (f:aY) (kind:Int) (r:b8):Int:=(gt [(lw kind r,0),cU (oq r) (yP f),(dK (!(oA kind r)) 40,0),cU r.Out (yr f),(kr f kind r,0),(dK (!([r.X].all gc)) 1,0),(xE kind r,0)]).1
set_option maxHeartbeats 1000000 in
theorem BO (f:aY) (kind:Int) (r:b8):bN Tryz.prog 141 [cQ f,aF kind,.agg (bA r)] (aF (ji f kind r)):=by
 refine aN Tryz.func141 rfl Tryz.ntmps141 rfl fun B=>?_
 repeat' (first|refine If ?_|refine IF a5 FN ?_|refine bk ?_|refine bG a5 ?_|fail)
 refine b9 [] [] (j3 [⟨212,[.iptr [aF kind],.iptr (bA r)],[],lw kind r,0⟩,⟨214,[.iptr (bA r),.iptr (cx f)],[],(cU (oq r) (yP f)).1,(cU (oq r) (yP f)).2⟩,⟨219,[.iptr [aF kind],.iptr (bA r)],[],dK (!(oA kind r)) 40,0⟩,⟨221,[.iptr (bA r),.iptr (cx f)],[],(cU r.Out (yr f)).1,(cU r.Out (yr f)).2⟩,⟨223,[.iptr (cx f),.iptr [aF kind],.iptr (bA r)],[],kr f kind r,0⟩,⟨225,[.iptr (bA r)],[],dK (!([r.X].all gc)) 1,0⟩,⟨226,[.iptr (bA r),.iptr [aF kind]],[],xE kind r,0⟩] ?_) rfl rfl (Io _) rfl fun c L1 hc=>?_
 ·exact ⟨⟨inferInstance,yF kind r⟩,fun h1=>⟨⟨inferInstance,yG f r (xb h1).2⟩,fun _=>⟨⟨inferInstance,yH kind r (xb h1).1⟩,fun _=>⟨⟨inferInstance,yI f r⟩,fun _=>⟨⟨inferInstance,yJ f kind r⟩,fun _=>⟨⟨inferInstance,yK r⟩,fun _=>⟨⟨inferInstance,yL kind r⟩,fun _=>trivial⟩⟩⟩⟩⟩⟩⟩
 rw [jJ] at hc
 subst hc
 unfold ck
 repeat' (first|refine If ?_|refine IF a5 FN ?_)
 exact IM IA
instance (f:aY) (kind:Int) (r:b8):AD Tryz.prog 141 [cQ f,aF kind,.agg (bA r)] (aF (ji f kind r)):=⟨BO f kind r⟩
theorem o5 (l:aL):bN Tryz.prog 136 [.iptr (bC l)] (ck (dK (decide ((l.Rules.length:Int) > 60)) 2,0)):=by
 refine aN Tryz.func136 rfl Tryz.ntmps136 rfl fun B=>?_
 rw [show (l.Rules.length:Int)=((l.Rules.map bA).length:Int) by rw [Iu]]
 repeat' (first|refine If ?_|refine IF a5 FN ?_|(apply bv;refine bn ?_)|fail)
 exact aX rfl rfl rfl rfl
def p6 (l:aL):Int:=dK (decide (l.Kind=7∨l.Kind=8) && decide ((l.Rules.length:Int) > 0)) 40
theorem o6 (l:aL) (b:Bool) (hb:b=decide (l.Kind=7∨l.Kind=8)):bN Tryz.prog 137 [.iptr [ej b],.iptr (bC l)] (ck (p6 l,0)):=by
 refine aN Tryz.func137 rfl Tryz.ntmps137 rfl fun B=>?_
 unfold p6
 rw [←hb,show (l.Rules.length:Int)=((l.Rules.map bA).length:Int) by rw [Iu]]
 cases b
 ·repeat' (first|refine If ?_|refine IF a5 FN ?_|refine IP IB ?_|(apply bv;refine bn ?_)|fail)
  exact aX rfl rfl rfl rfl
 ·repeat' (first|refine If ?_|refine IF a5 FN ?_|refine IN FN ?_|(apply bv;refine bn ?_)|fail)
  exact aX rfl rfl rfl rfl
theorem sh (f:aY) (l:aL) (i:Nat) (r:b8):bN Tryz.prog 140 [aF i,.agg (bA r),.iptr (cx f),.iptr (bC l)] (aF (ji f l.Kind r)):=by
 refine aN Tryz.func140 rfl Tryz.ntmps140 rfl fun B=>?_
 repeat' (first|refine If ?_|refine IF a5 FN ?_|refine bk ?_|(apply bv;refine bn ?_)|fail)
 exact IM IA
theorem o7 (f:aY) (l:aL):bN Tryz.prog 138 [.iptr (bC l),.iptr (cx f)] (ck (cU l.Rules fun _ r=>ji f l.Kind r)):=by
 refine aN Tryz.func138 rfl Tryz.ntmps138 rfl fun B=>?_
 repeat' (first|refine If ?_|refine IF a5 FN ?_)
 refine b9 [] [] (CW (u:= .fn 140 [.iptr (cx f),.iptr (bC l)]) (g:=140) rfl l.Rules _ (fun _ _=>True) [] trivial (d3 (w:=fun _ r=>ji f l.Kind r) (fun i x _=>sh f l i x))) rfl rfl (Io _) rfl fun c L1 hc=>?_
 have hc:c=ck (cU l.Rules fun _ r=>ji f l.Kind r):=hc
 subst hc
 unfold ck
 repeat' (first|refine If ?_|refine IF a5 FN ?_)
 exact aX rfl rfl rfl rfl
def l7 (f:aY) (l:aL):Int:=if l.Kind < 1∨l.Kind > 8 then 42 else (gt [(dK (decide ((l.Rules.length:Int) > 60)) 2,0),(p6 l,0),cU l.Rules fun _ r=>ji f l.Kind r]).1
set_option maxHeartbeats 1000000 in
theorem vJ (f:aY) (l:aL):bN Tryz.prog 62 [cQ f,.agg (bC l)] (aF (l7 f l)):=by
 refine aN Tryz.func62 rfl Tryz.ntmps62 rfl fun B=>?_
 unfold l7
 repeat' (first|refine If ?_|refine IF a5 FN ?_|refine bk ?_|fail)
 refine c9 [2,3] (l.Kind < 1∨l.Kind > 8) rfl (fun Q' K=>?_) (fun hC=>?_) (fun hC=>?_)
 ·repeat' (first|refine If ?_|refine IF a5 FN ?_|refine IN FN ?_|refine IP IB ?_|refine IR IA (fun _=>?_) (fun _=>?_))
  all_goals exact K _ _ rfl rfl (by clear K;grind)
 ·rw [if_pos hC]
  repeat' (first|refine If ?_|refine IF a5 FN ?_)
  exact IM IA
 rw [if_neg hC]
 repeat' (first|refine If ?_|refine IF a5 FN ?_)
 by_cases h7:l.Kind=7
 ·rw [decide_eq_true h7]
  repeat' (first|refine If ?_|refine IF a5 FN ?_|refine IP IB ?_|(apply aM;first|refine IH 5 a5 0 IE ?_|refine IH 5 a5 1 IE ?_|refine IH 5 a5 2 IE ?_|refine IG a5 0 ID ?_|refine IG a5 1 ID ?_|refine IG a5 2 ID ?_|refine IG a5 3 ID ?_|fail)|refine bh a5 fun _=>?_|refine bG a5 ?_|fail)
  refine b9 [] [] (j3 [⟨136,[.iptr (bC l)],[],dK (decide ((l.Rules.length:Int) > 60)) 2,0⟩,⟨137,[.iptr [ej true],.iptr (bC l)],[],p6 l,0⟩,⟨138,[.iptr (bC l),.iptr (cx f)],[],(cU l.Rules fun _ r=>ji f l.Kind r).1,(cU l.Rules fun _ r=>ji f l.Kind r).2⟩] ⟨⟨inferInstance,o5 l⟩,fun _=>⟨⟨inferInstance,o6 l true (decide_eq_true (Or.inl h7)).symm⟩,fun _=>⟨⟨inferInstance,o7 f l⟩,fun _=>trivial⟩⟩⟩) rfl rfl (Io _) rfl fun c L1 hc=>?_
  rw [jJ] at hc
  subst hc
  unfold ck
  repeat' (first|refine If ?_|refine IF a5 FN ?_)
  exact IM IA
 ·rw [decide_eq_false h7]
  repeat' (first|refine If ?_|refine IF a5 FN ?_|refine IN FN ?_|(apply aM;first|refine IH 5 a5 0 IE ?_|refine IH 5 a5 1 IE ?_|refine IH 5 a5 2 IE ?_|refine IG a5 0 ID ?_|refine IG a5 1 ID ?_|refine IG a5 2 ID ?_|refine IG a5 3 ID ?_|fail)|refine bh a5 fun _=>?_|refine bG a5 ?_|fail)
  refine b9 [] [] (j3 [⟨136,[.iptr (bC l)],[],dK (decide ((l.Rules.length:Int) > 60)) 2,0⟩,⟨137,[.iptr [ej (decide (l.Kind=8))],.iptr (bC l)],[],p6 l,0⟩,⟨138,[.iptr (bC l),.iptr (cx f)],[],(cU l.Rules fun _ r=>ji f l.Kind r).1,(cU l.Rules fun _ r=>ji f l.Kind r).2⟩] ⟨⟨inferInstance,o5 l⟩,fun _=>⟨⟨inferInstance,o6 l (decide (l.Kind=8)) (decide_eq_decide.2 ⟨Or.inr,fun h=>h.resolve_left h7⟩)⟩,fun _=>⟨⟨inferInstance,o7 f l⟩,fun _=>trivial⟩⟩⟩) rfl rfl (Io _) rfl fun c L1 hc=>?_
  rw [jJ] at hc
  subst hc
  unfold ck
  repeat' (first|refine If ?_|refine IF a5 FN ?_)
  exact IM IA
instance (f:aY) (l:aL):AD Tryz.prog 62 [cQ f,.agg (bC l)] (aF (l7 f l)):=⟨vJ f l⟩
theorem sj (f:aY) (i:Nat) (l:aL):bN Tryz.prog 61 [aF i,.agg (bC l),.iptr (cx f)] (aF (l7 f l)):=by
 refine aN Tryz.func61 rfl Tryz.ntmps61 rfl fun B=>?_
 repeat' (first|refine If ?_|refine IF a5 FN ?_|refine bk ?_|(apply bv;refine bn ?_)|fail)
 exact IM IA
end Go.Proofs.YtpmdfoaadejmkaaGreatDoor
