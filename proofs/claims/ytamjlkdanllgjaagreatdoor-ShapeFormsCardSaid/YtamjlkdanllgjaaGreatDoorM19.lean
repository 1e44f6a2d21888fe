/-
  The program: rules, lookups, as check looks at them.
-/
import Derived.Test.YtamjlkdanllgjaaGreatDoorM18
namespace Go.Proofs.YtamjlkdanllgjaaGreatDoor
open Go.RowKit
attribute [local irreducible] AT bz AX AO Av Kt aZ cY DA cu
set_option maxRecDepth 8000
def jj (l:List Int):Bool:=decide (∀i,i < l.length - 1→l.getD i 0 < l.getD (i+1) 0)
theorem jX {l:List Int} {i:Nat} {z:Int} (h:l[i]?=some z):l.getD i 0=z:=by simp [h]
theorem wq (l:List Int):bD Tryz.prog 317 [.imm 1 (aT l)] (cw (jj l)):=by
 refine aI Tryz.func317 rfl Tryz.ntmps317 rfl fun B=>?_
 refine cF 0 rfl rfl fun hlen=>?_
 have hll:=b7 l
 rw [b7] at hlen
 repeat' (first|refine ae ?_|refine a6 ?_|refine ar ?_|refine a8 ?_|refine aa ?_|refine LR a7 LL ?_)
 refine aN [0] (α:=Nat) (fun i=>[(3,aF (i+1:Nat))]) (fun i=>i≤l.length∧∀j,j < i→j+1 < l.length→l.getD j 0 < l.getD (j+1) 0) (fun _=>[]) (fun i=>l.length - i) 0 rfl ⟨rfl,trivial⟩ ⟨Nat.zero_le _,fun j hj=>absurd hj (Nat.not_lt_zero _)⟩ (fun _ _ h=>h) fun i ⟨hi,hall⟩=>?_
 try dsimp only [Mt,Ms,Mr,Mn]
 repeat' (first|refine ae ?_|refine a6 ?_|refine a8 ?_|refine aa ?_|refine LR a7 LL ?_)
 refine aB rfl (fun h=>?_) (fun h=>?_)
 ·have hil:i+1 < l.length:=by have:=Mz h;rw [b7] at this;omega
  obtain ⟨y,hy⟩:∃z,l[i]?=some z:=⟨_,Ia (by omega)⟩
  obtain ⟨z,hz⟩:∃z,l[i+1]?=some z:=⟨_,Ia hil⟩
  have hyg:(aT l)[(((i+1:Nat):Int) - 1).toNat]?=some [aF y]:=by rw [show (((i+1:Nat):Int) - 1).toNat=i by omega];exact bH hy
  have hzg:=bH hz
  repeat' (first|refine ae ?_|refine ar ?_|refine aq ?_|refine a8 ?_)
  refine bB 9 [(0,.v),(1,.v),(2,.v),(3,.v),(4,.v),(5,.v),(6,.v),(7,.v),(8,.v)] none ?_ trivial rfl (by kernel_rfl) (by kernel_rfl) (by kernel_rfl) mixed (by kernel_rfl) rfl
  repeat' (first|refine aJ ?_|refine bw a7 ?_|(apply iq;refine kT ?_)|(apply cq;refine cQ a7 ?_)|fail)
  refine MG [0,3,13,18] LL ?_
  repeat' (first|refine a8 ?_|refine aa ?_|refine LR a7 LL ?_)
  refine aB rfl (fun h2=>?_) (fun h2=>?_)
  ·have h2':=Mz h2
   repeat' (first|refine ae ?_|refine a6 ?_|refine am ?_|refine a8 ?_|refine az ?_|refine aR ?_|refine bF ?_|refine aa ?_|refine LR a7 LL ?_)
   refine MA LL ?_
   rw [show jj l=false from decide_eq_false (fun hh=>by have:=hh i (by omega);rw [jX hy,jX hz] at this;omega)]
  ·have h2':=My h2
   repeat' (first|refine a6 ?_|refine aq ?_|refine a8 ?_|refine aP ?_|refine aa ?_|refine LR a7 LL ?_|(apply aY;refine aX ?_)|fail)
   refine aE (i+1) rfl ⟨by rw [Mw (i+1) 1];rfl,trivial⟩ ⟨by omega,fun j hj hjl=>?_⟩ (by omega) (fun _ _ h=>h)
   by_cases e:j=i
   ·subst e;rw [jX hy,jX hz];omega
   ·exact hall j (by omega) hjl
 ·have hil:l.length≤i+1:=by have:=My h;rw [b7] at this;omega
  repeat' (first|refine ae ?_|refine a6 ?_|refine am ?_|refine aO ?_|refine a8 ?_|refine av ?_|refine aC ?_|refine aA ?_|refine aa ?_|refine LR a7 LL ?_)
  refine MA LL ?_
  rw [show jj l=true from decide_eq_true (fun j hj=>hall j (by omega) (by omega))]
instance (l:List Int):AD Tryz.prog 317 [.imm 1 (aT l)] (cw (jj l)):=⟨wq l⟩
def pD (f:aS) (l:List Int):Bool:=decide (0 < l.length) && (jj l && (kQ f (l.getD 0 0) && kQ f (l.getD (l.length - 1) 0)))
set_option maxHeartbeats 1000000 in
theorem yR (f:aS) (l:List Int):bD Tryz.prog 264 [cD f,.imm 1 (aT l)] (cw (pD f l)):=by
 refine aI Tryz.func264 rfl Tryz.ntmps264 rfl fun B=>?_
 refine cF 1 rfl rfl fun hlen=>?_
 cases l with
 | nil=>
  repeat' (first|refine ae ?_|refine a6 ?_|refine a8 ?_|refine aa ?_|refine LR a7 LL ?_|refine bi ?_|fail)
  refine bB 24 [(0,.v),(1,.v),(2,.v),(3,.v),(4,.v),(5,.v),(6,.v),(7,.v),(8,.v),(9,.v),(10,.v),(11,.v),(12,.v),(13,.v),(14,.v),(15,.v),(16,.v),(17,.v),(18,.v),(19,.v),(20,.v),(21,.v),(22,.v),(23,.v)] none ?_ trivial rfl (by kernel_rfl) (by kernel_rfl) (by kernel_rfl) mixed (by kernel_rfl) rfl
  repeat' (first|refine aJ ?_|refine bw a7 ?_|refine tU rfl rfl ?_)
  refine MG [28] LL ?_
  repeat' (first|refine am ?_|refine a8 ?_|refine aa ?_|refine LR a7 LL ?_)
  exact LY LM
 | cons y q=>
  have hll:(aT (y::q)).length=q.length+1:=by rw [b7];rfl
  rw [hll] at hlen
  obtain ⟨z,hz⟩:∃z,(y::q)[q.length]?=some z:=⟨_,Ia (by simp)⟩
  have hzg:(aT (y::q))[((((aT (y::q)).length:Nat):Int) - 1).toNat]?=some [aF z]:=by rw [show ((((aT (y::q)).length:Nat):Int) - 1).toNat=q.length by rw [hll];omega];exact bH hz
  have hyg:(aT (y::q))[(0:Int).toNat]?=some [aF y]:=rfl
  have hval:pD f (y::q)=(jj (y::q) && (kQ f y && kQ f z)):=by
   unfold pD
   rw [show (y::q).length - 1=q.length by simp,jX hz]
   simp
  rw [hval]
  have hpos:decide (0 < (((aT (y::q)).length:Nat):Int))=true:=decide_eq_true (by rw [hll];omega)
  repeat' (first|refine ae ?_|refine a6 ?_|refine a8 ?_|refine aa ?_|refine LR a7 LL ?_|refine bi ?_|fail)
  refine bB 24 [(0,.v),(1,.v),(2,.v),(3,.v),(4,.v),(5,.v),(6,.v),(7,.v),(8,.v),(9,.v),(10,.v),(11,.v),(12,.v),(13,.v),(14,.v),(15,.v),(16,.v),(17,.v),(18,.v),(19,.v),(20,.v),(21,.v),(22,.v),(23,.v)] none ?_ trivial rfl (by kernel_rfl) (by kernel_rfl) (by kernel_rfl) mixed (by kernel_rfl) rfl
  repeat' (first|refine aJ ?_|refine bw a7 ?_|fail)
  rw [hpos]
  repeat' (first|refine aJ ?_|refine bw a7 ?_|(apply cM;refine dc ?_)|fail)
  generalize jj (y::q)=b1
  cases b1
  ·repeat' (first|refine aJ ?_|refine bw a7 ?_|refine tU rfl rfl ?_)
   refine MG [28] LL ?_
   repeat' (first|refine am ?_|refine a8 ?_|refine aa ?_|refine LR a7 LL ?_)
   exact LY LM
  repeat' (first|refine aJ ?_|refine bw a7 ?_|(apply cq;refine cQ a7 ?_)|(apply cM;refine dc ?_)|fail)
  generalize kQ f y=b2
  cases b2
  ·repeat' (first|refine aJ ?_|refine bw a7 ?_|refine tU rfl rfl ?_)
   refine MG [28] LL ?_
   repeat' (first|refine am ?_|refine a8 ?_|refine aa ?_|refine LR a7 LL ?_)
   exact LY LM
  repeat' (first|refine aJ ?_|refine bw a7 ?_|(apply iq;refine kT ?_)|(apply cq;refine cQ a7 ?_)|(apply cM;refine dc ?_)|fail)
  refine MG [28] LL ?_
  repeat' (first|refine am ?_|refine a8 ?_|refine aa ?_|refine LR a7 LL ?_)
  exact LY LM
instance (f:aS) (l:List Int):AD Tryz.prog 264 [cD f,.imm 1 (aT l)] (cw (pD f l)):=⟨yR f l⟩
def iW (kind:Int) (r:bh):Bool:=if kind=1∨kind=2∨kind=5 then decide ((r.In.length:Int)≠1) else if kind=6 then decide ((r.In.length:Int)≠2∨(r.Back.length:Int) > 0∨(r.Ahead.length:Int) > 0) else decide ((r.In.length:Int)=0)
def of (kind:Int) (r:bh):Int:=if (r.Back.length:Int) > 6∨(r.In.length:Int) > 6∨(r.Ahead.length:Int) > 6 then 2 else dP (iW kind r) 40
set_option maxHeartbeats 1000000 in
theorem CI (kind:Int) (r:bh):bD Tryz.prog 259 [aF kind,.agg (bR r)] (aF (of kind r)):=by
 refine aI Tryz.func259 rfl Tryz.ntmps259 rfl fun B=>?_
 unfold of iW
 have hB:=c8 r.Back
 have hI:=c8 r.In
 have hA:=c8 r.Ahead
 rw [←hB,←hI,←hA]
 repeat' (first|refine ae ?_|refine a6 ?_|refine a8 ?_|refine aa ?_|refine LR a7 LL ?_|refine bi ?_|fail)
 refine bN [0,3] (((bj r.Back).length:Int) > 6∨((bj r.In).length:Int) > 6∨((bj r.Ahead).length:Int) > 6) rfl (fun Q' K=>?_) (fun hC=>?_) (fun hC=>?_)
 ·repeat' (first|refine aa ?_|refine LR a7 LL ?_|refine MB LL ?_|refine MC LN ?_|refine MD LM (fun _=>?_) (fun _=>?_))
  all_goals exact K _ _ rfl rfl (by clear K;grind)
 ·rw [if_pos hC]
  repeat' (first|refine ae ?_|refine a6 ?_|refine am ?_|refine a8 ?_|refine az ?_|refine aa ?_|refine LR a7 LL ?_)
  exact LY LM
 rw [if_neg hC]
 by_cases h1:kind=1
 ·subst h1
  repeat' (first|refine ae ?_|refine a6 ?_|refine ar ?_|refine aq ?_|refine am ?_|refine a8 ?_|refine aP ?_|refine aa ?_|refine LR a7 LL ?_|(apply bk;refine b9 ?_)|refine bI rfl ?_)
  exact LY LM
 by_cases h2:kind=2
 ·subst h2
  repeat' (first|refine ae ?_|refine a6 ?_|refine ar ?_|refine aq ?_|refine am ?_|refine a8 ?_|refine aP ?_|refine aa ?_|refine LR a7 LL ?_|(apply bk;refine b9 ?_)|refine bI rfl ?_|refine bo rfl ?_)
  exact LY LM
 by_cases h5:kind=5
 ·subst h5
  repeat' (first|refine ae ?_|refine a6 ?_|refine ar ?_|refine aq ?_|refine am ?_|refine a8 ?_|refine aP ?_|refine aa ?_|refine LR a7 LL ?_|(apply bk;refine b9 ?_)|refine bI rfl ?_|refine bo rfl ?_)
  exact LY LM
 rw [if_neg (by omega)]
 by_cases h6:kind=6
 ·subst h6
  rw [if_pos rfl]
  repeat' (first|refine ae ?_|refine a6 ?_|refine ar ?_|refine aq ?_|refine a8 ?_|refine aa ?_|refine LR a7 LL ?_|refine bI rfl ?_|refine bo rfl ?_)
  refine di (t:=5) [] (((bj r.In).length:Int)≠2∨((bj r.Back).length:Int) > 0∨((bj r.Ahead).length:Int) > 0) rfl (fun Q' K=>?_) ?_
  ·repeat' (first|refine aa ?_|refine LR a7 LL ?_|refine MB LL ?_|refine MC LN ?_|refine MD LM (fun _=>?_) (fun _=>?_))
   all_goals exact K _ _ rfl rfl (by clear K;grind)
  repeat' (first|refine ae ?_|refine a6 ?_|refine am ?_|refine a8 ?_|refine aP ?_|refine aa ?_|refine LR a7 LL ?_|(apply bk;refine b9 ?_)|fail)
  exact LY LM
 rw [if_neg h6]
 repeat' (first|refine ae ?_|refine a6 ?_|refine ar ?_|refine aq ?_|refine a8 ?_|refine aa ?_|refine LR a7 LL ?_)
 refine aB rfl (fun h=>absurd (Mz h) h1) (fun h=>?_)
 repeat' (first|refine ae ?_|refine a6 ?_|refine a8 ?_|refine aa ?_|refine LR a7 LL ?_)
 refine aB rfl (fun h=>absurd (Mz h) h2) (fun h=>?_)
 repeat' (first|refine a6 ?_|refine a8 ?_|refine aa ?_|refine LR a7 LL ?_)
 refine aB rfl (fun h=>absurd (Mz h) h5) (fun h=>?_)
 rw [decide_eq_false h5]
 repeat' (first|refine ae ?_|refine a6 ?_|refine a8 ?_|refine aa ?_|refine LR a7 LL ?_)
 refine aB rfl (fun h=>absurd (Mz h) h6) (fun h=>?_)
 repeat' (first|refine ae ?_|refine a6 ?_|refine aq ?_|refine am ?_|refine a8 ?_|refine aP ?_|refine aa ?_|refine LR a7 LL ?_|(apply bk;refine b9 ?_)|fail)
 exact LY LM
instance (kind:Int) (r:bh):AD Tryz.prog 259 [aF kind,.agg (bR r)] (aF (of kind r)):=⟨CI kind r⟩
theorem xM {kind:Int} {r:bh} (h:of kind r=0):r.In≠[]∧r.Back.length≤6∧r.In.length≤6∧r.Ahead.length≤6:=by
 unfold of at h
 split at h
 ·cases h
 ·rename_i hc
  refine ⟨fun e=>?_,by omega,by omega,by omega⟩
  have hw:iW kind r=true:=by
   unfold iW
   rw [e]
   split
   ·decide
   ·split <;> simp
  rw [hw] at h
  cases h
def wl (kind:Int) (r:bh):Bool:=if kind=1∨kind=5 then decide ((r.Out.length:Int)=((r.In.headD []).length:Int)) else if kind=2 then decide ((r.Out.length:Int)≤6) else if kind=3 then decide ((r.Out.length:Int)=1) else decide ((r.Out.length:Int)=0)
set_option maxHeartbeats 1000000 in
theorem F0 (kind:Int) (r:bh) (hin:r.In≠[]):bD Tryz.prog 266 [aF kind,.agg (bR r)] (cw (wl kind r)):=by
 refine aI Tryz.func266 rfl Tryz.ntmps266 rfl fun B=>?_
 obtain ⟨y,hy⟩:∃y,r.In[0]?=some y:=⟨_,Ia (List.length_pos_iff.2 hin)⟩
 have hyg:=gh hy
 have hv:wl kind r=if kind=1∨kind=5 then decide (((aT r.Out).length:Int)=((aT y).length:Int)) else if kind=2 then decide (((aT r.Out).length:Int)≤6) else if kind=3 then decide (((aT r.Out).length:Int)=1) else decide (((aT r.Out).length:Int)=0):=by
  have hd:r.In.headD []=y:=by
   cases hI:r.In with
   | nil=>exact absurd hI hin
   | cons y' q=>rw [hI] at hy;simpa using hy
  unfold wl
  rw [hd,b7,b7]
 rw [hv]
 by_cases h1:kind=1
 ·subst h1
  repeat' (first|refine ae ?_|refine a6 ?_|refine ar ?_|refine aq ?_|refine a8 ?_|refine aa ?_|refine LR a7 LL ?_|refine bi ?_|refine bI rfl ?_)
  refine bB 8 [(0,.v),(1,.v),(2,.v),(3,.v),(4,.v),(5,.v),(6,.v),(7,.v)] none ?_ trivial rfl (by kernel_rfl) (by kernel_rfl) (by kernel_rfl) mixed (by kernel_rfl) rfl
  repeat' (first|refine aJ ?_|refine bw a7 ?_|(apply cq;refine cQ a7 ?_)|fail)
  refine MG [11,16] LL ?_
  repeat' (first|refine am ?_|refine a8 ?_|refine az ?_|refine aR ?_|refine aa ?_|refine LR a7 LL ?_)
  exact LY LM
 by_cases h5:kind=5
 ·subst h5
  repeat' (first|refine ae ?_|refine a6 ?_|refine ar ?_|refine a8 ?_|refine aa ?_|refine LR a7 LL ?_|refine bi ?_|refine bI rfl ?_|refine bo rfl ?_)
  refine bB 8 [(0,.v),(1,.v),(2,.v),(3,.v),(4,.v),(5,.v),(6,.v),(7,.v)] none ?_ trivial rfl (by kernel_rfl) (by kernel_rfl) (by kernel_rfl) mixed (by kernel_rfl) rfl
  repeat' (first|refine aJ ?_|refine bw a7 ?_|(apply cq;refine cQ a7 ?_)|fail)
  refine MG [11,16] LL ?_
  repeat' (first|refine am ?_|refine a8 ?_|refine az ?_|refine aR ?_|refine aa ?_|refine LR a7 LL ?_)
  exact LY LM
 rw [if_neg (by omega)]
 by_cases h2:kind=2
 ·subst h2
  repeat' (first|refine ae ?_|refine a6 ?_|refine ar ?_|refine am ?_|refine a8 ?_|refine az ?_|refine aR ?_|refine aa ?_|refine LR a7 LL ?_|refine bi ?_|refine bI rfl ?_|refine bo rfl ?_)
  exact LY LM
 rw [if_neg h2]
 by_cases h3:kind=3
 ·subst h3
  repeat' (first|refine ae ?_|refine a6 ?_|refine ar ?_|refine am ?_|refine a8 ?_|refine az ?_|refine aR ?_|refine aa ?_|refine LR a7 LL ?_|refine bi ?_|refine bI rfl ?_|refine bo rfl ?_)
  exact LY LM
 rw [if_neg h3]
 repeat' (first|refine ae ?_|refine a6 ?_|refine ar ?_|refine a8 ?_|refine aa ?_|refine LR a7 LL ?_|refine bi ?_|fail)
 refine aB rfl (fun h=>absurd (Mz h) h1) (fun h=>?_)
 repeat' (first|refine a6 ?_|refine a8 ?_|refine aa ?_|refine LR a7 LL ?_)
 refine aB rfl (fun h=>absurd (Mz h) h5) (fun h=>?_)
 rw [decide_eq_false h5]
 repeat' (first|refine ae ?_|refine a6 ?_|refine a8 ?_|refine aa ?_|refine LR a7 LL ?_)
 refine aB rfl (fun h=>absurd (Mz h) h2) (fun h=>?_)
 repeat' (first|refine ae ?_|refine a6 ?_|refine a8 ?_|refine aa ?_|refine LR a7 LL ?_)
 refine aB rfl (fun h=>absurd (Mz h) h3) (fun h=>?_)
 repeat' (first|refine ae ?_|refine a6 ?_|refine aq ?_|refine am ?_|refine a8 ?_|refine aP ?_|refine aa ?_|refine LR a7 LL ?_)
 exact LY LM
def so (f:aS) (n:Int):Int:=match f.Lookups[n.toNat]? with | some l=>l.Kind | none=>0
def x7 (f:aS) (r:bh) (_:Nat) (c:jr):Int:=if c.At < 0∨c.At≥r.In.length then 40 else if c.Lookup < 0∨c.Lookup≥f.Lookups.length then 42 else dP (decide (so f c.Lookup < 1∨so f c.Lookup > 4)) 42
set_option maxHeartbeats 1000000 in
theorem AU (f:aS) (r:bh) (i:Nat) (c:jr):bD Tryz.prog 319 [aF i,.agg (gu c),.iptr (bR r),.iptr (bY f)] (aF (x7 f r i c)):=by
 refine aI Tryz.func319 rfl Tryz.ntmps319 rfl fun B=>?_
 unfold x7
 have hI:=c8 r.In
 have hL:(f.Lookups.map bA).length=f.Lookups.length:=Mv ..
 rw [←hI]
 repeat' (first|refine ae ?_|refine a6 ?_|refine ar ?_|refine a8 ?_|refine aa ?_|refine LR a7 LL ?_|refine bi ?_|fail)
 refine bN [3,5] (c.At < 0∨c.At≥((bj r.In).length:Int)) rfl (fun Q' K=>?_) (fun hC=>?_) (fun hC=>?_)
 ·repeat' (first|refine aa ?_|refine LR a7 LL ?_|refine MB LL ?_|refine MC LN ?_|refine MD LM (fun _=>?_) (fun _=>?_))
  all_goals exact K _ _ rfl rfl (by clear K;grind)
 ·rw [if_pos hC]
  repeat' (first|refine ae ?_|refine a6 ?_|refine am ?_|refine a8 ?_|refine az ?_|refine aR ?_|refine aa ?_|refine LR a7 LL ?_)
  exact LY LM
 rw [if_neg hC]
 repeat' (first|refine ae ?_|refine a6 ?_|refine LR a7 LL ?_)
 refine bN [3,5] (c.Lookup < 0∨c.Lookup≥f.Lookups.length) rfl (fun Q' K=>?_) (fun hC=>?_) (fun hC=>?_)
 ·repeat' (first|refine aa ?_|refine LR a7 LL ?_|refine MB LL ?_|refine MC LN ?_|refine MD LM (fun _=>?_) (fun _=>?_))
  all_goals exact K _ _ rfl rfl (by clear K;grind)
 ·rw [if_pos hC]
  repeat' (first|refine ae ?_|refine a6 ?_|refine am ?_|refine a8 ?_|refine az ?_|refine aR ?_|refine aa ?_|refine LR a7 LL ?_)
  exact LY LM
 rw [if_neg hC]
 obtain ⟨l,hl⟩:∃l,f.Lookups[c.Lookup.toNat]?=some l:=⟨_,Ia (by omega)⟩
 have hlg:=c6 (c:=bA) hl
 have hk:so f c.Lookup=l.Kind:=by unfold so;rw [hl]
 rw [hk]
 repeat' (first|refine ae ?_|refine a6 ?_|refine aq ?_|refine a8 ?_|refine aP ?_|refine aa ?_|refine LR a7 LL ?_|(apply aL;first|refine aK a7 ?_|refine aH a7 ?_)|fail)
 by_cases h1:l.Kind < 1
 ·rw [decide_eq_true h1,decide_eq_true (Or.inl h1)]
  repeat' (first|refine am ?_|refine a8 ?_|refine aa ?_|refine LR a7 LL ?_|refine MC LN ?_|(apply bk;refine b9 ?_)|fail)
  exact LY LM
 ·rw [decide_eq_false h1,show decide (l.Kind < 1∨l.Kind > 4)=decide (4 < l.Kind) from decide_eq_decide.2 ⟨fun h=>h.resolve_left h1,Or.inr⟩]
  repeat' (first|refine am ?_|refine a8 ?_|refine aa ?_|refine LR a7 LL ?_|refine MB LL ?_|(apply bk;refine b9 ?_)|fail)
  exact LY LM
def n2 (f:aS) (kind:Int) (r:bh):Int:=if (r.Calls.length:Int) > 6 then 2 else if (r.Calls.length:Int) > 0∧kind≠4 then 40 else (cT r.Calls (x7 f r)).1
set_option maxHeartbeats 1000000 in
theorem yl (f:aS) (kind:Int) (r:bh):bD Tryz.prog 270 [cD f,aF kind,.agg (bR r)] (aF (n2 f kind r)):=by
 refine aI Tryz.func270 rfl Tryz.ntmps270 rfl fun B=>?_
 unfold n2
 have hL:(r.Calls.map gu).length=r.Calls.length:=Mv ..
 rw [←hL]
 repeat' (first|refine ae ?_|refine a6 ?_|refine ar ?_|refine a8 ?_|refine aa ?_|refine LR a7 LL ?_|refine bi ?_|fail)
 refine aB rfl (fun h=>?_) (fun h=>?_)
 ·rw [if_pos (Mz h)]
  repeat' (first|refine ae ?_|refine a6 ?_|refine am ?_|refine a8 ?_|refine az ?_|refine aR ?_|refine aa ?_|refine LR a7 LL ?_)
  exact LY LM
 rw [if_neg (My h)]
 repeat' (first|refine ae ?_|refine a6 ?_|refine LR a7 LL ?_)
 refine bN [3,5] (((r.Calls.map gu).length:Int) > 0∧kind≠4) rfl (fun Q' K=>?_) (fun hC=>?_) (fun hC=>?_)
 ·repeat' (first|refine aa ?_|refine LR a7 LL ?_|refine MB LL ?_|refine MC LN ?_|refine MD LM (fun _=>?_) (fun _=>?_))
  all_goals exact K _ _ rfl rfl (by clear K;grind)
 ·rw [if_pos hC]
  repeat' (first|refine ae ?_|refine a6 ?_|refine am ?_|refine a8 ?_|refine az ?_|refine aR ?_|refine aa ?_|refine LR a7 LL ?_)
  exact LY LM
 rw [if_neg hC]
 repeat' (first|refine ae ?_|refine a6 ?_|refine aq ?_|refine a8 ?_|refine aP ?_|refine LR a7 LL ?_)
 refine aW [] [] (Et (u:= .fn 319 [.iptr (bR r),.iptr (bY f)]) (g:=319) rfl r.Calls _ (fun _ _=>True) [] trivial (cV (fun i x _=>AU f r i x))) rfl rfl (Mp _) rfl fun c L1 hc=>?_
 have hc:c=cf (cT r.Calls (x7 f r)):=hc
 subst hc
 unfold cf
 repeat' (first|refine ae ?_|refine a6 ?_|refine am ?_|refine a8 ?_|refine aa ?_|refine LR a7 LL ?_)
 exact LY LM
instance (f:aS) (kind:Int) (r:bh):AD Tryz.prog 270 [cD f,aF kind,.agg (bR r)] (aF (n2 f kind r)):=⟨yl f kind r⟩
set_option maxRecDepth 8000
def zB (f:aS) (_:Nat) (l:List Int):Int:=dP (!(pD f l)) 41
def zh (f:aS) (_:Nat) (n:Int):Int:=dP (!(kQ f n)) 32
def xE (kind:Int) (r:bh):Int:=dP (decide (r.X≠0∧kind≠6)) 40
def oh (r:bh):List (List Int):=r.Back++(r.In++r.Ahead)
theorem zq (kind:Int) (r:bh):bD Tryz.prog 258 [.iptr [aF kind],.iptr (bR r)] (cf (of kind r,0)):=by
 refine aI Tryz.func258 rfl Tryz.ntmps258 rfl fun B=>?_
 repeat' (first|refine ae ?_|refine a6 ?_|refine am ?_|refine a8 ?_|refine aa ?_|refine LR a7 LL ?_|(apply bk;refine b9 ?_)|fail)
 exact MH LN
theorem wx (f:aS) (i:Nat) (l:List Int):bD Tryz.prog 263 [aF i,.imm 1 (aT l),.iptr (bY f)] (aF (zB f i l)):=by
 refine aI Tryz.func263 rfl Tryz.ntmps263 rfl fun B=>?_
 repeat' (first|refine ae ?_|refine a6 ?_|refine am ?_|refine a8 ?_|refine aa ?_|refine LR a7 LL ?_|(apply bk;refine b9 ?_)|fail)
 exact LY LM
theorem zr (f:aS) (r:bh) (h:r.Back.length≤6∧r.In.length≤6∧r.Ahead.length≤6):bD Tryz.prog 260 [.iptr (bR r),.iptr (bY f)] (cf (cT (oh r) (zB f))):=by
 refine aI Tryz.func260 rfl Tryz.ntmps260 rfl fun B=>?_
 repeat' (first|refine ae ?_|refine a6 ?_|refine a8 ?_|refine aa ?_|refine LR a7 LL ?_|refine cA a7 ?_|fail)
 refine b9 (hc:=⟨vD [r.Back,r.In,r.Ahead] (by simp [gk];omega)⟩) ?_
 rw [show ([r.Back,r.In,r.Ahead]:List (List (List Int))).flatten=oh r by simp [oh]]
 repeat' (first|refine LR a7 LL ?_)
 refine aW [] [] (Er (u:= .fn 263 [.iptr (bY f)]) (g:=263) rfl (oh r) _ (fun _ _=>True) [] trivial (cV (fun i x _=>wx f i x))) rfl rfl (Mp _) rfl fun c L1 hc=>?_
 have hc:c=cf (cT (oh r) (zB f)):=hc
 subst hc
 unfold cf
 repeat' (first|refine am ?_|refine a8 ?_|refine aa ?_|refine LR a7 LL ?_)
 exact MH LN
theorem zt (kind:Int) (r:bh) (hin:r.In≠[]):bD Tryz.prog 265 [.iptr [aF kind],.iptr (bR r)] (cf (dP (!(wl kind r)) 40,0)):=by
 refine aI Tryz.func265 rfl Tryz.ntmps265 rfl fun B=>?_
 repeat' (first|refine ae ?_|refine a6 ?_|refine a8 ?_|refine aa ?_|refine LR a7 LL ?_)
 refine b9 (hc:=⟨F0 kind r hin⟩) ?_
 repeat' (first|refine am ?_|refine a8 ?_|refine aa ?_|refine LR a7 LL ?_|(apply bk;refine b9 ?_)|fail)
 exact MH LN
theorem wy (f:aS) (i:Nat) (n:Int):bD Tryz.prog 268 [aF i,aF n,.iptr (bY f)] (aF (zh f i n)):=by
 refine aI Tryz.func268 rfl Tryz.ntmps268 rfl fun B=>?_
 repeat' (first|refine ae ?_|refine a6 ?_|refine am ?_|refine a8 ?_|refine aa ?_|refine LR a7 LL ?_|(apply bk;refine b9 ?_)|fail)
 exact LY LM
theorem zu (f:aS) (r:bh):bD Tryz.prog 267 [.iptr (bR r),.iptr (bY f)] (cf (cT r.Out (zh f))):=by
 refine aI Tryz.func267 rfl Tryz.ntmps267 rfl fun B=>?_
 repeat' (first|refine ae ?_|refine a6 ?_|refine a8 ?_|refine aa ?_|refine LR a7 LL ?_)
 refine aW [] [] (lY (u:= .fn 268 [.iptr (bY f)]) (g:=268) rfl r.Out _ (fun _ _=>True) [] trivial (cV (fun i x _=>wy f i x))) rfl rfl (Mp _) rfl fun c L1 hc=>?_
 have hc:c=cf (cT r.Out (zh f)):=hc
 subst hc
 unfold cf
 repeat' (first|refine am ?_|refine a8 ?_|refine aa ?_|refine LR a7 LL ?_)
 exact MH LN
theorem zw (f:aS) (kind:Int) (r:bh):bD Tryz.prog 269 [.iptr (bY f),.iptr [aF kind],.iptr (bR r)] (cf (n2 f kind r,0)):=by
 refine aI Tryz.func269 rfl Tryz.ntmps269 rfl fun B=>?_
 repeat' (first|refine ae ?_|refine a6 ?_|refine am ?_|refine a8 ?_|refine aa ?_|refine LR a7 LL ?_|(apply bk;refine b9 ?_)|fail)
 exact MH LN
theorem zx (r:bh):bD Tryz.prog 271 [.iptr (bR r)] (cf (dP (!([r.X].all gc)) 1,0)):=by
 refine aI Tryz.func271 rfl Tryz.ntmps271 rfl fun B=>?_
 repeat' (first|refine ae ?_|refine a6 ?_|refine am ?_|refine a8 ?_|refine aa ?_|refine LR a7 LL ?_|refine cA a7 ?_|(apply bk;refine b9 ?_)|fail)
 exact MH LN
theorem zy (kind:Int) (r:bh):bD Tryz.prog 272 [.iptr (bR r),.iptr [aF kind]] (cf (xE kind r,0)):=by
 refine aI Tryz.func272 rfl Tryz.ntmps272 rfl fun B=>?_
 unfold xE
 by_cases h:r.X≠0
 ·rw [show decide (r.X≠0∧kind≠6)=decide (kind≠6) from decide_eq_decide.2 ⟨fun q=>q.2,fun q=>⟨h,q⟩⟩]
  repeat' (first|refine ae ?_|refine a6 ?_|refine a8 ?_|refine aa ?_|refine LR a7 LL ?_)
  rw [decide_eq_true h]
  repeat' (first|refine am ?_|refine a8 ?_|refine aa ?_|refine LR a7 LL ?_|refine MB LL ?_|(apply bk;refine b9 ?_)|fail)
  exact MH LN
 ·rw [show decide (r.X≠0∧kind≠6)=false from decide_eq_false (fun q=>h q.1)]
  repeat' (first|refine ae ?_|refine a6 ?_|refine a8 ?_|refine aa ?_|refine LR a7 LL ?_)
  rw [decide_eq_false h]
  repeat' (first|refine am ?_|refine a8 ?_|refine aa ?_|refine LR a7 LL ?_|refine MC LN ?_|(apply bk;refine b9 ?_)|fail)
  exact MH LN
def ke (f:aS) (kind:Int) (r:bh):Int:=(gQ [(of kind r,0),cT (oh r) (zB f),(dP (!(wl kind r)) 40,0),cT r.Out (zh f),(n2 f kind r,0),(dP (!([r.X].all gc)) 1,0),(xE kind r,0)]).1
set_option maxHeartbeats 1000000 in
theorem CL (f:aS) (kind:Int) (r:bh):bD Tryz.prog 200 [cD f,aF kind,.agg (bR r)] (aF (ke f kind r)):=by
 refine aI Tryz.func200 rfl Tryz.ntmps200 rfl fun B=>?_
 repeat' (first|refine ae ?_|refine a6 ?_|refine a8 ?_|refine aa ?_|refine LR a7 LL ?_|refine bi ?_|refine cA a7 ?_|fail)
 refine aW [] [] (iD [⟨258,[.iptr [aF kind],.iptr (bR r)],[],of kind r,0⟩,⟨260,[.iptr (bR r),.iptr (bY f)],[],(cT (oh r) (zB f)).1,(cT (oh r) (zB f)).2⟩,⟨265,[.iptr [aF kind],.iptr (bR r)],[],dP (!(wl kind r)) 40,0⟩,⟨267,[.iptr (bR r),.iptr (bY f)],[],(cT r.Out (zh f)).1,(cT r.Out (zh f)).2⟩,⟨269,[.iptr (bY f),.iptr [aF kind],.iptr (bR r)],[],n2 f kind r,0⟩,⟨271,[.iptr (bR r)],[],dP (!([r.X].all gc)) 1,0⟩,⟨272,[.iptr (bR r),.iptr [aF kind]],[],xE kind r,0⟩] ?_) rfl rfl (Mp _) rfl fun c L1 hc=>?_
 ·exact ⟨⟨inferInstance,zq kind r⟩,fun h1=>⟨⟨inferInstance,zr f r (xM h1).2⟩,fun _=>⟨⟨inferInstance,zt kind r (xM h1).1⟩,fun _=>⟨⟨inferInstance,zu f r⟩,fun _=>⟨⟨inferInstance,zw f kind r⟩,fun _=>⟨⟨inferInstance,zx r⟩,fun _=>⟨⟨inferInstance,zy kind r⟩,fun _=>trivial⟩⟩⟩⟩⟩⟩⟩
 rw [jf] at hc
 subst hc
 unfold cf
 repeat' (first|refine ae ?_|refine a6 ?_|refine am ?_|refine a8 ?_|refine aa ?_|refine LR a7 LL ?_)
 exact LY LM
instance (f:aS) (kind:Int) (r:bh):AD Tryz.prog 200 [cD f,aF kind,.agg (bR r)] (aF (ke f kind r)):=⟨CL f kind r⟩
theorem nZ (l:b6):bD Tryz.prog 195 [.iptr (bA l)] (cf (dP (decide ((l.Rules.length:Int) > 60)) 2,0)):=by
 refine aI Tryz.func195 rfl Tryz.ntmps195 rfl fun B=>?_
 rw [show (l.Rules.length:Int)=((l.Rules.map bR).length:Int) by rw [Mv]]
 repeat' (first|refine ae ?_|refine a6 ?_|refine am ?_|refine a8 ?_|refine aa ?_|refine LR a7 LL ?_|(apply bk;refine b9 ?_)|fail)
 exact MH LN
def tv (l:b6):Int:=dP (decide (l.Kind=7∨l.Kind=8) && decide ((l.Rules.length:Int) > 0)) 40
theorem o0 (l:b6) (b:Bool) (hb:b=decide (l.Kind=7∨l.Kind=8)):bD Tryz.prog 196 [.iptr [cw b],.iptr (bA l)] (cf (tv l,0)):=by
 refine aI Tryz.func196 rfl Tryz.ntmps196 rfl fun B=>?_
 unfold tv
 rw [←hb,show (l.Rules.length:Int)=((l.Rules.map bR).length:Int) by rw [Mv]]
 cases b
 ·repeat' (first|refine ae ?_|refine a6 ?_|refine am ?_|refine a8 ?_|refine aa ?_|refine LR a7 LL ?_|refine MC LN ?_|(apply bk;refine b9 ?_)|fail)
  exact MH LN
 ·repeat' (first|refine ae ?_|refine a6 ?_|refine am ?_|refine a8 ?_|refine aa ?_|refine LR a7 LL ?_|refine MB LL ?_|(apply bk;refine b9 ?_)|fail)
  exact MH LN
theorem su (f:aS) (l:b6) (i:Nat) (r:bh):bD Tryz.prog 199 [aF i,.agg (bR r),.iptr (bY f),.iptr (bA l)] (aF (ke f l.Kind r)):=by
 refine aI Tryz.func199 rfl Tryz.ntmps199 rfl fun B=>?_
 repeat' (first|refine ae ?_|refine a6 ?_|refine am ?_|refine a8 ?_|refine aa ?_|refine LR a7 LL ?_|refine bi ?_|(apply bk;refine b9 ?_)|fail)
 exact LY LM
theorem o4 (f:aS) (l:b6):bD Tryz.prog 197 [.iptr (bA l),.iptr (bY f)] (cf (cT l.Rules fun _ r=>ke f l.Kind r)):=by
 refine aI Tryz.func197 rfl Tryz.ntmps197 rfl fun B=>?_
 repeat' (first|refine ae ?_|refine a6 ?_|refine a8 ?_|refine aa ?_|refine LR a7 LL ?_)
 refine aW [] [] (Eg (u:= .fn 199 [.iptr (bY f),.iptr (bA l)]) (g:=199) rfl l.Rules _ (fun _ _=>True) [] trivial (cV (w:=fun _ r=>ke f l.Kind r) (fun i x _=>su f l i x))) rfl rfl (Mp _) rfl fun c L1 hc=>?_
 have hc:c=cf (cT l.Rules fun _ r=>ke f l.Kind r):=hc
 subst hc
 unfold cf
 repeat' (first|refine am ?_|refine a8 ?_|refine aa ?_|refine LR a7 LL ?_)
 exact MH LN
def mh (f:aS) (l:b6):Int:=if l.Kind < 1∨l.Kind > 8 then 42 else (gQ [(dP (decide ((l.Rules.length:Int) > 60)) 2,0),(tv l,0),cT l.Rules fun _ r=>ke f l.Kind r]).1
set_option maxHeartbeats 1000000 in
theorem w5 (f:aS) (l:b6):bD Tryz.prog 119 [cD f,.agg (bA l)] (aF (mh f l)):=by
 refine aI Tryz.func119 rfl Tryz.ntmps119 rfl fun B=>?_
 unfold mh
 repeat' (first|refine ae ?_|refine a6 ?_|refine a8 ?_|refine aa ?_|refine LR a7 LL ?_|refine bi ?_|fail)
 refine bN [2,3] (l.Kind < 1∨l.Kind > 8) rfl (fun Q' K=>?_) (fun hC=>?_) (fun hC=>?_)
 ·repeat' (first|refine aa ?_|refine LR a7 LL ?_|refine MB LL ?_|refine MC LN ?_|refine MD LM (fun _=>?_) (fun _=>?_))
  all_goals exact K _ _ rfl rfl (by clear K;grind)
 ·rw [if_pos hC]
  repeat' (first|refine ae ?_|refine a6 ?_|refine am ?_|refine a8 ?_|refine az ?_|refine aa ?_|refine LR a7 LL ?_)
  exact LY LM
 rw [if_neg hC]
 repeat' (first|refine ae ?_|refine a6 ?_|refine aq ?_|refine a8 ?_|refine LR a7 LL ?_)
 by_cases h7:l.Kind=7
 ·rw [decide_eq_true h7]
  repeat' (first|refine ae ?_|refine a6 ?_|refine a8 ?_|refine aa ?_|refine LR a7 LL ?_|refine MC LN ?_|(apply aU;first|refine LT 5 a7 0 LQ ?_|refine LT 5 a7 1 LQ ?_|refine LT 5 a7 2 LQ ?_|refine LU a7 0 LP ?_|refine LU a7 1 LP ?_|refine LU a7 2 LP ?_|refine LU a7 3 LP ?_|fail)|refine bf a7 fun _=>?_|refine cA a7 ?_|fail)
  refine aW [] [] (iD [⟨195,[.iptr (bA l)],[],dP (decide ((l.Rules.length:Int) > 60)) 2,0⟩,⟨196,[.iptr [cw true],.iptr (bA l)],[],tv l,0⟩,⟨197,[.iptr (bA l),.iptr (bY f)],[],(cT l.Rules fun _ r=>ke f l.Kind r).1,(cT l.Rules fun _ r=>ke f l.Kind r).2⟩] ⟨⟨inferInstance,nZ l⟩,fun _=>⟨⟨inferInstance,o0 l true (decide_eq_true (Or.inl h7)).symm⟩,fun _=>⟨⟨inferInstance,o4 f l⟩,fun _=>trivial⟩⟩⟩) rfl rfl (Mp _) rfl fun c L1 hc=>?_
  rw [jf] at hc
  subst hc
  unfold cf
  repeat' (first|refine ae ?_|refine a6 ?_|refine am ?_|refine a8 ?_|refine aa ?_|refine LR a7 LL ?_)
  exact LY LM
 ·rw [decide_eq_false h7]
  repeat' (first|refine ae ?_|refine a6 ?_|refine a8 ?_|refine aa ?_|refine LR a7 LL ?_|refine MB LL ?_|(apply aU;first|refine LT 5 a7 0 LQ ?_|refine LT 5 a7 1 LQ ?_|refine LT 5 a7 2 LQ ?_|refine LU a7 0 LP ?_|refine LU a7 1 LP ?_|refine LU a7 2 LP ?_|refine LU a7 3 LP ?_|fail)|refine bf a7 fun _=>?_|refine cA a7 ?_|fail)
  refine aW [] [] (iD [⟨195,[.iptr (bA l)],[],dP (decide ((l.Rules.length:Int) > 60)) 2,0⟩,⟨196,[.iptr [cw (decide (l.Kind=8))],.iptr (bA l)],[],tv l,0⟩,⟨197,[.iptr (bA l),.iptr (bY f)],[],(cT l.Rules fun _ r=>ke f l.Kind r).1,(cT l.Rules fun _ r=>ke f l.Kind r).2⟩] ⟨⟨inferInstance,nZ l⟩,fun _=>⟨⟨inferInstance,o0 l (decide (l.Kind=8)) (decide_eq_decide.2 ⟨Or.inr,fun h=>h.resolve_left h7⟩)⟩,fun _=>⟨⟨inferInstance,o4 f l⟩,fun _=>trivial⟩⟩⟩) rfl rfl (Mp _) rfl fun c L1 hc=>?_
  rw [jf] at hc
  subst hc
  unfold cf
  repeat' (first|refine ae ?_|refine a6 ?_|refine am ?_|refine a8 ?_|refine aa ?_|refine LR a7 LL ?_)
  exact LY LM
instance (f:aS) (l:b6):AD Tryz.prog 119 [cD f,.agg (bA l)] (aF (mh f l)):=⟨w5 f l⟩
theorem sv (f:aS) (i:Nat) (l:b6):bD Tryz.prog 118 [aF i,.agg (bA l),.iptr (bY f)] (aF (mh f l)):=by
 refine aI Tryz.func118 rfl Tryz.ntmps118 rfl fun B=>?_
 repeat' (first|refine ae ?_|refine a6 ?_|refine am ?_|refine a8 ?_|refine aa ?_|refine LR a7 LL ?_|refine bi ?_|(apply bk;refine b9 ?_)|fail)
 exact LY LM
end Go.Proofs.YtamjlkdanllgjaaGreatDoor
