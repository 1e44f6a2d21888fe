/-
  The program's instances: features, lookups.
-/
import Derived.Test.YtamjlkdanllgjaaGreatDoorM22
import Derived.Test.YtamjlkdanllgjaaGreatDoorM12
import Derived.Test.YtamjlkdanllgjaaGreatDoorM14
import Derived.Test.YtamjlkdanllgjaaGreatDoorM16
import Derived.RecoverIn
import Derived.WalkLawsBesides
import Derived.Test.YtamjlkdanllgjaaGreatDoorM06
import Derived.Laws.NewFold
import Derived.Test.YtamjlkdanllgjaaGreatDoorM05
import Derived.Test.YtamjlkdanllgjaaGreatDoorM20
namespace Go.Proofs.YtamjlkdanllgjaaGreatDoor
open Go.RowKit
attribute [local irreducible] AT bz AX AO Av Kt aZ cY DA cu
set_option maxRecDepth 8000
theorem Cw {a z c ys:List AV} (h:z.length=ys.length):eK (a++(z++c)) a.length ys=a++(ys++c):=by
 apply List.ext_getElem?
 intro j
 rw [ee _ _ _ _ (by rw [List.length_append,List.length_append];omega)]
 by_cases h1:a.length≤j∧j < a.length+ys.length
 ·rw [if_pos h1,List.getElem?_append_right h1.1,List.getElem?_append_left (by omega)]
 ·rw [if_neg h1]
  by_cases h2:j < a.length
  ·rw [List.getElem?_append_left h2,List.getElem?_append_left h2]
  ·rw [List.getElem?_append_right (by omega),List.getElem?_append_right (by omega),List.getElem?_append_right (by omega),List.getElem?_append_right (by omega),h]
def ep {β:Type} (c:β→List AV) (zs:List AV) (l:List β) (i:Nat):List AV:=((l.take i).map c).flatten++(List.replicate (l.length - i) zs).flatten
theorem jl {β:Type} {c:β→List AV} {zs:List AV} {sz:Nat} (hc:∀b,(c b).length=sz) (hz:zs.length=sz) (l:List β) {i:Nat} (hi:i≤l.length):(ep c zs l i).length=l.length * sz:=by
 unfold ep
 rw [List.length_append,bM (sz:=sz) (fun e he=>by obtain ⟨y,_,rfl⟩:=List.mem_map.1 he;exact hc y),bM (sz:=sz) (fun e he=>by rw [List.eq_of_mem_replicate he,hz]),Mv,List.length_take,List.length_replicate,←Nat.add_mul]
 congr 1
 omega
theorem jm {β:Type} {c:β→List AV} {zs:List AV} {sz:Nat} (hc:∀b,(c b).length=sz) (hz:zs.length=sz) {l:List β} {i:Nat} {z:β} (h:l[i]?=some z):eK (ep c zs l i) (i * sz) (c z)=ep c zs l (i+1):=by
 have hi:=(Mq h).1
 have hl:(((l.take i).map c).flatten).length=i * sz:=by
  rw [bM (sz:=sz) (fun e he=>by obtain ⟨y,_,rfl⟩:=List.mem_map.1 he;exact hc y),Mv,List.length_take,Nat.min_eq_left (by omega)]
 unfold ep
 rw [show l.length - i=(l.length - (i+1))+1 by omega,List.replicate_succ,List.flatten_cons,←hl,Cw (by rw [hz,hc]),List.take_add_one,h,List.map_append,List.flatten_append,List.append_assoc]
 simp
theorem ii {β:Type} (c:β→List AV) (zs:List AV) (l:List β):(List.replicate l.length zs).flatten=ep c zs l 0:=by
 unfold ep
 simp
theorem jk {β:Type} (c:β→List AV) (zs:List AV) (l:List β):ep c zs l l.length=(l.map c).flatten:=by
 unfold ep
 simp
theorem ml {P:Program} {tt:TT} {r:Option Nat} {ops:Array Oper} {Q:Exit→Act→World→Prop} {nt:Nat} {D:List Deferred} {fr:bP} {B:Bs} {L:AL} {rest:List Oper} {ty t:TypeId} {pos:String} {af:Array Edge} {x y:Operand} {u:AV} (ok:dG P tt) (i q:Nat) {b p n:Nat} {cs ys:List AV} {e:TypeId} (ht:Ds tt t=some n) (hx:bc fr x=some (.sc (.pointer (some ⟨b,p,none⟩)))) (hp:p=q) (hy:bc fr y=some u) (hu:u.cells=some ys) (hL:L[i]?=some (b,.box cs e)) (hn:Nat.beq ys.length n=true) (hq:q+n≤cs.length) (h:bz P r ops Q nt D rest fr B (f3 L i (.box (eK cs q ys) e))):
  bz P r ops Q nt D (⟨none,.store t x y,ty,pos,af,none⟩::rest) fr B L:=by
 subst hp
 exact aj ok i ht hx hy hu hL hn (Nat.ble_eq_true_of_le hq) h
theorem Ev (l:List bQ) (hl:l.length≤1000000) (hr:∀q∈l,q.Lookups.length≤1000000):bD Tryz.prog 48 [.imm 2 (l.map bJ)] (.imm 2 (l.map bJ)):=by
 refine aI Tryz.func48 rfl Tryz.ntmps48 rfl fun B=>?_
 have hll:(l.map bJ).length=l.length:=Mv ..
 repeat' (first|refine ae ?_|refine a6 ?_|refine a8 ?_|refine aa ?_|refine LR a7 LL ?_)
 refine dS a7 l.length rfl rfl rfl rfl rfl (by rw [hll]) (by rw [hll]) (by omega) (by omega) rfl fun b=>?_
 rw [show (List.replicate l.length (List.map AV.sc _)).flatten=ep bJ [mP ⟨#[]⟩,.sc (.slice none 0 0)] l 0 from ii _ _ _]
 repeat' (first|refine ae ?_|refine a6 ?_|refine ar ?_|refine a8 ?_|refine aa ?_|refine LR a7 LL ?_)
 refine aN [3,9,10] (α:=Nat) (fun i=>[(11,aF i)]) (fun i=>i≤l.length) (fun i=>[(b,.box (ep bJ [mP ⟨#[]⟩,.sc (.slice none 0 0)] l i) _)]) (fun i=>l.length - i) 0 rfl ⟨rfl,trivial⟩ (Nat.zero_le _) (fun _ _ h=>h) fun i hi=>?_
 try dsimp only [Mt,Ms,Mr,Mn]
 repeat' (first|refine ae ?_|refine a6 ?_|refine a8 ?_|refine aa ?_|refine LR a7 LL ?_)
 refine aB rfl (fun h=>?_) (fun h=>?_)
 ·have hil:i < l.length:=by have:=Mz h;omega
  obtain ⟨z,hz⟩:∃z,l[i]?=some z:=⟨_,Ia hil⟩
  have hzg:=c6 (c:=bJ) hz
  clear h
  haveI:=AD.mk (uE (aT z.Lookups) (fun q hq=>by obtain ⟨y,_,rfl⟩:=List.mem_map.1 hq;rfl) (by rw [b7];exact hr z (Mx hz)))
  repeat' (first|refine ae ?_|refine a6 ?_|refine ar ?_|refine aq ?_|refine a8 ?_|refine aa ?_|refine LR a7 LL ?_|(apply aL;first|refine aK a7 ?_|refine aH a7 ?_)|(apply aU;first|refine LT 5 a7 0 LQ ?_|refine LT 5 a7 1 LQ ?_|refine LT 5 a7 2 LQ ?_|refine LU a7 0 LP ?_|refine LU a7 1 LP ?_|refine LU a7 2 LP ?_|refine LU a7 3 LP ?_|fail)|refine bf a7 fun _=>?_|fail)
  refine bB 8 [(0,.v),(1,.v),(2,.v),(3,.v),(4,.v),(5,.v),(6,.v),(7,.v)] none ?_ trivial rfl (by kernel_rfl) (by kernel_rfl) (by kernel_rfl) mixed (by kernel_rfl) rfl
  repeat' (first|refine aJ ?_|refine bw a7 ?_|(apply cM;refine dc ?_)|fail)
  refine MG [3,9,10,11,16,17,23] LL ?_
  repeat' (first|(apply aL;first|refine aK a7 ?_|refine aH a7 ?_)|fail)
  refine ml (n:=2) (ys:=bJ z) a7 0 (i * 2) rfl rfl (by omega) rfl rfl rfl rfl (by rw [jl (sz:=2) (fun _=>rfl) rfl l hi];omega) ?_
  rw [jm (sz:=2) (fun _=>rfl) rfl hz]
  repeat' (first|refine a6 ?_|refine a8 ?_|refine aP ?_|refine aa ?_|refine LR a7 LL ?_|(apply aY;refine aX ?_)|fail)
  exact aE (i+1) rfl ⟨by rw [Mw];rfl,trivial⟩ hil (by omega) (fun _ _ h=>h)
 ·have hil:i=l.length:=by have:=My h;omega
  subst hil
  repeat' (first|refine ae ?_|refine a6 ?_|refine am ?_|refine aO ?_|refine a8 ?_|refine av ?_|refine aC ?_|refine aA ?_|refine aa ?_|refine LR a7 LL ?_)
  rw [jk]
  have hfl:((l.map bJ).flatten).length=l.length * 2:=by rw [bM (sz:=2) (fun e he=>by obtain ⟨y,_,rfl⟩:=List.mem_map.1 he;rfl),hll]
  refine br (cP (t:=2) (sz:=2) (l:=l.map bJ) 0 rfl rfl (List.take_of_length_le (by omega)) (by omega) (fun q hq=>by obtain ⟨y,_,rfl⟩:=List.mem_map.1 hq;rfl) hll (Nat.le_refl _) (by unfold maxLen;omega)) ?_
  exact LY LM
structure Gg (r:bh):Prop where
 back:r.Back.length≤1000000∧∀q∈r.Back,q.length≤1000000
 inn:r.In.length≤1000000∧∀q∈r.In,q.length≤1000000
 ahead:r.Ahead.length≤1000000∧∀q∈r.Ahead,q.length≤1000000
 out:r.Out.length≤1000000
 calls:r.Calls.length≤1000000
abbrev jx:AV:= .sc (.slice none 0 0)
abbrev JB:List AV:=[aF 0,cw false,jx]
abbrev L4:List AV:=[jx,jx,jx,jx,jx,aF 0]
theorem Cx {cs:List AV} {k:Nat} {a b c c':AV} (h:k+3≤cs.length):(eK cs k [a,b,c]).set (k+2) c'=eK cs k [a,b,c']:=by
 apply List.ext_getElem?
 intro j
 rw [ee _ _ _ _ (by simp;omega)]
 by_cases e:k+2=j
 ·subst e
  rw [List.getElem?_set_self (by rw [gx];omega),if_pos (by simp)]
  simp
 ·rw [List.getElem?_set_ne e,ee _ _ _ _ (by simp;omega)]
  by_cases h1:k≤j∧j < k+3
  ·rw [if_pos (by simpa using h1),if_pos (by simpa using h1)]
   have:j - k=0∨j - k=1:=by omega
   rcases this with h2 | h2 <;> rw [h2] <;> rfl
  ·rw [if_neg (by simpa using h1),if_neg (by simpa using h1)]
set_option maxHeartbeats 8000000 in
theorem ER (l:List b6) (hl:l.length≤1000000) (hr:∀q∈l,q.Rules.length≤1000000∧∀r∈q.Rules,Gg r):bD Tryz.prog 47 [.imm 3 (l.map bA)] (.imm 3 (l.map bA)):=by
 refine aI Tryz.func47 rfl Tryz.ntmps47 rfl fun B=>?_
 have hll:(l.map bA).length=l.length:=Mv ..
 repeat' (first|refine ae ?_|refine a6 ?_|refine a8 ?_|refine aa ?_|refine LR a7 LL ?_)
 refine dS a7 l.length rfl rfl rfl rfl rfl (by rw [hll]) (by rw [hll]) (by omega) (by omega) rfl fun b=>?_
 rw [show (List.replicate l.length (List.map AV.sc _)).flatten=ep bA JB l 0 from ii _ _ _]
 repeat' (first|refine ae ?_|refine a6 ?_|refine ar ?_|refine a8 ?_|refine aa ?_|refine LR a7 LL ?_)
 refine aN [3,11,12] (α:=Nat) (fun i=>[(13,aF i)]) (fun i=>i≤l.length) (fun i=>[(b,.box (ep bA JB l i) _)]) (fun i=>l.length - i) 0 rfl ⟨rfl,trivial⟩ (Nat.zero_le _) (fun _ _ h=>h) fun i hi=>?_
 try dsimp only [Mt,Ms,Mr,Mn]
 repeat' (first|refine ae ?_|refine a6 ?_|refine a8 ?_|refine aa ?_|refine LR a7 LL ?_)
 refine aB rfl (fun h=>?_) (fun h=>?_)
 ·have hil:i < l.length:=by have:=Mz h;omega
  obtain ⟨z,hz⟩:∃z,l[i]?=some z:=⟨_,Ia hil⟩
  have hzg:=c6 (c:=bA) hz
  obtain ⟨hn,hrs⟩:=hr z (Mx hz)
  have hrl:(z.Rules.map bR).length=z.Rules.length:=Mv ..
  clear h
  repeat' (first|refine ae ?_|refine a6 ?_|refine ar ?_|refine aq ?_|refine a8 ?_|refine aa ?_|refine LR a7 LL ?_|(apply aL;first|refine aK a7 ?_|refine aH a7 ?_)|(apply aU;first|refine LT 5 a7 0 LQ ?_|refine LT 5 a7 1 LQ ?_|refine LT 5 a7 2 LQ ?_|refine LT 7 a7 0 LQ ?_|refine LT 7 a7 1 LQ ?_|refine LT 7 a7 2 LQ ?_|refine LU a7 0 LP ?_|refine LU a7 1 LP ?_|refine LU a7 2 LP ?_|refine LU a7 3 LP ?_|fail)|refine bf a7 fun _=>?_|fail)
  refine bB 11 [(0,.v),(1,.v),(2,.v),(3,.v),(4,.v),(5,.v),(6,.v),(7,.v),(8,.v),(9,.e),(10,.v)] none ?_ trivial rfl (by kernel_rfl) (by kernel_rfl) (by kernel_rfl) mixed (by kernel_rfl) rfl
  repeat' (first|refine aJ ?_|refine bw a7 ?_|fail)
  refine GT a7 z.Rules.length rfl rfl rfl rfl rfl (by rw [hrl]) (by rw [hrl]) (by omega) (by omega) (by first | trivial | rfl) fun rb=>?_
  rw [show (List.replicate z.Rules.length (List.map AV.sc _)).flatten=ep bR L4 z.Rules 0 from ii _ _ _]
  repeat' (first|refine aJ ?_|refine bw a7 ?_|fail)
  refine MG [3,4,5,11,12,13,18,19,28] LL ?_
  repeat' (first|(apply aL;first|refine aK a7 ?_|refine aH a7 ?_)|fail)
  have hsl:=jl (c:=bA) (zs:=JB) (sz:=3) (fun _=>rfl) rfl l hi
  refine ml (n:=3) (ys:=[aF z.Kind,cw z.Ignore,.sc (.slice (some ⟨rb,0,none⟩) z.Rules.length z.Rules.length)]) a7 1 (i * 3) rfl rfl (by omega) rfl rfl rfl rfl (by rw [hsl];omega) ?_
  repeat' (first|refine ae ?_|refine a6 ?_|refine ar ?_|refine a8 ?_|refine aa ?_|refine LR a7 LL ?_)
  have hcell:(eK (ep bA JB l i) (i * 3) [aF z.Kind,cw z.Ignore,.sc (.slice (some ⟨rb,0,none⟩) z.Rules.length z.Rules.length)])[i * 3+2]?=some (.sc (.slice (some ⟨rb,0,none⟩) z.Rules.length z.Rules.length)):=by
   rw [ee _ _ _ _ (by rw [hsl];show _+3≤_;omega),if_pos ⟨by omega,by show _ < _+3;omega⟩,show i * 3+2 - i * 3=2 by omega]
   rfl
  refine aN [3,4,11,12,13,31,32] (α:=Nat) (fun j=>[(33,aF j)]) (fun j=>j≤z.Rules.length) (fun j=>(rb,.box (ep bR L4 z.Rules j) _)::[(b,.box (eK (ep bA JB l i) (i * 3) [aF z.Kind,cw z.Ignore,.sc (.slice (some ⟨rb,0,none⟩) z.Rules.length z.Rules.length)]) _)]) (fun j=>z.Rules.length - j) 0 rfl ⟨rfl,trivial⟩ (Nat.zero_le _) (fun _ _ h=>h) fun j hj=>?_
  try dsimp only [Mt,Ms,Mr,Mn]
  repeat' (first|refine ae ?_|refine a6 ?_|refine a8 ?_|refine aa ?_|refine LR a7 LL ?_)
  refine aB rfl (fun h=>?_) (fun h=>?_)
  ·have hjl:j < z.Rules.length:=by have:=Mz h;omega
   obtain ⟨r,hrr⟩:∃r,z.Rules[j]?=some r:=⟨_,Ia hjl⟩
   have hrg:=c6 (c:=bR) hrr
   have hsm:=hrs r (Mx hrr)
   haveI i1:=AD.mk (ww r.Back hsm.back.1 hsm.back.2)
   haveI i2:=AD.mk (ww r.In hsm.inn.1 hsm.inn.2)
   haveI i3:=AD.mk (ww r.Ahead hsm.ahead.1 hsm.ahead.2)
   haveI i4:=AD.mk (uE (aT r.Out) (fun q hq=>by obtain ⟨y,_,rfl⟩:=List.mem_map.1 hq;rfl) (by rw [b7];exact hsm.out))
   haveI i5:=AD.mk (Jp (r.Calls.map gu) (fun q hq=>by obtain ⟨y,_,rfl⟩:=List.mem_map.1 hq;rfl) (by rw [Mv];exact hsm.calls))
   clear h
   repeat' (first|refine ae ?_|refine a6 ?_|refine ar ?_|refine aq ?_|refine a8 ?_|refine aa ?_|refine LR a7 LL ?_|(apply aL;first|refine aK a7 ?_|refine aH a7 ?_)|(apply aU;first|refine LT 5 a7 0 LQ ?_|refine LT 5 a7 1 LQ ?_|refine LT 5 a7 2 LQ ?_|refine LT 7 a7 0 LQ ?_|refine LT 7 a7 1 LQ ?_|refine LT 7 a7 2 LQ ?_|refine LU a7 0 LP ?_|refine LU a7 1 LP ?_|refine LU a7 2 LP ?_|refine LU a7 3 LP ?_|fail)|refine bf a7 fun _=>?_|fail)
   refine bB 24 [(0,.v),(1,.v),(2,.v),(3,.v),(4,.l),(5,.v),(6,.v),(7,.v),(8,.v),(9,.v),(10,.v),(11,.v),(12,.v),(13,.v),(14,.v),(15,.v),(16,.v),(17,.v),(18,.v),(19,.v),(20,.v),(21,.v),(22,.v),(23,.v)] none ?_ trivial rfl (by kernel_rfl) (by kernel_rfl) (by kernel_rfl) mixed (by kernel_rfl) rfl
   repeat' (first|refine aJ ?_|refine bw a7 ?_|fail)
   refine cx a7 rfl rfl rfl ⟨by omega,by omega⟩ (by first | trivial | rfl) ?_
   repeat' (first|refine aJ ?_|refine bw a7 ?_|fail)
   refine lW a7 1 (i * 3+2) rfl rfl (by omega) rfl hcell (by first | trivial | rfl) ?_
   repeat' (first|refine aJ ?_|refine bw a7 ?_|(apply cM;refine dc ?_)|fail)
   refine MG [3,4,11,12,13,31,32,33,42,43,61] LL ?_
   repeat' (first|(apply aL;first|refine aK a7 ?_|refine aH a7 ?_)|fail)
   refine ml (n:=6) (ys:=bR r) a7 0 (j * 6) rfl rfl (by omega) rfl rfl rfl rfl (by rw [jl (sz:=6) (fun _=>rfl) rfl _ hj];omega) ?_
   rw [jm (sz:=6) (fun _=>rfl) rfl hrr]
   repeat' (first|refine a6 ?_|refine a8 ?_|refine aP ?_|refine aa ?_|refine LR a7 LL ?_|(apply aY;refine aX ?_)|fail)
   exact aE (j+1) rfl ⟨by rw [Mw];rfl,trivial⟩ hjl (by omega) (fun _ _ h=>h)
  ·have hjl:j=z.Rules.length:=by have:=My h;omega
   subst hjl
   clear h
   rw [jk]
   repeat' (first|refine a6 ?_|refine aO ?_|refine a8 ?_|refine av ?_|refine aP ?_|refine aC ?_|refine aA ?_|refine aa ?_|refine LR a7 LL ?_|(apply aY;refine aX ?_)|fail)
   have hfl:((z.Rules.map bR).flatten).length=z.Rules.length * 6:=by rw [bM (sz:=6) (fun e he=>by obtain ⟨y,_,rfl⟩:=List.mem_map.1 he;rfl),hrl]
   refine br (rR (k:=i * 3+2) (sz:=6) (l:=z.Rules.map bR) hcell (List.take_of_length_le (by omega)) hfl (fun q hq=>by obtain ⟨y,_,rfl⟩:=List.mem_map.1 hq;rfl) hrl (Nat.le_refl _) (by unfold maxLen;omega)) ?_
   rw [Cx (by rw [hsl];omega),show [aF z.Kind,cw z.Ignore,AV.imm 6 (z.Rules.map bR)]=bA z from rfl,jm (sz:=3) (fun _=>rfl) rfl hz]
   exact aE (i+1) rfl ⟨by rw [Mw];rfl,trivial⟩ hil (by omega) (fun _ _ h=>h)
 ·have hil:i=l.length:=by have:=My h;omega
  subst hil
  repeat' (first|refine ae ?_|refine a6 ?_|refine am ?_|refine aO ?_|refine a8 ?_|refine av ?_|refine aC ?_|refine aA ?_|refine aa ?_|refine LR a7 LL ?_)
  rw [jk]
  have hfl:((l.map bA).flatten).length=l.length * 3:=by rw [bM (sz:=3) (fun e he=>by obtain ⟨y,_,rfl⟩:=List.mem_map.1 he;rfl),hll]
  refine br (cP (t:=2) (sz:=3) (l:=l.map bA) 0 rfl rfl (List.take_of_length_le (by omega)) (by omega) (fun q hq=>by obtain ⟨y,_,rfl⟩:=List.mem_map.1 hq;rfl) hll (Nat.le_refl _) (by unfold maxLen;omega)) ?_
  exact LY LM
end Go.Proofs.YtamjlkdanllgjaaGreatDoor
namespace Go.Proofs.YtamjlkdanllgjaaGreatDoor
open Go.RowKit
def oO (P:Program) (f:FuncId) (args:List AV) (L:AL) (u u':FrameMode) (L':AL):Prop:=∀σ w vs,cR σ args vs→cK ⟨w,σ,L.map (·.1)⟩ σ L w→
 CallsDIn Fence.wide 0 P f vs.toArray u w fun e m w'=>∃τ v,e= .returned v∧m=u'∧cK ⟨w,σ,L.map (·.1)⟩ τ L' w'
def Ea (f:FuncId) (vs:List Value):Deferred:={ target:= .fn (.func f) vs.toArray,args:=#[] }
def DQ (B:Bs) (L':AL):Exit→Act→World→Prop:=fun e a w=>(e= .normal∨e= .ret)∧a.defers=[]∧∃τ,cK B τ L' w
section
variable {P:Program} {r:Option Nat} {ops:Array Oper} {Q:Exit→Act→World→Prop} {nt:Nat} {D:List Deferred} {fr:bP} {B:Bs} {L:AL} {rest:List Oper}
variable {d:Nat} {t ty:TypeId} {pos:String} {af:Array Edge} {x:Operand} {u:AV}
theorem H0 {σ:bW} {f:FuncId} {vs:List Value} {v:Value} (h:VR σ (.fn f (vs.map .sc)) v):v= .func (.func f) #[] vs.toArray:=by
 generalize hc:AV.fn f (vs.map .sc)=c at h
 cases h with
 | fn f' cs ws hl h=>
  injection hc with h1 h2
  subst h1;subst h2
  have:ws=vs:=by
   apply List.ext_getElem?
   intro i
   have hl':vs.length=ws.length:=by simpa using hl
   by_cases hi:i < vs.length
   ·have h3:(vs.map AV.sc)[i]?=some (.sc vs[i]):=by simp [hi]
    have h4:ws[i]?=some (ws[i]'(by omega)):=Ia (by omega)
    have:=(h i _ _ h3 h4).sc_inv
    rw [h4,this,Ia hi]
   ·rw [List.getElem?_eq_none (by omega),List.getElem?_eq_none (by omega)]
  rw [this]
 | _=>cases hc
theorem xA {f:FuncId} (vs:List Value) {ts:Array TypeId} (hx:bc fr x=some (.fn f (vs.map .sc))) (h:bz P none ops Q nt (Ea f vs::D) rest fr B L):bz P none ops Q nt D (⟨none,.defer ⟨.value x,#[],ts⟩,ty,pos,af,none⟩::rest) fr B L:=by
 intro σ a w ha hw
 unfold wpListIn
 rw [if_pos (by simp [Region.wanted])]
 have hv:=H0 (ha.eval hx)
 refine ⟨fun _ _=>trivial,?_⟩
 have hr:(Oper.semAt none a.eval ⟨none,.defer ⟨.value x,#[],ts⟩,ty,pos,af,none⟩).run P w= .ok (.defer (Ea f vs)) w:=by
  rw [Oper.semAt_none]
  simp [execOp,resolve,hv,Deferred.ofValue,Ea]
 rw [show (Wd none).round=none from rfl,hr]
 exact h σ _ w ⟨ha.size,by show Ea f vs::a.defers=_;rw [ha.defers],ha.look⟩ hw
theorem EY {v:Value} (hx:bc fr x=some (.sc (.iface t v))) (h:AX P (.panic [{ v:= .iface t v,recovered:=false }]) Q nt D fr B L) {dd:Option Tmp}:bz P r ops Q nt D (⟨dd,.panic x,ty,pos,af,none⟩::rest) fr B L:=by
 intro σ a w ha hw
 unfold wpListIn
 rw [if_pos (by simp [Region.wanted])]
 have hv:=(ha.eval hx).sc_inv
 refine ⟨fun _ _=>trivial,?_⟩
 have hr:(Oper.semAt r a.eval ⟨dd,.panic x,ty,pos,af,none⟩).run P w= .halt (.panic (.iface t v)) w:=by
  rw [Oper.semAt_eq _ _ _ (by simp)]
  simp [execOp,hv,Instr.panic]
 rw [show (Wd r).round=r from rfl,hr]
 exact h σ a w ha hw
theorem qA {c:List PanicEntry} {y:Code} (h:AX P (.panic c) Q nt D fr B L):AX P (.panic c) (Kt P r y Q) nt D fr B L:=fun σ a w ha hw=>h σ a w ha hw
theorem vn {L':AL} (hs:L'.Sublist L):AX P .normal (DQ B L') nt [] fr B L:=fun σ _ _ ha hw=>⟨.inl rfl,ha.defers,σ,hw.sublist hs⟩
theorem vF {f:FuncId} {fn:Func} {rc:Code} {args:List AV} {L':AL} {m m':FrameMode} {v:Value} {d1 d2 id1:Nat} {ty1 ty2:TypeId} {p1 p2:String} {a1 a2:Array Edge} {ts:Array TypeId} (hf:P.funcs[f]?=some fn) (hb:fn.body=some (.seq (.region id1 #[⟨some d1,.call ⟨.builtin .recover,#[],ts⟩,ty1,p1,a1,none⟩,⟨some d2,.assign (.tmp d1),ty2,p2,a2,none⟩] false) rc)) (hn:fn.ntmps=nt) (hs:Nat.ble args.length nt=true) (hres:fn.results=#[]) (h1:Nat.ble nt d1=false) (h2:Nat.ble nt d2=false)
  (hrec:∀(c₀:Frame) (cs:List Frame),c₀.mode=m→(recoverD (c₀::cs)=some (v,{ c₀ with mode:=m' }::cs))∨(recoverD (c₀::cs)=none∧v= .nilIface∧m'=m))
  (h:∀B,AT P none rc (DQ B L') nt [] ((d2,.sc v)::(d1,.sc v)::lI 0 args) B L):oO P f args L m m' L':=by
 intro σ w vs hv hst
 have hs':args.length≤nt:=by simpa [Nat.ble_eq] using hs
 have hl:=hv.1
 refine callsDIn_of_wpSIn (F:=Fence.wide) hf hb trivial fun c₀ cs hu=>?_
 have ha0:i6 σ nt [] (lI 0 args) { tmps:=vs.toArray++Array.replicate (fn.ntmps - vs.toArray.size) undef,defers:=[] }:=by
  refine ⟨by simp [hn];omega,rfl,fun t v hlk=>?_⟩
  obtain ⟨_,h2⟩:=gM args 0 t v hlk
  simp only [Nat.sub_zero] at h2
  have hlt:t < vs.length:=by have:=(Mq h2).1;omega
  simp only [Array.getD_eq_getD_getElem?]
  rw [Array.getElem?_append_left (by simpa using hlt)]
  have:=hv.2 t v vs[t] h2 (Ia hlt)
  simpa [hlt] using this
 generalize ({ tmps:=vs.toArray++Array.replicate (fn.ntmps - vs.toArray.size) undef,defers:=[] }:Act)=a0 at ha0
 refine wpSIn_seq (wpSIn_region ?_)
 have e1:∀w:World,(execOp a0.eval ⟨some d1,.call ⟨.builtin .recover,#[],ts⟩,ty1,p1,a1,none⟩).run P w= .ok .recover w:=fun w=>by
  simp [execOp,resolve,invoke,builtin]
 have key:∀csx:List Frame,(∃c',csx={ c₀ with mode:=m' }::cs∧c'=c₀)→wpOpsSIn Fence.wide 0 P #[⟨some d1,.call ⟨.builtin .recover,#[],ts⟩,ty1,p1,a1,none⟩,⟨some d2,.assign (.tmp d1),ty2,p2,a2,none⟩] (Exit.thenS (rc.wpSIn Fence.wide 0 P (bodyPostS P fn c₀ cs fun e m w'=>∃τ v,e= .returned v∧m=m'∧cK ⟨w,σ,L.map (·.1)⟩ τ L' w')) (bodyPostS P fn c₀ cs fun e m w'=>∃τ v,e= .returned v∧m=m'∧cK ⟨w,σ,L.map (·.1)⟩ τ L' w')) [1] (a0.put (some d1) v) csx w:=by
  rintro csx ⟨_,rfl,-⟩
  have ha1:=ha0.put (gK h1) (VR.sc v)
  have e2:(execOp (a0.put (some d1) v).eval ⟨some d2,.assign (.tmp d1),ty2,p2,a2,none⟩).run P w= .ok (.value v) w:=by
   have:(a0.put (some d1) v).eval (.tmp d1)=v:=(ha1.eval (x:= .tmp d1) (c:= .sc v) (by simp [bc,ca])).sc_inv
   simp [execOp,this]
  rw [wpOpsSIn]
  simp only [List.getElem?_toArray,List.getElem?_cons_succ,List.getElem?_cons_zero]
  refine ⟨fun _ _=>trivial,?_⟩
  rw [if_pos (by simp [Region.wanted]),e2]
  refine wpSIn_of_wpIn rfl (wpIn_mono (h _ σ _ w (ha1.put (gK h2) (VR.sc v)) hst) ?_)
  rintro e a' w' ⟨he,hd,τ,hst'⟩
  rcases he with rfl | rfl
  ·exact ⟨hd,m',rfl,.tuple #[],results_none hres _ _ _,τ,_,rfl,rfl,hst'⟩
  ·exact ⟨hd,m',rfl,.tuple #[],results_none hres _ _ _,τ,_,rfl,rfl,hst'⟩
 have hr:List.range (#[(⟨some d1,.call ⟨.builtin .recover,#[],ts⟩,ty1,p1,a1,none⟩:Oper),⟨some d2,.assign (.tmp d1),ty2,p2,a2,none⟩]:Array Oper).size=[0,1]:=rfl
 rw [hr]
 rw [wpOpsSIn]
 simp only [List.getElem?_toArray,List.getElem?_cons_zero]
 refine ⟨fun _ _=>trivial,?_⟩
 rw [if_pos (by simp [Region.wanted]),e1]
 rcases hrec c₀ cs hu with h3 | ⟨h3,h4,h5⟩
 ·rw [h3]
  exact key _ ⟨c₀,rfl,rfl⟩
 ·rw [h3]
  subst h4
  exact key _ ⟨c₀,by subst h5;subst hu;rfl,rfl⟩
theorem uB (c₀:Frame) (cs:List Frame) (h:c₀.mode= .returning):(recoverD (c₀::cs)=some (.nilIface,{ c₀ with mode:= .returning }::cs))∨(recoverD (c₀::cs)=none∧Value.nilIface= .nilIface∧FrameMode.returning= .returning):= .inr ⟨by simp [recoverD,h],rfl,rfl⟩
theorem CA {v:Value} (c₀:Frame) (cs:List Frame) (h:c₀.mode= .panicking [{ v,recovered:=false }]):(recoverD (c₀::cs)=some (v,{ c₀ with mode:= .panicking [{ v,recovered:=true }] }::cs))∨(recoverD (c₀::cs)=none∧v= .nilIface∧FrameMode.panicking [{ v,recovered:=true }]= .panicking [{ v,recovered:=false }]):= .inl (by simp [recoverD,h])
theorem pH {f:FuncId} {vs:List Value} {fn:Func} {Post:AV→AL→Prop} {cs:List AV} {σ:bW} {a:Act} {w:World} {m m':FrameMode} (Lc Lf L' L0:AL) [hf:bC P f] (hm:m≠ .run) (hm':settle m'= .returning) (hC:oO P f (vs.map .sc) Lc m m' L') (hL:L.Perm (Lc++Lf)) (ha:i6 σ nt [Ea f vs] fr a) (hw:cK B σ L w) (hr:l4 P fr (L'++Lf) fn.results.toList cs) (hs:L0.Sublist (L'++Lf)) (h:Post (oz cs) L0):LeavesInM Fence.wide 0 P fn a.tmps (gL B Post) [Ea f vs] m w:=by
 have hw':=hw.perm hL
 refine ⟨hm,.inr ⟨fun hh=>by simp [Fence.wide] at hh,.func f,vs.toArray,f,vs.toArray,rfl,?_,fun _ _=>trivial,?_⟩⟩
 ·have:=hf.enters vs.toArray w
  simpa [Ea,invoke] using this
 have hvs:cR σ (vs.map .sc) vs:=⟨by simp,fun i c u hc hu=>by
  rw [List.getElem?_map,hu] at hc
  cases hc
  exact .sc _⟩
 obtain ⟨hF,hall⟩:=hC σ w vs hvs hw'.enter
 refine ⟨hF,fun c cs0 hu hroom=>?_⟩
 obtain ⟨e,u',w',fr',⟨τ,v,rfl,rfl,hst⟩,hrest⟩:=hall c cs0 hu hroom
 refine ⟨_,_,w',fr',?_,hrest⟩
 show LeavesInM Fence.wide 0 P fn a.tmps (gL B Post) [] (settle u') w'
 rw [hm']
 have hst2:=hw'.leave hst
 have hle:σ.le τ:=hst.grow
 obtain ⟨v2,h1,h2⟩:=ie (ha.mono hle) hst2 hr
 exact ⟨v2,h1,v2,τ,oz cs,L0,rfl,h2,hst2.sublist hs,h⟩
theorem x3 {f:FuncId} {vs:List Value} {fn:Func} {Post:AV→AL→Prop} {cs:List AV} (Lc Lf L' L0:AL) [bC P f] (hC:oO P f (vs.map .sc) Lc .returning .returning L') (hL:L.Perm (Lc++Lf)) (hr:l4 P fr (L'++Lf) fn.results.toList cs) (hs:L0.Sublist (L'++Lf)) (h:Post (oz cs) L0):AX P .ret (bodyPostM Fence.wide 0 P fn (gL B Post)) nt [Ea f vs] fr B L:=fun σ a w ha hw=>by
 show LeavesInM _ _ _ _ _ _ a.defers _ _
 rw [ha.defers]
 exact pH Lc Lf L' L0 (by simp) rfl hC hL ha hw hr hs h
theorem yd {f:FuncId} {vs:List Value} {fn:Func} {Post:AV→AL→Prop} {cs:List AV} {v:Value} (Lc Lf L' L0:AL) [bC P f] (hC:oO P f (vs.map .sc) Lc (.panicking [{ v,recovered:=false }]) (.panicking [{ v,recovered:=true }]) L') (hL:L.Perm (Lc++Lf)) (hr:l4 P fr (L'++Lf) fn.results.toList cs) (hs:L0.Sublist (L'++Lf)) (h:Post (oz cs) L0):AX P (.panic [{ v,recovered:=false }]) (bodyPostM Fence.wide 0 P fn (gL B Post)) nt [Ea f vs] fr B L:=fun σ a w ha hw=>by
 show LeavesInM _ _ _ _ _ _ a.defers _ _
 rw [ha.defers]
 exact pH Lc Lf L' L0 (by simp) rfl hC hL ha hw hr hs h
end
section
variable {P:Program} {r:Option Nat} {ops:Array Oper} {Q:Exit→Act→World→Prop} {nt:Nat} {D:List Deferred} {fr:bP} {B:Bs} {L:AL} {rest:List Oper}
variable {d:Nat} {t t' ty:TypeId} {pos:String} {af:Array Edge} {x:Operand} {u:AV}
theorem wh (b:Bool) {v:Value} (ht:∃ms,P.underlying t=some (.interface ms)) (hx:bc fr x=some (.sc v)) (hv:(v= .nilIface∧b=false)∨(∃q w,v= .iface q w)∧b=true) (hd:Nat.ble nt d=false) (h:bz P r ops Q nt D rest ((d,.sc (.bool b))::fr) B L):bz P r ops Q nt D (⟨some d,.binOp .neq t x (.const .nilIface) t',ty,pos,af,none⟩::rest) fr B L:=by
 obtain ⟨ms,ht⟩:=ht
 refine c5 (u:= .sc (.bool b)) (fun σ ρ w hρ _=>?_) hd rfl h
 refine ⟨.bool b,?_,.sc _⟩
 have hy:=(hρ (.const .nilIface) _ rfl).sc_inv
 have hxv:=(hρ x _ hx).sc_inv
 have he:(Op.equal t v .nilIface).run P w= .ok (!b) w:=by
  unfold Op.equal Op.maxDepth
  rcases hv with ⟨rfl,rfl⟩ | ⟨⟨q,z,rfl⟩,rfl⟩
  ·rw [show (10000:Nat)=9999+1 from rfl,Op.equalIn]
   simp [run_underlying ht]
  ·rw [show (10000:Nat)=9999+1 from rfl,Op.equalIn]
   simp [run_underlying ht]
 rcases hv with ⟨rfl,rfl⟩ | ⟨⟨q,z,rfl⟩,rfl⟩
 ·simp [execOp,hxv,hy,eqGuard,binOp,he]
 ·simp [execOp,hxv,hy,eqGuard,binOp,he]
theorem z6 {v:Value} (ht:gw P t=true) (hx:bc fr x=some (.sc (.iface t v))) (hd:Nat.ble nt d=false) (h:bz P r ops Q nt D rest ((d,.tup [.sc v,.sc (.bool true)])::fr) B L):bz P r ops Q nt D (⟨some d,.typeAssert x t' t true,ty,pos,af,none⟩::rest) fr B L:=by
 refine c5 (u:= .tup [.sc v,.sc (.bool true)]) (fun σ ρ w hρ _=>?_) hd rfl h
 obtain ⟨dd,hu,hd'⟩:=it ht
 refine ⟨.tuple #[v,.bool true],?_,.tup _ _ rfl (cR.cons (.sc _) (cR.cons (.sc _) cR.nil)).2⟩
 have hxv:=(hρ x _ hx).sc_inv
 have:(Instr.typeAssert (.iface t v) t' t true).run P w= .ok (.tuple #[v,.bool true]) w:=by
  simp only [Instr.typeAssert,Sem.run_bind,run_underlying hu,Result.andThen]
  cases dd <;> first | (exfalso;exact hd' _ rfl) | simp
 simp [execOp,hxv,this]
end
end Go.Proofs.YtamjlkdanllgjaaGreatDoor
namespace Go.Proofs.YtamjlkdanllgjaaGreatDoor
open Go.RowKit
section
variable {P:Program} {tt:TT} {r:Option Nat} {ops:Array Oper} {Q:Exit→Act→World→Prop} {nt:Nat} {D:List Deferred} {fr:bP} {B:Bs} {L:AL} {rest:List Oper}
variable {d:Nat} {ty t:TypeId} {pos:String} {af:Array Edge} {x y:Operand} {u:AV}
theorem pN {kd:TypeDesc} {σ:bW} {o:Obj} (h:iw kd (fun _=>none) σ o):∃clock,o= .map #[] clock:=by
 obtain ⟨es,clock,rfl,h1,_,_⟩:=h
 refine ⟨clock,?_⟩
 congr 1
 cases hc:es.toList with
 | nil=>exact Array.toList_inj.1 hc
 | cons e _=>
  obtain ⟨_,c,hc',_⟩:=h1 e (by rw [hc];exact List.mem_cons_self ..)
  cases hc'
def IW (b:Nat):AB:= .raw fun o=>∃c,o= .mapIter (some b) c #[] c
theorem Ca (i:Nat) {b kt et:Nat} {kd:TypeDesc} (ht:P.underlying t=some (.map kt et)) (hx:bc fr x=some (.sc (.map (some b)))) (hL:L[i]?=some (b,bV kd fun _=>none)) (hd:Nat.ble nt d=false) (h:∀q,bz P r ops Q nt D rest ((d,.sc (.pointer (some ⟨q,0,none⟩)))::fr) B ((q,IW b)::L)):
  bz P r ops Q nt D (⟨some d,.range t x,ty,pos,af,none⟩::rest) fr B L:=by
 refine ce (R:=fun c L'=>∃q,c= .sc (.pointer (some ⟨q,0,none⟩))∧L'=(q,IW b)::L) hd rfl (fun σ ρ w hρ hw=>?_) fun c L' ⟨q,h1,h2⟩=>by subst h1;subst h2;exact h q
 obtain ⟨o,ho,hM⟩:=hw.here _ (Mx hL)
 obtain ⟨clock,rfl⟩:=pN hM
 have hr:(execOp ρ ⟨some d,.range t x,ty,pos,af,none⟩).run P w= .ok (.value (.pointer (some ⟨w.heap.size,0,none⟩))) (w.alloc (.mapIter (some b) clock #[] clock)):=by
  have hg:(getObj b).run P w= .ok (.map #[] clock) w:=(by simp [getObj,Sem.run,show w.heap[b]?=_ from ho])
  simp [execOp,Instr.range,(hρ x _ hx).sc_inv,run_underlying ht,hg]
 unfold gn
 rw [hr]
 exact ⟨σ,_,_,bW.le_refl _,.sc _,hw.alloc _ (IW b) ⟨clock,rfl⟩,_,rfl,rfl⟩
theorem EX (i j:Nat) {b q:Nat} {kd:TypeDesc} (hx:bc fr x=some (.sc (.pointer (some ⟨q,0,none⟩)))) (hL:L[i]?=some (q,IW b)) (hM:L[j]?=some (b,bV kd fun _=>none)) (hd:Nat.ble nt d=false) (h:bz P r ops Q nt D rest ((d,.tup [.sc (.bool false)])::fr) B L):
  bz P r ops Q nt D (⟨some d,.next x false,ty,pos,af,none⟩::rest) fr B L:=by
 refine ce (R:=fun c L'=>c= .tup [.sc (.bool false)]∧L'=L) hd rfl (fun σ ρ w hρ hw=>?_) fun c L' ⟨h1,h2⟩=>by subst h1;subst h2;exact h
 obtain ⟨o,ho,c,rfl⟩:=hw.here _ (Mx hL)
 obtain ⟨o2,ho2,hM2⟩:=hw.here _ (Mx hM)
 obtain ⟨clock,rfl⟩:=pN hM2
 have hr:(execOp ρ ⟨some d,.next x false,ty,pos,af,none⟩).run P w= .ok (.value (.tuple #[.bool false])) w:=by
  have hg:(getObj q).run P w= .ok (.mapIter (some b) c #[] c) w:=(by simp [getObj,Sem.run,show w.heap[q]?=_ from ho])
  have hg2:(getObj b).run P w= .ok (.map #[] clock) w:=(by simp [getObj,Sem.run,show w.heap[b]?=_ from ho2])
  simp [execOp,Instr.next,(hρ x _ hx).sc_inv,hg,hg2,Question.forced]
 unfold gn
 rw [hr]
 exact ⟨σ,_,_,bW.le_refl _,.tup _ _ rfl (cR.cons (.sc _) cR.nil).2,hw,rfl,rfl⟩
end
end Go.Proofs.YtamjlkdanllgjaaGreatDoor
namespace Go.Proofs.YtamjlkdanllgjaaGreatDoor
structure MS where
 a:Nat
 lo:Fin 3
abbrev DM (α:Type):=MS→α×MS
section
variable {α β:Type}
def ret (x:α):DM α:=fun m=>(x,m)
def dC (g:DM α) (k:α→DM β):DM β:=fun m=>k (g m).1 (g m).2
def gY (g:Nat→β→DM β) (b:β):Nat→DM β
 | 0=>ret b
 | k+1=>dC (gY g b k) (g k)
end
def K3 (s:List Int) (a:Nat) (n:Int):Int:=match s[a]? with
 | some x=>x % n
 | none=>0
def dr (s:List Int) (n:Int):DM Int:=fun m=>(K3 s m.a n,{ m with a:=m.a+1 })
def K8:DM Unit:=fun m=>((),{ m with lo:=⟨m.lo.val - 1,Nat.lt_of_le_of_lt (Nat.sub_le ..) m.lo.isLt⟩ })
def uf (z:Fin 3):DM Unit:=fun m=>((),{ m with lo:=z })
def Hm:DM Int:=fun m=>((m.lo.val:Int),m)
section
variable (s:List Int)
def Lz (p:Nat):DM eL:=dC (dr s 21) fun x=>dC (dr s 21) fun y=>if p=0 then ret ⟨x * 50 - 100,y * 50 - 200,true⟩ else dC (dr s 4) fun z=>ret ⟨x * 50 - 100,y * 50 - 200,decide (0 < z)⟩
def Ko (l:List eL) (k:Nat):DM (List eL):=gY (fun p l=>dC (Lz s p) fun t=>ret (l++[t])) l k
def Jf (n:Nat):DM (List eL×List Int):=gY (fun _ o=>dC (dr s 4) fun k=>dC (Ko s o.1 (2+k).toNat) fun l=>ret (l,o.2++[(l.length:Int) - 1])) ([],[]) n
def Co:DM (List eL×List Int):=dC (dr s 3) fun n=>Jf s n.toNat
def t7 (q:Int):DM (List eJ):=ret [⟨39,0⟩,⟨1,16⟩,⟨17,0⟩,⟨36,2⟩,⟨1,q⟩,⟨2,0⟩]
def HG (n funcs:Int):DM (List eJ):=dC (dr s (n+1)) fun p=>dC (dr s (n+1)) fun q=>dC (dr s 2) fun a=>dC (dr s 12) fun k=>
 if k=0 then ret [⟨22,a⟩,⟨23,a⟩]
 else if k=1 then dC (dr s 6) fun z=>ret [⟨24,z⟩]
 else if k=2∨k=3 then ret [⟨1,p⟩,⟨1,p⟩,⟨29,0⟩,⟨15,0⟩,⟨32,0⟩]
 else if k=4 then dC (dr s 200) fun z=>ret [⟨1,p⟩,⟨1,z - 100⟩,⟨31,0⟩]
 else if k=5 then ret [⟨1,p⟩,⟨1,q⟩,⟨33,0⟩]
 else if k=6 then ret [⟨34,a⟩]
 else if k=7 then ret [⟨1,a⟩,⟨1,q⟩,⟨25,0⟩,⟨1,3⟩,⟨5,0⟩,⟨26,0⟩]
 else if k=8 then (if 0 < funcs then dC (dr s funcs) fun z=>ret [⟨37,z⟩] else t7 q)
 else if k=9 then (if 0 < funcs then dC Hm fun lo=>if 0 < lo then dC K8 fun _=>dC (dr s 5) fun y=>dC (dr s funcs) fun z=>ret [⟨1,y⟩,⟨38,z⟩] else t7 q else t7 q)
 else if k=10 then ret [⟨1,p⟩,⟨30,0⟩,⟨1,q⟩,⟨29,0⟩,⟨16,0⟩,⟨36,3⟩,⟨1,q⟩,⟨1,64⟩,⟨31,0⟩]
 else t7 q
def F3 (n funcs:Int) (k:Nat):DM (List eJ):=gY (fun _ l=>dC (HG s n funcs) fun p=>ret (l++p)) [] k
def FT (n funcs most:Int):DM (List eJ):=dC (dr s most) fun k=>F3 s n funcs k.toNat
def J8 (a:Int) (k:Nat):DM (List Int):=gY (fun j l=>if l.length < 4 then dC (dr s 3) fun z=>ret (if z=0 then l++[a+1+j] else l) else ret l) [a] k
def HW (n:Int):DM (List Int):=dC (dr s n) fun a=>J8 s a (n - (a+1)).toNat
def Jq (n:Int) (k:Nat):DM (List (List Int)):=gY (fun _ l=>dC (HW s n) fun x=>ret (l++[x])) [] k
def F7 (n most:Int):DM (List (List Int)):=dC (dr s (most+1)) fun k=>Jq s n k.toNat
def Je (n:Int) (k:Nat):DM (List Int):=gY (fun _ l=>dC (dr s n) fun x=>ret (l++[x])) [] k
def GP (n:Int) (calls:List Int) (k:Nat):DM (List jr):=gY (fun _ l=>dC (dr s n) fun a=>dC (dr s calls.length) fun z=>ret (l++[⟨a,calls.getD z.toNat 0⟩])) [] k
def Jk (n:Int) (a:List Int):DM bh:=dC (HW s n) fun b=>dC (dr s 41) fun x=>ret ⟨[],[a,b],[],[],[],x * 10 - 200⟩
def HY (n:Int):DM (List (List Int)×List (List Int)):=dC (dr s 2) fun z=>if z=0 then dC (F7 s n 2) fun b=>dC (F7 s n 2) fun c=>ret (b,c) else ret ([],[])
def Jr (n kind:Int) (calls:List Int):DM bh:=dC (HW s n) fun a=>if kind=6 then Jk s n a else dC (HY s n) fun e=>
 if kind=1∨kind=5 then dC (Je s n a.length) fun o=>ret ⟨e.1,[a],e.2,o,[],0⟩
 else if kind=2 then dC (dr s 4) fun k=>dC (Je s n k.toNat) fun o=>ret ⟨e.1,[a],e.2,o,[],0⟩
 else if kind=3 then dC (F7 s n 2) fun m=>dC (dr s n) fun o=>ret ⟨e.1,a::m,e.2,[o],[],0⟩
 else dC (F7 s n 2) fun m=>dC (dr s 3) fun k=>dC (GP s (a::m).length calls (if calls.length=0 then 0 else k.toNat)) fun c=>ret ⟨e.1,a::m,e.2,[],c,0⟩
def BO:List Int:=[1,2,3,4,4,5,6,7,8,1]
def Hg (k:Nat):DM (List b6×List Int):=gY (fun i o=>dC (dr s 10) fun z=>dC (dr s 3) fun y=>ret (o.1++[⟨BO.getD z.toNat 0,decide (y=0),[]⟩],if BO.getD z.toNat 0≤4 then o.2++[(i:Int)] else o.2)) ([],[]) k
def HU (n kind:Int) (calls:List Int) (k:Nat):DM (List bh):=gY (fun _ l=>dC (Jr s n kind calls) fun r=>ret (l++[r])) [] k
def IL (n:Int) (calls:List Int) (l:List b6) (k:Nat):DM (List b6):=gY (fun i l=>match l[i]? with
 | none=>ret l
 | some q=>if q.Kind≥7 then ret l else dC (dr s 3) fun k=>dC (HU s n q.Kind calls (1+k).toNat) fun rs=>ret (l.set i { q with Rules:=rs })) l k
def BV (n:Int):DM (List b6):=dC (dr s 7) fun k=>dC (Hg s k.toNat) fun o=>IL s n o.2 o.1 k.toNat
def bytes (l:List UInt8):ByteArray:=⟨l.toArray⟩
def w3 (p:List UInt8) (n:Nat):ByteArray:=bytes (p++[(97+n).toUInt8])
def Lr:List UInt8:=[103]
def IB:List UInt8:=[97,120]
def HB:ByteArray:=bytes [46,110,111,116,100,101,102]
def rn (n:Nat):ByteArray:=if n=0 then HB else w3 Lr n
def HF (n:Nat):DM (List dA):=if 1 < n then dC (dr s 4) fun z=>if z=0 then dC (dr s 9) fun x=>dC (dr s 5) fun y=>ret [⟨1,x * 50 - 200,y * 50⟩] else ret [] else ret []
def tw (cl:Int):List (Int×Int):=[(1,0),(1,1),(3,0),(4,0),(2,cl)]
def Al (mark:Bool) (cl:Int) (k:Nat):DM (List dK):=gY (fun i l=>dC (dr s 3) fun z=>if z=0∧(((tw cl).getD i (0,0)).1≠2∨mark=true) then dC (dr s 21) fun x=>dC (dr s 21) fun y=>ret (l++[⟨((tw cl).getD i (0,0)).1,((tw cl).getD i (0,0)).2,x * 50,y * 50 - 200⟩]) else ret l) [] k
def GX (r:Nat) (l:List ez) (k:Nat):DM (List ez):=gY (fun p l=>dC (dr s 3) fun z=>if z=0 then dC (dr s 41) fun x=>if p=0 then ret (l++[⟨r,-1,x - 20,0⟩]) else dC (dr s 41) fun y=>ret (l++[⟨r,(p:Int) - 1,x - 20,y - 20⟩]) else ret l) l k
def E9 (pts:Nat) (R:Nat):DM (List ez):=gY (fun r l=>GX s r l (pts+1)) [] R
def Hd (R fn n:Nat):DM bn:=dC (dr s 19) fun ad=>dC (dr s 4) fun mk=>dC (Co s) fun o=>dC (HF s n) fun ps=>dC (dr s 2) fun cl=>dC (Al s (decide (mk=0) && decide (n≠0)) cl 5) fun an=>dC (E9 s o.1.length R) fun de=>dC (uf 2) fun _=>dC (FT s o.1.length fn 6) fun h=>ret ⟨rn n,100+ad * 50,decide (mk=0) && decide (n≠0),o.1,o.2,ps,an,de,h⟩
def EH (R fn k:Nat):DM (List bn):=gY (fun i l=>dC (Hd s R fn i) fun g=>ret (l++[g])) [] k
def IC (k:Nat):DM (List eV):=gY (fun i l=>dC (dr s 3) fun a=>dC (dr s 4) fun b=>ret (l++[⟨w3 IB i,0 - a * 100,0,b * 100⟩])) [] k
def I3:List fw:=[⟨0,64,64⟩,⟨0,32,64⟩,⟨-64,-64,0⟩,⟨-1,0,5⟩,⟨10,32,50⟩]
def I2 (k:Nat):DM (List fw):=gY (fun _ l=>dC (dr s 5) fun z=>ret (l++[I3.getD z.toNat ⟨0,0,0⟩])) [] k
def Jm (axes k:Nat):DM (List (List fw)):=gY (fun _ l=>dC (I2 s axes) fun r=>ret (l++[r])) [] k
def CC (axes:Nat):DM (List (List fw)):=if axes=0 then ret [] else dC (dr s 4) fun n=>Jm s axes n.toNat
def Ha (k:Nat):DM (List (List eJ)):=gY (fun i l=>dC (uf 0) fun _=>dC (FT s 6 i 4) fun h=>ret (l++[h])) [] k
def K2 (k:Nat):DM (List Int):=gY (fun _ l=>dC (dr s 500) fun z=>ret (l++[z - 100])) [] k
def wz:List Int:=[97,98,99,102,105,108,57345,57346,57601,57602,57603,57857,57861,58113,58114,58369]
def GQ (n:Int) (k:Nat):DM (List dh):=gY (fun i l=>dC (dr s 4) fun z=>if 0 < z then dC (dr s n) fun g=>ret (l++[⟨wz.getD i 0,g⟩]) else ret l) [] k
def Cb:List ByteArray:=[bytes [108,105,103,97],bytes [105,115,111,108],bytes [105,110,105,116],bytes [109,101,100,105],bytes [102,105,110,97],bytes [107,101,114,110],bytes [109,97,114,107],bytes [99,97,108,116]]
def JY (k:Nat):DM (List Int):=gY (fun i l=>dC (dr s 3) fun z=>ret (if z=0 then l++[(i:Int)] else l)) [] k
def GZ (n:Nat) (k:Nat):DM (List bQ):=gY (fun i l=>dC (JY s n) fun r=>dC (dr s 2) fun z=>ret (if z=0 then l++[⟨Cb.getD i ByteArray.empty,r⟩] else l)) [] k
def I6:List Int:=[1000,1024,100,2048]
def J1:DM aS:=dC (dr s 4) fun u=>dC (dr s 3) fun k=>dC (IC s k.toNat) fun ax=>dC (CC s k.toNat) fun rg=>dC (dr s 3) fun k2=>dC (Ha s k2.toNat) fun fu=>dC (dr s 4) fun k3=>dC (K2 s k3.toNat) fun cv=>dC (dr s 9) fun k4=>dC (EH s rg.length fu.length (2+k4).toNat) fun gl=>dC (GQ s gl.length 16) fun ch=>dC (BV s gl.length) fun lk=>dC (GZ s lk.length 8) fun ft=>ret ⟨I6.getD u.toNat 0,gl,ch,lk,ft,ax,rg,fu,cv⟩
def KP:aS:=(J1 s ⟨0,0⟩).1
def Jx:List Int:=wz++[122]
def KZ:List Int:=(s.take 20).map fun z=>Jx.getD (z % 17).toNat 0
end
end Go.Proofs.YtamjlkdanllgjaaGreatDoor
namespace Go.Proofs.YtamjlkdanllgjaaGreatDoor
open Go.RowKit
attribute [local irreducible] AT bz AX AO Av Kt aZ cY DA cu
set_option maxRecDepth 8000
structure MF where
 u:AV
 gl:AV
 ch:AV
 lk:AV
 ft:AV
 ax:AV
 rg:AV
 fu:AV
 cv:AV
def Lw (s:List Int) (F:MF) (m:MS):List AV:=[.imm 1 (aT s),aF (min m.a s.length:Nat),F.u,F.gl,F.ch,F.lk,F.ft,F.ax,F.rg,F.fu,F.cv,aF (m.lo.val:Nat)]
abbrev KR (b:Nat) (s:List Int) (F:MF) (m:MS):Nat×AB:=(b,.box (Lw s F m) 129)
def L8 (f:FuncId) (args:List AV) (s:List Int) (F:MF) {α:Type} (u:DM α) (out:α→AV):Prop:=∀(b:Nat) (m:MS),AC Tryz.prog f (Ld b::args) [KR b s F m] fun c L=>c=out (u m).1∧L=[KR b s F (u m).2]
set_option maxRecDepth 8000
section
variable {P:Program} {tt:TT} {nt:Nat} {fr:bP} {B:Bs} {L L':AL}
theorem DW (ok:dG P tt) (i:Nat) (L':AL) {fn:Func} {Post:AV→AL→Prop} {t:Tmp} {e e':TypeId} {b k:Nat} {cs:List AV} (hr:fn.results=#[.cell t e]) (hk:Iy tt e=some k) (hv:bX fr t=some (.sc (.pointer (some ⟨b,0,none⟩)))) (hL:L[i]?=some (b,.box cs e')) (hl:Nat.beq cs.length k=true) (hs:L'.Sublist L) (h:Post (.agg cs) L'):
  AX P .ret (bodyPost P fn (gL B Post)) nt [] fr B L:=by
 unfold AX
 intro σ a w ha hw
 haveI:=dL ok hk
 obtain ⟨vs,hb,hs',h1⟩:=hw.boxCell hL
 have hl:=Nat.eq_of_beq_eq_true hl
 refine ⟨ha.defers,_,sW (cs:=vs) hr (ha.look t _ hv).sc_inv (hs'.1.symm.trans hl) (fun j v hj=>by rw [cI hb,Nat.zero_add];simpa using hj),_,σ,_,L',rfl,.agg cs vs hs'.1 hs'.2 h1,hw.sublist hs,h⟩
end
end Go.Proofs.YtamjlkdanllgjaaGreatDoor
namespace Go.Proofs.YtamjlkdanllgjaaGreatDoor
open Go.RowKit
attribute [local irreducible] AT bz AX AO Av Kt aZ cY DA cu
set_option maxRecDepth 8000
structure Gc (g:bn):Prop where
 points:g.Points.length≤1000000
 ends:g.Ends.length≤1000000
 parts:g.Parts.length≤1000000
 anchors:g.Anchors.length≤1000000
 hint:g.Hint.length≤1000000
def ki (g:bn):bn:={ g with Deltas:=[] }
theorem Ft (g:bn) (h:Gc g):bD Tryz.prog 74 [.agg (bK g)] (.agg (bK (ki g))):=by
 refine aI Tryz.func74 rfl Tryz.ntmps74 rfl fun B=>?_
 haveI i1:=AD.mk (HQ (g.Points.map fk) (fun q hq=>by obtain ⟨y,_,rfl⟩:=List.mem_map.1 hq;rfl) (by rw [Mv];exact h.points))
 haveI i2:=AD.mk (uE (aT g.Ends) (fun q hq=>by obtain ⟨y,_,rfl⟩:=List.mem_map.1 hq;rfl) (by rw [b7];exact h.ends))
 haveI i3:=AD.mk (HR (g.Parts.map fG) (fun q hq=>by obtain ⟨y,_,rfl⟩:=List.mem_map.1 hq;rfl) (by rw [Mv];exact h.parts))
 haveI i4:=AD.mk (HS (g.Anchors.map eD) (fun q hq=>by obtain ⟨y,_,rfl⟩:=List.mem_map.1 hq;rfl) (by rw [Mv];exact h.anchors))
 haveI i5:=AD.mk (G2 (g.Hint.map fF) (fun q hq=>by obtain ⟨y,_,rfl⟩:=List.mem_map.1 hq;rfl) (by rw [Mv];exact h.hint))
 repeat' (first|refine ae ?_|refine a6 ?_|refine a8 ?_|refine aa ?_|refine bi ?_|refine bf a7 fun _=>?_|fail)
 refine bB 24 [(0,.v),(1,.v),(2,.v),(3,.v),(4,.v),(5,.v),(6,.v),(7,.v),(8,.v),(9,.v),(10,.v),(11,.v),(12,.v),(13,.v),(14,.v),(15,.v),(16,.v),(17,.v),(18,.v),(19,.v),(20,.v),(21,.v),(22,.v),(23,.v)] none ?_ trivial rfl (by kernel_rfl) (by kernel_rfl) (by kernel_rfl) mixed (by kernel_rfl) rfl
 repeat' (first|refine aJ ?_|refine bw a7 ?_|(apply cM;refine dc ?_)|fail)
 refine MG [2,4,6,8,17,20,23,26] LL ?_
 repeat' (first|refine am ?_|refine a8 ?_|refine aa ?_|refine LR a7 LL ?_|(apply aU;first|refine LU a7 0 LP ?_|refine LU a7 1 LP ?_|refine LU a7 2 LP ?_|refine LU a7 3 LP ?_|fail))
 refine br (dT 0 (cs':=bK (ki g)) rfl fun σ vs hh=>mQ.vrs (a:=[mP g.Name,aF g.Advance,cw g.Mark,.imm 3 (g.Points.map fk),.imm 1 (aT g.Ends),.imm 3 (g.Parts.map fG),.imm 4 (g.Anchors.map eD),.sc (.slice none 0 0),.imm 2 (g.Hint.map fF)]) (b:=bK (ki g)) ⟨d4.refl _,d4.refl _,d4.refl _,d4.refl _,d4.refl _,d4.refl _,d4.refl _,d4.nil 4,d4.refl _,trivial⟩ hh) ?_
 exact DW a7 0 [] rfl rfl rfl rfl rfl (List.nil_sublist _) rfl
theorem D3 (f:aS) (p m:AV) (g:bn) (hd:g.Deltas=[]):AC Tryz.prog 75 [.agg (bY f++[p,m]),.agg (bK g)] [] fun c L=>∃b,c= .sc (.map (some b))∧L=[(b,bV (.int .i64) fun _=>none)]:=by
 refine aI Tryz.func75 rfl Tryz.ntmps75 rfl fun B=>?_
 repeat' (first|refine ae ?_|refine a6 ?_|refine a8 ?_|refine aa ?_|refine LR a7 LL ?_|refine bi ?_|fail)
 refine dJ (.int .i64) fun b=>?_
 repeat' (first|refine ae ?_|refine a6 ?_|refine ar ?_|refine a8 ?_|refine aa ?_|refine LR a7 LL ?_)
 rw [hd]
 refine aN [2,3,5,13,14] (α:=Unit) (fun _=>[(15,aF 0)]) (fun _=>True) (fun _=>[(b,bV (.int .i64) fun _=>none)]) (fun _=>0) () rfl ⟨rfl,trivial⟩ trivial (fun _ _ h=>h) fun _ _=>?_
 try dsimp only [Mt,Ms,Mr,Mn]
 repeat' (first|refine ae ?_|refine a6 ?_|refine am ?_|refine aO ?_|refine a8 ?_|refine av ?_|refine aC ?_|refine aA ?_|refine aa ?_|refine LR a7 LL ?_|refine bo rfl ?_)
 exact MA LL ⟨b,rfl,rfl⟩
theorem EG (tb eb:Nat) (L:AL):oO Tryz.prog 73 ([.pointer (some ⟨tb,0,none⟩),.pointer (some ⟨eb,0,none⟩)].map .sc) L .returning .returning L:=by
 refine vF Tryz.func73 rfl Tryz.ntmps73 rfl rfl rfl rfl uB fun B=>?_
 repeat' (first|refine ae ?_|refine a6 ?_|refine LR a7 LL ?_)
 refine wh false ⟨_,Tryz.underlying20⟩ rfl (.inl ⟨rfl,rfl⟩) rfl ?_
 repeat' (first|refine aq ?_|refine a8 ?_|refine aa ?_|refine bo rfl ?_)
 exact vn (List.Sublist.refl _)
set_option maxHeartbeats 4000000 in
theorem EF (f:aS) (p m:AV) (g:bn) (hs:Gc g) (hd:g.Deltas=[]):bD Tryz.prog 45 [.agg (bY f++[p,m]),.agg (bK g)] (.tup [.agg (bK (ki g)),aF 0]):=by
 refine oU Tryz.func45 rfl Tryz.ntmps45 rfl fun B=>?_
 haveI i1:=AD.mk (Ft g hs)
 repeat' (first|refine ae ?_|refine a6 ?_|refine a8 ?_|refine aa ?_|refine LR a7 LL ?_|refine bi ?_|refine bf a7 fun _=>?_|fail)
 refine xA [.pointer (some ⟨_,0,none⟩),.pointer (some ⟨_,0,none⟩)] rfl ?_
 repeat' (first|refine ae ?_|refine a6 ?_|refine a8 ?_|refine aa ?_|refine LR a7 LL ?_|(apply aU;first|refine LT 7 a7 0 LQ ?_|refine LT 7 a7 1 LQ ?_|refine LT 7 a7 2 LQ ?_|refine LU a7 0 LP ?_|refine LU a7 1 LP ?_|refine LU a7 2 LP ?_|refine LU a7 3 LP ?_|fail)|(apply bk;refine b9 ?_)|fail)
 refine aW [] _ (D3 f p m g hd) rfl rfl (Mp _) rfl fun c L1 ⟨b,hc,hL⟩=>?_
 subst hc;subst hL
 repeat' (first|fail)
 refine Ca 0 Tryz.underlying159 rfl rfl rfl fun q=>?_
 repeat' (first|refine ar ?_|refine a8 ?_|refine aa ?_)
 rename_i tb eb _
 refine aN [4,5,17] (α:=Unit) (fun _=>[]) (fun _=>True) (fun _=>[(eb,.box [aF 0] 52),(tb,.box (bK (ki g)) 67),(q,IW b),(b,bV (.int .i64) fun _=>none)]) (fun _=>0) () rfl trivial trivial (fun _ _ h=>cK.perm h (List.perm_append_comm (l₁:=[_,_]))) fun _ _=>?_
 try dsimp only [Mt,Ms,Mr,Mn]
 repeat' (first|refine ae ?_|refine a6 ?_)
 refine EX 2 3 rfl rfl rfl rfl ?_
 repeat' (first|refine ae ?_|refine a6 ?_|refine am ?_|refine aO ?_|refine a8 ?_|refine av ?_|refine aC ?_|refine aA ?_|refine aa ?_|refine LR a7 LL ?_|(apply bL;first|refine LV a7 0 LO ?_|refine LV a7 1 LO ?_|refine LV a7 2 LO ?_|refine LV a7 3 LO ?_|refine LW a7 0 LO ?_|refine LW a7 1 LO ?_|refine LW a7 2 LO ?_|refine LZ a7 1 LM (by assumption) rfl ?_|refine LZ a7 0 LM (by assumption) rfl ?_|fail)|(apply aU;first|refine LT 7 a7 0 LQ ?_|refine LT 7 a7 1 LQ ?_|refine LT 7 a7 2 LQ ?_|refine LU a7 0 LP ?_|refine LU a7 1 LP ?_|refine LU a7 2 LP ?_|refine LU a7 3 LP ?_|fail)|refine bo rfl ?_)
 refine x3 (cs:=[.agg (bK (ki g)),aF 0]) [] _ [] [] (EG tb eb []) (Mp _) ?_ (List.nil_sublist _) rfl
 exact ⟨⟨_,1,_,_,rfl,rfl,.inr ⟨dL a7 rfl,rfl⟩⟩,⟨_,0,_,_,rfl,rfl,.inl ⟨ck a7 rfl,rfl⟩⟩,trivial⟩
end Go.Proofs.YtamjlkdanllgjaaGreatDoor
