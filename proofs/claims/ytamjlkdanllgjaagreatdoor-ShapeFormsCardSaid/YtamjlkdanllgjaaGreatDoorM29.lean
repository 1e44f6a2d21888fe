/-
  A lookup is copied: the walk.
-/
import Derived.Test.YtamjlkdanllgjaaGreatDoorM28
import Derived.Test.YtamjlkdanllgjaaGreatDoorM14
import Derived.Test.YtamjlkdanllgjaaGreatDoorM12
import Derived.Test.YtamjlkdanllgjaaGreatDoorM15
import Derived.Test.YtamjlkdanllgjaaGreatDoorM24
import Derived.Test.YtamjlkdanllgjaaGreatDoorM21
namespace Go.Proofs.YtamjlkdanllgjaaGreatDoor
open Go.RowKit
attribute [local irreducible] AT bz AX AO Av Kt aZ cY DA cu
set_option maxRecDepth 8000
theorem B3 (l:List Int) (hl:l.length≤1000000):bD Tryz.prog 216 [.imm 1 (aT l)] (.imm 1 (aT l)):=by
 refine aI Tryz.func216 rfl Tryz.ntmps216 rfl fun B=>?_
 have hml:=b7 l
 repeat' (first|refine ae ?_|refine a6 ?_|refine a8 ?_|refine aa ?_|refine LR a7 LL ?_)
 refine sF a7 rfl rfl rfl rfl rfl fun b hb=>?_
 repeat' (first|refine a8 ?_|refine aa ?_)
 cases b with
 | true=>
  rw [hb rfl]
  repeat' (first|refine ae ?_|refine a6 ?_|refine am ?_|refine a8 ?_|refine az ?_|refine aa ?_|refine LR a7 LL ?_|refine bI rfl ?_)
  refine br (bE (t:=2) (c':= .imm 1 []) rfl fun σ v h=>dW 1 h) ?_
  exact LY LM
 | false=>
  repeat' (first|refine ae ?_|refine a6 ?_|refine aq ?_|refine a8 ?_|refine LR a7 LL ?_|refine xB (d:=5) a7 fun _=>?_|refine bo rfl ?_)
  refine cr a7 [] rfl rfl rfl rfl (Mp _) (by rw [hml];simp;omega) (by rw [hml];simp;omega) rfl fun k'=>?_
  repeat' (first|refine am ?_|refine a8 ?_|refine aa ?_|refine LR a7 LL ?_)
  refine br (bE (t:=2) (c':= .imm 1 (aT l)) rfl fun σ v h=>VR.im h) ?_
  refine cL (List.nil_sublist _) ?_
  exact LY LM
theorem GR (l:List jr) (hl:l.length≤1000000):bD Tryz.prog 217 [.imm 2 (l.map gu)] (.imm 2 (l.map gu)):=by
 refine aI Tryz.func217 rfl Tryz.ntmps217 rfl fun B=>?_
 have hml:(l.map gu).length=l.length:=Mv ..
 repeat' (first|refine ae ?_|refine a6 ?_|refine a8 ?_|refine aa ?_|refine LR a7 LL ?_)
 refine sF a7 rfl rfl rfl rfl rfl fun b hb=>?_
 repeat' (first|refine a8 ?_|refine aa ?_)
 cases b with
 | true=>
  rw [hb rfl]
  repeat' (first|refine ae ?_|refine a6 ?_|refine am ?_|refine a8 ?_|refine az ?_|refine aa ?_|refine LR a7 LL ?_|refine bI rfl ?_)
  refine br (bE (t:=2) (c':= .imm 2 []) rfl fun σ v h=>dW 2 h) ?_
  exact LY LM
 | false=>
  repeat' (first|refine ae ?_|refine a6 ?_|refine aq ?_|refine a8 ?_|refine LR a7 LL ?_|refine xB (d:=5) a7 fun _=>?_|refine bo rfl ?_)
  refine cr a7 [] rfl rfl rfl rfl (Mp _) (by rw [hml];simp;omega) (by rw [hml];simp;omega) rfl fun k'=>?_
  repeat' (first|refine am ?_|refine a8 ?_|refine aa ?_|refine LR a7 LL ?_)
  refine br (bE (t:=2) (c':= .imm 2 (l.map gu)) rfl fun σ v h=>VR.im h) ?_
  refine cL (List.nil_sublist _) ?_
  exact LY LM
abbrev dg:AV:= .sc (.slice none 0 0)
def fJ {α:Type} (w:α→List AV) (z:List AV) (l:List α) (i:Nat):List (List AV):=(l.take i).map w++List.replicate (l.length - i) z
theorem pu {α:Type} {w:α→List AV} {z:List AV} {l:List α}:fJ w z l 0=List.replicate l.length z:=by simp [fJ]
theorem r8 {α:Type} {w:α→List AV} {z:List AV} {l:List α}:fJ w z l l.length=l.map w:=by simp [fJ]
theorem ra {α:Type} {w:α→List AV} {z:List AV} {l:List α} {i:Nat} {x:α} (h:l[i]?=some x):(fJ w z l i).set i (w x)=fJ w z l (i+1):=by
 have hi:=(Mq h).1
 unfold fJ
 rw [List.set_append,if_neg (by rw [Mv,List.length_take];omega),Mv,List.length_take,Nat.min_eq_left (by omega),Nat.sub_self,show l.length - i=(l.length - (i+1))+1 by omega,List.replicate_succ,List.set_cons_zero,List.take_add_one,h]
 simp
theorem r9 {α:Type} {w:α→List AV} {z:List AV} {l:List α} {i:Nat} (hi:i≤l.length):(fJ w z l i).length=l.length:=by
 unfold fJ
 rw [List.length_append,Mv,List.length_take,List.length_replicate]
 omega
theorem n9 {sz:Nat}:∀{l:List (List AV)} {i:Nat} {e:List AV},(∀q∈l,q.length=sz)→e.length=sz→i < l.length→eK l.flatten (i * sz) e=(l.set i e).flatten
 | [],_,_,_,_,h=>by simp at h
 | q::l,0,e,hs,he,_=>by
  have hq:=hs q (by simp)
  rw [List.set_cons_zero,List.flatten_cons,List.flatten_cons,Nat.zero_mul]
  apply List.ext_getElem?
  intro j
  rw [ee _ _ _ _ (by rw [List.length_append];omega)]
  by_cases hj:j < e.length
  ·rw [if_pos (by omega),Nat.sub_zero,List.getElem?_append_left hj]
  ·rw [if_neg (by omega),List.getElem?_append_right (by omega),List.getElem?_append_right (by omega),hq,he]
 | q::l,i+1,e,hs,he,h=>by
  have hq:=hs q (by simp)
  have ih:=n9 (l:=l) (i:=i) (e:=e) (fun x hx=>hs x (by simp [hx])) he (by simpa using h)
  have hlen:i * sz+e.length≤l.flatten.length:=by
   have hl:l.flatten.length=l.length * sz:=eO l fun x hx=>hs x (by simp [hx])
   rw [hl,he]
   have:(i+1) * sz≤l.length * sz:=Nat.mul_le_mul_right _ (by simp at h;omega)
   rw [Nat.add_mul,Nat.one_mul] at this
   exact this
  rw [List.set_cons_succ,List.flatten_cons,List.flatten_cons,←ih]
  apply List.ext_getElem?
  intro j
  have e1:(i+1) * sz=i * sz+sz:=by rw [Nat.add_mul,Nat.one_mul]
  rw [ee _ _ _ _ (by rw [List.length_append];omega),e1]
  by_cases hj:j < sz
  ·rw [if_neg (by omega),List.getElem?_append_left (by omega),List.getElem?_append_left (by omega)]
  ·rw [List.getElem?_append_right (by omega),List.getElem?_append_right (by omega),ee _ _ _ _ hlen,hq]
   by_cases h2:i * sz≤j - sz∧j - sz < i * sz+e.length
   ·rw [if_pos h2,if_pos (by omega)]
    congr 1
    omega
   ·rw [if_neg h2,if_neg (by omega)]
set_option maxHeartbeats 4000000 in
theorem qB (l:List (List Int)) (hl:l.length≤1000000) (hs:∀s∈l,s.length≤1000000):bD Tryz.prog 215 [.imm 1 (bj l)] (.imm 1 (bj l)):=by
 refine aI Tryz.func215 rfl Tryz.ntmps215 rfl fun B=>?_
 have hil:=c8 l
 repeat' (first|refine ae ?_|refine a6 ?_|refine a8 ?_|refine aa ?_|refine LR a7 LL ?_)
 refine dS a7 l.length rfl rfl rfl rfl rfl (by rw [hil]) (by rw [hil]) (by omega) (by omega) rfl fun rb=>?_
 repeat' (first|refine ae ?_|refine a6 ?_|refine ar ?_|refine a8 ?_|refine aa ?_|refine LR a7 LL ?_)
 refine aN [3,9,10] (α:=Nat) (fun i=>[(11,aF i)]) (fun i=>i≤l.length) (fun i=>[(rb,.box (fJ (fun s=>[AV.imm 1 (aT s)]) [dg] l i).flatten 22)]) (fun i=>l.length - i) 0 rfl ⟨rfl,trivial⟩ (Nat.zero_le _) (fun _ _ hh=>by rw [pu];exact hh) fun i hi=>?_
 try dsimp only [Mt,Ms,Mr,Mn]
 repeat' (first|refine ae ?_|refine a6 ?_|refine a8 ?_|refine aa ?_|refine LR a7 LL ?_)
 refine aB rfl (fun h1=>?_) (fun h1=>?_)
 ·have hi2:i < l.length:=by have:=Mz h1;omega
  obtain ⟨s,hsi⟩:∃z,l[i]?=some z:=⟨_,Ia hi2⟩
  have hsg:=gh hsi
  haveI:=AD.mk (B3 s (hs s (Mx hsi)))
  have hsz:∀q∈fJ (fun s=>[AV.imm 1 (aT s)]) [dg] l i,q.length=1:=by
   intro q hq
   unfold fJ at hq
   rw [List.mem_append] at hq
   rcases hq with hq | hq
   ·obtain ⟨_,_,rfl⟩:=List.mem_map.1 hq;rfl
   ·rw [(List.mem_replicate.1 hq).2];rfl
  have hfl:=r9 (w:=fun s=>[AV.imm 1 (aT s)]) (z:=[dg]) (l:=l) (i:=i) hi
  have hput:=n9 (sz:=1) (l:=fJ (fun s=>[AV.imm 1 (aT s)]) [dg] l i) (i:=i) (e:=[AV.imm 1 (aT s)]) hsz rfl (by omega)
  rw [ra hsi] at hput
  have hfll:(fJ (fun s=>[AV.imm 1 (aT s)]) [dg] l i).flatten.length=l.length * 1:=by rw [eO _ hsz,hfl]
  clear h1
  repeat' (first|refine ae ?_|refine a6 ?_|refine ar ?_|refine aq ?_|refine a8 ?_|refine aa ?_|refine LR a7 LL ?_|(apply aL;first|refine aK a7 ?_|refine aH a7 ?_)|(apply bk;refine b9 ?_)|fail)
  refine aj a7 0 rfl rfl rfl rfl rfl rfl (Nat.ble_eq_true_of_le (by rw [hfll,Int.toNat_natCast];show 0+i * 1+1≤_;omega)) ?_
  repeat' (first|refine a6 ?_|refine a8 ?_|refine aP ?_|refine aa ?_|refine LR a7 LL ?_|(apply aY;refine aX ?_)|fail)
  refine aE (i+1) rfl ⟨by rw [Mw];rfl,trivial⟩ hi2 (by omega) (fun _ _ hh=>?_)
  rw [←hput]
  rw [Int.toNat_natCast,Nat.zero_add] at hh
  exact hh
 ·have hi2:i=l.length:=by have:=My h1;omega
  subst hi2
  rw [r8]
  clear h1
  repeat' (first|refine ae ?_|refine a6 ?_|refine am ?_|refine aO ?_|refine a8 ?_|refine av ?_|refine aC ?_|refine aA ?_|refine aa ?_|refine LR a7 LL ?_)
  have hml:(l.map fun s=>[AV.imm 1 (aT s)]).flatten.length=l.length * 1:=by rw [eO _ (sz:=1) (fun q hq=>by obtain ⟨_,_,rfl⟩:=List.mem_map.1 hq;rfl),Mv]
  refine br (cP (t:=2) (sz:=1) (n:=l.length) (cap:=l.length) (l:=bj l) 0 rfl rfl (by rw [List.take_of_length_le (by omega)];rfl) (by omega) (fun e he=>by unfold bj at he;obtain ⟨_,_,rfl⟩:=List.mem_map.1 he;rfl) hil (Nat.le_refl _) (by unfold maxLen;omega)) ?_
  exact LY LM
def ip (r:bh):List AV:=[dg,.imm 1 (bj r.In),dg,.imm 1 (aT r.Out),.imm 2 (r.Calls.map gu),aF r.X]
theorem Dl (r:bh):mQ (ip r) (bR (eC r)):=⟨d4.nil 1,d4.refl _,d4.nil 1,d4.refl _,d4.refl _,d4.refl _,trivial⟩
theorem xW {α:Type} {a b:α→List AV} (h:∀x,mQ (a x) (b x)):∀(l:List α),Gn (l.map a) (l.map b)
 | []=>trivial
 | x::l=>⟨h x,xW h l⟩
structure FG (r:bh):Prop where
 in_:r.In.length≤1000000∧∀s∈r.In,s.length≤1000000
 out:r.Out.length≤1000000
 calls:r.Calls.length≤1000000
set_option maxHeartbeats 8000000 in
theorem tO (l:b6) (hl:l.Rules.length≤1000000) (hr:∀r∈l.Rules,FG r):bD Tryz.prog 137 [.agg (bA l)] (.agg (bA (iu l))):=by
 refine aI Tryz.func137 rfl Tryz.ntmps137 rfl fun B=>?_
 have hml:(l.Rules.map bR).length=l.Rules.length:=Mv ..
 repeat' (first|refine ae ?_|refine a6 ?_|refine a8 ?_|refine aa ?_|refine LR a7 LL ?_|refine bi ?_|refine bf a7 fun _=>?_|fail)
 refine dS a7 l.Rules.length rfl rfl rfl rfl rfl (by rw [hml]) (by rw [hml]) (by omega) (by omega) rfl fun rb=>?_
 repeat' (first|refine ae ?_|refine a6 ?_|refine ar ?_|refine a8 ?_|refine aa ?_|refine LR a7 LL ?_)
 rename_i r2
 refine aN [1,2,3,11,12] (α:=Nat) (fun i=>[(13,aF i)]) (fun i=>i≤l.Rules.length) (fun i=>[(rb,.box (fJ ip [dg,dg,dg,dg,dg,aF 0] l.Rules i).flatten 73),(r2,.box [aF 0,cw false,dg] 76)]) (fun i=>l.Rules.length - i) 0 rfl ⟨rfl,trivial⟩ (Nat.zero_le _) (fun _ _ hh=>by rw [pu];exact hh) fun i hi=>?_
 try dsimp only [Mt,Ms,Mr,Mn]
 repeat' (first|refine ae ?_|refine a6 ?_|refine a8 ?_|refine aa ?_|refine LR a7 LL ?_)
 refine aB rfl (fun h1=>?_) (fun h1=>?_)
 ·have hi2:i < l.Rules.length:=by have:=Mz h1;omega
  obtain ⟨r,hri⟩:∃z,l.Rules[i]?=some z:=⟨_,Ia hi2⟩
  have hrg:(l.Rules.map bR)[i]?=some (bR r):=by simp [hri]
  have hcr:=hr r (Mx hri)
  haveI:=AD.mk (qB r.In hcr.in_.1 hcr.in_.2)
  haveI:=AD.mk (B3 r.Out hcr.out)
  haveI:=AD.mk (GR r.Calls hcr.calls)
  have hsz:∀q∈fJ ip [dg,dg,dg,dg,dg,aF 0] l.Rules i,q.length=6:=by
   intro q hq
   unfold fJ at hq
   rw [List.mem_append] at hq
   rcases hq with hq | hq
   ·obtain ⟨_,_,rfl⟩:=List.mem_map.1 hq;rfl
   ·rw [(List.mem_replicate.1 hq).2];rfl
  have hfl:=r9 (w:=ip) (z:=[dg,dg,dg,dg,dg,aF 0]) (l:=l.Rules) (i:=i) hi
  have hput:=n9 (sz:=6) (l:=fJ ip [dg,dg,dg,dg,dg,aF 0] l.Rules i) (i:=i) (e:=ip r) hsz rfl (by omega)
  rw [ra hri] at hput
  have hfll:(fJ ip [dg,dg,dg,dg,dg,aF 0] l.Rules i).flatten.length=l.Rules.length * 6:=by rw [eO _ hsz,hfl]
  clear h1
  repeat' (first|refine ae ?_|refine a6 ?_|refine ar ?_|refine aq ?_|refine a8 ?_|refine aa ?_|refine LR a7 LL ?_|(apply aL;first|refine aK a7 ?_|refine aH a7 ?_)|(apply aU;first|refine LT 5 a7 0 LQ ?_|refine LT 5 a7 1 LQ ?_|refine LT 5 a7 2 LQ ?_|refine LU a7 0 LP ?_|refine LU a7 1 LP ?_|refine LU a7 2 LP ?_|refine LU a7 3 LP ?_|fail)|refine bf a7 fun _=>?_|fail)
  refine bB 14 [(0,.v),(1,.v),(2,.v),(3,.v),(4,.v),(5,.v),(6,.v),(7,.v),(8,.v),(9,.v),(10,.v),(11,.v),(12,.v),(13,.v)] none ?_ trivial rfl (by kernel_rfl) (by kernel_rfl) (by kernel_rfl) mixed (by kernel_rfl) rfl
  repeat' (first|refine aJ ?_|refine bw a7 ?_|(apply cM;refine dc ?_)|fail)
  refine MG [1,2,3,11,12,13,18,19,31] LL ?_
  repeat' (first|(apply aL;first|refine aK a7 ?_|refine aH a7 ?_)|fail)
  refine aj a7 0 rfl rfl rfl rfl rfl rfl (Nat.ble_eq_true_of_le (by rw [hfll,Int.toNat_natCast];show 0+i * 6+6≤_;omega)) ?_
  repeat' (first|refine a6 ?_|refine a8 ?_|refine aP ?_|refine aa ?_|refine LR a7 LL ?_|(apply aY;refine aX ?_)|fail)
  refine aE (i+1) rfl ⟨by rw [Mw];rfl,trivial⟩ hi2 (by omega) (fun _ _ hh=>?_)
  rw [←hput]
  rw [Int.toNat_natCast,Nat.zero_add] at hh
  exact hh
 ·have hi2:i=l.Rules.length:=by have:=My h1;omega
  subst hi2
  rw [r8]
  clear h1
  have hsz:∀q∈l.Rules.map ip,q.length=6:=fun q hq=>by obtain ⟨_,_,rfl⟩:=List.mem_map.1 hq;rfl
  have hml2:(l.Rules.map ip).flatten.length=l.Rules.length * 6:=by rw [eO _ hsz,Mv]
  refine cm (cP (t:=3) (sz:=6) (n:=l.Rules.length) (cap:=l.Rules.length) (l:=l.Rules.map ip) 0 rfl rfl (by rw [List.take_of_length_le (by omega)]) (by omega) hsz (Mv ..) (Nat.le_refl _) (by unfold maxLen;omega)) ?_
  refine cm (bE (t:=3) (c':= .imm 6 ((iu l).Rules.map bR)) rfl fun σ v h=>?_) ?_
  ·have e:(iu l).Rules.map bR=l.Rules.map fun r=>bR (eC r):=by unfold iu;rw [List.map_map];rfl
   rw [e]
   exact d4.imm (xW Dl l.Rules) σ v h
  repeat' (first|refine ae ?_|refine a6 ?_|refine am ?_|refine aO ?_|refine a8 ?_|refine av ?_|refine aC ?_|refine aA ?_|refine aa ?_|refine LR a7 LL ?_|(apply aU;first|refine LT 5 a7 0 LQ ?_|refine LT 5 a7 1 LQ ?_|refine LT 5 a7 2 LQ ?_|refine LU a7 0 LP ?_|refine LU a7 1 LP ?_|refine LU a7 2 LP ?_|refine LU a7 3 LP ?_|fail))
  exact ff (cs:=[.agg (bA (iu l))]) [] ⟨⟨_,0,_,_,rfl,rfl,.inr ⟨dL a7 rfl,rfl⟩⟩,trivial⟩ (List.nil_sublist _) rfl
set_option maxRecDepth 8000
structure FJ (f:aS):Prop where
 glyphs:0 < f.Glyphs.length∧f.Glyphs.length≤65536
 lookups:f.Lookups.length≤1000000
 look:∀l∈f.Lookups,wM f.Glyphs.length l
 rule:∀l∈f.Lookups,∀r∈l.Rules,FG r
structure If (f:aS) (E:ot):Prop where
 ls:E.lks.map (·.l)=f.Lookups
 ms:E.ms=f.Glyphs.map bn.Mark
 auto:∀e∈E.lks,1≤e.l.Kind→e.l.Kind≤6→jI e
def Lj:Option jH→List AV
 | none=>[dg,dg,dg,dg,dg]
 | some a=>K0 a
def JI:jH:=⟨[],[],[],[],[]⟩
def Jg (l:b6) (a:Option jH) (j:Nat):List AV:=[aF l.Kind,cw l.Ignore,.imm 6 ((iu l).Rules.map bR)]++Lj a++[aF (fz (l.Rules.take j)),aF (gN (l.Rules.take j))]
def zi (l:b6) (a:jH) (j:Nat):List AV:=[aF l.Kind,cw l.Ignore,.imm 6 ((iu l).Rules.map bR),.imm 1 (aT a.cls),.imm 1 (bj a.fore),.imm 1 (bj a.back),.imm 1 (fR a.foreE),.imm 1 (fR a.backE),aF (fz (l.Rules.take j)),aF (gN (l.Rules.take j))]
theorem Cp (l:b6) (a:Option jH) (j:Nat):mQ (Jg l a j) (zi l (a.getD JI) j):=by
 cases a with
 | none=>exact ⟨d4.refl _,d4.refl _,d4.refl _,d4.nil 1,d4.nil 1,d4.nil 1,d4.nil 1,d4.nil 1,d4.refl _,d4.refl _,trivial⟩
 | some a=>exact ⟨d4.refl _,d4.refl _,d4.refl _,d4.refl _,d4.refl _,d4.refl _,d4.refl _,d4.refl _,d4.refl _,d4.refl _,trivial⟩
theorem Cq (l:b6) (a:jH):zi l a l.Rules.length=f4 (Ec l a):=by
 unfold zi
 rw [List.take_length]
 rfl
theorem vL {rs:List bh} {j:Nat} {r:bh} (h:rs[j]?=some r):fz (rs.take (j+1))=max (fz (rs.take j)) (r.In.length+r.Ahead.length)∧gN (rs.take (j+1))=max (gN (rs.take j)) r.Back.length:=by
 unfold fz gN
 rw [List.take_add_one,h]
 constructor <;> simp
theorem Bo {N:Nat} {rs:List bh} (h:∀r∈rs,th N r) (j:Nat):fz (rs.take j)≤200∧gN (rs.take j)≤200:=⟨gS (by omega) fun r hr=>(h r (List.mem_of_mem_take hr)).long.2,gS (by omega) fun r hr=>(h r (List.mem_of_mem_take hr)).long.1⟩
theorem yi (l:List Bool) (b:Bool):mY l++[[cw b]]=mY (l++[b]):=by simp [mY]
set_option maxHeartbeats 16000000 in
theorem Hz (f:aS) (h:FJ f) (hck:AC Tryz.prog 60 [cD f] [] fun c _=>∃n:Int,c=cf (0,n)):AC Tryz.prog 61 [cD f] [] fun c _=>∃E,If f E∧c= .tup [.iptr (dZ E),aF 0]:=by
 refine aI Tryz.func61 rfl Tryz.ntmps61 rfl fun B=>?_
 have hgl:(f.Glyphs.map bK).length=f.Glyphs.length:=Mv ..
 have hll:(f.Lookups.map bA).length=f.Lookups.length:=Mv ..
 obtain ⟨hN0,hN⟩:=h.glyphs
 have hL:=h.lookups
 repeat' (first|refine ae ?_|refine a6 ?_|refine a8 ?_|refine aa ?_|refine LR a7 LL ?_|refine bi ?_|fail)
 refine aW [] _ hck rfl rfl (Mp _) rfl fun c1 L1 ⟨n0,hc1⟩=>?_
 subst hc1
 refine bq (dE (List.sublist_append_right ..)) ?_
 unfold cf
 repeat' (first|refine ae ?_|refine a6 ?_|refine ar ?_|refine aq ?_|refine a8 ?_|refine aa ?_|refine LR a7 LL ?_|refine xy (d:=25) fun _=>?_|refine bo rfl ?_)
 rename_i eb
 refine cm (dT 0 (cs':=[.vec none 10 [],.vec none 1 []]) rfl fun σ vs hh=>mQ.vrs (a:=[dg,dg]) (b:=[.vec none 10 [],.vec none 1 []]) ⟨fun σ v h=>eh 10 h,fun σ v h=>eh 1 h,trivial⟩ hh) ?_
 refine aN [1,6,27,28] (α:=List oB×Option (Nat×Nat)) (fun s=>[(29,aF s.1.length)]) (fun s=>s.1.length≤f.Lookups.length∧s.1.map (·.l)=f.Lookups.take s.1.length∧∀e∈s.1,1≤e.l.Kind→e.l.Kind≤6→jI e) (fun s=>(eb,.box [.vec s.2 10 (s.1.map f4),.vec none 1 []] 237)::tok s.2 243 10 s.1.length) (fun s=>f.Lookups.length - s.1.length) ([],none) rfl ⟨rfl,trivial⟩ ⟨Nat.zero_le _,rfl,fun e he=>by cases he⟩ (fun _ _ hh=>hh) ?_
 rintro ⟨es,q⟩ ⟨hk,hes,hau⟩
 dsimp only at hk hes hau ⊢
 try dsimp only [Mt,Ms,Mr,Mn]
 repeat' (first|refine ae ?_|refine a6 ?_|refine a8 ?_|refine aa ?_|refine LR a7 LL ?_)
 refine aB rfl (fun h1=>?_) (fun h1=>?_)
 ·have hk2:es.length < f.Lookups.length:=by have:=Mz h1;omega
  obtain ⟨l,hl⟩:∃z,f.Lookups[es.length]?=some z:=⟨_,Ia hk2⟩
  have hlg:(f.Lookups.map bA)[es.length]?=some (bA l):=by simp [hl]
  have hlm:=Mx hl
  have hbl:=h.look l hlm
  have hfew:=hbl.few
  haveI:=AD.mk (tO l (by omega) (h.rule l hlm))
  have hbu:=AS f es.length l hl hbl hN0 hN
  have hrl:(l.Rules.map bR).length=l.Rules.length:=Mv ..
  clear h1
  repeat' (first|refine ae ?_|refine a6 ?_|refine ar ?_|refine aq ?_|refine a8 ?_|refine aa ?_|refine LR a7 LL ?_|(apply aL;first|refine aK a7 ?_|refine aH a7 ?_)|(apply aU;first|refine LT 8 a7 0 LQ ?_|refine LT 8 a7 1 LQ ?_|refine LT 8 a7 2 LQ ?_|refine LT 10 a7 0 LQ ?_|refine LT 10 a7 1 LQ ?_|refine LT 10 a7 2 LQ ?_|refine LT 13 a7 0 LQ ?_|refine LT 13 a7 1 LQ ?_|refine LT 13 a7 2 LQ ?_|refine LT 15 a7 0 LQ ?_|refine LT 15 a7 1 LQ ?_|refine LT 15 a7 2 LQ ?_|refine LU a7 0 LP ?_|refine LU a7 1 LP ?_|refine LU a7 2 LP ?_|refine LU a7 3 LP ?_|fail)|refine bf a7 fun _=>?_|(apply bk;refine b9 ?_)|fail)
  rename_i ob
  refine oG (α:=Option jH) [1,6,8,9,27,28,29] (fun _=>[(1,.iptr (bY f)),(6,eZ eb),(8,.iptr (bA l)),(9,eZ ob),(27,.imm 3 (f.Lookups.map bA)),(28,.sc (.int .i64 ((f.Lookups.map bA).length:Int))),(29,aF es.length)]) (fun a=>(ob,.box (Jg l a 0) 243)::(eb,.box [.vec q 10 (es.map f4),.vec none 1 []] 237)::tok q 243 10 es.length) (fun a=>1≤l.Kind→l.Kind≤6→∃a',a=some a'∧wN f.Glyphs.length l.Rules a') (fun Q' K=>?_) (fun a ha=>?_)
  ·refine aB rfl (fun h1=>?_) (fun h1=>?_)
   ·repeat' (first|refine ae ?_|refine a6 ?_|refine LR a7 LL ?_)
    refine aW [] _ hbu rfl rfl (Mp _) rfl fun c1 L1 ⟨a,ha,hc1⟩=>?_
    subst hc1
    refine bq (dE (List.sublist_append_right ..)) ?_
    repeat' (first|refine ae ?_|refine a6 ?_|refine aq ?_|refine a8 ?_|refine aa ?_|refine LR a7 LL ?_|(apply aU;first|refine LT 8 a7 0 LQ ?_|refine LT 8 a7 1 LQ ?_|refine LT 8 a7 2 LQ ?_|refine LT 10 a7 0 LQ ?_|refine LT 10 a7 1 LQ ?_|refine LT 10 a7 2 LQ ?_|refine LT 13 a7 0 LQ ?_|refine LT 13 a7 1 LQ ?_|refine LT 13 a7 2 LQ ?_|refine LT 15 a7 0 LQ ?_|refine LT 15 a7 1 LQ ?_|refine LT 15 a7 2 LQ ?_|refine LU a7 0 LP ?_|refine LU a7 1 LP ?_|refine LU a7 2 LP ?_|refine LU a7 3 LP ?_|fail)|refine bf a7 fun _=>?_|refine bo rfl ?_)
    exact K (some a) _ (fun _ _=>⟨a,rfl,ha⟩) rfl
   ·repeat' (first|refine aq ?_)
    exact K none _ (fun h1' h6=>absurd (My h1) (fun hn=>hn ⟨h1',h6⟩)) rfl
  ·have hA:1≤l.Kind→l.Kind≤6→wN f.Glyphs.length l.Rules (a.getD JI):=fun h1 h6=>by
    obtain ⟨a',rfl,hb⟩:=ha h1 h6
    exact hb
   refine cm (dT 0 (cs':=zi l (a.getD JI) 0) rfl fun σ vs hh=>(Cp l a 0).vrs hh) ?_
   generalize a.getD JI=A at hA
   clear ha
   repeat' (first|refine ae ?_|refine a6 ?_|refine ar ?_|refine a8 ?_|refine aa ?_|refine LR a7 LL ?_)
   refine aN [1,6,9,27,28,29,52,53] (α:=Nat) (fun j=>[(54,aF j)]) (fun j=>j≤l.Rules.length) (fun j=>(ob,.box (zi l A j) 243)::(eb,.box [.vec q 10 (es.map f4),.vec none 1 []] 237)::tok q 243 10 es.length) (fun j=>l.Rules.length - j) 0 rfl ⟨rfl,trivial⟩ (Nat.zero_le _) (fun _ _ hh=>hh) fun j hj=>?_
   try dsimp only [Mt,Ms,Mr,Mn]
   repeat' (first|refine ae ?_|refine a6 ?_|refine a8 ?_|refine aa ?_|refine LR a7 LL ?_)
   refine aB rfl (fun h1=>?_) (fun h1=>?_)
   ·have hj2:j < l.Rules.length:=by have:=Mz h1;omega
    obtain ⟨r,hr⟩:∃z,l.Rules[j]?=some z:=⟨_,Ia hj2⟩
    have hrg:(l.Rules.map bR)[j]?=some (bR r):=by simp [hr]
    have hlong:=(hbl.rule r (Mx hr)).long
    have hl1:=c8 r.In
    have hl2:=c8 r.Ahead
    have hl3:=c8 r.Back
    obtain ⟨hfb,hbb⟩:=Bo hbl.rule j
    obtain ⟨hfs,hbs⟩:=vL hr
    clear h1
    repeat' (first|refine ae ?_|refine a6 ?_|refine ar ?_|refine aq ?_|refine a8 ?_|refine aP ?_|refine aa ?_|refine LR a7 LL ?_|(apply bL;first|refine LV a7 0 LO ?_|refine LV a7 1 LO ?_|refine LV a7 2 LO ?_|refine LV a7 3 LO ?_|refine LW a7 0 LO ?_|refine LW a7 1 LO ?_|refine LW a7 2 LO ?_|refine LZ a7 1 LM (by assumption) rfl ?_|refine LZ a7 0 LM (by assumption) rfl ?_|fail)|(apply aY;refine aX ?_)|(apply aL;first|refine aK a7 ?_|refine aH a7 ?_)|(apply aU;first|refine LT 8 a7 0 LQ ?_|refine LT 8 a7 1 LQ ?_|refine LT 8 a7 2 LQ ?_|refine LT 10 a7 0 LQ ?_|refine LT 10 a7 1 LQ ?_|refine LT 10 a7 2 LQ ?_|refine LT 13 a7 0 LQ ?_|refine LT 13 a7 1 LQ ?_|refine LT 13 a7 2 LQ ?_|refine LT 15 a7 0 LQ ?_|refine LT 15 a7 1 LQ ?_|refine LT 15 a7 2 LQ ?_|refine LU a7 0 LP ?_|refine LU a7 1 LP ?_|refine LU a7 2 LP ?_|refine LU a7 3 LP ?_|fail)|refine bf a7 fun _=>?_|fail)
    refine aE (j+1) rfl ⟨by rw [Mw];rfl,trivial⟩ hj2 (by omega) (fun _ _ hh=>?_)
    have e1:((max (fz (l.Rules.take j)) (r.In.length+r.Ahead.length):Nat):Int)=max ((fz (l.Rules.take j):Nat):Int) (((bj r.In).length:Int)+((bj r.Ahead).length:Int)):=by omega
    have e2:((max (gN (l.Rules.take j)) r.Back.length:Nat):Int)=max ((gN (l.Rules.take j):Nat):Int) ((bj r.Back).length:Int):=by omega
    unfold zi
    rw [hfs,hbs,e1,e2]
    exact hh
   ·have hj2:j=l.Rules.length:=by have:=My h1;omega
    subst hj2
    rw [Cq]
    clear h1
    have hel:(es.map f4).length=es.length:=Mv ..
    have hsn:es.map f4++[f4 (Ec l A)]=(es++[Ec l A]).map f4:=by rw [List.map_append];rfl
    repeat' (first|refine aO ?_|refine a8 ?_|refine av ?_|refine aC ?_|refine aA ?_)
    refine bB 8 [(0,.v),(1,.v),(2,.v),(3,.v),(4,.l),(5,.l),(6,.v),(7,.e)] none ?_ trivial rfl (by kernel_rfl) (by kernel_rfl) (by kernel_rfl) mixed (by kernel_rfl) rfl
    repeat' (first|refine aJ ?_|refine bw a7 ?_|refine kU a7 ?_|refine cn a7 1 rfl rfl rfl rfl (by first|trivial|rfl) ?_|refine sa a7 0 rfl rfl rfl rfl (by first|trivial|rfl) ?_)
    refine lV a7 [(ob,.box (f4 (Ec l A)) 243),(eb,.box [.vec q 10 (es.map f4),.vec none 1 []] 237)] rfl rfl rfl rfl (by rw [hel];exact List.perm_append_comm (l₁:=[_,_])) (by rw [hel];simp;omega) (by rw [hel];simp;omega) trivial fun q'=>?_
    repeat' (first|fail)
    refine MG [1,6,27,28,29,77,84] LL ?_
    refine bq (b8 (L':=(ob,.box (f4 (Ec l A)) 243)::(eb,.box [.vec q 10 (es.map f4),.vec none 1 []] 237)::tok q' 243 10 (es.map f4++[f4 (Ec l A)]).length) (List.perm_append_comm (l₂:=[_,_]))) ?_
    repeat' (first|refine a6 ?_|refine a8 ?_|refine aP ?_|refine aa ?_|refine LR a7 LL ?_|(apply aY;refine aX ?_)|(apply aU;first|refine LT 8 a7 0 LQ ?_|refine LT 8 a7 1 LQ ?_|refine LT 8 a7 2 LQ ?_|refine LT 10 a7 0 LQ ?_|refine LT 10 a7 1 LQ ?_|refine LT 10 a7 2 LQ ?_|refine LT 13 a7 0 LQ ?_|refine LT 13 a7 1 LQ ?_|refine LT 13 a7 2 LQ ?_|refine LT 15 a7 0 LQ ?_|refine LT 15 a7 1 LQ ?_|refine LT 15 a7 2 LQ ?_|refine LU a7 0 LP ?_|refine LU a7 1 LP ?_|refine LU a7 2 LP ?_|refine LU a7 3 LP ?_|fail))
    have hll2:(es++[Ec l A]).length=es.length+1:=by simp
    refine aE (es++[Ec l A],q') rfl ⟨by dsimp only;rw [hll2,Mw];rfl,trivial⟩ ⟨by dsimp only;omega,?_,?_⟩ (by dsimp only;omega) (fun σ w hh=>?_)
    ·dsimp only
     rw [List.map_append,hes,hll2,List.take_add_one,hl]
     rfl
    ·intro e he h1 h6
     rw [List.mem_append,List.mem_singleton] at he
     rcases he with he | rfl
     ·exact hau e he h1 h6
     ·exact DU hbl (hA h1 h6)
    ·have h2:=hh.sublist (List.sublist_cons_self ..)
     rw [hsn,Mv] at h2
     dsimp only
     rw [←hsn]
     exact h2
 ·have hk2:es.length=f.Lookups.length:=by have:=My h1;omega
  rw [hk2,List.take_length] at hes
  clear h1
  repeat' (first|refine ae ?_|refine a6 ?_|refine ar ?_|refine aO ?_|refine a8 ?_|refine av ?_|refine aC ?_|refine aA ?_|refine aa ?_|refine LR a7 LL ?_)
  refine aN [6,89,90] (α:=Nat×Option (Nat×Nat)) (fun s=>[(91,aF s.1)]) (fun s=>s.1≤f.Glyphs.length) (fun s=>(eb,.box [.vec q 10 (es.map f4),.vec s.2 1 (mY ((f.Glyphs.map bn.Mark).take s.1))] 237)::(tok q 243 10 es.length++tok s.2 4 1 s.1)) (fun s=>f.Glyphs.length - s.1) (0,none) rfl ⟨rfl,trivial⟩ (Nat.zero_le _) (fun σ w hh=>by show cK B σ ((eb,.box [.vec q 10 (es.map f4),.vec none 1 []] 237)::(tok q 243 10 es.length++[])) w;rw [List.append_nil];exact hh) ?_
  rintro ⟨k,q2⟩ hk3
  dsimp only at hk3 ⊢
  try dsimp only [Mt,Ms,Mr,Mn]
  repeat' (first|refine ae ?_|refine a6 ?_|refine a8 ?_|refine aa ?_|refine LR a7 LL ?_)
  refine aB rfl (fun h1=>?_) (fun h1=>?_)
  ·have hk4:k < f.Glyphs.length:=by have:=Mz h1;omega
   obtain ⟨g,hg⟩:∃z,f.Glyphs[k]?=some z:=⟨_,Ia hk4⟩
   have hgg:(f.Glyphs.map bK)[k]?=some (bK g):=by simp [hg]
   have hbl:(mY ((f.Glyphs.map bn.Mark).take k)).length=k:=by rw [tI,List.length_take,Mv];omega
   have hbs:(f.Glyphs.map bn.Mark).take (k+1)=(f.Glyphs.map bn.Mark).take k++[g.Mark]:=by rw [List.take_add_one,List.getElem?_map,hg];rfl
   have hsn:=yi ((f.Glyphs.map bn.Mark).take k) g.Mark
   rw [←hbs] at hsn
   generalize mY ((f.Glyphs.map bn.Mark).take k)=bl at *
   clear h1
   repeat' (first|refine ae ?_|refine a6 ?_|refine ar ?_|refine aq ?_|refine a8 ?_|refine aa ?_|refine LR a7 LL ?_|(apply aL;first|refine aK a7 ?_|refine aH a7 ?_)|(apply aU;first|refine LT 8 a7 0 LQ ?_|refine LT 8 a7 1 LQ ?_|refine LT 8 a7 2 LQ ?_|refine LT 10 a7 0 LQ ?_|refine LT 10 a7 1 LQ ?_|refine LT 10 a7 2 LQ ?_|refine LT 13 a7 0 LQ ?_|refine LT 13 a7 1 LQ ?_|refine LT 13 a7 2 LQ ?_|refine LT 15 a7 0 LQ ?_|refine LT 15 a7 1 LQ ?_|refine LT 15 a7 2 LQ ?_|refine LU a7 0 LP ?_|refine LU a7 1 LP ?_|refine LU a7 2 LP ?_|refine LU a7 3 LP ?_|fail)|refine bf a7 fun _=>?_|fail)
   refine bB 9 [(0,.v),(1,.v),(2,.v),(3,.v),(4,.l),(5,.v),(6,.v),(7,.v),(8,.e)] none ?_ trivial rfl (by kernel_rfl) (by kernel_rfl) (by kernel_rfl) mixed (by kernel_rfl) rfl
   repeat' (first|refine aJ ?_|refine bw a7 ?_|refine kU a7 ?_|refine cn a7 0 rfl rfl rfl rfl (by first|trivial|rfl) ?_)
   refine lV a7 ((eb,.box [.vec q 10 (es.map f4),.vec q2 1 bl] 237)::tok q 243 10 es.length) rfl rfl rfl rfl (by rw [hbl];exact (List.perm_append_comm (l₁:=_::tok q 243 10 es.length))) (by rw [hbl];simp;omega) (by rw [hbl];simp;omega) trivial fun q'=>?_
   repeat' (first|fail)
   refine MG [6,89,90,91,95,103] LL ?_
   refine bq (b8 (L':=(eb,.box [.vec q 10 (es.map f4),.vec q2 1 bl] 237)::(tok q 243 10 es.length++tok q' 4 1 (k+1))) (by rw [List.length_append,hbl];exact (List.perm_append_comm (l₂:=_::tok q 243 10 es.length)))) ?_
   repeat' (first|refine a6 ?_|refine a8 ?_|refine aP ?_|refine aa ?_|refine LR a7 LL ?_|(apply aY;refine aX ?_)|(apply aU;first|refine LT 8 a7 0 LQ ?_|refine LT 8 a7 1 LQ ?_|refine LT 8 a7 2 LQ ?_|refine LT 10 a7 0 LQ ?_|refine LT 10 a7 1 LQ ?_|refine LT 10 a7 2 LQ ?_|refine LT 13 a7 0 LQ ?_|refine LT 13 a7 1 LQ ?_|refine LT 13 a7 2 LQ ?_|refine LT 15 a7 0 LQ ?_|refine LT 15 a7 1 LQ ?_|refine LT 15 a7 2 LQ ?_|refine LU a7 0 LP ?_|refine LU a7 1 LP ?_|refine LU a7 2 LP ?_|refine LU a7 3 LP ?_|fail))
   exact aE (k+1,q') rfl ⟨by rw [Mw];rfl,trivial⟩ hk4 (by dsimp only;omega) (fun _ _ hh=>by dsimp only;rw [←hsn];exact hh)
  ·have hk4:k=f.Glyphs.length:=by have:=My h1;omega
   subst hk4
   rw [List.take_of_length_le (by rw [Mv];exact Nat.le_refl _)]
   clear h1
   repeat' (first|refine ae ?_|refine a6 ?_|refine am ?_|refine aO ?_|refine a8 ?_|refine av ?_|refine aC ?_|refine aA ?_|refine aa ?_|refine LR a7 LL ?_)
   refine br (dT 0 (cs':=dZ ⟨es,f.Glyphs.map bn.Mark⟩) rfl fun σ vs hh=>mQ.vrs (a:=[.vec q 10 (es.map f4),.vec q2 1 (mY (f.Glyphs.map bn.Mark))]) (b:=dZ ⟨es,f.Glyphs.map bn.Mark⟩) ⟨fun σ v h=>VR.im h,fun σ v h=>VR.im h,trivial⟩ hh) ?_
   refine br (uS (t:=2) (cs:=dZ ⟨es,f.Glyphs.map bn.Mark⟩) 0 rfl rfl rfl) ?_
   refine cL (List.nil_sublist _) ?_
   exact ME LM ⟨⟨es,f.Glyphs.map bn.Mark⟩,⟨hes,rfl,hau⟩,rfl⟩
set_option maxRecDepth 8000
def rx:Nat→List Int→List aM
 | _,[]=>[]
 | i,g::l=>⟨g,i,0,0,0,0⟩::rx (i+1) l
def nl (l:List Int):List aM:=rx 0 l
def nw:List Bool:=[false,false,false,false,true]
def J2 (ig:Bool):List b6:=[⟨3,ig,[⟨[],[[0],[1]],[],[2],[],0⟩]⟩]
def sy (a b c:Nat):List Int:=List.replicate a 4++0::(List.replicate b 4++1::List.replicate c 4)
def uh (a b c:Nat) (ig:Bool):List Int:=if 0 < b∧ig=false then sy a b c else List.replicate a 4++2::(List.replicate b 4++List.replicate c 4)
def BX (a b c:Nat) (ig:Bool):Bool:=
 let out:=dB nw (J2 ig) 0 (nl (sy a b c)) []
 (out.map aM.Glyph==uh a b c ig) && (decide ((uh a b c ig).length=(sy a b c).length) || (match out[a]? with | some x=>decide (x.Cluster=a) | none=>false))
def JH:Bool:=(List.range 8).all fun a=>(List.range 8).all fun b=>(List.range 8).all fun c=>BX a b c true && BX a b c false
def Jn:bh:=⟨[],[[0]],[[1]],[1],[],0⟩
def F5:List b6:=[⟨5,false,[Jn]⟩,⟨1,false,[Jn]⟩]
def CE (n:Nat):List Int:=List.replicate n 0++[1]
def HO (n:Nat):List Int:=(List.range (n+1)).map fun (k:Nat)=>if (n:Int) - 1≤(k:Int) then (1:Int) else 0
def LA (n:Nat):Bool:=((dB nw F5 0 (nl (CE n)) []).map aM.Glyph==List.replicate (n+1) 1) && ((dB nw F5 1 (nl (CE n)) []).map aM.Glyph==HO n)
def IF (k:Nat):List b6:=[⟨4,false,[⟨[],[[0]],[],[],[⟨0,1⟩,⟨0,2⟩,⟨0,0⟩],0⟩]⟩,⟨1,false,[⟨[],[[0]],[],[2],[],0⟩]⟩,⟨2,false,[⟨[],[[2]],[],List.replicate k 1,[],0⟩]⟩]
def KF (n k:Nat):Bool:=
 let out:=dB nw (IF k) 0 (nl (List.replicate n 0)) []
 if k=0 then decide (out.length < n) else out.map aM.Glyph==List.replicate (n * k) 1
set_option maxRecDepth 8000
def fp (l:List Int) (i:Nat):List AV:=(l.take i++List.replicate (l.length - i) 0).map aF
theorem Ex (l:List Int) {i:Nat} (h:i≤l.length):(fp l i).length=l.length:=by simp [fp];omega
theorem xh (l:List Int) (m:Nat) (hm:m=l.length):(List.replicate m [aF 0]).flatten=fp l 0:=by
 subst hm
 unfold fp
 rw [List.take_zero,Ms,Nat.sub_zero,List.map_replicate]
 generalize l.length=m
 induction m with
 | zero=>rfl
 | succ m ih=>rw [List.replicate_succ,List.flatten_cons,ih,List.replicate_succ];rfl
theorem Ey {l:List Int} {i:Nat} {z:Int} (h:l[i]?=some z):(fp l i).set (0+(i:Int).toNat * 1) (aF z)=fp l (i+1):=by
 have hi:=(Mq h).1
 rw [Nat.zero_add,Nat.mul_one,Int.toNat_natCast]
 unfold fp
 rw [←List.map_set (f:=aF)]
 congr 1
 rw [List.set_append_right _ _ (by simp;omega),List.take_add_one,h,List.append_assoc]
 congr 1
 rw [show l.length - i=(l.length - (i+1))+1 by omega,List.replicate_succ,show i - (l.take i).length=0 by simp;omega]
 rfl
theorem Ew (l:List Int):fp l l.length=l.map aF:=by simp [fp]
theorem rt (l:List Int):(aT l).flatten=l.map aF:=by
 unfold aT
 induction l with
 | nil=>rfl
 | cons z l ih=>rw [Mr,List.flatten_cons,ih];rfl
set_option maxRecDepth 8000
theorem Jt {n i:Nat} (h:i < n):(fp (co n) i).set (0+(i:Int).toNat * 1) (aF i)=fp (co n) (i+1):=Ey (iU h)
set_option maxHeartbeats 1000000 in
theorem Cm (f:aS) (hf:Few f) (hr:jG f.Glyphs.length (prt f)∨AC Tryz.prog 257 [cD f] [] fun c _=>∃z:Int,c=aF z):AC Tryz.prog 185 [cD f] [] fun c _=>(∃T,c= .tup [.imm 1 (aT T),aF 0,aF 0]∧i8 f.Glyphs.length (prt f) T∧T.length=f.Glyphs.length)∨(¬jG f.Glyphs.length (prt f)∧∃z:Int,c= .tup [.imm 1 [],aF z,aF 33]):=by
 refine aI Tryz.func185 rfl Tryz.ntmps185 rfl fun B=>?_
 have hn:=hf.n
 have hln:=EO f hf
 have hml:(f.Glyphs.map bK).length=f.Glyphs.length:=Mv ..
 generalize hN:f.Glyphs.length=n at *
 repeat' (first|refine ae ?_|refine a6 ?_|refine a8 ?_|refine aa ?_|refine LR a7 LL ?_|refine bi ?_|fail)
 rw [hml]
 refine dS a7 n rfl rfl rfl rfl rfl rfl rfl (by omega) (by omega) rfl fun b=>?_
 rw [show (List.replicate n (List.map AV.sc [Value.int .i64 0])).flatten=fp (co n) 0 from xh (co n) n (ew n).symm]
 have hul:=ew n
 repeat' (first|refine ae ?_|refine a6 ?_|refine ar ?_|refine a8 ?_|refine aa ?_|refine LR a7 LL ?_)
 refine aN [1,5,13] (α:=Nat) (fun i=>[(14,aF i)]) (fun i=>i≤n) (fun i=>[(b,.box (fp (co n) i) 3)]) (fun i=>n - i) 0 rfl ⟨rfl,trivial⟩ (Nat.zero_le _) (fun _ _ h=>h) fun i hi=>?_
 try dsimp only [Mt,Ms,Mr,Mn]
 repeat' (first|refine ae ?_|refine a6 ?_|refine a8 ?_|refine aa ?_|refine LR a7 LL ?_)
 refine aB rfl (fun h=>?_) (fun h=>?_)
 ·have hil:i < n:=by have:=Mz h;omega
  repeat' (first|refine ae ?_|refine a6 ?_|refine ar ?_|refine aq ?_|refine a8 ?_|refine aa ?_|refine LR a7 LL ?_|(apply aL;first|refine aK a7 ?_|refine aH a7 ?_)|fail)
  refine aj a7 0 rfl rfl rfl rfl rfl rfl (by rw [Nat.ble_eq,Ex (co n) (by omega),hul];show _+1≤n;omega) ?_
  rw [f8,Jt hil]
  repeat' (first|refine a6 ?_|refine a8 ?_|refine aP ?_|refine aa ?_|refine LR a7 LL ?_|(apply aY;refine aX ?_)|fail)
  exact aE (i+1) rfl ⟨by rw [Mw];rfl,trivial⟩ (by omega) (by omega) (fun _ _ h=>h)
 ·have hil:i=n:=by have:=My h;omega
  subst hil
  clear h
  rw [show fp (co i) i=(co i).map aF by have:=Ew (co i);rw [hul] at this;exact this]
  refine cm (Dh (t:=5) (sz:=1) (l:=aT (co i)) 0 rfl rfl (rt _).symm (by simp [aT]) (by rw [b7,hul]) (by omega)) ?_
  repeat' (first|refine ae ?_|refine a6 ?_|refine aO ?_|refine a8 ?_|refine av ?_|refine aC ?_|refine aA ?_|refine LR a7 LL ?_)
  refine aW [] _ hln rfl rfl (Mp _) rfl fun c L1 ⟨T,hc,hT⟩=>?_
  subst hc
  have hTl:=b7 T
  have hIl:=b7 (co i)
  have hTn:=hT.len
  rw [hul] at hIl
  refine bq (dE (List.nil_sublist _)) ?_
  repeat' (first|refine ae ?_|refine a6 ?_|refine a8 ?_|refine aa ?_|refine LR a7 LL ?_)
  refine aB rfl (fun h=>?_) (fun h=>?_)
  ·have hlt:=Mz h
   rw [hTl,hIl] at hlt
   have hna:¬jG i (prt f):=fun ha=>by
    have:=hT.len_all (hT.all ha fun g p hp=>by have:=HM hp;rw [hN] at this;exact this)
    omega
   rcases hr with hr | hr
   ·exact absurd hr hna
   repeat' (first|refine ae ?_|refine a6 ?_|refine LR a7 LL ?_)
   refine aW [] [] hr rfl rfl (Mp _) rfl fun c L1 ⟨z,hc⟩=>?_
   subst hc
   repeat' (first|refine am ?_|refine a8 ?_|refine az ?_|refine aa ?_|refine LR a7 LL ?_)
   refine br (bE (t:=2) (c':= .imm 1 []) rfl fun σ v h=>dW 1 h) ?_
   exact x4 (cs:=[.imm 1 [],aF z,aF 33]) ⟨rfl,rfl,rfl,trivial⟩ (.inr ⟨hna,z,rfl⟩)
  ·have hlt:=My h
   rw [hTl,hIl] at hlt
   repeat' (first|refine ae ?_|refine a6 ?_|refine aq ?_|refine am ?_|refine a8 ?_|refine aa ?_|refine LR a7 LL ?_)
   exact x4 (cs:=[.imm 1 (aT T),aF 0,aF 0]) ⟨rfl,rfl,rfl,trivial⟩ (.inl ⟨T,rfl,hT,by omega⟩)
end Go.Proofs.YtamjlkdanllgjaaGreatDoor
