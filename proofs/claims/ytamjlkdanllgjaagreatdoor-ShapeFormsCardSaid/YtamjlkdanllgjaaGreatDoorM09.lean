/-
  The program: looks at things, one by one.
-/
import Derived.Test.YtamjlkdanllgjaaGreatDoorM06
import Derived.Test.YtamjlkdanllgjaaGreatDoorM08
import Derived.Test.YtamjlkdanllgjaaGreatDoorM05
namespace Go.Proofs.YtamjlkdanllgjaaGreatDoor
open Go.RowKit
attribute [local irreducible] AT bz AX AO Av Kt aZ cY DA cu
set_option maxRecDepth 8000
def d7 (err:Nat→Int):Nat→Nat→Int×Int
 | 0,_=>(0,0)
 | k+1,i=>if err i=0 then d7 err k (i+1) else (err i,i)
def d6 (err:Nat→Int) (n:Nat):Int×Int:=d7 err n 0
def d3 (most:Int) (err:Nat→Int) (n:Nat):Int×Int:=if (n:Int) > most then (2,0) else d6 err n
def cf (p:Int×Int):AV:= .tup [aF p.1,aF p.2]
theorem cj {err:Nat→Int} {n i:Nat} (hi:i < n) (h:err i=0):d7 err (n - i) i=d7 err (n - (i+1)) (i+1):=by
 rw [show n - i=(n - (i+1))+1 by omega]
 simp only [d7,h,if_true]
theorem cy {err:Nat→Int} {n i:Nat} (hi:i < n) (h:err i≠0):d7 err (n - i) i=(err i,(i:Int)):=by
 rw [show n - i=(n - (i+1))+1 by omega]
 simp only [d7,h,if_false]
def IE (q:List Int):List AV:=[.imm 1 (aT q)]
def yk (z:Int):List AV:=[aF z]
theorem fi {g:FuncId} {caps:List AV} {u:AV} (hu:jB u=some (g,caps)) {s:Nat} {l:List (List AV)}:nk [.imm s l,u]=some [.imm s l,u]:=by
 unfold jB at hu
 split at hu <;> first | rfl | cases hu
theorem bZ {L L':AL} (h:L=L'):L.Perm (L'++[]):=by rw [List.append_nil,h]
def KE (P:Program) (g:FuncId) (caps:List AV) (n:Nat) (arg:Nat→AV) (err:Nat→Int) (J:Nat→AL→Prop):Prop:=∀i L,i < n→J i L→AC P g ([aF i,arg i]++caps) L fun c L'=>c=aF (err i)∧(err i=0→J (i+1) L')
theorem Ed {g:FuncId} {caps:List AV} {u:AV} [bC Tryz.prog g] (hu:jB u=some (g,caps)) (l:List bn) (err:Nat→Int) (J:Nat→AL→Prop) (L0:AL) (h0:J 0 L0) (hw:∀i x L,l[i]?=some x→J i L→AC Tryz.prog g ([aF i,.agg (bK x)]++caps) L fun c L'=>c=aF (err i)∧(err i=0→J (i+1) L')):
  AC Tryz.prog 172 [.imm 9 (l.map bK),u] L0 fun r _=>r=cf (d6 err l.length):=by
 refine aI Tryz.func172 rfl Tryz.ntmps172 rfl fun B=>?_
 refine cF 0 rfl rfl fun hlen=>?_
 rw [Mv] at hlen
 repeat' (first|refine ae ?_|refine a6 ?_|refine ar ?_|refine a8 ?_|refine aa ?_|refine LR a7 LL ?_)
 refine aN [1,9,10] (α:=Nat×AL) (fun i=>[(11,aF i.1)]) (fun i=>i.1≤l.length∧J i.1 i.2∧d6 err l.length=d7 err (l.length - i.1) i.1) (fun i=>i.2) (fun i=>l.length - i.1) (0,L0) rfl ⟨rfl,trivial⟩ ⟨Nat.zero_le _,h0,rfl⟩ (fun _ _ h=>h) ?_
 rintro ⟨i,L⟩ ⟨hi,hj,he⟩
 dsimp only at hi hj he ⊢
 try dsimp only [Mt,Ms,Mr,Mn]
 repeat' (first|refine ae ?_|refine a6 ?_|refine a8 ?_|refine aa ?_|refine LR a7 LL ?_)
 refine aB rfl (fun h=>?_) (fun h=>?_)
 ·have hil:i < l.length:=by have:=Mz h;simp at this;omega
  obtain ⟨z,hz⟩:∃z,l[i]?=some z:=⟨_,Ia hil⟩
  have hzg:=c6 (c:=bK) hz
  repeat' (first|refine ae ?_|refine a6 ?_|refine ar ?_|refine aq ?_|refine a8 ?_|refine aa ?_|refine LR a7 LL ?_|(apply aL;first|refine aK a7 ?_|refine aH a7 ?_)|(apply aU;first|refine LT 7 a7 0 LQ ?_|refine LT 7 a7 1 LQ ?_|refine LT 7 a7 2 LQ ?_|refine LU a7 0 LP ?_|refine LU a7 1 LP ?_|refine LU a7 2 LP ?_|refine LU a7 3 LP ?_|fail)|refine bf a7 fun _=>?_|fail)
  refine dl L [] (hw i z L hz hj) rfl hu rfl (bZ rfl) rfl rfl fun c L1 ⟨hc,hj'⟩=>?_
  subst hc
  rw [List.append_nil]
  repeat' (first|refine ae ?_|refine a6 ?_|refine a8 ?_|refine aa ?_|refine LR a7 LL ?_)
  refine aB rfl (fun h2=>?_) (fun h2=>?_)
  ·have h2':=Mz h2
   repeat' (first|refine ae ?_|refine a6 ?_|refine am ?_|refine a8 ?_|refine az ?_|refine aR ?_|refine bF ?_|refine aa ?_|refine LR a7 LL ?_)
   refine ME LM ?_
   rw [he,cy hil h2']
   rfl
  ·have h2':=Decidable.not_not.1 (My h2)
   repeat' (first|refine a6 ?_|refine aq ?_|refine a8 ?_|refine aP ?_|refine aa ?_|refine LR a7 LL ?_|(apply aY;refine aX ?_)|fail)
   exact aE (i+1,L1) rfl ⟨by rw [Mw];rfl,trivial⟩ ⟨by dsimp only;omega,hj' h2',by rw [he];exact cj hil h2'⟩ (by dsimp only;omega) (fun _ _ h=>h)
 ·have hil:i=l.length:=by have:=My h;simp at this;omega
  subst hil
  repeat' (first|refine ae ?_|refine a6 ?_|refine am ?_|refine aO ?_|refine a8 ?_|refine av ?_|refine aC ?_|refine aA ?_|refine aa ?_|refine LR a7 LL ?_)
  refine ME LM ?_
  rw [he,Nat.sub_self]
  rfl
theorem Fe {g:FuncId} {caps:List AV} {u:AV} [bC Tryz.prog g] (hu:jB u=some (g,caps)) (l:List bn) (most:Int) (err:Nat→Int) (J:Nat→AL→Prop) (L0:AL) (h0:J 0 L0) (hw:(l.length:Int)≤most→∀i x L,l[i]?=some x→J i L→AC Tryz.prog g ([aF i,.agg (bK x)]++caps) L fun c L'=>c=aF (err i)∧(err i=0→J (i+1) L')):
  AC Tryz.prog 171 [.iptr [.imm 9 (l.map bK)],.iptr [aF most],.iptr [u]] L0 fun r _=>r=cf (d3 most err l.length):=by
 refine aI Tryz.func171 rfl Tryz.ntmps171 rfl fun B=>?_
 repeat' (first|refine ae ?_|refine a6 ?_|refine a8 ?_|refine aa ?_|refine LR a7 LL ?_)
 refine aB rfl (fun h=>?_) (fun h=>?_)
 ·have h':=Mz h
  rw [Mv] at h'
  repeat' (first|refine ae ?_|refine a6 ?_|refine am ?_|refine a8 ?_|refine az ?_|refine aa ?_|refine LR a7 LL ?_)
  refine ME LM ?_
  unfold d3
  rw [if_pos h']
  rfl
 ·have h':=My h
  rw [Mv] at h'
  repeat' (first|refine ae ?_|refine a6 ?_|refine aq ?_|refine a8 ?_|refine LR a7 LL ?_)
  refine aW L0 [] (Ed hu l err J L0 h0 (hw (by omega))) rfl (fi hu) (bZ rfl) rfl fun c L1 hc=>?_
  subst hc
  repeat' (first|refine am ?_|refine a8 ?_|refine aa ?_|refine LR a7 LL ?_)
  refine ME LM ?_
  unfold d3
  rw [if_neg h']
  rfl
theorem Kc {g:FuncId} {caps:List AV} (l:List bn) (most:Int):bD Tryz.prog 107 [.imm 9 (l.map bK),aF most,.fn g caps] (.fn 171 [.iptr [.imm 9 (l.map bK)],.iptr [aF most],.iptr [.fn g caps]]):=by
 refine aI Tryz.func107 rfl Tryz.ntmps107 rfl fun B=>?_
 repeat' (first|refine ae ?_|refine a6 ?_|refine am ?_|refine a8 ?_|refine aa ?_|refine LR a7 LL ?_|refine bi ?_|fail)
 exact LY LM
instance {g:FuncId} {caps:List AV} (l:List bn) (most:Int):AD Tryz.prog 107 [.imm 9 (l.map bK),aF most,.fn g caps] (.fn 171 [.iptr [.imm 9 (l.map bK)],.iptr [aF most],.iptr [.fn g caps]]):=⟨Kc l most⟩
theorem Ee {g:FuncId} {caps:List AV} {u:AV} [bC Tryz.prog g] (hu:jB u=some (g,caps)) (l:List dh) (err:Nat→Int) (J:Nat→AL→Prop) (L0:AL) (h0:J 0 L0) (hw:∀i x L,l[i]?=some x→J i L→AC Tryz.prog g ([aF i,.agg (eE x)]++caps) L fun c L'=>c=aF (err i)∧(err i=0→J (i+1) L')):
  AC Tryz.prog 192 [.imm 2 (l.map eE),u] L0 fun r _=>r=cf (d6 err l.length):=by
 refine aI Tryz.func192 rfl Tryz.ntmps192 rfl fun B=>?_
 refine cF 0 rfl rfl fun hlen=>?_
 rw [Mv] at hlen
 repeat' (first|refine ae ?_|refine a6 ?_|refine ar ?_|refine a8 ?_|refine aa ?_|refine LR a7 LL ?_)
 refine aN [1,9,10] (α:=Nat×AL) (fun i=>[(11,aF i.1)]) (fun i=>i.1≤l.length∧J i.1 i.2∧d6 err l.length=d7 err (l.length - i.1) i.1) (fun i=>i.2) (fun i=>l.length - i.1) (0,L0) rfl ⟨rfl,trivial⟩ ⟨Nat.zero_le _,h0,rfl⟩ (fun _ _ h=>h) ?_
 rintro ⟨i,L⟩ ⟨hi,hj,he⟩
 dsimp only at hi hj he ⊢
 try dsimp only [Mt,Ms,Mr,Mn]
 repeat' (first|refine ae ?_|refine a6 ?_|refine a8 ?_|refine aa ?_|refine LR a7 LL ?_)
 refine aB rfl (fun h=>?_) (fun h=>?_)
 ·have hil:i < l.length:=by have:=Mz h;simp at this;omega
  obtain ⟨z,hz⟩:∃z,l[i]?=some z:=⟨_,Ia hil⟩
  have hzg:=c6 (c:=eE) hz
  repeat' (first|refine ae ?_|refine a6 ?_|refine ar ?_|refine aq ?_|refine a8 ?_|refine aa ?_|refine LR a7 LL ?_|(apply aL;first|refine aK a7 ?_|refine aH a7 ?_)|(apply aU;first|refine LT 7 a7 0 LQ ?_|refine LT 7 a7 1 LQ ?_|refine LT 7 a7 2 LQ ?_|refine LU a7 0 LP ?_|refine LU a7 1 LP ?_|refine LU a7 2 LP ?_|refine LU a7 3 LP ?_|fail)|refine bf a7 fun _=>?_|fail)
  refine dl L [] (hw i z L hz hj) rfl hu rfl (bZ rfl) rfl rfl fun c L1 ⟨hc,hj'⟩=>?_
  subst hc
  rw [List.append_nil]
  repeat' (first|refine ae ?_|refine a6 ?_|refine a8 ?_|refine aa ?_|refine LR a7 LL ?_)
  refine aB rfl (fun h2=>?_) (fun h2=>?_)
  ·have h2':=Mz h2
   repeat' (first|refine ae ?_|refine a6 ?_|refine am ?_|refine a8 ?_|refine az ?_|refine aR ?_|refine bF ?_|refine aa ?_|refine LR a7 LL ?_)
   refine ME LM ?_
   rw [he,cy hil h2']
   rfl
  ·have h2':=Decidable.not_not.1 (My h2)
   repeat' (first|refine a6 ?_|refine aq ?_|refine a8 ?_|refine aP ?_|refine aa ?_|refine LR a7 LL ?_|(apply aY;refine aX ?_)|fail)
   exact aE (i+1,L1) rfl ⟨by rw [Mw];rfl,trivial⟩ ⟨by dsimp only;omega,hj' h2',by rw [he];exact cj hil h2'⟩ (by dsimp only;omega) (fun _ _ h=>h)
 ·have hil:i=l.length:=by have:=My h;simp at this;omega
  subst hil
  repeat' (first|refine ae ?_|refine a6 ?_|refine am ?_|refine aO ?_|refine a8 ?_|refine av ?_|refine aC ?_|refine aA ?_|refine aa ?_|refine LR a7 LL ?_)
  refine ME LM ?_
  rw [he,Nat.sub_self]
  rfl
theorem Ff {g:FuncId} {caps:List AV} {u:AV} [bC Tryz.prog g] (hu:jB u=some (g,caps)) (l:List dh) (most:Int) (err:Nat→Int) (J:Nat→AL→Prop) (L0:AL) (h0:J 0 L0) (hw:(l.length:Int)≤most→∀i x L,l[i]?=some x→J i L→AC Tryz.prog g ([aF i,.agg (eE x)]++caps) L fun c L'=>c=aF (err i)∧(err i=0→J (i+1) L')):
  AC Tryz.prog 191 [.iptr [.imm 2 (l.map eE)],.iptr [aF most],.iptr [u]] L0 fun r _=>r=cf (d3 most err l.length):=by
 refine aI Tryz.func191 rfl Tryz.ntmps191 rfl fun B=>?_
 repeat' (first|refine ae ?_|refine a6 ?_|refine a8 ?_|refine aa ?_|refine LR a7 LL ?_)
 refine aB rfl (fun h=>?_) (fun h=>?_)
 ·have h':=Mz h
  rw [Mv] at h'
  repeat' (first|refine ae ?_|refine a6 ?_|refine am ?_|refine a8 ?_|refine az ?_|refine aa ?_|refine LR a7 LL ?_)
  refine ME LM ?_
  unfold d3
  rw [if_pos h']
  rfl
 ·have h':=My h
  rw [Mv] at h'
  repeat' (first|refine ae ?_|refine a6 ?_|refine aq ?_|refine a8 ?_|refine LR a7 LL ?_)
  refine aW L0 [] (Ee hu l err J L0 h0 (hw (by omega))) rfl (fi hu) (bZ rfl) rfl fun c L1 hc=>?_
  subst hc
  repeat' (first|refine am ?_|refine a8 ?_|refine aa ?_|refine LR a7 LL ?_)
  refine ME LM ?_
  unfold d3
  rw [if_neg h']
  rfl
theorem Kd {g:FuncId} {caps:List AV} (l:List dh) (most:Int):bD Tryz.prog 114 [.imm 2 (l.map eE),aF most,.fn g caps] (.fn 191 [.iptr [.imm 2 (l.map eE)],.iptr [aF most],.iptr [.fn g caps]]):=by
 refine aI Tryz.func114 rfl Tryz.ntmps114 rfl fun B=>?_
 repeat' (first|refine ae ?_|refine a6 ?_|refine am ?_|refine a8 ?_|refine aa ?_|refine LR a7 LL ?_|refine bi ?_|fail)
 exact LY LM
instance {g:FuncId} {caps:List AV} (l:List dh) (most:Int):AD Tryz.prog 114 [.imm 2 (l.map eE),aF most,.fn g caps] (.fn 191 [.iptr [.imm 2 (l.map eE)],.iptr [aF most],.iptr [.fn g caps]]):=⟨Kd l most⟩
theorem Ef {g:FuncId} {caps:List AV} {u:AV} [bC Tryz.prog g] (hu:jB u=some (g,caps)) (l:List b6) (err:Nat→Int) (J:Nat→AL→Prop) (L0:AL) (h0:J 0 L0) (hw:∀i x L,l[i]?=some x→J i L→AC Tryz.prog g ([aF i,.agg (bA x)]++caps) L fun c L'=>c=aF (err i)∧(err i=0→J (i+1) L')):
  AC Tryz.prog 194 [.imm 3 (l.map bA),u] L0 fun r _=>r=cf (d6 err l.length):=by
 refine aI Tryz.func194 rfl Tryz.ntmps194 rfl fun B=>?_
 refine cF 0 rfl rfl fun hlen=>?_
 rw [Mv] at hlen
 repeat' (first|refine ae ?_|refine a6 ?_|refine ar ?_|refine a8 ?_|refine aa ?_|refine LR a7 LL ?_)
 refine aN [1,9,10] (α:=Nat×AL) (fun i=>[(11,aF i.1)]) (fun i=>i.1≤l.length∧J i.1 i.2∧d6 err l.length=d7 err (l.length - i.1) i.1) (fun i=>i.2) (fun i=>l.length - i.1) (0,L0) rfl ⟨rfl,trivial⟩ ⟨Nat.zero_le _,h0,rfl⟩ (fun _ _ h=>h) ?_
 rintro ⟨i,L⟩ ⟨hi,hj,he⟩
 dsimp only at hi hj he ⊢
 try dsimp only [Mt,Ms,Mr,Mn]
 repeat' (first|refine ae ?_|refine a6 ?_|refine a8 ?_|refine aa ?_|refine LR a7 LL ?_)
 refine aB rfl (fun h=>?_) (fun h=>?_)
 ·have hil:i < l.length:=by have:=Mz h;simp at this;omega
  obtain ⟨z,hz⟩:∃z,l[i]?=some z:=⟨_,Ia hil⟩
  have hzg:=c6 (c:=bA) hz
  repeat' (first|refine ae ?_|refine a6 ?_|refine ar ?_|refine aq ?_|refine a8 ?_|refine aa ?_|refine LR a7 LL ?_|(apply aL;first|refine aK a7 ?_|refine aH a7 ?_)|(apply aU;first|refine LT 7 a7 0 LQ ?_|refine LT 7 a7 1 LQ ?_|refine LT 7 a7 2 LQ ?_|refine LU a7 0 LP ?_|refine LU a7 1 LP ?_|refine LU a7 2 LP ?_|refine LU a7 3 LP ?_|fail)|refine bf a7 fun _=>?_|fail)
  refine dl L [] (hw i z L hz hj) rfl hu rfl (bZ rfl) rfl rfl fun c L1 ⟨hc,hj'⟩=>?_
  subst hc
  rw [List.append_nil]
  repeat' (first|refine ae ?_|refine a6 ?_|refine a8 ?_|refine aa ?_|refine LR a7 LL ?_)
  refine aB rfl (fun h2=>?_) (fun h2=>?_)
  ·have h2':=Mz h2
   repeat' (first|refine ae ?_|refine a6 ?_|refine am ?_|refine a8 ?_|refine az ?_|refine aR ?_|refine bF ?_|refine aa ?_|refine LR a7 LL ?_)
   refine ME LM ?_
   rw [he,cy hil h2']
   rfl
  ·have h2':=Decidable.not_not.1 (My h2)
   repeat' (first|refine a6 ?_|refine aq ?_|refine a8 ?_|refine aP ?_|refine aa ?_|refine LR a7 LL ?_|(apply aY;refine aX ?_)|fail)
   exact aE (i+1,L1) rfl ⟨by rw [Mw];rfl,trivial⟩ ⟨by dsimp only;omega,hj' h2',by rw [he];exact cj hil h2'⟩ (by dsimp only;omega) (fun _ _ h=>h)
 ·have hil:i=l.length:=by have:=My h;simp at this;omega
  subst hil
  repeat' (first|refine ae ?_|refine a6 ?_|refine am ?_|refine aO ?_|refine a8 ?_|refine av ?_|refine aC ?_|refine aA ?_|refine aa ?_|refine LR a7 LL ?_)
  refine ME LM ?_
  rw [he,Nat.sub_self]
  rfl
theorem Fg {g:FuncId} {caps:List AV} {u:AV} [bC Tryz.prog g] (hu:jB u=some (g,caps)) (l:List b6) (most:Int) (err:Nat→Int) (J:Nat→AL→Prop) (L0:AL) (h0:J 0 L0) (hw:(l.length:Int)≤most→∀i x L,l[i]?=some x→J i L→AC Tryz.prog g ([aF i,.agg (bA x)]++caps) L fun c L'=>c=aF (err i)∧(err i=0→J (i+1) L')):
  AC Tryz.prog 193 [.iptr [.imm 3 (l.map bA)],.iptr [aF most],.iptr [u]] L0 fun r _=>r=cf (d3 most err l.length):=by
 refine aI Tryz.func193 rfl Tryz.ntmps193 rfl fun B=>?_
 repeat' (first|refine ae ?_|refine a6 ?_|refine a8 ?_|refine aa ?_|refine LR a7 LL ?_)
 refine aB rfl (fun h=>?_) (fun h=>?_)
 ·have h':=Mz h
  rw [Mv] at h'
  repeat' (first|refine ae ?_|refine a6 ?_|refine am ?_|refine a8 ?_|refine az ?_|refine aa ?_|refine LR a7 LL ?_)
  refine ME LM ?_
  unfold d3
  rw [if_pos h']
  rfl
 ·have h':=My h
  rw [Mv] at h'
  repeat' (first|refine ae ?_|refine a6 ?_|refine aq ?_|refine a8 ?_|refine LR a7 LL ?_)
  refine aW L0 [] (Ef hu l err J L0 h0 (hw (by omega))) rfl (fi hu) (bZ rfl) rfl fun c L1 hc=>?_
  subst hc
  repeat' (first|refine am ?_|refine a8 ?_|refine aa ?_|refine LR a7 LL ?_)
  refine ME LM ?_
  unfold d3
  rw [if_neg h']
  rfl
theorem Ke {g:FuncId} {caps:List AV} (l:List b6) (most:Int):bD Tryz.prog 117 [.imm 3 (l.map bA),aF most,.fn g caps] (.fn 193 [.iptr [.imm 3 (l.map bA)],.iptr [aF most],.iptr [.fn g caps]]):=by
 refine aI Tryz.func117 rfl Tryz.ntmps117 rfl fun B=>?_
 repeat' (first|refine ae ?_|refine a6 ?_|refine am ?_|refine a8 ?_|refine aa ?_|refine LR a7 LL ?_|refine bi ?_|fail)
 exact LY LM
instance {g:FuncId} {caps:List AV} (l:List b6) (most:Int):AD Tryz.prog 117 [.imm 3 (l.map bA),aF most,.fn g caps] (.fn 193 [.iptr [.imm 3 (l.map bA)],.iptr [aF most],.iptr [.fn g caps]]):=⟨Ke l most⟩
theorem Eg {g:FuncId} {caps:List AV} {u:AV} [bC Tryz.prog g] (hu:jB u=some (g,caps)) (l:List bh) (err:Nat→Int) (J:Nat→AL→Prop) (L0:AL) (h0:J 0 L0) (hw:∀i x L,l[i]?=some x→J i L→AC Tryz.prog g ([aF i,.agg (bR x)]++caps) L fun c L'=>c=aF (err i)∧(err i=0→J (i+1) L')):
  AC Tryz.prog 198 [.imm 6 (l.map bR),u] L0 fun r _=>r=cf (d6 err l.length):=by
 refine aI Tryz.func198 rfl Tryz.ntmps198 rfl fun B=>?_
 refine cF 0 rfl rfl fun hlen=>?_
 rw [Mv] at hlen
 repeat' (first|refine ae ?_|refine a6 ?_|refine ar ?_|refine a8 ?_|refine aa ?_|refine LR a7 LL ?_)
 refine aN [1,9,10] (α:=Nat×AL) (fun i=>[(11,aF i.1)]) (fun i=>i.1≤l.length∧J i.1 i.2∧d6 err l.length=d7 err (l.length - i.1) i.1) (fun i=>i.2) (fun i=>l.length - i.1) (0,L0) rfl ⟨rfl,trivial⟩ ⟨Nat.zero_le _,h0,rfl⟩ (fun _ _ h=>h) ?_
 rintro ⟨i,L⟩ ⟨hi,hj,he⟩
 dsimp only at hi hj he ⊢
 try dsimp only [Mt,Ms,Mr,Mn]
 repeat' (first|refine ae ?_|refine a6 ?_|refine a8 ?_|refine aa ?_|refine LR a7 LL ?_)
 refine aB rfl (fun h=>?_) (fun h=>?_)
 ·have hil:i < l.length:=by have:=Mz h;simp at this;omega
  obtain ⟨z,hz⟩:∃z,l[i]?=some z:=⟨_,Ia hil⟩
  have hzg:=c6 (c:=bR) hz
  repeat' (first|refine ae ?_|refine a6 ?_|refine ar ?_|refine aq ?_|refine a8 ?_|refine aa ?_|refine LR a7 LL ?_|(apply aL;first|refine aK a7 ?_|refine aH a7 ?_)|(apply aU;first|refine LT 7 a7 0 LQ ?_|refine LT 7 a7 1 LQ ?_|refine LT 7 a7 2 LQ ?_|refine LU a7 0 LP ?_|refine LU a7 1 LP ?_|refine LU a7 2 LP ?_|refine LU a7 3 LP ?_|fail)|refine bf a7 fun _=>?_|fail)
  refine dl L [] (hw i z L hz hj) rfl hu rfl (bZ rfl) rfl rfl fun c L1 ⟨hc,hj'⟩=>?_
  subst hc
  rw [List.append_nil]
  repeat' (first|refine ae ?_|refine a6 ?_|refine a8 ?_|refine aa ?_|refine LR a7 LL ?_)
  refine aB rfl (fun h2=>?_) (fun h2=>?_)
  ·have h2':=Mz h2
   repeat' (first|refine ae ?_|refine a6 ?_|refine am ?_|refine a8 ?_|refine az ?_|refine aR ?_|refine bF ?_|refine aa ?_|refine LR a7 LL ?_)
   refine ME LM ?_
   rw [he,cy hil h2']
   rfl
  ·have h2':=Decidable.not_not.1 (My h2)
   repeat' (first|refine a6 ?_|refine aq ?_|refine a8 ?_|refine aP ?_|refine aa ?_|refine LR a7 LL ?_|(apply aY;refine aX ?_)|fail)
   exact aE (i+1,L1) rfl ⟨by rw [Mw];rfl,trivial⟩ ⟨by dsimp only;omega,hj' h2',by rw [he];exact cj hil h2'⟩ (by dsimp only;omega) (fun _ _ h=>h)
 ·have hil:i=l.length:=by have:=My h;simp at this;omega
  subst hil
  repeat' (first|refine ae ?_|refine a6 ?_|refine am ?_|refine aO ?_|refine a8 ?_|refine av ?_|refine aC ?_|refine aA ?_|refine aa ?_|refine LR a7 LL ?_)
  refine ME LM ?_
  rw [he,Nat.sub_self]
  rfl
theorem Eh {g:FuncId} {caps:List AV} {u:AV} [bC Tryz.prog g] (hu:jB u=some (g,caps)) (l:List bQ) (err:Nat→Int) (J:Nat→AL→Prop) (L0:AL) (h0:J 0 L0) (hw:∀i x L,l[i]?=some x→J i L→AC Tryz.prog g ([aF i,.agg (bJ x)]++caps) L fun c L'=>c=aF (err i)∧(err i=0→J (i+1) L')):
  AC Tryz.prog 202 [.imm 2 (l.map bJ),u] L0 fun r _=>r=cf (d6 err l.length):=by
 refine aI Tryz.func202 rfl Tryz.ntmps202 rfl fun B=>?_
 refine cF 0 rfl rfl fun hlen=>?_
 rw [Mv] at hlen
 repeat' (first|refine ae ?_|refine a6 ?_|refine ar ?_|refine a8 ?_|refine aa ?_|refine LR a7 LL ?_)
 refine aN [1,9,10] (α:=Nat×AL) (fun i=>[(11,aF i.1)]) (fun i=>i.1≤l.length∧J i.1 i.2∧d6 err l.length=d7 err (l.length - i.1) i.1) (fun i=>i.2) (fun i=>l.length - i.1) (0,L0) rfl ⟨rfl,trivial⟩ ⟨Nat.zero_le _,h0,rfl⟩ (fun _ _ h=>h) ?_
 rintro ⟨i,L⟩ ⟨hi,hj,he⟩
 dsimp only at hi hj he ⊢
 try dsimp only [Mt,Ms,Mr,Mn]
 repeat' (first|refine ae ?_|refine a6 ?_|refine a8 ?_|refine aa ?_|refine LR a7 LL ?_)
 refine aB rfl (fun h=>?_) (fun h=>?_)
 ·have hil:i < l.length:=by have:=Mz h;simp at this;omega
  obtain ⟨z,hz⟩:∃z,l[i]?=some z:=⟨_,Ia hil⟩
  have hzg:=c6 (c:=bJ) hz
  repeat' (first|refine ae ?_|refine a6 ?_|refine ar ?_|refine aq ?_|refine a8 ?_|refine aa ?_|refine LR a7 LL ?_|(apply aL;first|refine aK a7 ?_|refine aH a7 ?_)|(apply aU;first|refine LT 7 a7 0 LQ ?_|refine LT 7 a7 1 LQ ?_|refine LT 7 a7 2 LQ ?_|refine LU a7 0 LP ?_|refine LU a7 1 LP ?_|refine LU a7 2 LP ?_|refine LU a7 3 LP ?_|fail)|refine bf a7 fun _=>?_|fail)
  refine dl L [] (hw i z L hz hj) rfl hu rfl (bZ rfl) rfl rfl fun c L1 ⟨hc,hj'⟩=>?_
  subst hc
  rw [List.append_nil]
  repeat' (first|refine ae ?_|refine a6 ?_|refine a8 ?_|refine aa ?_|refine LR a7 LL ?_)
  refine aB rfl (fun h2=>?_) (fun h2=>?_)
  ·have h2':=Mz h2
   repeat' (first|refine ae ?_|refine a6 ?_|refine am ?_|refine a8 ?_|refine az ?_|refine aR ?_|refine bF ?_|refine aa ?_|refine LR a7 LL ?_)
   refine ME LM ?_
   rw [he,cy hil h2']
   rfl
  ·have h2':=Decidable.not_not.1 (My h2)
   repeat' (first|refine a6 ?_|refine aq ?_|refine a8 ?_|refine aP ?_|refine aa ?_|refine LR a7 LL ?_|(apply aY;refine aX ?_)|fail)
   exact aE (i+1,L1) rfl ⟨by rw [Mw];rfl,trivial⟩ ⟨by dsimp only;omega,hj' h2',by rw [he];exact cj hil h2'⟩ (by dsimp only;omega) (fun _ _ h=>h)
 ·have hil:i=l.length:=by have:=My h;simp at this;omega
  subst hil
  repeat' (first|refine ae ?_|refine a6 ?_|refine am ?_|refine aO ?_|refine a8 ?_|refine av ?_|refine aC ?_|refine aA ?_|refine aa ?_|refine LR a7 LL ?_)
  refine ME LM ?_
  rw [he,Nat.sub_self]
  rfl
theorem Fh {g:FuncId} {caps:List AV} {u:AV} [bC Tryz.prog g] (hu:jB u=some (g,caps)) (l:List bQ) (most:Int) (err:Nat→Int) (J:Nat→AL→Prop) (L0:AL) (h0:J 0 L0) (hw:(l.length:Int)≤most→∀i x L,l[i]?=some x→J i L→AC Tryz.prog g ([aF i,.agg (bJ x)]++caps) L fun c L'=>c=aF (err i)∧(err i=0→J (i+1) L')):
  AC Tryz.prog 201 [.iptr [.imm 2 (l.map bJ)],.iptr [aF most],.iptr [u]] L0 fun r _=>r=cf (d3 most err l.length):=by
 refine aI Tryz.func201 rfl Tryz.ntmps201 rfl fun B=>?_
 repeat' (first|refine ae ?_|refine a6 ?_|refine a8 ?_|refine aa ?_|refine LR a7 LL ?_)
 refine aB rfl (fun h=>?_) (fun h=>?_)
 ·have h':=Mz h
  rw [Mv] at h'
  repeat' (first|refine ae ?_|refine a6 ?_|refine am ?_|refine a8 ?_|refine az ?_|refine aa ?_|refine LR a7 LL ?_)
  refine ME LM ?_
  unfold d3
  rw [if_pos h']
  rfl
 ·have h':=My h
  rw [Mv] at h'
  repeat' (first|refine ae ?_|refine a6 ?_|refine aq ?_|refine a8 ?_|refine LR a7 LL ?_)
  refine aW L0 [] (Eh hu l err J L0 h0 (hw (by omega))) rfl (fi hu) (bZ rfl) rfl fun c L1 hc=>?_
  subst hc
  repeat' (first|refine am ?_|refine a8 ?_|refine aa ?_|refine LR a7 LL ?_)
  refine ME LM ?_
  unfold d3
  rw [if_neg h']
  rfl
theorem Kf {g:FuncId} {caps:List AV} (l:List bQ) (most:Int):bD Tryz.prog 120 [.imm 2 (l.map bJ),aF most,.fn g caps] (.fn 201 [.iptr [.imm 2 (l.map bJ)],.iptr [aF most],.iptr [.fn g caps]]):=by
 refine aI Tryz.func120 rfl Tryz.ntmps120 rfl fun B=>?_
 repeat' (first|refine ae ?_|refine a6 ?_|refine am ?_|refine a8 ?_|refine aa ?_|refine LR a7 LL ?_|refine bi ?_|fail)
 exact LY LM
instance {g:FuncId} {caps:List AV} (l:List bQ) (most:Int):AD Tryz.prog 120 [.imm 2 (l.map bJ),aF most,.fn g caps] (.fn 201 [.iptr [.imm 2 (l.map bJ)],.iptr [aF most],.iptr [.fn g caps]]):=⟨Kf l most⟩
theorem Ei {g:FuncId} {caps:List AV} {u:AV} [bC Tryz.prog g] (hu:jB u=some (g,caps)) (l:List eV) (err:Nat→Int) (J:Nat→AL→Prop) (L0:AL) (h0:J 0 L0) (hw:∀i x L,l[i]?=some x→J i L→AC Tryz.prog g ([aF i,.agg (fx x)]++caps) L fun c L'=>c=aF (err i)∧(err i=0→J (i+1) L')):
  AC Tryz.prog 205 [.imm 4 (l.map fx),u] L0 fun r _=>r=cf (d6 err l.length):=by
 refine aI Tryz.func205 rfl Tryz.ntmps205 rfl fun B=>?_
 refine cF 0 rfl rfl fun hlen=>?_
 rw [Mv] at hlen
 repeat' (first|refine ae ?_|refine a6 ?_|refine ar ?_|refine a8 ?_|refine aa ?_|refine LR a7 LL ?_)
 refine aN [1,9,10] (α:=Nat×AL) (fun i=>[(11,aF i.1)]) (fun i=>i.1≤l.length∧J i.1 i.2∧d6 err l.length=d7 err (l.length - i.1) i.1) (fun i=>i.2) (fun i=>l.length - i.1) (0,L0) rfl ⟨rfl,trivial⟩ ⟨Nat.zero_le _,h0,rfl⟩ (fun _ _ h=>h) ?_
 rintro ⟨i,L⟩ ⟨hi,hj,he⟩
 dsimp only at hi hj he ⊢
 try dsimp only [Mt,Ms,Mr,Mn]
 repeat' (first|refine ae ?_|refine a6 ?_|refine a8 ?_|refine aa ?_|refine LR a7 LL ?_)
 refine aB rfl (fun h=>?_) (fun h=>?_)
 ·have hil:i < l.length:=by have:=Mz h;simp at this;omega
  obtain ⟨z,hz⟩:∃z,l[i]?=some z:=⟨_,Ia hil⟩
  have hzg:=c6 (c:=fx) hz
  repeat' (first|refine ae ?_|refine a6 ?_|refine ar ?_|refine aq ?_|refine a8 ?_|refine aa ?_|refine LR a7 LL ?_|(apply aL;first|refine aK a7 ?_|refine aH a7 ?_)|(apply aU;first|refine LT 7 a7 0 LQ ?_|refine LT 7 a7 1 LQ ?_|refine LT 7 a7 2 LQ ?_|refine LU a7 0 LP ?_|refine LU a7 1 LP ?_|refine LU a7 2 LP ?_|refine LU a7 3 LP ?_|fail)|refine bf a7 fun _=>?_|fail)
  refine dl L [] (hw i z L hz hj) rfl hu rfl (bZ rfl) rfl rfl fun c L1 ⟨hc,hj'⟩=>?_
  subst hc
  rw [List.append_nil]
  repeat' (first|refine ae ?_|refine a6 ?_|refine a8 ?_|refine aa ?_|refine LR a7 LL ?_)
  refine aB rfl (fun h2=>?_) (fun h2=>?_)
  ·have h2':=Mz h2
   repeat' (first|refine ae ?_|refine a6 ?_|refine am ?_|refine a8 ?_|refine az ?_|refine aR ?_|refine bF ?_|refine aa ?_|refine LR a7 LL ?_)
   refine ME LM ?_
   rw [he,cy hil h2']
   rfl
  ·have h2':=Decidable.not_not.1 (My h2)
   repeat' (first|refine a6 ?_|refine aq ?_|refine a8 ?_|refine aP ?_|refine aa ?_|refine LR a7 LL ?_|(apply aY;refine aX ?_)|fail)
   exact aE (i+1,L1) rfl ⟨by rw [Mw];rfl,trivial⟩ ⟨by dsimp only;omega,hj' h2',by rw [he];exact cj hil h2'⟩ (by dsimp only;omega) (fun _ _ h=>h)
 ·have hil:i=l.length:=by have:=My h;simp at this;omega
  subst hil
  repeat' (first|refine ae ?_|refine a6 ?_|refine am ?_|refine aO ?_|refine a8 ?_|refine av ?_|refine aC ?_|refine aA ?_|refine aa ?_|refine LR a7 LL ?_)
  refine ME LM ?_
  rw [he,Nat.sub_self]
  rfl
theorem Fi {g:FuncId} {caps:List AV} {u:AV} [bC Tryz.prog g] (hu:jB u=some (g,caps)) (l:List eV) (most:Int) (err:Nat→Int) (J:Nat→AL→Prop) (L0:AL) (h0:J 0 L0) (hw:(l.length:Int)≤most→∀i x L,l[i]?=some x→J i L→AC Tryz.prog g ([aF i,.agg (fx x)]++caps) L fun c L'=>c=aF (err i)∧(err i=0→J (i+1) L')):
  AC Tryz.prog 204 [.iptr [.imm 4 (l.map fx)],.iptr [aF most],.iptr [u]] L0 fun r _=>r=cf (d3 most err l.length):=by
 refine aI Tryz.func204 rfl Tryz.ntmps204 rfl fun B=>?_
 repeat' (first|refine ae ?_|refine a6 ?_|refine a8 ?_|refine aa ?_|refine LR a7 LL ?_)
 refine aB rfl (fun h=>?_) (fun h=>?_)
 ·have h':=Mz h
  rw [Mv] at h'
  repeat' (first|refine ae ?_|refine a6 ?_|refine am ?_|refine a8 ?_|refine az ?_|refine aa ?_|refine LR a7 LL ?_)
  refine ME LM ?_
  unfold d3
  rw [if_pos h']
  rfl
 ·have h':=My h
  rw [Mv] at h'
  repeat' (first|refine ae ?_|refine a6 ?_|refine aq ?_|refine a8 ?_|refine LR a7 LL ?_)
  refine aW L0 [] (Ei hu l err J L0 h0 (hw (by omega))) rfl (fi hu) (bZ rfl) rfl fun c L1 hc=>?_
  subst hc
  repeat' (first|refine am ?_|refine a8 ?_|refine aa ?_|refine LR a7 LL ?_)
  refine ME LM ?_
  unfold d3
  rw [if_neg h']
  rfl
theorem J3 {g:FuncId} {caps:List AV} (l:List eV) (most:Int):bD Tryz.prog 124 [.imm 4 (l.map fx),aF most,.fn g caps] (.fn 204 [.iptr [.imm 4 (l.map fx)],.iptr [aF most],.iptr [.fn g caps]]):=by
 refine aI Tryz.func124 rfl Tryz.ntmps124 rfl fun B=>?_
 repeat' (first|refine ae ?_|refine a6 ?_|refine am ?_|refine a8 ?_|refine aa ?_|refine LR a7 LL ?_|refine bi ?_|fail)
 exact LY LM
instance {g:FuncId} {caps:List AV} (l:List eV) (most:Int):AD Tryz.prog 124 [.imm 4 (l.map fx),aF most,.fn g caps] (.fn 204 [.iptr [.imm 4 (l.map fx)],.iptr [aF most],.iptr [.fn g caps]]):=⟨J3 l most⟩
theorem Ej {g:FuncId} {caps:List AV} {u:AV} [bC Tryz.prog g] (hu:jB u=some (g,caps)) (l:List (List fw)) (err:Nat→Int) (J:Nat→AL→Prop) (L0:AL) (h0:J 0 L0) (hw:∀i x L,l[i]?=some x→J i L→AC Tryz.prog g ([aF i,.agg (dV x)]++caps) L fun c L'=>c=aF (err i)∧(err i=0→J (i+1) L')):
  AC Tryz.prog 207 [.imm 1 (l.map dV),u] L0 fun r _=>r=cf (d6 err l.length):=by
 refine aI Tryz.func207 rfl Tryz.ntmps207 rfl fun B=>?_
 refine cF 0 rfl rfl fun hlen=>?_
 rw [Mv] at hlen
 repeat' (first|refine ae ?_|refine a6 ?_|refine ar ?_|refine a8 ?_|refine aa ?_|refine LR a7 LL ?_)
 refine aN [1,9,10] (α:=Nat×AL) (fun i=>[(11,aF i.1)]) (fun i=>i.1≤l.length∧J i.1 i.2∧d6 err l.length=d7 err (l.length - i.1) i.1) (fun i=>i.2) (fun i=>l.length - i.1) (0,L0) rfl ⟨rfl,trivial⟩ ⟨Nat.zero_le _,h0,rfl⟩ (fun _ _ h=>h) ?_
 rintro ⟨i,L⟩ ⟨hi,hj,he⟩
 dsimp only at hi hj he ⊢
 try dsimp only [Mt,Ms,Mr,Mn]
 repeat' (first|refine ae ?_|refine a6 ?_|refine a8 ?_|refine aa ?_|refine LR a7 LL ?_)
 refine aB rfl (fun h=>?_) (fun h=>?_)
 ·have hil:i < l.length:=by have:=Mz h;simp at this;omega
  obtain ⟨z,hz⟩:∃z,l[i]?=some z:=⟨_,Ia hil⟩
  have hzg:=c6 (c:=dV) hz
  repeat' (first|refine ae ?_|refine a6 ?_|refine ar ?_|refine aq ?_|refine a8 ?_|refine aa ?_|refine LR a7 LL ?_|(apply aL;first|refine aK a7 ?_|refine aH a7 ?_)|(apply aU;first|refine LT 7 a7 0 LQ ?_|refine LT 7 a7 1 LQ ?_|refine LT 7 a7 2 LQ ?_|refine LU a7 0 LP ?_|refine LU a7 1 LP ?_|refine LU a7 2 LP ?_|refine LU a7 3 LP ?_|fail)|refine bf a7 fun _=>?_|fail)
  refine dl L [] (hw i z L hz hj) rfl hu rfl (bZ rfl) rfl rfl fun c L1 ⟨hc,hj'⟩=>?_
  subst hc
  rw [List.append_nil]
  repeat' (first|refine ae ?_|refine a6 ?_|refine a8 ?_|refine aa ?_|refine LR a7 LL ?_)
  refine aB rfl (fun h2=>?_) (fun h2=>?_)
  ·have h2':=Mz h2
   repeat' (first|refine ae ?_|refine a6 ?_|refine am ?_|refine a8 ?_|refine az ?_|refine aR ?_|refine bF ?_|refine aa ?_|refine LR a7 LL ?_)
   refine ME LM ?_
   rw [he,cy hil h2']
   rfl
  ·have h2':=Decidable.not_not.1 (My h2)
   repeat' (first|refine a6 ?_|refine aq ?_|refine a8 ?_|refine aP ?_|refine aa ?_|refine LR a7 LL ?_|(apply aY;refine aX ?_)|fail)
   exact aE (i+1,L1) rfl ⟨by rw [Mw];rfl,trivial⟩ ⟨by dsimp only;omega,hj' h2',by rw [he];exact cj hil h2'⟩ (by dsimp only;omega) (fun _ _ h=>h)
 ·have hil:i=l.length:=by have:=My h;simp at this;omega
  subst hil
  repeat' (first|refine ae ?_|refine a6 ?_|refine am ?_|refine aO ?_|refine a8 ?_|refine av ?_|refine aC ?_|refine aA ?_|refine aa ?_|refine LR a7 LL ?_)
  refine ME LM ?_
  rw [he,Nat.sub_self]
  rfl
theorem Fj {g:FuncId} {caps:List AV} {u:AV} [bC Tryz.prog g] (hu:jB u=some (g,caps)) (l:List (List fw)) (most:Int) (err:Nat→Int) (J:Nat→AL→Prop) (L0:AL) (h0:J 0 L0) (hw:(l.length:Int)≤most→∀i x L,l[i]?=some x→J i L→AC Tryz.prog g ([aF i,.agg (dV x)]++caps) L fun c L'=>c=aF (err i)∧(err i=0→J (i+1) L')):
  AC Tryz.prog 206 [.iptr [.imm 1 (l.map dV)],.iptr [aF most],.iptr [u]] L0 fun r _=>r=cf (d3 most err l.length):=by
 refine aI Tryz.func206 rfl Tryz.ntmps206 rfl fun B=>?_
 repeat' (first|refine ae ?_|refine a6 ?_|refine a8 ?_|refine aa ?_|refine LR a7 LL ?_)
 refine aB rfl (fun h=>?_) (fun h=>?_)
 ·have h':=Mz h
  rw [Mv] at h'
  repeat' (first|refine ae ?_|refine a6 ?_|refine am ?_|refine a8 ?_|refine az ?_|refine aa ?_|refine LR a7 LL ?_)
  refine ME LM ?_
  unfold d3
  rw [if_pos h']
  rfl
 ·have h':=My h
  rw [Mv] at h'
  repeat' (first|refine ae ?_|refine a6 ?_|refine aq ?_|refine a8 ?_|refine LR a7 LL ?_)
  refine aW L0 [] (Ej hu l err J L0 h0 (hw (by omega))) rfl (fi hu) (bZ rfl) rfl fun c L1 hc=>?_
  subst hc
  repeat' (first|refine am ?_|refine a8 ?_|refine aa ?_|refine LR a7 LL ?_)
  refine ME LM ?_
  unfold d3
  rw [if_neg h']
  rfl
theorem J4 {g:FuncId} {caps:List AV} (l:List (List fw)) (most:Int):bD Tryz.prog 127 [.imm 1 (l.map dV),aF most,.fn g caps] (.fn 206 [.iptr [.imm 1 (l.map dV)],.iptr [aF most],.iptr [.fn g caps]]):=by
 refine aI Tryz.func127 rfl Tryz.ntmps127 rfl fun B=>?_
 repeat' (first|refine ae ?_|refine a6 ?_|refine am ?_|refine a8 ?_|refine aa ?_|refine LR a7 LL ?_|refine bi ?_|fail)
 exact LY LM
instance {g:FuncId} {caps:List AV} (l:List (List fw)) (most:Int):AD Tryz.prog 127 [.imm 1 (l.map dV),aF most,.fn g caps] (.fn 206 [.iptr [.imm 1 (l.map dV)],.iptr [aF most],.iptr [.fn g caps]]):=⟨J4 l most⟩
theorem Ek {g:FuncId} {caps:List AV} {u:AV} [bC Tryz.prog g] (hu:jB u=some (g,caps)) (l:List fw) (err:Nat→Int) (J:Nat→AL→Prop) (L0:AL) (h0:J 0 L0) (hw:∀i x L,l[i]?=some x→J i L→AC Tryz.prog g ([aF i,.agg (tK x)]++caps) L fun c L'=>c=aF (err i)∧(err i=0→J (i+1) L')):
  AC Tryz.prog 208 [.imm 3 (l.map tK),u] L0 fun r _=>r=cf (d6 err l.length):=by
 refine aI Tryz.func208 rfl Tryz.ntmps208 rfl fun B=>?_
 refine cF 0 rfl rfl fun hlen=>?_
 rw [Mv] at hlen
 repeat' (first|refine ae ?_|refine a6 ?_|refine ar ?_|refine a8 ?_|refine aa ?_|refine LR a7 LL ?_)
 refine aN [1,9,10] (α:=Nat×AL) (fun i=>[(11,aF i.1)]) (fun i=>i.1≤l.length∧J i.1 i.2∧d6 err l.length=d7 err (l.length - i.1) i.1) (fun i=>i.2) (fun i=>l.length - i.1) (0,L0) rfl ⟨rfl,trivial⟩ ⟨Nat.zero_le _,h0,rfl⟩ (fun _ _ h=>h) ?_
 rintro ⟨i,L⟩ ⟨hi,hj,he⟩
 dsimp only at hi hj he ⊢
 try dsimp only [Mt,Ms,Mr,Mn]
 repeat' (first|refine ae ?_|refine a6 ?_|refine a8 ?_|refine aa ?_|refine LR a7 LL ?_)
 refine aB rfl (fun h=>?_) (fun h=>?_)
 ·have hil:i < l.length:=by have:=Mz h;simp at this;omega
  obtain ⟨z,hz⟩:∃z,l[i]?=some z:=⟨_,Ia hil⟩
  have hzg:=c6 (c:=tK) hz
  repeat' (first|refine ae ?_|refine a6 ?_|refine ar ?_|refine aq ?_|refine a8 ?_|refine aa ?_|refine LR a7 LL ?_|(apply aL;first|refine aK a7 ?_|refine aH a7 ?_)|(apply aU;first|refine LT 7 a7 0 LQ ?_|refine LT 7 a7 1 LQ ?_|refine LT 7 a7 2 LQ ?_|refine LU a7 0 LP ?_|refine LU a7 1 LP ?_|refine LU a7 2 LP ?_|refine LU a7 3 LP ?_|fail)|refine bf a7 fun _=>?_|fail)
  refine dl L [] (hw i z L hz hj) rfl hu rfl (bZ rfl) rfl rfl fun c L1 ⟨hc,hj'⟩=>?_
  subst hc
  rw [List.append_nil]
  repeat' (first|refine ae ?_|refine a6 ?_|refine a8 ?_|refine aa ?_|refine LR a7 LL ?_)
  refine aB rfl (fun h2=>?_) (fun h2=>?_)
  ·have h2':=Mz h2
   repeat' (first|refine ae ?_|refine a6 ?_|refine am ?_|refine a8 ?_|refine az ?_|refine aR ?_|refine bF ?_|refine aa ?_|refine LR a7 LL ?_)
   refine ME LM ?_
   rw [he,cy hil h2']
   rfl
  ·have h2':=Decidable.not_not.1 (My h2)
   repeat' (first|refine a6 ?_|refine aq ?_|refine a8 ?_|refine aP ?_|refine aa ?_|refine LR a7 LL ?_|(apply aY;refine aX ?_)|fail)
   exact aE (i+1,L1) rfl ⟨by rw [Mw];rfl,trivial⟩ ⟨by dsimp only;omega,hj' h2',by rw [he];exact cj hil h2'⟩ (by dsimp only;omega) (fun _ _ h=>h)
 ·have hil:i=l.length:=by have:=My h;simp at this;omega
  subst hil
  repeat' (first|refine ae ?_|refine a6 ?_|refine am ?_|refine aO ?_|refine a8 ?_|refine av ?_|refine aC ?_|refine aA ?_|refine aa ?_|refine LR a7 LL ?_)
  refine ME LM ?_
  rw [he,Nat.sub_self]
  rfl
theorem El {g:FuncId} {caps:List AV} {u:AV} [bC Tryz.prog g] (hu:jB u=some (g,caps)) (l:List (List eJ)) (err:Nat→Int) (J:Nat→AL→Prop) (L0:AL) (h0:J 0 L0) (hw:∀i x L,l[i]?=some x→J i L→AC Tryz.prog g ([aF i,.imm 2 (x.map fF)]++caps) L fun c L'=>c=aF (err i)∧(err i=0→J (i+1) L')):
  AC Tryz.prog 211 [.imm 1 (l.map fy),u] L0 fun r _=>r=cf (d6 err l.length):=by
 refine aI Tryz.func211 rfl Tryz.ntmps211 rfl fun B=>?_
 refine cF 0 rfl rfl fun hlen=>?_
 rw [Mv] at hlen
 repeat' (first|refine ae ?_|refine a6 ?_|refine ar ?_|refine a8 ?_|refine aa ?_|refine LR a7 LL ?_)
 refine aN [1,9,10] (α:=Nat×AL) (fun i=>[(11,aF i.1)]) (fun i=>i.1≤l.length∧J i.1 i.2∧d6 err l.length=d7 err (l.length - i.1) i.1) (fun i=>i.2) (fun i=>l.length - i.1) (0,L0) rfl ⟨rfl,trivial⟩ ⟨Nat.zero_le _,h0,rfl⟩ (fun _ _ h=>h) ?_
 rintro ⟨i,L⟩ ⟨hi,hj,he⟩
 dsimp only at hi hj he ⊢
 try dsimp only [Mt,Ms,Mr,Mn]
 repeat' (first|refine ae ?_|refine a6 ?_|refine a8 ?_|refine aa ?_|refine LR a7 LL ?_)
 refine aB rfl (fun h=>?_) (fun h=>?_)
 ·have hil:i < l.length:=by have:=Mz h;simp at this;omega
  obtain ⟨z,hz⟩:∃z,l[i]?=some z:=⟨_,Ia hil⟩
  have hzg:=c6 (c:=fy) hz
  repeat' (first|refine ae ?_|refine a6 ?_|refine ar ?_|refine aq ?_|refine a8 ?_|refine aa ?_|refine LR a7 LL ?_|(apply aL;first|refine aK a7 ?_|refine aH a7 ?_)|fail)
  refine dl L [] (hw i z L hz hj) rfl hu rfl (bZ rfl) rfl rfl fun c L1 ⟨hc,hj'⟩=>?_
  subst hc
  rw [List.append_nil]
  repeat' (first|refine ae ?_|refine a6 ?_|refine a8 ?_|refine aa ?_|refine LR a7 LL ?_)
  refine aB rfl (fun h2=>?_) (fun h2=>?_)
  ·have h2':=Mz h2
   repeat' (first|refine ae ?_|refine a6 ?_|refine am ?_|refine a8 ?_|refine az ?_|refine aR ?_|refine bF ?_|refine aa ?_|refine LR a7 LL ?_)
   refine ME LM ?_
   rw [he,cy hil h2']
   rfl
  ·have h2':=Decidable.not_not.1 (My h2)
   repeat' (first|refine a6 ?_|refine aq ?_|refine a8 ?_|refine aP ?_|refine aa ?_|refine LR a7 LL ?_|(apply aY;refine aX ?_)|fail)
   exact aE (i+1,L1) rfl ⟨by rw [Mw];rfl,trivial⟩ ⟨by dsimp only;omega,hj' h2',by rw [he];exact cj hil h2'⟩ (by dsimp only;omega) (fun _ _ h=>h)
 ·have hil:i=l.length:=by have:=My h;simp at this;omega
  subst hil
  repeat' (first|refine ae ?_|refine a6 ?_|refine am ?_|refine aO ?_|refine a8 ?_|refine av ?_|refine aC ?_|refine aA ?_|refine aa ?_|refine LR a7 LL ?_)
  refine ME LM ?_
  rw [he,Nat.sub_self]
  rfl
theorem Fk {g:FuncId} {caps:List AV} {u:AV} [bC Tryz.prog g] (hu:jB u=some (g,caps)) (l:List (List eJ)) (most:Int) (err:Nat→Int) (J:Nat→AL→Prop) (L0:AL) (h0:J 0 L0) (hw:(l.length:Int)≤most→∀i x L,l[i]?=some x→J i L→AC Tryz.prog g ([aF i,.imm 2 (x.map fF)]++caps) L fun c L'=>c=aF (err i)∧(err i=0→J (i+1) L')):
  AC Tryz.prog 210 [.iptr [.imm 1 (l.map fy)],.iptr [aF most],.iptr [u]] L0 fun r _=>r=cf (d3 most err l.length):=by
 refine aI Tryz.func210 rfl Tryz.ntmps210 rfl fun B=>?_
 repeat' (first|refine ae ?_|refine a6 ?_|refine a8 ?_|refine aa ?_|refine LR a7 LL ?_)
 refine aB rfl (fun h=>?_) (fun h=>?_)
 ·have h':=Mz h
  rw [Mv] at h'
  repeat' (first|refine ae ?_|refine a6 ?_|refine am ?_|refine a8 ?_|refine az ?_|refine aa ?_|refine LR a7 LL ?_)
  refine ME LM ?_
  unfold d3
  rw [if_pos h']
  rfl
 ·have h':=My h
  rw [Mv] at h'
  repeat' (first|refine ae ?_|refine a6 ?_|refine aq ?_|refine a8 ?_|refine LR a7 LL ?_)
  refine aW L0 [] (El hu l err J L0 h0 (hw (by omega))) rfl (fi hu) (bZ rfl) rfl fun c L1 hc=>?_
  subst hc
  repeat' (first|refine am ?_|refine a8 ?_|refine aa ?_|refine LR a7 LL ?_)
  refine ME LM ?_
  unfold d3
  rw [if_neg h']
  rfl
theorem Ho {g:FuncId} (l:List (List eJ)) (most:Int):bD Tryz.prog 130 [.imm 1 (l.map fy),aF most,.sc (.func (.func g) #[] #[])] (.fn 210 [.iptr [.imm 1 (l.map fy)],.iptr [aF most],.iptr [.sc (.func (.func g) #[] #[])]]):=by
 refine aI Tryz.func130 rfl Tryz.ntmps130 rfl fun B=>?_
 repeat' (first|refine ae ?_|refine a6 ?_|refine am ?_|refine a8 ?_|refine aa ?_|refine LR a7 LL ?_|refine bi ?_|fail)
 exact LY LM
instance {g:FuncId} (l:List (List eJ)) (most:Int):AD Tryz.prog 130 [.imm 1 (l.map fy),aF most,.sc (.func (.func g) #[] #[])] (.fn 210 [.iptr [.imm 1 (l.map fy)],.iptr [aF most],.iptr [.sc (.func (.func g) #[] #[])]]):=⟨Ho l most⟩
theorem Em {g:FuncId} {caps:List AV} {u:AV} [bC Tryz.prog g] (hu:jB u=some (g,caps)) (l:List eL) (err:Nat→Int) (J:Nat→AL→Prop) (L0:AL) (h0:J 0 L0) (hw:∀i x L,l[i]?=some x→J i L→AC Tryz.prog g ([aF i,.agg (fk x)]++caps) L fun c L'=>c=aF (err i)∧(err i=0→J (i+1) L')):
  AC Tryz.prog 244 [.imm 3 (l.map fk),u] L0 fun r _=>r=cf (d6 err l.length):=by
 refine aI Tryz.func244 rfl Tryz.ntmps244 rfl fun B=>?_
 refine cF 0 rfl rfl fun hlen=>?_
 rw [Mv] at hlen
 repeat' (first|refine ae ?_|refine a6 ?_|refine ar ?_|refine a8 ?_|refine aa ?_|refine LR a7 LL ?_)
 refine aN [1,9,10] (α:=Nat×AL) (fun i=>[(11,aF i.1)]) (fun i=>i.1≤l.length∧J i.1 i.2∧d6 err l.length=d7 err (l.length - i.1) i.1) (fun i=>i.2) (fun i=>l.length - i.1) (0,L0) rfl ⟨rfl,trivial⟩ ⟨Nat.zero_le _,h0,rfl⟩ (fun _ _ h=>h) ?_
 rintro ⟨i,L⟩ ⟨hi,hj,he⟩
 dsimp only at hi hj he ⊢
 try dsimp only [Mt,Ms,Mr,Mn]
 repeat' (first|refine ae ?_|refine a6 ?_|refine a8 ?_|refine aa ?_|refine LR a7 LL ?_)
 refine aB rfl (fun h=>?_) (fun h=>?_)
 ·have hil:i < l.length:=by have:=Mz h;simp at this;omega
  obtain ⟨z,hz⟩:∃z,l[i]?=some z:=⟨_,Ia hil⟩
  have hzg:=c6 (c:=fk) hz
  repeat' (first|refine ae ?_|refine a6 ?_|refine ar ?_|refine aq ?_|refine a8 ?_|refine aa ?_|refine LR a7 LL ?_|(apply aL;first|refine aK a7 ?_|refine aH a7 ?_)|(apply aU;first|refine LT 7 a7 0 LQ ?_|refine LT 7 a7 1 LQ ?_|refine LT 7 a7 2 LQ ?_|refine LU a7 0 LP ?_|refine LU a7 1 LP ?_|refine LU a7 2 LP ?_|refine LU a7 3 LP ?_|fail)|refine bf a7 fun _=>?_|fail)
  refine dl L [] (hw i z L hz hj) rfl hu rfl (bZ rfl) rfl rfl fun c L1 ⟨hc,hj'⟩=>?_
  subst hc
  rw [List.append_nil]
  repeat' (first|refine ae ?_|refine a6 ?_|refine a8 ?_|refine aa ?_|refine LR a7 LL ?_)
  refine aB rfl (fun h2=>?_) (fun h2=>?_)
  ·have h2':=Mz h2
   repeat' (first|refine ae ?_|refine a6 ?_|refine am ?_|refine a8 ?_|refine az ?_|refine aR ?_|refine bF ?_|refine aa ?_|refine LR a7 LL ?_)
   refine ME LM ?_
   rw [he,cy hil h2']
   rfl
  ·have h2':=Decidable.not_not.1 (My h2)
   repeat' (first|refine a6 ?_|refine aq ?_|refine a8 ?_|refine aP ?_|refine aa ?_|refine LR a7 LL ?_|(apply aY;refine aX ?_)|fail)
   exact aE (i+1,L1) rfl ⟨by rw [Mw];rfl,trivial⟩ ⟨by dsimp only;omega,hj' h2',by rw [he];exact cj hil h2'⟩ (by dsimp only;omega) (fun _ _ h=>h)
 ·have hil:i=l.length:=by have:=My h;simp at this;omega
  subst hil
  repeat' (first|refine ae ?_|refine a6 ?_|refine am ?_|refine aO ?_|refine a8 ?_|refine av ?_|refine aC ?_|refine aA ?_|refine aa ?_|refine LR a7 LL ?_)
  refine ME LM ?_
  rw [he,Nat.sub_self]
  rfl
theorem En {g:FuncId} {caps:List AV} {u:AV} [bC Tryz.prog g] (hu:jB u=some (g,caps)) (l:List dA) (err:Nat→Int) (J:Nat→AL→Prop) (L0:AL) (h0:J 0 L0) (hw:∀i x L,l[i]?=some x→J i L→AC Tryz.prog g ([aF i,.agg (fG x)]++caps) L fun c L'=>c=aF (err i)∧(err i=0→J (i+1) L')):
  AC Tryz.prog 248 [.imm 3 (l.map fG),u] L0 fun r _=>r=cf (d6 err l.length):=by
 refine aI Tryz.func248 rfl Tryz.ntmps248 rfl fun B=>?_
 refine cF 0 rfl rfl fun hlen=>?_
 rw [Mv] at hlen
 repeat' (first|refine ae ?_|refine a6 ?_|refine ar ?_|refine a8 ?_|refine aa ?_|refine LR a7 LL ?_)
 refine aN [1,9,10] (α:=Nat×AL) (fun i=>[(11,aF i.1)]) (fun i=>i.1≤l.length∧J i.1 i.2∧d6 err l.length=d7 err (l.length - i.1) i.1) (fun i=>i.2) (fun i=>l.length - i.1) (0,L0) rfl ⟨rfl,trivial⟩ ⟨Nat.zero_le _,h0,rfl⟩ (fun _ _ h=>h) ?_
 rintro ⟨i,L⟩ ⟨hi,hj,he⟩
 dsimp only at hi hj he ⊢
 try dsimp only [Mt,Ms,Mr,Mn]
 repeat' (first|refine ae ?_|refine a6 ?_|refine a8 ?_|refine aa ?_|refine LR a7 LL ?_)
 refine aB rfl (fun h=>?_) (fun h=>?_)
 ·have hil:i < l.length:=by have:=Mz h;simp at this;omega
  obtain ⟨z,hz⟩:∃z,l[i]?=some z:=⟨_,Ia hil⟩
  have hzg:=c6 (c:=fG) hz
  repeat' (first|refine ae ?_|refine a6 ?_|refine ar ?_|refine aq ?_|refine a8 ?_|refine aa ?_|refine LR a7 LL ?_|(apply aL;first|refine aK a7 ?_|refine aH a7 ?_)|(apply aU;first|refine LT 7 a7 0 LQ ?_|refine LT 7 a7 1 LQ ?_|refine LT 7 a7 2 LQ ?_|refine LU a7 0 LP ?_|refine LU a7 1 LP ?_|refine LU a7 2 LP ?_|refine LU a7 3 LP ?_|fail)|refine bf a7 fun _=>?_|fail)
  refine dl L [] (hw i z L hz hj) rfl hu rfl (bZ rfl) rfl rfl fun c L1 ⟨hc,hj'⟩=>?_
  subst hc
  rw [List.append_nil]
  repeat' (first|refine ae ?_|refine a6 ?_|refine a8 ?_|refine aa ?_|refine LR a7 LL ?_)
  refine aB rfl (fun h2=>?_) (fun h2=>?_)
  ·have h2':=Mz h2
   repeat' (first|refine ae ?_|refine a6 ?_|refine am ?_|refine a8 ?_|refine az ?_|refine aR ?_|refine bF ?_|refine aa ?_|refine LR a7 LL ?_)
   refine ME LM ?_
   rw [he,cy hil h2']
   rfl
  ·have h2':=Decidable.not_not.1 (My h2)
   repeat' (first|refine a6 ?_|refine aq ?_|refine a8 ?_|refine aP ?_|refine aa ?_|refine LR a7 LL ?_|(apply aY;refine aX ?_)|fail)
   exact aE (i+1,L1) rfl ⟨by rw [Mw];rfl,trivial⟩ ⟨by dsimp only;omega,hj' h2',by rw [he];exact cj hil h2'⟩ (by dsimp only;omega) (fun _ _ h=>h)
 ·have hil:i=l.length:=by have:=My h;simp at this;omega
  subst hil
  repeat' (first|refine ae ?_|refine a6 ?_|refine am ?_|refine aO ?_|refine a8 ?_|refine av ?_|refine aC ?_|refine aA ?_|refine aa ?_|refine LR a7 LL ?_)
  refine ME LM ?_
  rw [he,Nat.sub_self]
  rfl
theorem Fm {g:FuncId} {caps:List AV} {u:AV} [bC Tryz.prog g] (hu:jB u=some (g,caps)) (l:List dA) (most:Int) (err:Nat→Int) (J:Nat→AL→Prop) (L0:AL) (h0:J 0 L0) (hw:(l.length:Int)≤most→∀i x L,l[i]?=some x→J i L→AC Tryz.prog g ([aF i,.agg (fG x)]++caps) L fun c L'=>c=aF (err i)∧(err i=0→J (i+1) L')):
  AC Tryz.prog 247 [.iptr [.imm 3 (l.map fG)],.iptr [aF most],.iptr [u]] L0 fun r _=>r=cf (d3 most err l.length):=by
 refine aI Tryz.func247 rfl Tryz.ntmps247 rfl fun B=>?_
 repeat' (first|refine ae ?_|refine a6 ?_|refine a8 ?_|refine aa ?_|refine LR a7 LL ?_)
 refine aB rfl (fun h=>?_) (fun h=>?_)
 ·have h':=Mz h
  rw [Mv] at h'
  repeat' (first|refine ae ?_|refine a6 ?_|refine am ?_|refine a8 ?_|refine az ?_|refine aa ?_|refine LR a7 LL ?_)
  refine ME LM ?_
  unfold d3
  rw [if_pos h']
  rfl
 ·have h':=My h
  rw [Mv] at h'
  repeat' (first|refine ae ?_|refine a6 ?_|refine aq ?_|refine a8 ?_|refine LR a7 LL ?_)
  refine aW L0 [] (En hu l err J L0 h0 (hw (by omega))) rfl (fi hu) (bZ rfl) rfl fun c L1 hc=>?_
  subst hc
  repeat' (first|refine am ?_|refine a8 ?_|refine aa ?_|refine LR a7 LL ?_)
  refine ME LM ?_
  unfold d3
  rw [if_neg h']
  rfl
theorem J5 {g:FuncId} {caps:List AV} (l:List dA) (most:Int):bD Tryz.prog 176 [.imm 3 (l.map fG),aF most,.fn g caps] (.fn 247 [.iptr [.imm 3 (l.map fG)],.iptr [aF most],.iptr [.fn g caps]]):=by
 refine aI Tryz.func176 rfl Tryz.ntmps176 rfl fun B=>?_
 repeat' (first|refine ae ?_|refine a6 ?_|refine am ?_|refine a8 ?_|refine aa ?_|refine LR a7 LL ?_|refine bi ?_|fail)
 exact LY LM
instance {g:FuncId} {caps:List AV} (l:List dA) (most:Int):AD Tryz.prog 176 [.imm 3 (l.map fG),aF most,.fn g caps] (.fn 247 [.iptr [.imm 3 (l.map fG)],.iptr [aF most],.iptr [.fn g caps]]):=⟨J5 l most⟩
theorem Eo {g:FuncId} {caps:List AV} {u:AV} [bC Tryz.prog g] (hu:jB u=some (g,caps)) (l:List dK) (err:Nat→Int) (J:Nat→AL→Prop) (L0:AL) (h0:J 0 L0) (hw:∀i x L,l[i]?=some x→J i L→AC Tryz.prog g ([aF i,.agg (eD x)]++caps) L fun c L'=>c=aF (err i)∧(err i=0→J (i+1) L')):
  AC Tryz.prog 250 [.imm 4 (l.map eD),u] L0 fun r _=>r=cf (d6 err l.length):=by
 refine aI Tryz.func250 rfl Tryz.ntmps250 rfl fun B=>?_
 refine cF 0 rfl rfl fun hlen=>?_
 rw [Mv] at hlen
 repeat' (first|refine ae ?_|refine a6 ?_|refine ar ?_|refine a8 ?_|refine aa ?_|refine LR a7 LL ?_)
 refine aN [1,9,10] (α:=Nat×AL) (fun i=>[(11,aF i.1)]) (fun i=>i.1≤l.length∧J i.1 i.2∧d6 err l.length=d7 err (l.length - i.1) i.1) (fun i=>i.2) (fun i=>l.length - i.1) (0,L0) rfl ⟨rfl,trivial⟩ ⟨Nat.zero_le _,h0,rfl⟩ (fun _ _ h=>h) ?_
 rintro ⟨i,L⟩ ⟨hi,hj,he⟩
 dsimp only at hi hj he ⊢
 try dsimp only [Mt,Ms,Mr,Mn]
 repeat' (first|refine ae ?_|refine a6 ?_|refine a8 ?_|refine aa ?_|refine LR a7 LL ?_)
 refine aB rfl (fun h=>?_) (fun h=>?_)
 ·have hil:i < l.length:=by have:=Mz h;simp at this;omega
  obtain ⟨z,hz⟩:∃z,l[i]?=some z:=⟨_,Ia hil⟩
  have hzg:=c6 (c:=eD) hz
  repeat' (first|refine ae ?_|refine a6 ?_|refine ar ?_|refine aq ?_|refine a8 ?_|refine aa ?_|refine LR a7 LL ?_|(apply aL;first|refine aK a7 ?_|refine aH a7 ?_)|(apply aU;first|refine LT 7 a7 0 LQ ?_|refine LT 7 a7 1 LQ ?_|refine LT 7 a7 2 LQ ?_|refine LU a7 0 LP ?_|refine LU a7 1 LP ?_|refine LU a7 2 LP ?_|refine LU a7 3 LP ?_|fail)|refine bf a7 fun _=>?_|fail)
  refine dl L [] (hw i z L hz hj) rfl hu rfl (bZ rfl) rfl rfl fun c L1 ⟨hc,hj'⟩=>?_
  subst hc
  rw [List.append_nil]
  repeat' (first|refine ae ?_|refine a6 ?_|refine a8 ?_|refine aa ?_|refine LR a7 LL ?_)
  refine aB rfl (fun h2=>?_) (fun h2=>?_)
  ·have h2':=Mz h2
   repeat' (first|refine ae ?_|refine a6 ?_|refine am ?_|refine a8 ?_|refine az ?_|refine aR ?_|refine bF ?_|refine aa ?_|refine LR a7 LL ?_)
   refine ME LM ?_
   rw [he,cy hil h2']
   rfl
  ·have h2':=Decidable.not_not.1 (My h2)
   repeat' (first|refine a6 ?_|refine aq ?_|refine a8 ?_|refine aP ?_|refine aa ?_|refine LR a7 LL ?_|(apply aY;refine aX ?_)|fail)
   exact aE (i+1,L1) rfl ⟨by rw [Mw];rfl,trivial⟩ ⟨by dsimp only;omega,hj' h2',by rw [he];exact cj hil h2'⟩ (by dsimp only;omega) (fun _ _ h=>h)
 ·have hil:i=l.length:=by have:=My h;simp at this;omega
  subst hil
  repeat' (first|refine ae ?_|refine a6 ?_|refine am ?_|refine aO ?_|refine a8 ?_|refine av ?_|refine aC ?_|refine aA ?_|refine aa ?_|refine LR a7 LL ?_)
  refine ME LM ?_
  rw [he,Nat.sub_self]
  rfl
theorem Fn {g:FuncId} {caps:List AV} {u:AV} [bC Tryz.prog g] (hu:jB u=some (g,caps)) (l:List dK) (most:Int) (err:Nat→Int) (J:Nat→AL→Prop) (L0:AL) (h0:J 0 L0) (hw:(l.length:Int)≤most→∀i x L,l[i]?=some x→J i L→AC Tryz.prog g ([aF i,.agg (eD x)]++caps) L fun c L'=>c=aF (err i)∧(err i=0→J (i+1) L')):
  AC Tryz.prog 249 [.iptr [.imm 4 (l.map eD)],.iptr [aF most],.iptr [u]] L0 fun r _=>r=cf (d3 most err l.length):=by
 refine aI Tryz.func249 rfl Tryz.ntmps249 rfl fun B=>?_
 repeat' (first|refine ae ?_|refine a6 ?_|refine a8 ?_|refine aa ?_|refine LR a7 LL ?_)
 refine aB rfl (fun h=>?_) (fun h=>?_)
 ·have h':=Mz h
  rw [Mv] at h'
  repeat' (first|refine ae ?_|refine a6 ?_|refine am ?_|refine a8 ?_|refine az ?_|refine aa ?_|refine LR a7 LL ?_)
  refine ME LM ?_
  unfold d3
  rw [if_pos h']
  rfl
 ·have h':=My h
  rw [Mv] at h'
  repeat' (first|refine ae ?_|refine a6 ?_|refine aq ?_|refine a8 ?_|refine LR a7 LL ?_)
  refine aW L0 [] (Eo hu l err J L0 h0 (hw (by omega))) rfl (fi hu) (bZ rfl) rfl fun c L1 hc=>?_
  subst hc
  repeat' (first|refine am ?_|refine a8 ?_|refine aa ?_|refine LR a7 LL ?_)
  refine ME LM ?_
  unfold d3
  rw [if_neg h']
  rfl
theorem J6 {g:FuncId} {caps:List AV} (l:List dK) (most:Int):bD Tryz.prog 179 [.imm 4 (l.map eD),aF most,.fn g caps] (.fn 249 [.iptr [.imm 4 (l.map eD)],.iptr [aF most],.iptr [.fn g caps]]):=by
 refine aI Tryz.func179 rfl Tryz.ntmps179 rfl fun B=>?_
 repeat' (first|refine ae ?_|refine a6 ?_|refine am ?_|refine a8 ?_|refine aa ?_|refine LR a7 LL ?_|refine bi ?_|fail)
 exact LY LM
instance {g:FuncId} {caps:List AV} (l:List dK) (most:Int):AD Tryz.prog 179 [.imm 4 (l.map eD),aF most,.fn g caps] (.fn 249 [.iptr [.imm 4 (l.map eD)],.iptr [aF most],.iptr [.fn g caps]]):=⟨J6 l most⟩
theorem Ep {g:FuncId} {caps:List AV} {u:AV} [bC Tryz.prog g] (hu:jB u=some (g,caps)) (l:List ez) (err:Nat→Int) (J:Nat→AL→Prop) (L0:AL) (h0:J 0 L0) (hw:∀i x L,l[i]?=some x→J i L→AC Tryz.prog g ([aF i,.agg (gA x)]++caps) L fun c L'=>c=aF (err i)∧(err i=0→J (i+1) L')):
  AC Tryz.prog 253 [.imm 4 (l.map gA),u] L0 fun r _=>r=cf (d6 err l.length):=by
 refine aI Tryz.func253 rfl Tryz.ntmps253 rfl fun B=>?_
 refine cF 0 rfl rfl fun hlen=>?_
 rw [Mv] at hlen
 repeat' (first|refine ae ?_|refine a6 ?_|refine ar ?_|refine a8 ?_|refine aa ?_|refine LR a7 LL ?_)
 refine aN [1,9,10] (α:=Nat×AL) (fun i=>[(11,aF i.1)]) (fun i=>i.1≤l.length∧J i.1 i.2∧d6 err l.length=d7 err (l.length - i.1) i.1) (fun i=>i.2) (fun i=>l.length - i.1) (0,L0) rfl ⟨rfl,trivial⟩ ⟨Nat.zero_le _,h0,rfl⟩ (fun _ _ h=>h) ?_
 rintro ⟨i,L⟩ ⟨hi,hj,he⟩
 dsimp only at hi hj he ⊢
 try dsimp only [Mt,Ms,Mr,Mn]
 repeat' (first|refine ae ?_|refine a6 ?_|refine a8 ?_|refine aa ?_|refine LR a7 LL ?_)
 refine aB rfl (fun h=>?_) (fun h=>?_)
 ·have hil:i < l.length:=by have:=Mz h;simp at this;omega
  obtain ⟨z,hz⟩:∃z,l[i]?=some z:=⟨_,Ia hil⟩
  have hzg:=c6 (c:=gA) hz
  repeat' (first|refine ae ?_|refine a6 ?_|refine ar ?_|refine aq ?_|refine a8 ?_|refine aa ?_|refine LR a7 LL ?_|(apply aL;first|refine aK a7 ?_|refine aH a7 ?_)|(apply aU;first|refine LT 7 a7 0 LQ ?_|refine LT 7 a7 1 LQ ?_|refine LT 7 a7 2 LQ ?_|refine LU a7 0 LP ?_|refine LU a7 1 LP ?_|refine LU a7 2 LP ?_|refine LU a7 3 LP ?_|fail)|refine bf a7 fun _=>?_|fail)
  refine dl L [] (hw i z L hz hj) rfl hu rfl (bZ rfl) rfl rfl fun c L1 ⟨hc,hj'⟩=>?_
  subst hc
  rw [List.append_nil]
  repeat' (first|refine ae ?_|refine a6 ?_|refine a8 ?_|refine aa ?_|refine LR a7 LL ?_)
  refine aB rfl (fun h2=>?_) (fun h2=>?_)
  ·have h2':=Mz h2
   repeat' (first|refine ae ?_|refine a6 ?_|refine am ?_|refine a8 ?_|refine az ?_|refine aR ?_|refine bF ?_|refine aa ?_|refine LR a7 LL ?_)
   refine ME LM ?_
   rw [he,cy hil h2']
   rfl
  ·have h2':=Decidable.not_not.1 (My h2)
   repeat' (first|refine a6 ?_|refine aq ?_|refine a8 ?_|refine aP ?_|refine aa ?_|refine LR a7 LL ?_|(apply aY;refine aX ?_)|fail)
   exact aE (i+1,L1) rfl ⟨by rw [Mw];rfl,trivial⟩ ⟨by dsimp only;omega,hj' h2',by rw [he];exact cj hil h2'⟩ (by dsimp only;omega) (fun _ _ h=>h)
 ·have hil:i=l.length:=by have:=My h;simp at this;omega
  subst hil
  repeat' (first|refine ae ?_|refine a6 ?_|refine am ?_|refine aO ?_|refine a8 ?_|refine av ?_|refine aC ?_|refine aA ?_|refine aa ?_|refine LR a7 LL ?_)
  refine ME LM ?_
  rw [he,Nat.sub_self]
  rfl
theorem Fo {g:FuncId} {caps:List AV} {u:AV} [bC Tryz.prog g] (hu:jB u=some (g,caps)) (l:List ez) (most:Int) (err:Nat→Int) (J:Nat→AL→Prop) (L0:AL) (h0:J 0 L0) (hw:(l.length:Int)≤most→∀i x L,l[i]?=some x→J i L→AC Tryz.prog g ([aF i,.agg (gA x)]++caps) L fun c L'=>c=aF (err i)∧(err i=0→J (i+1) L')):
  AC Tryz.prog 252 [.iptr [.imm 4 (l.map gA)],.iptr [aF most],.iptr [u]] L0 fun r _=>r=cf (d3 most err l.length):=by
 refine aI Tryz.func252 rfl Tryz.ntmps252 rfl fun B=>?_
 repeat' (first|refine ae ?_|refine a6 ?_|refine a8 ?_|refine aa ?_|refine LR a7 LL ?_)
 refine aB rfl (fun h=>?_) (fun h=>?_)
 ·have h':=Mz h
  rw [Mv] at h'
  repeat' (first|refine ae ?_|refine a6 ?_|refine am ?_|refine a8 ?_|refine az ?_|refine aa ?_|refine LR a7 LL ?_)
  refine ME LM ?_
  unfold d3
  rw [if_pos h']
  rfl
 ·have h':=My h
  rw [Mv] at h'
  repeat' (first|refine ae ?_|refine a6 ?_|refine aq ?_|refine a8 ?_|refine LR a7 LL ?_)
  refine aW L0 [] (Ep hu l err J L0 h0 (hw (by omega))) rfl (fi hu) (bZ rfl) rfl fun c L1 hc=>?_
  subst hc
  repeat' (first|refine am ?_|refine a8 ?_|refine aa ?_|refine LR a7 LL ?_)
  refine ME LM ?_
  unfold d3
  rw [if_neg h']
  rfl
theorem J7 {g:FuncId} {caps:List AV} (l:List ez) (most:Int):bD Tryz.prog 181 [.imm 4 (l.map gA),aF most,.fn g caps] (.fn 252 [.iptr [.imm 4 (l.map gA)],.iptr [aF most],.iptr [.fn g caps]]):=by
 refine aI Tryz.func181 rfl Tryz.ntmps181 rfl fun B=>?_
 repeat' (first|refine ae ?_|refine a6 ?_|refine am ?_|refine a8 ?_|refine aa ?_|refine LR a7 LL ?_|refine bi ?_|fail)
 exact LY LM
instance {g:FuncId} {caps:List AV} (l:List ez) (most:Int):AD Tryz.prog 181 [.imm 4 (l.map gA),aF most,.fn g caps] (.fn 252 [.iptr [.imm 4 (l.map gA)],.iptr [aF most],.iptr [.fn g caps]]):=⟨J7 l most⟩
theorem Er {g:FuncId} {caps:List AV} {u:AV} [bC Tryz.prog g] (hu:jB u=some (g,caps)) (l:List (List Int)) (err:Nat→Int) (J:Nat→AL→Prop) (L0:AL) (h0:J 0 L0) (hw:∀i x L,l[i]?=some x→J i L→AC Tryz.prog g ([aF i,.imm 1 (aT x)]++caps) L fun c L'=>c=aF (err i)∧(err i=0→J (i+1) L')):
  AC Tryz.prog 261 [.imm 1 (l.map IE),u] L0 fun r _=>r=cf (d6 err l.length):=by
 refine aI Tryz.func261 rfl Tryz.ntmps261 rfl fun B=>?_
 refine cF 0 rfl rfl fun hlen=>?_
 rw [Mv] at hlen
 repeat' (first|refine ae ?_|refine a6 ?_|refine ar ?_|refine a8 ?_|refine aa ?_|refine LR a7 LL ?_)
 refine aN [1,9,10] (α:=Nat×AL) (fun i=>[(11,aF i.1)]) (fun i=>i.1≤l.length∧J i.1 i.2∧d6 err l.length=d7 err (l.length - i.1) i.1) (fun i=>i.2) (fun i=>l.length - i.1) (0,L0) rfl ⟨rfl,trivial⟩ ⟨Nat.zero_le _,h0,rfl⟩ (fun _ _ h=>h) ?_
 rintro ⟨i,L⟩ ⟨hi,hj,he⟩
 dsimp only at hi hj he ⊢
 try dsimp only [Mt,Ms,Mr,Mn]
 repeat' (first|refine ae ?_|refine a6 ?_|refine a8 ?_|refine aa ?_|refine LR a7 LL ?_)
 refine aB rfl (fun h=>?_) (fun h=>?_)
 ·have hil:i < l.length:=by have:=Mz h;simp at this;omega
  obtain ⟨z,hz⟩:∃z,l[i]?=some z:=⟨_,Ia hil⟩
  have hzg:=c6 (c:=IE) hz
  repeat' (first|refine ae ?_|refine a6 ?_|refine ar ?_|refine aq ?_|refine a8 ?_|refine aa ?_|refine LR a7 LL ?_|(apply aL;first|refine aK a7 ?_|refine aH a7 ?_)|fail)
  refine dl L [] (hw i z L hz hj) rfl hu rfl (bZ rfl) rfl rfl fun c L1 ⟨hc,hj'⟩=>?_
  subst hc
  rw [List.append_nil]
  repeat' (first|refine ae ?_|refine a6 ?_|refine a8 ?_|refine aa ?_|refine LR a7 LL ?_)
  refine aB rfl (fun h2=>?_) (fun h2=>?_)
  ·have h2':=Mz h2
   repeat' (first|refine ae ?_|refine a6 ?_|refine am ?_|refine a8 ?_|refine az ?_|refine aR ?_|refine bF ?_|refine aa ?_|refine LR a7 LL ?_)
   refine ME LM ?_
   rw [he,cy hil h2']
   rfl
  ·have h2':=Decidable.not_not.1 (My h2)
   repeat' (first|refine a6 ?_|refine aq ?_|refine a8 ?_|refine aP ?_|refine aa ?_|refine LR a7 LL ?_|(apply aY;refine aX ?_)|fail)
   exact aE (i+1,L1) rfl ⟨by rw [Mw];rfl,trivial⟩ ⟨by dsimp only;omega,hj' h2',by rw [he];exact cj hil h2'⟩ (by dsimp only;omega) (fun _ _ h=>h)
 ·have hil:i=l.length:=by have:=My h;simp at this;omega
  subst hil
  repeat' (first|refine ae ?_|refine a6 ?_|refine am ?_|refine aO ?_|refine a8 ?_|refine av ?_|refine aC ?_|refine aA ?_|refine aa ?_|refine LR a7 LL ?_)
  refine ME LM ?_
  rw [he,Nat.sub_self]
  rfl
theorem Es {g:FuncId} {caps:List AV} {u:AV} [bC Tryz.prog g] (hu:jB u=some (g,caps)) (l:List eJ) (err:Nat→Int) (J:Nat→AL→Prop) (L0:AL) (h0:J 0 L0) (hw:∀i x L,l[i]?=some x→J i L→AC Tryz.prog g ([aF i,.agg (fF x)]++caps) L fun c L'=>c=aF (err i)∧(err i=0→J (i+1) L')):
  AC Tryz.prog 274 [.imm 2 (l.map fF),u] L0 fun r _=>r=cf (d6 err l.length):=by
 refine aI Tryz.func274 rfl Tryz.ntmps274 rfl fun B=>?_
 refine cF 0 rfl rfl fun hlen=>?_
 rw [Mv] at hlen
 repeat' (first|refine ae ?_|refine a6 ?_|refine ar ?_|refine a8 ?_|refine aa ?_|refine LR a7 LL ?_)
 refine aN [1,9,10] (α:=Nat×AL) (fun i=>[(11,aF i.1)]) (fun i=>i.1≤l.length∧J i.1 i.2∧d6 err l.length=d7 err (l.length - i.1) i.1) (fun i=>i.2) (fun i=>l.length - i.1) (0,L0) rfl ⟨rfl,trivial⟩ ⟨Nat.zero_le _,h0,rfl⟩ (fun _ _ h=>h) ?_
 rintro ⟨i,L⟩ ⟨hi,hj,he⟩
 dsimp only at hi hj he ⊢
 try dsimp only [Mt,Ms,Mr,Mn]
 repeat' (first|refine ae ?_|refine a6 ?_|refine a8 ?_|refine aa ?_|refine LR a7 LL ?_)
 refine aB rfl (fun h=>?_) (fun h=>?_)
 ·have hil:i < l.length:=by have:=Mz h;simp at this;omega
  obtain ⟨z,hz⟩:∃z,l[i]?=some z:=⟨_,Ia hil⟩
  have hzg:=c6 (c:=fF) hz
  repeat' (first|refine ae ?_|refine a6 ?_|refine ar ?_|refine aq ?_|refine a8 ?_|refine aa ?_|refine LR a7 LL ?_|(apply aL;first|refine aK a7 ?_|refine aH a7 ?_)|(apply aU;first|refine LT 7 a7 0 LQ ?_|refine LT 7 a7 1 LQ ?_|refine LT 7 a7 2 LQ ?_|refine LU a7 0 LP ?_|refine LU a7 1 LP ?_|refine LU a7 2 LP ?_|refine LU a7 3 LP ?_|fail)|refine bf a7 fun _=>?_|fail)
  refine dl L [] (hw i z L hz hj) rfl hu rfl (bZ rfl) rfl rfl fun c L1 ⟨hc,hj'⟩=>?_
  subst hc
  rw [List.append_nil]
  repeat' (first|refine ae ?_|refine a6 ?_|refine a8 ?_|refine aa ?_|refine LR a7 LL ?_)
  refine aB rfl (fun h2=>?_) (fun h2=>?_)
  ·have h2':=Mz h2
   repeat' (first|refine ae ?_|refine a6 ?_|refine am ?_|refine a8 ?_|refine az ?_|refine aR ?_|refine bF ?_|refine aa ?_|refine LR a7 LL ?_)
   refine ME LM ?_
   rw [he,cy hil h2']
   rfl
  ·have h2':=Decidable.not_not.1 (My h2)
   repeat' (first|refine a6 ?_|refine aq ?_|refine a8 ?_|refine aP ?_|refine aa ?_|refine LR a7 LL ?_|(apply aY;refine aX ?_)|fail)
   exact aE (i+1,L1) rfl ⟨by rw [Mw];rfl,trivial⟩ ⟨by dsimp only;omega,hj' h2',by rw [he];exact cj hil h2'⟩ (by dsimp only;omega) (fun _ _ h=>h)
 ·have hil:i=l.length:=by have:=My h;simp at this;omega
  subst hil
  repeat' (first|refine ae ?_|refine a6 ?_|refine am ?_|refine aO ?_|refine a8 ?_|refine av ?_|refine aC ?_|refine aA ?_|refine aa ?_|refine LR a7 LL ?_)
  refine ME LM ?_
  rw [he,Nat.sub_self]
  rfl
theorem Fp {g:FuncId} {caps:List AV} {u:AV} [bC Tryz.prog g] (hu:jB u=some (g,caps)) (l:List eJ) (most:Int) (err:Nat→Int) (J:Nat→AL→Prop) (L0:AL) (h0:J 0 L0) (hw:(l.length:Int)≤most→∀i x L,l[i]?=some x→J i L→AC Tryz.prog g ([aF i,.agg (fF x)]++caps) L fun c L'=>c=aF (err i)∧(err i=0→J (i+1) L')):
  AC Tryz.prog 273 [.iptr [.imm 2 (l.map fF)],.iptr [aF most],.iptr [u]] L0 fun r _=>r=cf (d3 most err l.length):=by
 refine aI Tryz.func273 rfl Tryz.ntmps273 rfl fun B=>?_
 repeat' (first|refine ae ?_|refine a6 ?_|refine a8 ?_|refine aa ?_|refine LR a7 LL ?_)
 refine aB rfl (fun h=>?_) (fun h=>?_)
 ·have h':=Mz h
  rw [Mv] at h'
  repeat' (first|refine ae ?_|refine a6 ?_|refine am ?_|refine a8 ?_|refine az ?_|refine aa ?_|refine LR a7 LL ?_)
  refine ME LM ?_
  unfold d3
  rw [if_pos h']
  rfl
 ·have h':=My h
  rw [Mv] at h'
  repeat' (first|refine ae ?_|refine a6 ?_|refine aq ?_|refine a8 ?_|refine LR a7 LL ?_)
  refine aW L0 [] (Es hu l err J L0 h0 (hw (by omega))) rfl (fi hu) (bZ rfl) rfl fun c L1 hc=>?_
  subst hc
  repeat' (first|refine am ?_|refine a8 ?_|refine aa ?_|refine LR a7 LL ?_)
  refine ME LM ?_
  unfold d3
  rw [if_neg h']
  rfl
theorem Hq {g:FuncId} (l:List eJ) (most:Int):bD Tryz.prog 212 [.imm 2 (l.map fF),aF most,.sc (.func (.func g) #[] #[])] (.fn 273 [.iptr [.imm 2 (l.map fF)],.iptr [aF most],.iptr [.sc (.func (.func g) #[] #[])]]):=by
 refine aI Tryz.func212 rfl Tryz.ntmps212 rfl fun B=>?_
 repeat' (first|refine ae ?_|refine a6 ?_|refine am ?_|refine a8 ?_|refine aa ?_|refine LR a7 LL ?_|refine bi ?_|fail)
 exact LY LM
instance {g:FuncId} (l:List eJ) (most:Int):AD Tryz.prog 212 [.imm 2 (l.map fF),aF most,.sc (.func (.func g) #[] #[])] (.fn 273 [.iptr [.imm 2 (l.map fF)],.iptr [aF most],.iptr [.sc (.func (.func g) #[] #[])]]):=⟨Hq l most⟩
theorem Et {g:FuncId} {caps:List AV} {u:AV} [bC Tryz.prog g] (hu:jB u=some (g,caps)) (l:List jr) (err:Nat→Int) (J:Nat→AL→Prop) (L0:AL) (h0:J 0 L0) (hw:∀i x L,l[i]?=some x→J i L→AC Tryz.prog g ([aF i,.agg (gu x)]++caps) L fun c L'=>c=aF (err i)∧(err i=0→J (i+1) L')):
  AC Tryz.prog 318 [.imm 2 (l.map gu),u] L0 fun r _=>r=cf (d6 err l.length):=by
 refine aI Tryz.func318 rfl Tryz.ntmps318 rfl fun B=>?_
 refine cF 0 rfl rfl fun hlen=>?_
 rw [Mv] at hlen
 repeat' (first|refine ae ?_|refine a6 ?_|refine ar ?_|refine a8 ?_|refine aa ?_|refine LR a7 LL ?_)
 refine aN [1,9,10] (α:=Nat×AL) (fun i=>[(11,aF i.1)]) (fun i=>i.1≤l.length∧J i.1 i.2∧d6 err l.length=d7 err (l.length - i.1) i.1) (fun i=>i.2) (fun i=>l.length - i.1) (0,L0) rfl ⟨rfl,trivial⟩ ⟨Nat.zero_le _,h0,rfl⟩ (fun _ _ h=>h) ?_
 rintro ⟨i,L⟩ ⟨hi,hj,he⟩
 dsimp only at hi hj he ⊢
 try dsimp only [Mt,Ms,Mr,Mn]
 repeat' (first|refine ae ?_|refine a6 ?_|refine a8 ?_|refine aa ?_|refine LR a7 LL ?_)
 refine aB rfl (fun h=>?_) (fun h=>?_)
 ·have hil:i < l.length:=by have:=Mz h;simp at this;omega
  obtain ⟨z,hz⟩:∃z,l[i]?=some z:=⟨_,Ia hil⟩
  have hzg:=c6 (c:=gu) hz
  repeat' (first|refine ae ?_|refine a6 ?_|refine ar ?_|refine aq ?_|refine a8 ?_|refine aa ?_|refine LR a7 LL ?_|(apply aL;first|refine aK a7 ?_|refine aH a7 ?_)|(apply aU;first|refine LT 7 a7 0 LQ ?_|refine LT 7 a7 1 LQ ?_|refine LT 7 a7 2 LQ ?_|refine LU a7 0 LP ?_|refine LU a7 1 LP ?_|refine LU a7 2 LP ?_|refine LU a7 3 LP ?_|fail)|refine bf a7 fun _=>?_|fail)
  refine dl L [] (hw i z L hz hj) rfl hu rfl (bZ rfl) rfl rfl fun c L1 ⟨hc,hj'⟩=>?_
  subst hc
  rw [List.append_nil]
  repeat' (first|refine ae ?_|refine a6 ?_|refine a8 ?_|refine aa ?_|refine LR a7 LL ?_)
  refine aB rfl (fun h2=>?_) (fun h2=>?_)
  ·have h2':=Mz h2
   repeat' (first|refine ae ?_|refine a6 ?_|refine am ?_|refine a8 ?_|refine az ?_|refine aR ?_|refine bF ?_|refine aa ?_|refine LR a7 LL ?_)
   refine ME LM ?_
   rw [he,cy hil h2']
   rfl
  ·have h2':=Decidable.not_not.1 (My h2)
   repeat' (first|refine a6 ?_|refine aq ?_|refine a8 ?_|refine aP ?_|refine aa ?_|refine LR a7 LL ?_|(apply aY;refine aX ?_)|fail)
   exact aE (i+1,L1) rfl ⟨by rw [Mw];rfl,trivial⟩ ⟨by dsimp only;omega,hj' h2',by rw [he];exact cj hil h2'⟩ (by dsimp only;omega) (fun _ _ h=>h)
 ·have hil:i=l.length:=by have:=My h;simp at this;omega
  subst hil
  repeat' (first|refine ae ?_|refine a6 ?_|refine am ?_|refine aO ?_|refine a8 ?_|refine av ?_|refine aC ?_|refine aA ?_|refine aa ?_|refine LR a7 LL ?_)
  refine ME LM ?_
  rw [he,Nat.sub_self]
  rfl
theorem lY {g:FuncId} {caps:List AV} {u:AV} [bC Tryz.prog g] (hu:jB u=some (g,caps)) (l:List Int) (err:Nat→Int) (J:Nat→AL→Prop) (L0:AL) (h0:J 0 L0) (hw:∀i x L,l[i]?=some x→J i L→AC Tryz.prog g ([aF i,aF x]++caps) L fun c L'=>c=aF (err i)∧(err i=0→J (i+1) L')):
  AC Tryz.prog 187 [.imm 1 (l.map yk),u] L0 fun r _=>r=cf (d6 err l.length):=by
 refine aI Tryz.func187 rfl Tryz.ntmps187 rfl fun B=>?_
 refine cF 0 rfl rfl fun hlen=>?_
 rw [Mv] at hlen
 repeat' (first|refine ae ?_|refine a6 ?_|refine ar ?_|refine a8 ?_|refine aa ?_|refine LR a7 LL ?_)
 refine aN [1,9,10] (α:=Nat×AL) (fun i=>[(11,aF i.1)]) (fun i=>i.1≤l.length∧J i.1 i.2∧d6 err l.length=d7 err (l.length - i.1) i.1) (fun i=>i.2) (fun i=>l.length - i.1) (0,L0) rfl ⟨rfl,trivial⟩ ⟨Nat.zero_le _,h0,rfl⟩ (fun _ _ h=>h) ?_
 rintro ⟨i,L⟩ ⟨hi,hj,he⟩
 dsimp only at hi hj he ⊢
 try dsimp only [Mt,Ms,Mr,Mn]
 repeat' (first|refine ae ?_|refine a6 ?_|refine a8 ?_|refine aa ?_|refine LR a7 LL ?_)
 refine aB rfl (fun h=>?_) (fun h=>?_)
 ·have hil:i < l.length:=by have:=Mz h;simp at this;omega
  obtain ⟨z,hz⟩:∃z,l[i]?=some z:=⟨_,Ia hil⟩
  have hzg:=c6 (c:=yk) hz
  repeat' (first|refine ae ?_|refine a6 ?_|refine ar ?_|refine aq ?_|refine a8 ?_|refine aa ?_|refine LR a7 LL ?_|(apply aL;first|refine aK a7 ?_|refine aH a7 ?_)|fail)
  refine dl L [] (hw i z L hz hj) rfl hu rfl (bZ rfl) rfl rfl fun c L1 ⟨hc,hj'⟩=>?_
  subst hc
  rw [List.append_nil]
  repeat' (first|refine ae ?_|refine a6 ?_|refine a8 ?_|refine aa ?_|refine LR a7 LL ?_)
  refine aB rfl (fun h2=>?_) (fun h2=>?_)
  ·have h2':=Mz h2
   repeat' (first|refine ae ?_|refine a6 ?_|refine am ?_|refine a8 ?_|refine az ?_|refine aR ?_|refine bF ?_|refine aa ?_|refine LR a7 LL ?_)
   refine ME LM ?_
   rw [he,cy hil h2']
   rfl
  ·have h2':=Decidable.not_not.1 (My h2)
   repeat' (first|refine a6 ?_|refine aq ?_|refine a8 ?_|refine aP ?_|refine aa ?_|refine LR a7 LL ?_|(apply aY;refine aX ?_)|fail)
   exact aE (i+1,L1) rfl ⟨by rw [Mw];rfl,trivial⟩ ⟨by dsimp only;omega,hj' h2',by rw [he];exact cj hil h2'⟩ (by dsimp only;omega) (fun _ _ h=>h)
 ·have hil:i=l.length:=by have:=My h;simp at this;omega
  subst hil
  repeat' (first|refine ae ?_|refine a6 ?_|refine am ?_|refine aO ?_|refine a8 ?_|refine av ?_|refine aC ?_|refine aA ?_|refine aa ?_|refine LR a7 LL ?_)
  refine ME LM ?_
  rw [he,Nat.sub_self]
  rfl
theorem Fl {g:FuncId} {caps:List AV} {u:AV} [bC Tryz.prog g] (hu:jB u=some (g,caps)) (l:List Int) (most:Int) (err:Nat→Int) (J:Nat→AL→Prop) (L0:AL) (h0:J 0 L0) (hw:(l.length:Int)≤most→∀i x L,l[i]?=some x→J i L→AC Tryz.prog g ([aF i,aF x]++caps) L fun c L'=>c=aF (err i)∧(err i=0→J (i+1) L')):
  AC Tryz.prog 214 [.iptr [.imm 1 (l.map yk)],.iptr [aF most],.iptr [u]] L0 fun r _=>r=cf (d3 most err l.length):=by
 refine aI Tryz.func214 rfl Tryz.ntmps214 rfl fun B=>?_
 repeat' (first|refine ae ?_|refine a6 ?_|refine a8 ?_|refine aa ?_|refine LR a7 LL ?_)
 refine aB rfl (fun h=>?_) (fun h=>?_)
 ·have h':=Mz h
  rw [Mv] at h'
  repeat' (first|refine ae ?_|refine a6 ?_|refine am ?_|refine a8 ?_|refine az ?_|refine aa ?_|refine LR a7 LL ?_)
  refine ME LM ?_
  unfold d3
  rw [if_pos h']
  rfl
 ·have h':=My h
  rw [Mv] at h'
  repeat' (first|refine ae ?_|refine a6 ?_|refine aq ?_|refine a8 ?_|refine LR a7 LL ?_)
  refine aW L0 [] (lY hu l err J L0 h0 (hw (by omega))) rfl (fi hu) (bZ rfl) rfl fun c L1 hc=>?_
  subst hc
  repeat' (first|refine am ?_|refine a8 ?_|refine aa ?_|refine LR a7 LL ?_)
  refine ME LM ?_
  unfold d3
  rw [if_neg h']
  rfl
theorem Hp {g:FuncId} (l:List Int) (most:Int):bD Tryz.prog 133 [.imm 1 (l.map yk),aF most,.sc (.func (.func g) #[] #[])] (.fn 214 [.iptr [.imm 1 (l.map yk)],.iptr [aF most],.iptr [.sc (.func (.func g) #[] #[])]]):=by
 refine aI Tryz.func133 rfl Tryz.ntmps133 rfl fun B=>?_
 repeat' (first|refine ae ?_|refine a6 ?_|refine am ?_|refine a8 ?_|refine aa ?_|refine LR a7 LL ?_|refine bi ?_|fail)
 exact LY LM
end Go.Proofs.YtamjlkdanllgjaaGreatDoor
