/-
  The program: looks at things, one by one.
-/
import Derived.Test.YtamjlkdanllgjaaGreatDoorM06
import Derived.Test.YtamjlkdanllgjaaGreatDoorM07
import Derived.Test.YtamjlkdanllgjaaGreatDoorM05
namespace Go.Proofs.YtamjlkdanllgjaaGreatDoor
open Go.RowKit
attribute [local irreducible] AT bB AX AO Av Kt ba dt DA cz
set_option maxRecDepth 8000
def dg (err:Nat→Int):Nat→Nat→Int×Int
 | 0,_=>(0,0)
 | k+1,i=>if err i=0 then dg err k (i+1) else (err i,i)
def dl (err:Nat→Int) (n:Nat):Int×Int:=dg err n 0
def da (most:Int) (err:Nat→Int) (n:Nat):Int×Int:=if (n:Int) > most then (2,0) else dl err n
def cm (p:Int×Int):AV:= .tup [aH p.1,aH p.2]
theorem ct {err:Nat→Int} {n i:Nat} (hi:i < n) (h:err i=0):dg err (n - i) i=dg err (n - (i+1)) (i+1):=by
 rw [show n - i=(n - (i+1))+1 by omega]
 simp only [dg,h,if_true]
theorem cJ {err:Nat→Int} {n i:Nat} (hi:i < n) (h:err i≠0):dg err (n - i) i=(err i,(i:Int)):=by
 rw [show n - i=(n - (i+1))+1 by omega]
 simp only [dg,h,if_false]
theorem qm {err:Nat→Int}:∀(k i:Nat),(∀j,i≤j→j < i+k→err j=0)→dg err k i=(0,0)
 | 0,_,_=>rfl
 | k+1,i,h=>by
  simp only [dg]
  rw [if_pos (h i (Nat.le_refl _) (by omega))]
  exact qm k (i+1) fun j h1 h2=>h j (by omega) (by omega)
theorem s9 {err:Nat→Int} {n:Nat} (h:∀i,i < n→err i=0):dl err n=(0,0):=qm n 0 fun j _ hj=>h j (by omega)
theorem AQ {most:Int} {err:Nat→Int} {n:Nat} (hm:(n:Int)≤most) (h:∀i,i < n→err i=0):da most err n=(0,0):=by
 unfold da
 rw [if_neg (by omega),s9 h]
def ID (q:List Int):List AV:=[.imm 1 (aO q)]
def zk (z:Int):List AV:=[aH z]
theorem fQ {g:FuncId} {caps:List AV} {u:AV} (hu:kx u=some (g,caps)) {s:Nat} {l:List (List AV)}:kR [.imm s l,u]=some [.imm s l,u]:=by
 unfold kx at hu
 split at hu <;> first | rfl | cases hu
theorem ce {L L':AL} (h:L=L'):L.Perm (L'++[]):=by rw [List.append_nil,h]
def Ki (P:Program) (g:FuncId) (caps:List AV) (n:Nat) (arg:Nat→AV) (err:Nat→Int) (J:Nat→AL→Prop):Prop:=∀i L,i < n→J i L→AC P g ([aH i,arg i]++caps) L fun c L'=>c=aH (err i)∧(err i=0→J (i+1) L')
theorem EL {g:FuncId} {caps:List AV} {u:AV} [bF Tryz.prog g] (hu:kx u=some (g,caps)) (l:List bf) (err:Nat→Int) (J:Nat→AL→Prop) (L0:AL) (h0:J 0 L0) (hw:∀i x L,l[i]?=some x→J i L→AC Tryz.prog g ([aH i,.agg (bj x)]++caps) L fun c L'=>c=aH (err i)∧(err i=0→J (i+1) L')):
  AC Tryz.prog 172 [.imm 9 (l.map bj),u] L0 fun r _=>r=cm (dl err l.length):=by
 refine aP Tryz.func172 rfl Tryz.ntmps172 rfl fun B=>?_
 refine d7 0 rfl rfl fun hlen=>?_
 rw [Lr] at hlen
 repeat' (first|refine ae ?_|refine a6 ?_|refine am ?_|refine a8 ?_|refine aa ?_|refine LF a7 I9 ?_)
 refine aJ [1,9,10] (α:=Nat×AL) (fun i=>[(11,aH i.1)]) (fun i=>i.1≤l.length∧J i.1 i.2∧dl err l.length=dg err (l.length - i.1) i.1) (fun i=>i.2) (fun i=>l.length - i.1) (0,L0) rfl ⟨rfl,trivial⟩ ⟨Nat.zero_le _,h0,rfl⟩ (fun _ _ h=>h) ?_
 rintro ⟨i,L⟩ ⟨hi,hj,he⟩
 dsimp only at hi hj he ⊢
 try dsimp only [Lp,Lo,Ln,Lh]
 repeat' (first|refine ae ?_|refine a6 ?_|refine a8 ?_|refine aa ?_|refine LF a7 I9 ?_)
 refine ay rfl (fun h=>?_) (fun h=>?_)
 ·have hil:i < l.length:=by have:=Ly h;simp at this;omega
  obtain ⟨z,hz⟩:∃z,l[i]?=some z:=⟨_,Lz hil⟩
  have hzg:=c7 (c:=bj) hz
  repeat' (first|refine ae ?_|refine a6 ?_|refine am ?_|refine au ?_|refine a8 ?_|refine aa ?_|refine LF a7 I9 ?_|(apply aU;first|refine aT a7 ?_|refine aN a7 ?_)|(apply aK;first|refine LH 7 a7 0 LE ?_|refine LH 7 a7 1 LE ?_|refine LH 7 a7 2 LE ?_|refine LG a7 0 LD ?_|refine LG a7 1 LD ?_|refine LG a7 2 LD ?_|refine LG a7 3 LD ?_|fail)|refine bg a7 fun _=>?_|fail)
  refine dD L [] (hw i z L hz hj) rfl hu rfl (ce rfl) rfl rfl fun c L1 ⟨hc,hj'⟩=>?_
  subst hc
  rw [List.append_nil]
  repeat' (first|refine ae ?_|refine a6 ?_|refine a8 ?_|refine aa ?_|refine LF a7 I9 ?_)
  refine ay rfl (fun h2=>?_) (fun h2=>?_)
  ·have h2':=Ly h2
   repeat' (first|refine ae ?_|refine a6 ?_|refine aq ?_|refine a8 ?_|refine aC ?_|refine aQ ?_|refine bM ?_|refine aa ?_|refine LF a7 I9 ?_)
   refine LQ LA ?_
   rw [he,cJ hil h2']
   rfl
  ·have h2':=Decidable.not_not.1 (Lw h2)
   repeat' (first|refine a6 ?_|refine au ?_|refine a8 ?_|refine aM ?_|refine aa ?_|refine LF a7 I9 ?_|(apply aY;refine aX ?_)|fail)
   exact aE (i+1,L1) rfl ⟨by rw [Ls];rfl,trivial⟩ ⟨by dsimp only;omega,hj' h2',by rw [he];exact ct hil h2'⟩ (by dsimp only;omega) (fun _ _ h=>h)
 ·have hil:i=l.length:=by have:=Lw h;simp at this;omega
  subst hil
  repeat' (first|refine ae ?_|refine a6 ?_|refine aq ?_|refine aL ?_|refine a8 ?_|refine av ?_|refine aA ?_|refine aw ?_|refine aa ?_|refine LF a7 I9 ?_)
  refine LQ LA ?_
  rw [he,Nat.sub_self]
  rfl
theorem FI {g:FuncId} {caps:List AV} {u:AV} [bF Tryz.prog g] (hu:kx u=some (g,caps)) (l:List bf) (most:Int) (err:Nat→Int) (J:Nat→AL→Prop) (L0:AL) (h0:J 0 L0) (hw:(l.length:Int)≤most→∀i x L,l[i]?=some x→J i L→AC Tryz.prog g ([aH i,.agg (bj x)]++caps) L fun c L'=>c=aH (err i)∧(err i=0→J (i+1) L')):
  AC Tryz.prog 171 [.iptr [.imm 9 (l.map bj)],.iptr [aH most],.iptr [u]] L0 fun r _=>r=cm (da most err l.length):=by
 refine aP Tryz.func171 rfl Tryz.ntmps171 rfl fun B=>?_
 repeat' (first|refine ae ?_|refine a6 ?_|refine a8 ?_|refine aa ?_|refine LF a7 I9 ?_)
 refine ay rfl (fun h=>?_) (fun h=>?_)
 ·have h':=Ly h
  rw [Lr] at h'
  repeat' (first|refine ae ?_|refine a6 ?_|refine aq ?_|refine a8 ?_|refine aC ?_|refine aa ?_|refine LF a7 I9 ?_)
  refine LQ LA ?_
  unfold da
  rw [if_pos h']
  rfl
 ·have h':=Lw h
  rw [Lr] at h'
  repeat' (first|refine ae ?_|refine a6 ?_|refine au ?_|refine a8 ?_|refine LF a7 I9 ?_)
  refine bh L0 [] (EL hu l err J L0 h0 (hw (by omega))) rfl (fQ hu) (ce rfl) rfl fun c L1 hc=>?_
  subst hc
  repeat' (first|refine aq ?_|refine a8 ?_|refine aa ?_|refine LF a7 I9 ?_)
  refine LQ LA ?_
  unfold da
  rw [if_neg h']
  rfl
theorem K0 {g:FuncId} {caps:List AV} (l:List bf) (most:Int):bH Tryz.prog 107 [.imm 9 (l.map bj),aH most,.fn g caps] (.fn 171 [.iptr [.imm 9 (l.map bj)],.iptr [aH most],.iptr [.fn g caps]]):=by
 refine aP Tryz.func107 rfl Tryz.ntmps107 rfl fun B=>?_
 repeat' (first|refine ae ?_|refine a6 ?_|refine aq ?_|refine a8 ?_|refine aa ?_|refine LF a7 I9 ?_|refine bo ?_|fail)
 exact LK LA
instance {g:FuncId} {caps:List AV} (l:List bf) (most:Int):AD Tryz.prog 107 [.imm 9 (l.map bj),aH most,.fn g caps] (.fn 171 [.iptr [.imm 9 (l.map bj)],.iptr [aH most],.iptr [.fn g caps]]):=⟨K0 l most⟩
theorem EM {g:FuncId} {caps:List AV} {u:AV} [bF Tryz.prog g] (hu:kx u=some (g,caps)) (l:List cR) (err:Nat→Int) (J:Nat→AL→Prop) (L0:AL) (h0:J 0 L0) (hw:∀i x L,l[i]?=some x→J i L→AC Tryz.prog g ([aH i,.agg (dc x)]++caps) L fun c L'=>c=aH (err i)∧(err i=0→J (i+1) L')):
  AC Tryz.prog 192 [.imm 2 (l.map dc),u] L0 fun r _=>r=cm (dl err l.length):=by
 refine aP Tryz.func192 rfl Tryz.ntmps192 rfl fun B=>?_
 refine d7 0 rfl rfl fun hlen=>?_
 rw [Lr] at hlen
 repeat' (first|refine ae ?_|refine a6 ?_|refine am ?_|refine a8 ?_|refine aa ?_|refine LF a7 I9 ?_)
 refine aJ [1,9,10] (α:=Nat×AL) (fun i=>[(11,aH i.1)]) (fun i=>i.1≤l.length∧J i.1 i.2∧dl err l.length=dg err (l.length - i.1) i.1) (fun i=>i.2) (fun i=>l.length - i.1) (0,L0) rfl ⟨rfl,trivial⟩ ⟨Nat.zero_le _,h0,rfl⟩ (fun _ _ h=>h) ?_
 rintro ⟨i,L⟩ ⟨hi,hj,he⟩
 dsimp only at hi hj he ⊢
 try dsimp only [Lp,Lo,Ln,Lh]
 repeat' (first|refine ae ?_|refine a6 ?_|refine a8 ?_|refine aa ?_|refine LF a7 I9 ?_)
 refine ay rfl (fun h=>?_) (fun h=>?_)
 ·have hil:i < l.length:=by have:=Ly h;simp at this;omega
  obtain ⟨z,hz⟩:∃z,l[i]?=some z:=⟨_,Lz hil⟩
  have hzg:=c7 (c:=dc) hz
  repeat' (first|refine ae ?_|refine a6 ?_|refine am ?_|refine au ?_|refine a8 ?_|refine aa ?_|refine LF a7 I9 ?_|(apply aU;first|refine aT a7 ?_|refine aN a7 ?_)|(apply aK;first|refine LH 7 a7 0 LE ?_|refine LH 7 a7 1 LE ?_|refine LH 7 a7 2 LE ?_|refine LG a7 0 LD ?_|refine LG a7 1 LD ?_|refine LG a7 2 LD ?_|refine LG a7 3 LD ?_|fail)|refine bg a7 fun _=>?_|fail)
  refine dD L [] (hw i z L hz hj) rfl hu rfl (ce rfl) rfl rfl fun c L1 ⟨hc,hj'⟩=>?_
  subst hc
  rw [List.append_nil]
  repeat' (first|refine ae ?_|refine a6 ?_|refine a8 ?_|refine aa ?_|refine LF a7 I9 ?_)
  refine ay rfl (fun h2=>?_) (fun h2=>?_)
  ·have h2':=Ly h2
   repeat' (first|refine ae ?_|refine a6 ?_|refine aq ?_|refine a8 ?_|refine aC ?_|refine aQ ?_|refine bM ?_|refine aa ?_|refine LF a7 I9 ?_)
   refine LQ LA ?_
   rw [he,cJ hil h2']
   rfl
  ·have h2':=Decidable.not_not.1 (Lw h2)
   repeat' (first|refine a6 ?_|refine au ?_|refine a8 ?_|refine aM ?_|refine aa ?_|refine LF a7 I9 ?_|(apply aY;refine aX ?_)|fail)
   exact aE (i+1,L1) rfl ⟨by rw [Ls];rfl,trivial⟩ ⟨by dsimp only;omega,hj' h2',by rw [he];exact ct hil h2'⟩ (by dsimp only;omega) (fun _ _ h=>h)
 ·have hil:i=l.length:=by have:=Lw h;simp at this;omega
  subst hil
  repeat' (first|refine ae ?_|refine a6 ?_|refine aq ?_|refine aL ?_|refine a8 ?_|refine av ?_|refine aA ?_|refine aw ?_|refine aa ?_|refine LF a7 I9 ?_)
  refine LQ LA ?_
  rw [he,Nat.sub_self]
  rfl
theorem FJ {g:FuncId} {caps:List AV} {u:AV} [bF Tryz.prog g] (hu:kx u=some (g,caps)) (l:List cR) (most:Int) (err:Nat→Int) (J:Nat→AL→Prop) (L0:AL) (h0:J 0 L0) (hw:(l.length:Int)≤most→∀i x L,l[i]?=some x→J i L→AC Tryz.prog g ([aH i,.agg (dc x)]++caps) L fun c L'=>c=aH (err i)∧(err i=0→J (i+1) L')):
  AC Tryz.prog 191 [.iptr [.imm 2 (l.map dc)],.iptr [aH most],.iptr [u]] L0 fun r _=>r=cm (da most err l.length):=by
 refine aP Tryz.func191 rfl Tryz.ntmps191 rfl fun B=>?_
 repeat' (first|refine ae ?_|refine a6 ?_|refine a8 ?_|refine aa ?_|refine LF a7 I9 ?_)
 refine ay rfl (fun h=>?_) (fun h=>?_)
 ·have h':=Ly h
  rw [Lr] at h'
  repeat' (first|refine ae ?_|refine a6 ?_|refine aq ?_|refine a8 ?_|refine aC ?_|refine aa ?_|refine LF a7 I9 ?_)
  refine LQ LA ?_
  unfold da
  rw [if_pos h']
  rfl
 ·have h':=Lw h
  rw [Lr] at h'
  repeat' (first|refine ae ?_|refine a6 ?_|refine au ?_|refine a8 ?_|refine LF a7 I9 ?_)
  refine bh L0 [] (EM hu l err J L0 h0 (hw (by omega))) rfl (fQ hu) (ce rfl) rfl fun c L1 hc=>?_
  subst hc
  repeat' (first|refine aq ?_|refine a8 ?_|refine aa ?_|refine LF a7 I9 ?_)
  refine LQ LA ?_
  unfold da
  rw [if_neg h']
  rfl
theorem K2 {g:FuncId} {caps:List AV} (l:List cR) (most:Int):bH Tryz.prog 114 [.imm 2 (l.map dc),aH most,.fn g caps] (.fn 191 [.iptr [.imm 2 (l.map dc)],.iptr [aH most],.iptr [.fn g caps]]):=by
 refine aP Tryz.func114 rfl Tryz.ntmps114 rfl fun B=>?_
 repeat' (first|refine ae ?_|refine a6 ?_|refine aq ?_|refine a8 ?_|refine aa ?_|refine LF a7 I9 ?_|refine bo ?_|fail)
 exact LK LA
instance {g:FuncId} {caps:List AV} (l:List cR) (most:Int):AD Tryz.prog 114 [.imm 2 (l.map dc),aH most,.fn g caps] (.fn 191 [.iptr [.imm 2 (l.map dc)],.iptr [aH most],.iptr [.fn g caps]]):=⟨K2 l most⟩
theorem EN {g:FuncId} {caps:List AV} {u:AV} [bF Tryz.prog g] (hu:kx u=some (g,caps)) (l:List b7) (err:Nat→Int) (J:Nat→AL→Prop) (L0:AL) (h0:J 0 L0) (hw:∀i x L,l[i]?=some x→J i L→AC Tryz.prog g ([aH i,.agg (bv x)]++caps) L fun c L'=>c=aH (err i)∧(err i=0→J (i+1) L')):
  AC Tryz.prog 194 [.imm 3 (l.map bv),u] L0 fun r _=>r=cm (dl err l.length):=by
 refine aP Tryz.func194 rfl Tryz.ntmps194 rfl fun B=>?_
 refine d7 0 rfl rfl fun hlen=>?_
 rw [Lr] at hlen
 repeat' (first|refine ae ?_|refine a6 ?_|refine am ?_|refine a8 ?_|refine aa ?_|refine LF a7 I9 ?_)
 refine aJ [1,9,10] (α:=Nat×AL) (fun i=>[(11,aH i.1)]) (fun i=>i.1≤l.length∧J i.1 i.2∧dl err l.length=dg err (l.length - i.1) i.1) (fun i=>i.2) (fun i=>l.length - i.1) (0,L0) rfl ⟨rfl,trivial⟩ ⟨Nat.zero_le _,h0,rfl⟩ (fun _ _ h=>h) ?_
 rintro ⟨i,L⟩ ⟨hi,hj,he⟩
 dsimp only at hi hj he ⊢
 try dsimp only [Lp,Lo,Ln,Lh]
 repeat' (first|refine ae ?_|refine a6 ?_|refine a8 ?_|refine aa ?_|refine LF a7 I9 ?_)
 refine ay rfl (fun h=>?_) (fun h=>?_)
 ·have hil:i < l.length:=by have:=Ly h;simp at this;omega
  obtain ⟨z,hz⟩:∃z,l[i]?=some z:=⟨_,Lz hil⟩
  have hzg:=c7 (c:=bv) hz
  repeat' (first|refine ae ?_|refine a6 ?_|refine am ?_|refine au ?_|refine a8 ?_|refine aa ?_|refine LF a7 I9 ?_|(apply aU;first|refine aT a7 ?_|refine aN a7 ?_)|(apply aK;first|refine LH 7 a7 0 LE ?_|refine LH 7 a7 1 LE ?_|refine LH 7 a7 2 LE ?_|refine LG a7 0 LD ?_|refine LG a7 1 LD ?_|refine LG a7 2 LD ?_|refine LG a7 3 LD ?_|fail)|refine bg a7 fun _=>?_|fail)
  refine dD L [] (hw i z L hz hj) rfl hu rfl (ce rfl) rfl rfl fun c L1 ⟨hc,hj'⟩=>?_
  subst hc
  rw [List.append_nil]
  repeat' (first|refine ae ?_|refine a6 ?_|refine a8 ?_|refine aa ?_|refine LF a7 I9 ?_)
  refine ay rfl (fun h2=>?_) (fun h2=>?_)
  ·have h2':=Ly h2
   repeat' (first|refine ae ?_|refine a6 ?_|refine aq ?_|refine a8 ?_|refine aC ?_|refine aQ ?_|refine bM ?_|refine aa ?_|refine LF a7 I9 ?_)
   refine LQ LA ?_
   rw [he,cJ hil h2']
   rfl
  ·have h2':=Decidable.not_not.1 (Lw h2)
   repeat' (first|refine a6 ?_|refine au ?_|refine a8 ?_|refine aM ?_|refine aa ?_|refine LF a7 I9 ?_|(apply aY;refine aX ?_)|fail)
   exact aE (i+1,L1) rfl ⟨by rw [Ls];rfl,trivial⟩ ⟨by dsimp only;omega,hj' h2',by rw [he];exact ct hil h2'⟩ (by dsimp only;omega) (fun _ _ h=>h)
 ·have hil:i=l.length:=by have:=Lw h;simp at this;omega
  subst hil
  repeat' (first|refine ae ?_|refine a6 ?_|refine aq ?_|refine aL ?_|refine a8 ?_|refine av ?_|refine aA ?_|refine aw ?_|refine aa ?_|refine LF a7 I9 ?_)
  refine LQ LA ?_
  rw [he,Nat.sub_self]
  rfl
theorem FK {g:FuncId} {caps:List AV} {u:AV} [bF Tryz.prog g] (hu:kx u=some (g,caps)) (l:List b7) (most:Int) (err:Nat→Int) (J:Nat→AL→Prop) (L0:AL) (h0:J 0 L0) (hw:(l.length:Int)≤most→∀i x L,l[i]?=some x→J i L→AC Tryz.prog g ([aH i,.agg (bv x)]++caps) L fun c L'=>c=aH (err i)∧(err i=0→J (i+1) L')):
  AC Tryz.prog 193 [.iptr [.imm 3 (l.map bv)],.iptr [aH most],.iptr [u]] L0 fun r _=>r=cm (da most err l.length):=by
 refine aP Tryz.func193 rfl Tryz.ntmps193 rfl fun B=>?_
 repeat' (first|refine ae ?_|refine a6 ?_|refine a8 ?_|refine aa ?_|refine LF a7 I9 ?_)
 refine ay rfl (fun h=>?_) (fun h=>?_)
 ·have h':=Ly h
  rw [Lr] at h'
  repeat' (first|refine ae ?_|refine a6 ?_|refine aq ?_|refine a8 ?_|refine aC ?_|refine aa ?_|refine LF a7 I9 ?_)
  refine LQ LA ?_
  unfold da
  rw [if_pos h']
  rfl
 ·have h':=Lw h
  rw [Lr] at h'
  repeat' (first|refine ae ?_|refine a6 ?_|refine au ?_|refine a8 ?_|refine LF a7 I9 ?_)
  refine bh L0 [] (EN hu l err J L0 h0 (hw (by omega))) rfl (fQ hu) (ce rfl) rfl fun c L1 hc=>?_
  subst hc
  repeat' (first|refine aq ?_|refine a8 ?_|refine aa ?_|refine LF a7 I9 ?_)
  refine LQ LA ?_
  unfold da
  rw [if_neg h']
  rfl
theorem K3 {g:FuncId} {caps:List AV} (l:List b7) (most:Int):bH Tryz.prog 117 [.imm 3 (l.map bv),aH most,.fn g caps] (.fn 193 [.iptr [.imm 3 (l.map bv)],.iptr [aH most],.iptr [.fn g caps]]):=by
 refine aP Tryz.func117 rfl Tryz.ntmps117 rfl fun B=>?_
 repeat' (first|refine ae ?_|refine a6 ?_|refine aq ?_|refine a8 ?_|refine aa ?_|refine LF a7 I9 ?_|refine bo ?_|fail)
 exact LK LA
instance {g:FuncId} {caps:List AV} (l:List b7) (most:Int):AD Tryz.prog 117 [.imm 3 (l.map bv),aH most,.fn g caps] (.fn 193 [.iptr [.imm 3 (l.map bv)],.iptr [aH most],.iptr [.fn g caps]]):=⟨K3 l most⟩
theorem EO {g:FuncId} {caps:List AV} {u:AV} [bF Tryz.prog g] (hu:kx u=some (g,caps)) (l:List bz) (err:Nat→Int) (J:Nat→AL→Prop) (L0:AL) (h0:J 0 L0) (hw:∀i x L,l[i]?=some x→J i L→AC Tryz.prog g ([aH i,.agg (bG x)]++caps) L fun c L'=>c=aH (err i)∧(err i=0→J (i+1) L')):
  AC Tryz.prog 198 [.imm 6 (l.map bG),u] L0 fun r _=>r=cm (dl err l.length):=by
 refine aP Tryz.func198 rfl Tryz.ntmps198 rfl fun B=>?_
 refine d7 0 rfl rfl fun hlen=>?_
 rw [Lr] at hlen
 repeat' (first|refine ae ?_|refine a6 ?_|refine am ?_|refine a8 ?_|refine aa ?_|refine LF a7 I9 ?_)
 refine aJ [1,9,10] (α:=Nat×AL) (fun i=>[(11,aH i.1)]) (fun i=>i.1≤l.length∧J i.1 i.2∧dl err l.length=dg err (l.length - i.1) i.1) (fun i=>i.2) (fun i=>l.length - i.1) (0,L0) rfl ⟨rfl,trivial⟩ ⟨Nat.zero_le _,h0,rfl⟩ (fun _ _ h=>h) ?_
 rintro ⟨i,L⟩ ⟨hi,hj,he⟩
 dsimp only at hi hj he ⊢
 try dsimp only [Lp,Lo,Ln,Lh]
 repeat' (first|refine ae ?_|refine a6 ?_|refine a8 ?_|refine aa ?_|refine LF a7 I9 ?_)
 refine ay rfl (fun h=>?_) (fun h=>?_)
 ·have hil:i < l.length:=by have:=Ly h;simp at this;omega
  obtain ⟨z,hz⟩:∃z,l[i]?=some z:=⟨_,Lz hil⟩
  have hzg:=c7 (c:=bG) hz
  repeat' (first|refine ae ?_|refine a6 ?_|refine am ?_|refine au ?_|refine a8 ?_|refine aa ?_|refine LF a7 I9 ?_|(apply aU;first|refine aT a7 ?_|refine aN a7 ?_)|(apply aK;first|refine LH 7 a7 0 LE ?_|refine LH 7 a7 1 LE ?_|refine LH 7 a7 2 LE ?_|refine LG a7 0 LD ?_|refine LG a7 1 LD ?_|refine LG a7 2 LD ?_|refine LG a7 3 LD ?_|fail)|refine bg a7 fun _=>?_|fail)
  refine dD L [] (hw i z L hz hj) rfl hu rfl (ce rfl) rfl rfl fun c L1 ⟨hc,hj'⟩=>?_
  subst hc
  rw [List.append_nil]
  repeat' (first|refine ae ?_|refine a6 ?_|refine a8 ?_|refine aa ?_|refine LF a7 I9 ?_)
  refine ay rfl (fun h2=>?_) (fun h2=>?_)
  ·have h2':=Ly h2
   repeat' (first|refine ae ?_|refine a6 ?_|refine aq ?_|refine a8 ?_|refine aC ?_|refine aQ ?_|refine bM ?_|refine aa ?_|refine LF a7 I9 ?_)
   refine LQ LA ?_
   rw [he,cJ hil h2']
   rfl
  ·have h2':=Decidable.not_not.1 (Lw h2)
   repeat' (first|refine a6 ?_|refine au ?_|refine a8 ?_|refine aM ?_|refine aa ?_|refine LF a7 I9 ?_|(apply aY;refine aX ?_)|fail)
   exact aE (i+1,L1) rfl ⟨by rw [Ls];rfl,trivial⟩ ⟨by dsimp only;omega,hj' h2',by rw [he];exact ct hil h2'⟩ (by dsimp only;omega) (fun _ _ h=>h)
 ·have hil:i=l.length:=by have:=Lw h;simp at this;omega
  subst hil
  repeat' (first|refine ae ?_|refine a6 ?_|refine aq ?_|refine aL ?_|refine a8 ?_|refine av ?_|refine aA ?_|refine aw ?_|refine aa ?_|refine LF a7 I9 ?_)
  refine LQ LA ?_
  rw [he,Nat.sub_self]
  rfl
theorem EP {g:FuncId} {caps:List AV} {u:AV} [bF Tryz.prog g] (hu:kx u=some (g,caps)) (l:List bN) (err:Nat→Int) (J:Nat→AL→Prop) (L0:AL) (h0:J 0 L0) (hw:∀i x L,l[i]?=some x→J i L→AC Tryz.prog g ([aH i,.agg (bE x)]++caps) L fun c L'=>c=aH (err i)∧(err i=0→J (i+1) L')):
  AC Tryz.prog 202 [.imm 2 (l.map bE),u] L0 fun r _=>r=cm (dl err l.length):=by
 refine aP Tryz.func202 rfl Tryz.ntmps202 rfl fun B=>?_
 refine d7 0 rfl rfl fun hlen=>?_
 rw [Lr] at hlen
 repeat' (first|refine ae ?_|refine a6 ?_|refine am ?_|refine a8 ?_|refine aa ?_|refine LF a7 I9 ?_)
 refine aJ [1,9,10] (α:=Nat×AL) (fun i=>[(11,aH i.1)]) (fun i=>i.1≤l.length∧J i.1 i.2∧dl err l.length=dg err (l.length - i.1) i.1) (fun i=>i.2) (fun i=>l.length - i.1) (0,L0) rfl ⟨rfl,trivial⟩ ⟨Nat.zero_le _,h0,rfl⟩ (fun _ _ h=>h) ?_
 rintro ⟨i,L⟩ ⟨hi,hj,he⟩
 dsimp only at hi hj he ⊢
 try dsimp only [Lp,Lo,Ln,Lh]
 repeat' (first|refine ae ?_|refine a6 ?_|refine a8 ?_|refine aa ?_|refine LF a7 I9 ?_)
 refine ay rfl (fun h=>?_) (fun h=>?_)
 ·have hil:i < l.length:=by have:=Ly h;simp at this;omega
  obtain ⟨z,hz⟩:∃z,l[i]?=some z:=⟨_,Lz hil⟩
  have hzg:=c7 (c:=bE) hz
  repeat' (first|refine ae ?_|refine a6 ?_|refine am ?_|refine au ?_|refine a8 ?_|refine aa ?_|refine LF a7 I9 ?_|(apply aU;first|refine aT a7 ?_|refine aN a7 ?_)|(apply aK;first|refine LH 7 a7 0 LE ?_|refine LH 7 a7 1 LE ?_|refine LH 7 a7 2 LE ?_|refine LG a7 0 LD ?_|refine LG a7 1 LD ?_|refine LG a7 2 LD ?_|refine LG a7 3 LD ?_|fail)|refine bg a7 fun _=>?_|fail)
  refine dD L [] (hw i z L hz hj) rfl hu rfl (ce rfl) rfl rfl fun c L1 ⟨hc,hj'⟩=>?_
  subst hc
  rw [List.append_nil]
  repeat' (first|refine ae ?_|refine a6 ?_|refine a8 ?_|refine aa ?_|refine LF a7 I9 ?_)
  refine ay rfl (fun h2=>?_) (fun h2=>?_)
  ·have h2':=Ly h2
   repeat' (first|refine ae ?_|refine a6 ?_|refine aq ?_|refine a8 ?_|refine aC ?_|refine aQ ?_|refine bM ?_|refine aa ?_|refine LF a7 I9 ?_)
   refine LQ LA ?_
   rw [he,cJ hil h2']
   rfl
  ·have h2':=Decidable.not_not.1 (Lw h2)
   repeat' (first|refine a6 ?_|refine au ?_|refine a8 ?_|refine aM ?_|refine aa ?_|refine LF a7 I9 ?_|(apply aY;refine aX ?_)|fail)
   exact aE (i+1,L1) rfl ⟨by rw [Ls];rfl,trivial⟩ ⟨by dsimp only;omega,hj' h2',by rw [he];exact ct hil h2'⟩ (by dsimp only;omega) (fun _ _ h=>h)
 ·have hil:i=l.length:=by have:=Lw h;simp at this;omega
  subst hil
  repeat' (first|refine ae ?_|refine a6 ?_|refine aq ?_|refine aL ?_|refine a8 ?_|refine av ?_|refine aA ?_|refine aw ?_|refine aa ?_|refine LF a7 I9 ?_)
  refine LQ LA ?_
  rw [he,Nat.sub_self]
  rfl
theorem FL {g:FuncId} {caps:List AV} {u:AV} [bF Tryz.prog g] (hu:kx u=some (g,caps)) (l:List bN) (most:Int) (err:Nat→Int) (J:Nat→AL→Prop) (L0:AL) (h0:J 0 L0) (hw:(l.length:Int)≤most→∀i x L,l[i]?=some x→J i L→AC Tryz.prog g ([aH i,.agg (bE x)]++caps) L fun c L'=>c=aH (err i)∧(err i=0→J (i+1) L')):
  AC Tryz.prog 201 [.iptr [.imm 2 (l.map bE)],.iptr [aH most],.iptr [u]] L0 fun r _=>r=cm (da most err l.length):=by
 refine aP Tryz.func201 rfl Tryz.ntmps201 rfl fun B=>?_
 repeat' (first|refine ae ?_|refine a6 ?_|refine a8 ?_|refine aa ?_|refine LF a7 I9 ?_)
 refine ay rfl (fun h=>?_) (fun h=>?_)
 ·have h':=Ly h
  rw [Lr] at h'
  repeat' (first|refine ae ?_|refine a6 ?_|refine aq ?_|refine a8 ?_|refine aC ?_|refine aa ?_|refine LF a7 I9 ?_)
  refine LQ LA ?_
  unfold da
  rw [if_pos h']
  rfl
 ·have h':=Lw h
  rw [Lr] at h'
  repeat' (first|refine ae ?_|refine a6 ?_|refine au ?_|refine a8 ?_|refine LF a7 I9 ?_)
  refine bh L0 [] (EP hu l err J L0 h0 (hw (by omega))) rfl (fQ hu) (ce rfl) rfl fun c L1 hc=>?_
  subst hc
  repeat' (first|refine aq ?_|refine a8 ?_|refine aa ?_|refine LF a7 I9 ?_)
  refine LQ LA ?_
  unfold da
  rw [if_neg h']
  rfl
theorem K4 {g:FuncId} {caps:List AV} (l:List bN) (most:Int):bH Tryz.prog 120 [.imm 2 (l.map bE),aH most,.fn g caps] (.fn 201 [.iptr [.imm 2 (l.map bE)],.iptr [aH most],.iptr [.fn g caps]]):=by
 refine aP Tryz.func120 rfl Tryz.ntmps120 rfl fun B=>?_
 repeat' (first|refine ae ?_|refine a6 ?_|refine aq ?_|refine a8 ?_|refine aa ?_|refine LF a7 I9 ?_|refine bo ?_|fail)
 exact LK LA
instance {g:FuncId} {caps:List AV} (l:List bN) (most:Int):AD Tryz.prog 120 [.imm 2 (l.map bE),aH most,.fn g caps] (.fn 201 [.iptr [.imm 2 (l.map bE)],.iptr [aH most],.iptr [.fn g caps]]):=⟨K4 l most⟩
theorem EQ {g:FuncId} {caps:List AV} {u:AV} [bF Tryz.prog g] (hu:kx u=some (g,caps)) (l:List ey) (err:Nat→Int) (J:Nat→AL→Prop) (L0:AL) (h0:J 0 L0) (hw:∀i x L,l[i]?=some x→J i L→AC Tryz.prog g ([aH i,.agg (cG x)]++caps) L fun c L'=>c=aH (err i)∧(err i=0→J (i+1) L')):
  AC Tryz.prog 205 [.imm 4 (l.map cG),u] L0 fun r _=>r=cm (dl err l.length):=by
 refine aP Tryz.func205 rfl Tryz.ntmps205 rfl fun B=>?_
 refine d7 0 rfl rfl fun hlen=>?_
 rw [Lr] at hlen
 repeat' (first|refine ae ?_|refine a6 ?_|refine am ?_|refine a8 ?_|refine aa ?_|refine LF a7 I9 ?_)
 refine aJ [1,9,10] (α:=Nat×AL) (fun i=>[(11,aH i.1)]) (fun i=>i.1≤l.length∧J i.1 i.2∧dl err l.length=dg err (l.length - i.1) i.1) (fun i=>i.2) (fun i=>l.length - i.1) (0,L0) rfl ⟨rfl,trivial⟩ ⟨Nat.zero_le _,h0,rfl⟩ (fun _ _ h=>h) ?_
 rintro ⟨i,L⟩ ⟨hi,hj,he⟩
 dsimp only at hi hj he ⊢
 try dsimp only [Lp,Lo,Ln,Lh]
 repeat' (first|refine ae ?_|refine a6 ?_|refine a8 ?_|refine aa ?_|refine LF a7 I9 ?_)
 refine ay rfl (fun h=>?_) (fun h=>?_)
 ·have hil:i < l.length:=by have:=Ly h;simp at this;omega
  obtain ⟨z,hz⟩:∃z,l[i]?=some z:=⟨_,Lz hil⟩
  have hzg:=c7 (c:=cG) hz
  repeat' (first|refine ae ?_|refine a6 ?_|refine am ?_|refine au ?_|refine a8 ?_|refine aa ?_|refine LF a7 I9 ?_|(apply aU;first|refine aT a7 ?_|refine aN a7 ?_)|(apply aK;first|refine LH 7 a7 0 LE ?_|refine LH 7 a7 1 LE ?_|refine LH 7 a7 2 LE ?_|refine LG a7 0 LD ?_|refine LG a7 1 LD ?_|refine LG a7 2 LD ?_|refine LG a7 3 LD ?_|fail)|refine bg a7 fun _=>?_|fail)
  refine dD L [] (hw i z L hz hj) rfl hu rfl (ce rfl) rfl rfl fun c L1 ⟨hc,hj'⟩=>?_
  subst hc
  rw [List.append_nil]
  repeat' (first|refine ae ?_|refine a6 ?_|refine a8 ?_|refine aa ?_|refine LF a7 I9 ?_)
  refine ay rfl (fun h2=>?_) (fun h2=>?_)
  ·have h2':=Ly h2
   repeat' (first|refine ae ?_|refine a6 ?_|refine aq ?_|refine a8 ?_|refine aC ?_|refine aQ ?_|refine bM ?_|refine aa ?_|refine LF a7 I9 ?_)
   refine LQ LA ?_
   rw [he,cJ hil h2']
   rfl
  ·have h2':=Decidable.not_not.1 (Lw h2)
   repeat' (first|refine a6 ?_|refine au ?_|refine a8 ?_|refine aM ?_|refine aa ?_|refine LF a7 I9 ?_|(apply aY;refine aX ?_)|fail)
   exact aE (i+1,L1) rfl ⟨by rw [Ls];rfl,trivial⟩ ⟨by dsimp only;omega,hj' h2',by rw [he];exact ct hil h2'⟩ (by dsimp only;omega) (fun _ _ h=>h)
 ·have hil:i=l.length:=by have:=Lw h;simp at this;omega
  subst hil
  repeat' (first|refine ae ?_|refine a6 ?_|refine aq ?_|refine aL ?_|refine a8 ?_|refine av ?_|refine aA ?_|refine aw ?_|refine aa ?_|refine LF a7 I9 ?_)
  refine LQ LA ?_
  rw [he,Nat.sub_self]
  rfl
theorem FM {g:FuncId} {caps:List AV} {u:AV} [bF Tryz.prog g] (hu:kx u=some (g,caps)) (l:List ey) (most:Int) (err:Nat→Int) (J:Nat→AL→Prop) (L0:AL) (h0:J 0 L0) (hw:(l.length:Int)≤most→∀i x L,l[i]?=some x→J i L→AC Tryz.prog g ([aH i,.agg (cG x)]++caps) L fun c L'=>c=aH (err i)∧(err i=0→J (i+1) L')):
  AC Tryz.prog 204 [.iptr [.imm 4 (l.map cG)],.iptr [aH most],.iptr [u]] L0 fun r _=>r=cm (da most err l.length):=by
 refine aP Tryz.func204 rfl Tryz.ntmps204 rfl fun B=>?_
 repeat' (first|refine ae ?_|refine a6 ?_|refine a8 ?_|refine aa ?_|refine LF a7 I9 ?_)
 refine ay rfl (fun h=>?_) (fun h=>?_)
 ·have h':=Ly h
  rw [Lr] at h'
  repeat' (first|refine ae ?_|refine a6 ?_|refine aq ?_|refine a8 ?_|refine aC ?_|refine aa ?_|refine LF a7 I9 ?_)
  refine LQ LA ?_
  unfold da
  rw [if_pos h']
  rfl
 ·have h':=Lw h
  rw [Lr] at h'
  repeat' (first|refine ae ?_|refine a6 ?_|refine au ?_|refine a8 ?_|refine LF a7 I9 ?_)
  refine bh L0 [] (EQ hu l err J L0 h0 (hw (by omega))) rfl (fQ hu) (ce rfl) rfl fun c L1 hc=>?_
  subst hc
  repeat' (first|refine aq ?_|refine a8 ?_|refine aa ?_|refine LF a7 I9 ?_)
  refine LQ LA ?_
  unfold da
  rw [if_neg h']
  rfl
theorem IY {g:FuncId} {caps:List AV} (l:List ey) (most:Int):bH Tryz.prog 124 [.imm 4 (l.map cG),aH most,.fn g caps] (.fn 204 [.iptr [.imm 4 (l.map cG)],.iptr [aH most],.iptr [.fn g caps]]):=by
 refine aP Tryz.func124 rfl Tryz.ntmps124 rfl fun B=>?_
 repeat' (first|refine ae ?_|refine a6 ?_|refine aq ?_|refine a8 ?_|refine aa ?_|refine LF a7 I9 ?_|refine bo ?_|fail)
 exact LK LA
instance {g:FuncId} {caps:List AV} (l:List ey) (most:Int):AD Tryz.prog 124 [.imm 4 (l.map cG),aH most,.fn g caps] (.fn 204 [.iptr [.imm 4 (l.map cG)],.iptr [aH most],.iptr [.fn g caps]]):=⟨IY l most⟩
theorem ER {g:FuncId} {caps:List AV} {u:AV} [bF Tryz.prog g] (hu:kx u=some (g,caps)) (l:List (List f5)) (err:Nat→Int) (J:Nat→AL→Prop) (L0:AL) (h0:J 0 L0) (hw:∀i x L,l[i]?=some x→J i L→AC Tryz.prog g ([aH i,.agg (bT x)]++caps) L fun c L'=>c=aH (err i)∧(err i=0→J (i+1) L')):
  AC Tryz.prog 207 [.imm 1 (l.map bT),u] L0 fun r _=>r=cm (dl err l.length):=by
 refine aP Tryz.func207 rfl Tryz.ntmps207 rfl fun B=>?_
 refine d7 0 rfl rfl fun hlen=>?_
 rw [Lr] at hlen
 repeat' (first|refine ae ?_|refine a6 ?_|refine am ?_|refine a8 ?_|refine aa ?_|refine LF a7 I9 ?_)
 refine aJ [1,9,10] (α:=Nat×AL) (fun i=>[(11,aH i.1)]) (fun i=>i.1≤l.length∧J i.1 i.2∧dl err l.length=dg err (l.length - i.1) i.1) (fun i=>i.2) (fun i=>l.length - i.1) (0,L0) rfl ⟨rfl,trivial⟩ ⟨Nat.zero_le _,h0,rfl⟩ (fun _ _ h=>h) ?_
 rintro ⟨i,L⟩ ⟨hi,hj,he⟩
 dsimp only at hi hj he ⊢
 try dsimp only [Lp,Lo,Ln,Lh]
 repeat' (first|refine ae ?_|refine a6 ?_|refine a8 ?_|refine aa ?_|refine LF a7 I9 ?_)
 refine ay rfl (fun h=>?_) (fun h=>?_)
 ·have hil:i < l.length:=by have:=Ly h;simp at this;omega
  obtain ⟨z,hz⟩:∃z,l[i]?=some z:=⟨_,Lz hil⟩
  have hzg:=c7 (c:=bT) hz
  repeat' (first|refine ae ?_|refine a6 ?_|refine am ?_|refine au ?_|refine a8 ?_|refine aa ?_|refine LF a7 I9 ?_|(apply aU;first|refine aT a7 ?_|refine aN a7 ?_)|(apply aK;first|refine LH 7 a7 0 LE ?_|refine LH 7 a7 1 LE ?_|refine LH 7 a7 2 LE ?_|refine LG a7 0 LD ?_|refine LG a7 1 LD ?_|refine LG a7 2 LD ?_|refine LG a7 3 LD ?_|fail)|refine bg a7 fun _=>?_|fail)
  refine dD L [] (hw i z L hz hj) rfl hu rfl (ce rfl) rfl rfl fun c L1 ⟨hc,hj'⟩=>?_
  subst hc
  rw [List.append_nil]
  repeat' (first|refine ae ?_|refine a6 ?_|refine a8 ?_|refine aa ?_|refine LF a7 I9 ?_)
  refine ay rfl (fun h2=>?_) (fun h2=>?_)
  ·have h2':=Ly h2
   repeat' (first|refine ae ?_|refine a6 ?_|refine aq ?_|refine a8 ?_|refine aC ?_|refine aQ ?_|refine bM ?_|refine aa ?_|refine LF a7 I9 ?_)
   refine LQ LA ?_
   rw [he,cJ hil h2']
   rfl
  ·have h2':=Decidable.not_not.1 (Lw h2)
   repeat' (first|refine a6 ?_|refine au ?_|refine a8 ?_|refine aM ?_|refine aa ?_|refine LF a7 I9 ?_|(apply aY;refine aX ?_)|fail)
   exact aE (i+1,L1) rfl ⟨by rw [Ls];rfl,trivial⟩ ⟨by dsimp only;omega,hj' h2',by rw [he];exact ct hil h2'⟩ (by dsimp only;omega) (fun _ _ h=>h)
 ·have hil:i=l.length:=by have:=Lw h;simp at this;omega
  subst hil
  repeat' (first|refine ae ?_|refine a6 ?_|refine aq ?_|refine aL ?_|refine a8 ?_|refine av ?_|refine aA ?_|refine aw ?_|refine aa ?_|refine LF a7 I9 ?_)
  refine LQ LA ?_
  rw [he,Nat.sub_self]
  rfl
theorem FN {g:FuncId} {caps:List AV} {u:AV} [bF Tryz.prog g] (hu:kx u=some (g,caps)) (l:List (List f5)) (most:Int) (err:Nat→Int) (J:Nat→AL→Prop) (L0:AL) (h0:J 0 L0) (hw:(l.length:Int)≤most→∀i x L,l[i]?=some x→J i L→AC Tryz.prog g ([aH i,.agg (bT x)]++caps) L fun c L'=>c=aH (err i)∧(err i=0→J (i+1) L')):
  AC Tryz.prog 206 [.iptr [.imm 1 (l.map bT)],.iptr [aH most],.iptr [u]] L0 fun r _=>r=cm (da most err l.length):=by
 refine aP Tryz.func206 rfl Tryz.ntmps206 rfl fun B=>?_
 repeat' (first|refine ae ?_|refine a6 ?_|refine a8 ?_|refine aa ?_|refine LF a7 I9 ?_)
 refine ay rfl (fun h=>?_) (fun h=>?_)
 ·have h':=Ly h
  rw [Lr] at h'
  repeat' (first|refine ae ?_|refine a6 ?_|refine aq ?_|refine a8 ?_|refine aC ?_|refine aa ?_|refine LF a7 I9 ?_)
  refine LQ LA ?_
  unfold da
  rw [if_pos h']
  rfl
 ·have h':=Lw h
  rw [Lr] at h'
  repeat' (first|refine ae ?_|refine a6 ?_|refine au ?_|refine a8 ?_|refine LF a7 I9 ?_)
  refine bh L0 [] (ER hu l err J L0 h0 (hw (by omega))) rfl (fQ hu) (ce rfl) rfl fun c L1 hc=>?_
  subst hc
  repeat' (first|refine aq ?_|refine a8 ?_|refine aa ?_|refine LF a7 I9 ?_)
  refine LQ LA ?_
  unfold da
  rw [if_neg h']
  rfl
theorem IZ {g:FuncId} {caps:List AV} (l:List (List f5)) (most:Int):bH Tryz.prog 127 [.imm 1 (l.map bT),aH most,.fn g caps] (.fn 206 [.iptr [.imm 1 (l.map bT)],.iptr [aH most],.iptr [.fn g caps]]):=by
 refine aP Tryz.func127 rfl Tryz.ntmps127 rfl fun B=>?_
 repeat' (first|refine ae ?_|refine a6 ?_|refine aq ?_|refine a8 ?_|refine aa ?_|refine LF a7 I9 ?_|refine bo ?_|fail)
 exact LK LA
instance {g:FuncId} {caps:List AV} (l:List (List f5)) (most:Int):AD Tryz.prog 127 [.imm 1 (l.map bT),aH most,.fn g caps] (.fn 206 [.iptr [.imm 1 (l.map bT)],.iptr [aH most],.iptr [.fn g caps]]):=⟨IZ l most⟩
theorem ES {g:FuncId} {caps:List AV} {u:AV} [bF Tryz.prog g] (hu:kx u=some (g,caps)) (l:List f5) (err:Nat→Int) (J:Nat→AL→Prop) (L0:AL) (h0:J 0 L0) (hw:∀i x L,l[i]?=some x→J i L→AC Tryz.prog g ([aH i,.agg (kj x)]++caps) L fun c L'=>c=aH (err i)∧(err i=0→J (i+1) L')):
  AC Tryz.prog 208 [.imm 3 (l.map kj),u] L0 fun r _=>r=cm (dl err l.length):=by
 refine aP Tryz.func208 rfl Tryz.ntmps208 rfl fun B=>?_
 refine d7 0 rfl rfl fun hlen=>?_
 rw [Lr] at hlen
 repeat' (first|refine ae ?_|refine a6 ?_|refine am ?_|refine a8 ?_|refine aa ?_|refine LF a7 I9 ?_)
 refine aJ [1,9,10] (α:=Nat×AL) (fun i=>[(11,aH i.1)]) (fun i=>i.1≤l.length∧J i.1 i.2∧dl err l.length=dg err (l.length - i.1) i.1) (fun i=>i.2) (fun i=>l.length - i.1) (0,L0) rfl ⟨rfl,trivial⟩ ⟨Nat.zero_le _,h0,rfl⟩ (fun _ _ h=>h) ?_
 rintro ⟨i,L⟩ ⟨hi,hj,he⟩
 dsimp only at hi hj he ⊢
 try dsimp only [Lp,Lo,Ln,Lh]
 repeat' (first|refine ae ?_|refine a6 ?_|refine a8 ?_|refine aa ?_|refine LF a7 I9 ?_)
 refine ay rfl (fun h=>?_) (fun h=>?_)
 ·have hil:i < l.length:=by have:=Ly h;simp at this;omega
  obtain ⟨z,hz⟩:∃z,l[i]?=some z:=⟨_,Lz hil⟩
  have hzg:=c7 (c:=kj) hz
  repeat' (first|refine ae ?_|refine a6 ?_|refine am ?_|refine au ?_|refine a8 ?_|refine aa ?_|refine LF a7 I9 ?_|(apply aU;first|refine aT a7 ?_|refine aN a7 ?_)|(apply aK;first|refine LH 7 a7 0 LE ?_|refine LH 7 a7 1 LE ?_|refine LH 7 a7 2 LE ?_|refine LG a7 0 LD ?_|refine LG a7 1 LD ?_|refine LG a7 2 LD ?_|refine LG a7 3 LD ?_|fail)|refine bg a7 fun _=>?_|fail)
  refine dD L [] (hw i z L hz hj) rfl hu rfl (ce rfl) rfl rfl fun c L1 ⟨hc,hj'⟩=>?_
  subst hc
  rw [List.append_nil]
  repeat' (first|refine ae ?_|refine a6 ?_|refine a8 ?_|refine aa ?_|refine LF a7 I9 ?_)
  refine ay rfl (fun h2=>?_) (fun h2=>?_)
  ·have h2':=Ly h2
   repeat' (first|refine ae ?_|refine a6 ?_|refine aq ?_|refine a8 ?_|refine aC ?_|refine aQ ?_|refine bM ?_|refine aa ?_|refine LF a7 I9 ?_)
   refine LQ LA ?_
   rw [he,cJ hil h2']
   rfl
  ·have h2':=Decidable.not_not.1 (Lw h2)
   repeat' (first|refine a6 ?_|refine au ?_|refine a8 ?_|refine aM ?_|refine aa ?_|refine LF a7 I9 ?_|(apply aY;refine aX ?_)|fail)
   exact aE (i+1,L1) rfl ⟨by rw [Ls];rfl,trivial⟩ ⟨by dsimp only;omega,hj' h2',by rw [he];exact ct hil h2'⟩ (by dsimp only;omega) (fun _ _ h=>h)
 ·have hil:i=l.length:=by have:=Lw h;simp at this;omega
  subst hil
  repeat' (first|refine ae ?_|refine a6 ?_|refine aq ?_|refine aL ?_|refine a8 ?_|refine av ?_|refine aA ?_|refine aw ?_|refine aa ?_|refine LF a7 I9 ?_)
  refine LQ LA ?_
  rw [he,Nat.sub_self]
  rfl
theorem ET {g:FuncId} {caps:List AV} {u:AV} [bF Tryz.prog g] (hu:kx u=some (g,caps)) (l:List (List eG)) (err:Nat→Int) (J:Nat→AL→Prop) (L0:AL) (h0:J 0 L0) (hw:∀i x L,l[i]?=some x→J i L→AC Tryz.prog g ([aH i,.imm 2 (x.map dO)]++caps) L fun c L'=>c=aH (err i)∧(err i=0→J (i+1) L')):
  AC Tryz.prog 211 [.imm 1 (l.map cV),u] L0 fun r _=>r=cm (dl err l.length):=by
 refine aP Tryz.func211 rfl Tryz.ntmps211 rfl fun B=>?_
 refine d7 0 rfl rfl fun hlen=>?_
 rw [Lr] at hlen
 repeat' (first|refine ae ?_|refine a6 ?_|refine am ?_|refine a8 ?_|refine aa ?_|refine LF a7 I9 ?_)
 refine aJ [1,9,10] (α:=Nat×AL) (fun i=>[(11,aH i.1)]) (fun i=>i.1≤l.length∧J i.1 i.2∧dl err l.length=dg err (l.length - i.1) i.1) (fun i=>i.2) (fun i=>l.length - i.1) (0,L0) rfl ⟨rfl,trivial⟩ ⟨Nat.zero_le _,h0,rfl⟩ (fun _ _ h=>h) ?_
 rintro ⟨i,L⟩ ⟨hi,hj,he⟩
 dsimp only at hi hj he ⊢
 try dsimp only [Lp,Lo,Ln,Lh]
 repeat' (first|refine ae ?_|refine a6 ?_|refine a8 ?_|refine aa ?_|refine LF a7 I9 ?_)
 refine ay rfl (fun h=>?_) (fun h=>?_)
 ·have hil:i < l.length:=by have:=Ly h;simp at this;omega
  obtain ⟨z,hz⟩:∃z,l[i]?=some z:=⟨_,Lz hil⟩
  have hzg:=c7 (c:=cV) hz
  repeat' (first|refine ae ?_|refine a6 ?_|refine am ?_|refine au ?_|refine a8 ?_|refine aa ?_|refine LF a7 I9 ?_|(apply aU;first|refine aT a7 ?_|refine aN a7 ?_)|fail)
  refine dD L [] (hw i z L hz hj) rfl hu rfl (ce rfl) rfl rfl fun c L1 ⟨hc,hj'⟩=>?_
  subst hc
  rw [List.append_nil]
  repeat' (first|refine ae ?_|refine a6 ?_|refine a8 ?_|refine aa ?_|refine LF a7 I9 ?_)
  refine ay rfl (fun h2=>?_) (fun h2=>?_)
  ·have h2':=Ly h2
   repeat' (first|refine ae ?_|refine a6 ?_|refine aq ?_|refine a8 ?_|refine aC ?_|refine aQ ?_|refine bM ?_|refine aa ?_|refine LF a7 I9 ?_)
   refine LQ LA ?_
   rw [he,cJ hil h2']
   rfl
  ·have h2':=Decidable.not_not.1 (Lw h2)
   repeat' (first|refine a6 ?_|refine au ?_|refine a8 ?_|refine aM ?_|refine aa ?_|refine LF a7 I9 ?_|(apply aY;refine aX ?_)|fail)
   exact aE (i+1,L1) rfl ⟨by rw [Ls];rfl,trivial⟩ ⟨by dsimp only;omega,hj' h2',by rw [he];exact ct hil h2'⟩ (by dsimp only;omega) (fun _ _ h=>h)
 ·have hil:i=l.length:=by have:=Lw h;simp at this;omega
  subst hil
  repeat' (first|refine ae ?_|refine a6 ?_|refine aq ?_|refine aL ?_|refine a8 ?_|refine av ?_|refine aA ?_|refine aw ?_|refine aa ?_|refine LF a7 I9 ?_)
  refine LQ LA ?_
  rw [he,Nat.sub_self]
  rfl
theorem FO {g:FuncId} {caps:List AV} {u:AV} [bF Tryz.prog g] (hu:kx u=some (g,caps)) (l:List (List eG)) (most:Int) (err:Nat→Int) (J:Nat→AL→Prop) (L0:AL) (h0:J 0 L0) (hw:(l.length:Int)≤most→∀i x L,l[i]?=some x→J i L→AC Tryz.prog g ([aH i,.imm 2 (x.map dO)]++caps) L fun c L'=>c=aH (err i)∧(err i=0→J (i+1) L')):
  AC Tryz.prog 210 [.iptr [.imm 1 (l.map cV)],.iptr [aH most],.iptr [u]] L0 fun r _=>r=cm (da most err l.length):=by
 refine aP Tryz.func210 rfl Tryz.ntmps210 rfl fun B=>?_
 repeat' (first|refine ae ?_|refine a6 ?_|refine a8 ?_|refine aa ?_|refine LF a7 I9 ?_)
 refine ay rfl (fun h=>?_) (fun h=>?_)
 ·have h':=Ly h
  rw [Lr] at h'
  repeat' (first|refine ae ?_|refine a6 ?_|refine aq ?_|refine a8 ?_|refine aC ?_|refine aa ?_|refine LF a7 I9 ?_)
  refine LQ LA ?_
  unfold da
  rw [if_pos h']
  rfl
 ·have h':=Lw h
  rw [Lr] at h'
  repeat' (first|refine ae ?_|refine a6 ?_|refine au ?_|refine a8 ?_|refine LF a7 I9 ?_)
  refine bh L0 [] (ET hu l err J L0 h0 (hw (by omega))) rfl (fQ hu) (ce rfl) rfl fun c L1 hc=>?_
  subst hc
  repeat' (first|refine aq ?_|refine a8 ?_|refine aa ?_|refine LF a7 I9 ?_)
  refine LQ LA ?_
  unfold da
  rw [if_neg h']
  rfl
theorem HF {g:FuncId} (l:List (List eG)) (most:Int):bH Tryz.prog 130 [.imm 1 (l.map cV),aH most,.sc (.func (.func g) #[] #[])] (.fn 210 [.iptr [.imm 1 (l.map cV)],.iptr [aH most],.iptr [.sc (.func (.func g) #[] #[])]]):=by
 refine aP Tryz.func130 rfl Tryz.ntmps130 rfl fun B=>?_
 repeat' (first|refine ae ?_|refine a6 ?_|refine aq ?_|refine a8 ?_|refine aa ?_|refine LF a7 I9 ?_|refine bo ?_|fail)
 exact LK LA
instance {g:FuncId} (l:List (List eG)) (most:Int):AD Tryz.prog 130 [.imm 1 (l.map cV),aH most,.sc (.func (.func g) #[] #[])] (.fn 210 [.iptr [.imm 1 (l.map cV)],.iptr [aH most],.iptr [.sc (.func (.func g) #[] #[])]]):=⟨HF l most⟩
theorem EU {g:FuncId} {caps:List AV} {u:AV} [bF Tryz.prog g] (hu:kx u=some (g,caps)) (l:List eH) (err:Nat→Int) (J:Nat→AL→Prop) (L0:AL) (h0:J 0 L0) (hw:∀i x L,l[i]?=some x→J i L→AC Tryz.prog g ([aH i,.agg (dw x)]++caps) L fun c L'=>c=aH (err i)∧(err i=0→J (i+1) L')):
  AC Tryz.prog 244 [.imm 3 (l.map dw),u] L0 fun r _=>r=cm (dl err l.length):=by
 refine aP Tryz.func244 rfl Tryz.ntmps244 rfl fun B=>?_
 refine d7 0 rfl rfl fun hlen=>?_
 rw [Lr] at hlen
 repeat' (first|refine ae ?_|refine a6 ?_|refine am ?_|refine a8 ?_|refine aa ?_|refine LF a7 I9 ?_)
 refine aJ [1,9,10] (α:=Nat×AL) (fun i=>[(11,aH i.1)]) (fun i=>i.1≤l.length∧J i.1 i.2∧dl err l.length=dg err (l.length - i.1) i.1) (fun i=>i.2) (fun i=>l.length - i.1) (0,L0) rfl ⟨rfl,trivial⟩ ⟨Nat.zero_le _,h0,rfl⟩ (fun _ _ h=>h) ?_
 rintro ⟨i,L⟩ ⟨hi,hj,he⟩
 dsimp only at hi hj he ⊢
 try dsimp only [Lp,Lo,Ln,Lh]
 repeat' (first|refine ae ?_|refine a6 ?_|refine a8 ?_|refine aa ?_|refine LF a7 I9 ?_)
 refine ay rfl (fun h=>?_) (fun h=>?_)
 ·have hil:i < l.length:=by have:=Ly h;simp at this;omega
  obtain ⟨z,hz⟩:∃z,l[i]?=some z:=⟨_,Lz hil⟩
  have hzg:=c7 (c:=dw) hz
  repeat' (first|refine ae ?_|refine a6 ?_|refine am ?_|refine au ?_|refine a8 ?_|refine aa ?_|refine LF a7 I9 ?_|(apply aU;first|refine aT a7 ?_|refine aN a7 ?_)|(apply aK;first|refine LH 7 a7 0 LE ?_|refine LH 7 a7 1 LE ?_|refine LH 7 a7 2 LE ?_|refine LG a7 0 LD ?_|refine LG a7 1 LD ?_|refine LG a7 2 LD ?_|refine LG a7 3 LD ?_|fail)|refine bg a7 fun _=>?_|fail)
  refine dD L [] (hw i z L hz hj) rfl hu rfl (ce rfl) rfl rfl fun c L1 ⟨hc,hj'⟩=>?_
  subst hc
  rw [List.append_nil]
  repeat' (first|refine ae ?_|refine a6 ?_|refine a8 ?_|refine aa ?_|refine LF a7 I9 ?_)
  refine ay rfl (fun h2=>?_) (fun h2=>?_)
  ·have h2':=Ly h2
   repeat' (first|refine ae ?_|refine a6 ?_|refine aq ?_|refine a8 ?_|refine aC ?_|refine aQ ?_|refine bM ?_|refine aa ?_|refine LF a7 I9 ?_)
   refine LQ LA ?_
   rw [he,cJ hil h2']
   rfl
  ·have h2':=Decidable.not_not.1 (Lw h2)
   repeat' (first|refine a6 ?_|refine au ?_|refine a8 ?_|refine aM ?_|refine aa ?_|refine LF a7 I9 ?_|(apply aY;refine aX ?_)|fail)
   exact aE (i+1,L1) rfl ⟨by rw [Ls];rfl,trivial⟩ ⟨by dsimp only;omega,hj' h2',by rw [he];exact ct hil h2'⟩ (by dsimp only;omega) (fun _ _ h=>h)
 ·have hil:i=l.length:=by have:=Lw h;simp at this;omega
  subst hil
  repeat' (first|refine ae ?_|refine a6 ?_|refine aq ?_|refine aL ?_|refine a8 ?_|refine av ?_|refine aA ?_|refine aw ?_|refine aa ?_|refine LF a7 I9 ?_)
  refine LQ LA ?_
  rw [he,Nat.sub_self]
  rfl
theorem EV {g:FuncId} {caps:List AV} {u:AV} [bF Tryz.prog g] (hu:kx u=some (g,caps)) (l:List dL) (err:Nat→Int) (J:Nat→AL→Prop) (L0:AL) (h0:J 0 L0) (hw:∀i x L,l[i]?=some x→J i L→AC Tryz.prog g ([aH i,.agg (er x)]++caps) L fun c L'=>c=aH (err i)∧(err i=0→J (i+1) L')):
  AC Tryz.prog 248 [.imm 3 (l.map er),u] L0 fun r _=>r=cm (dl err l.length):=by
 refine aP Tryz.func248 rfl Tryz.ntmps248 rfl fun B=>?_
 refine d7 0 rfl rfl fun hlen=>?_
 rw [Lr] at hlen
 repeat' (first|refine ae ?_|refine a6 ?_|refine am ?_|refine a8 ?_|refine aa ?_|refine LF a7 I9 ?_)
 refine aJ [1,9,10] (α:=Nat×AL) (fun i=>[(11,aH i.1)]) (fun i=>i.1≤l.length∧J i.1 i.2∧dl err l.length=dg err (l.length - i.1) i.1) (fun i=>i.2) (fun i=>l.length - i.1) (0,L0) rfl ⟨rfl,trivial⟩ ⟨Nat.zero_le _,h0,rfl⟩ (fun _ _ h=>h) ?_
 rintro ⟨i,L⟩ ⟨hi,hj,he⟩
 dsimp only at hi hj he ⊢
 try dsimp only [Lp,Lo,Ln,Lh]
 repeat' (first|refine ae ?_|refine a6 ?_|refine a8 ?_|refine aa ?_|refine LF a7 I9 ?_)
 refine ay rfl (fun h=>?_) (fun h=>?_)
 ·have hil:i < l.length:=by have:=Ly h;simp at this;omega
  obtain ⟨z,hz⟩:∃z,l[i]?=some z:=⟨_,Lz hil⟩
  have hzg:=c7 (c:=er) hz
  repeat' (first|refine ae ?_|refine a6 ?_|refine am ?_|refine au ?_|refine a8 ?_|refine aa ?_|refine LF a7 I9 ?_|(apply aU;first|refine aT a7 ?_|refine aN a7 ?_)|(apply aK;first|refine LH 7 a7 0 LE ?_|refine LH 7 a7 1 LE ?_|refine LH 7 a7 2 LE ?_|refine LG a7 0 LD ?_|refine LG a7 1 LD ?_|refine LG a7 2 LD ?_|refine LG a7 3 LD ?_|fail)|refine bg a7 fun _=>?_|fail)
  refine dD L [] (hw i z L hz hj) rfl hu rfl (ce rfl) rfl rfl fun c L1 ⟨hc,hj'⟩=>?_
  subst hc
  rw [List.append_nil]
  repeat' (first|refine ae ?_|refine a6 ?_|refine a8 ?_|refine aa ?_|refine LF a7 I9 ?_)
  refine ay rfl (fun h2=>?_) (fun h2=>?_)
  ·have h2':=Ly h2
   repeat' (first|refine ae ?_|refine a6 ?_|refine aq ?_|refine a8 ?_|refine aC ?_|refine aQ ?_|refine bM ?_|refine aa ?_|refine LF a7 I9 ?_)
   refine LQ LA ?_
   rw [he,cJ hil h2']
   rfl
  ·have h2':=Decidable.not_not.1 (Lw h2)
   repeat' (first|refine a6 ?_|refine au ?_|refine a8 ?_|refine aM ?_|refine aa ?_|refine LF a7 I9 ?_|(apply aY;refine aX ?_)|fail)
   exact aE (i+1,L1) rfl ⟨by rw [Ls];rfl,trivial⟩ ⟨by dsimp only;omega,hj' h2',by rw [he];exact ct hil h2'⟩ (by dsimp only;omega) (fun _ _ h=>h)
 ·have hil:i=l.length:=by have:=Lw h;simp at this;omega
  subst hil
  repeat' (first|refine ae ?_|refine a6 ?_|refine aq ?_|refine aL ?_|refine a8 ?_|refine av ?_|refine aA ?_|refine aw ?_|refine aa ?_|refine LF a7 I9 ?_)
  refine LQ LA ?_
  rw [he,Nat.sub_self]
  rfl
theorem FQ {g:FuncId} {caps:List AV} {u:AV} [bF Tryz.prog g] (hu:kx u=some (g,caps)) (l:List dL) (most:Int) (err:Nat→Int) (J:Nat→AL→Prop) (L0:AL) (h0:J 0 L0) (hw:(l.length:Int)≤most→∀i x L,l[i]?=some x→J i L→AC Tryz.prog g ([aH i,.agg (er x)]++caps) L fun c L'=>c=aH (err i)∧(err i=0→J (i+1) L')):
  AC Tryz.prog 247 [.iptr [.imm 3 (l.map er)],.iptr [aH most],.iptr [u]] L0 fun r _=>r=cm (da most err l.length):=by
 refine aP Tryz.func247 rfl Tryz.ntmps247 rfl fun B=>?_
 repeat' (first|refine ae ?_|refine a6 ?_|refine a8 ?_|refine aa ?_|refine LF a7 I9 ?_)
 refine ay rfl (fun h=>?_) (fun h=>?_)
 ·have h':=Ly h
  rw [Lr] at h'
  repeat' (first|refine ae ?_|refine a6 ?_|refine aq ?_|refine a8 ?_|refine aC ?_|refine aa ?_|refine LF a7 I9 ?_)
  refine LQ LA ?_
  unfold da
  rw [if_pos h']
  rfl
 ·have h':=Lw h
  rw [Lr] at h'
  repeat' (first|refine ae ?_|refine a6 ?_|refine au ?_|refine a8 ?_|refine LF a7 I9 ?_)
  refine bh L0 [] (EV hu l err J L0 h0 (hw (by omega))) rfl (fQ hu) (ce rfl) rfl fun c L1 hc=>?_
  subst hc
  repeat' (first|refine aq ?_|refine a8 ?_|refine aa ?_|refine LF a7 I9 ?_)
  refine LQ LA ?_
  unfold da
  rw [if_neg h']
  rfl
theorem J0 {g:FuncId} {caps:List AV} (l:List dL) (most:Int):bH Tryz.prog 176 [.imm 3 (l.map er),aH most,.fn g caps] (.fn 247 [.iptr [.imm 3 (l.map er)],.iptr [aH most],.iptr [.fn g caps]]):=by
 refine aP Tryz.func176 rfl Tryz.ntmps176 rfl fun B=>?_
 repeat' (first|refine ae ?_|refine a6 ?_|refine aq ?_|refine a8 ?_|refine aa ?_|refine LF a7 I9 ?_|refine bo ?_|fail)
 exact LK LA
instance {g:FuncId} {caps:List AV} (l:List dL) (most:Int):AD Tryz.prog 176 [.imm 3 (l.map er),aH most,.fn g caps] (.fn 247 [.iptr [.imm 3 (l.map er)],.iptr [aH most],.iptr [.fn g caps]]):=⟨J0 l most⟩
theorem EW {g:FuncId} {caps:List AV} {u:AV} [bF Tryz.prog g] (hu:kx u=some (g,caps)) (l:List dA) (err:Nat→Int) (J:Nat→AL→Prop) (L0:AL) (h0:J 0 L0) (hw:∀i x L,l[i]?=some x→J i L→AC Tryz.prog g ([aH i,.agg (cY x)]++caps) L fun c L'=>c=aH (err i)∧(err i=0→J (i+1) L')):
  AC Tryz.prog 250 [.imm 4 (l.map cY),u] L0 fun r _=>r=cm (dl err l.length):=by
 refine aP Tryz.func250 rfl Tryz.ntmps250 rfl fun B=>?_
 refine d7 0 rfl rfl fun hlen=>?_
 rw [Lr] at hlen
 repeat' (first|refine ae ?_|refine a6 ?_|refine am ?_|refine a8 ?_|refine aa ?_|refine LF a7 I9 ?_)
 refine aJ [1,9,10] (α:=Nat×AL) (fun i=>[(11,aH i.1)]) (fun i=>i.1≤l.length∧J i.1 i.2∧dl err l.length=dg err (l.length - i.1) i.1) (fun i=>i.2) (fun i=>l.length - i.1) (0,L0) rfl ⟨rfl,trivial⟩ ⟨Nat.zero_le _,h0,rfl⟩ (fun _ _ h=>h) ?_
 rintro ⟨i,L⟩ ⟨hi,hj,he⟩
 dsimp only at hi hj he ⊢
 try dsimp only [Lp,Lo,Ln,Lh]
 repeat' (first|refine ae ?_|refine a6 ?_|refine a8 ?_|refine aa ?_|refine LF a7 I9 ?_)
 refine ay rfl (fun h=>?_) (fun h=>?_)
 ·have hil:i < l.length:=by have:=Ly h;simp at this;omega
  obtain ⟨z,hz⟩:∃z,l[i]?=some z:=⟨_,Lz hil⟩
  have hzg:=c7 (c:=cY) hz
  repeat' (first|refine ae ?_|refine a6 ?_|refine am ?_|refine au ?_|refine a8 ?_|refine aa ?_|refine LF a7 I9 ?_|(apply aU;first|refine aT a7 ?_|refine aN a7 ?_)|(apply aK;first|refine LH 7 a7 0 LE ?_|refine LH 7 a7 1 LE ?_|refine LH 7 a7 2 LE ?_|refine LG a7 0 LD ?_|refine LG a7 1 LD ?_|refine LG a7 2 LD ?_|refine LG a7 3 LD ?_|fail)|refine bg a7 fun _=>?_|fail)
  refine dD L [] (hw i z L hz hj) rfl hu rfl (ce rfl) rfl rfl fun c L1 ⟨hc,hj'⟩=>?_
  subst hc
  rw [List.append_nil]
  repeat' (first|refine ae ?_|refine a6 ?_|refine a8 ?_|refine aa ?_|refine LF a7 I9 ?_)
  refine ay rfl (fun h2=>?_) (fun h2=>?_)
  ·have h2':=Ly h2
   repeat' (first|refine ae ?_|refine a6 ?_|refine aq ?_|refine a8 ?_|refine aC ?_|refine aQ ?_|refine bM ?_|refine aa ?_|refine LF a7 I9 ?_)
   refine LQ LA ?_
   rw [he,cJ hil h2']
   rfl
  ·have h2':=Decidable.not_not.1 (Lw h2)
   repeat' (first|refine a6 ?_|refine au ?_|refine a8 ?_|refine aM ?_|refine aa ?_|refine LF a7 I9 ?_|(apply aY;refine aX ?_)|fail)
   exact aE (i+1,L1) rfl ⟨by rw [Ls];rfl,trivial⟩ ⟨by dsimp only;omega,hj' h2',by rw [he];exact ct hil h2'⟩ (by dsimp only;omega) (fun _ _ h=>h)
 ·have hil:i=l.length:=by have:=Lw h;simp at this;omega
  subst hil
  repeat' (first|refine ae ?_|refine a6 ?_|refine aq ?_|refine aL ?_|refine a8 ?_|refine av ?_|refine aA ?_|refine aw ?_|refine aa ?_|refine LF a7 I9 ?_)
  refine LQ LA ?_
  rw [he,Nat.sub_self]
  rfl
theorem FR {g:FuncId} {caps:List AV} {u:AV} [bF Tryz.prog g] (hu:kx u=some (g,caps)) (l:List dA) (most:Int) (err:Nat→Int) (J:Nat→AL→Prop) (L0:AL) (h0:J 0 L0) (hw:(l.length:Int)≤most→∀i x L,l[i]?=some x→J i L→AC Tryz.prog g ([aH i,.agg (cY x)]++caps) L fun c L'=>c=aH (err i)∧(err i=0→J (i+1) L')):
  AC Tryz.prog 249 [.iptr [.imm 4 (l.map cY)],.iptr [aH most],.iptr [u]] L0 fun r _=>r=cm (da most err l.length):=by
 refine aP Tryz.func249 rfl Tryz.ntmps249 rfl fun B=>?_
 repeat' (first|refine ae ?_|refine a6 ?_|refine a8 ?_|refine aa ?_|refine LF a7 I9 ?_)
 refine ay rfl (fun h=>?_) (fun h=>?_)
 ·have h':=Ly h
  rw [Lr] at h'
  repeat' (first|refine ae ?_|refine a6 ?_|refine aq ?_|refine a8 ?_|refine aC ?_|refine aa ?_|refine LF a7 I9 ?_)
  refine LQ LA ?_
  unfold da
  rw [if_pos h']
  rfl
 ·have h':=Lw h
  rw [Lr] at h'
  repeat' (first|refine ae ?_|refine a6 ?_|refine au ?_|refine a8 ?_|refine LF a7 I9 ?_)
  refine bh L0 [] (EW hu l err J L0 h0 (hw (by omega))) rfl (fQ hu) (ce rfl) rfl fun c L1 hc=>?_
  subst hc
  repeat' (first|refine aq ?_|refine a8 ?_|refine aa ?_|refine LF a7 I9 ?_)
  refine LQ LA ?_
  unfold da
  rw [if_neg h']
  rfl
theorem J1 {g:FuncId} {caps:List AV} (l:List dA) (most:Int):bH Tryz.prog 179 [.imm 4 (l.map cY),aH most,.fn g caps] (.fn 249 [.iptr [.imm 4 (l.map cY)],.iptr [aH most],.iptr [.fn g caps]]):=by
 refine aP Tryz.func179 rfl Tryz.ntmps179 rfl fun B=>?_
 repeat' (first|refine ae ?_|refine a6 ?_|refine aq ?_|refine a8 ?_|refine aa ?_|refine LF a7 I9 ?_|refine bo ?_|fail)
 exact LK LA
instance {g:FuncId} {caps:List AV} (l:List dA) (most:Int):AD Tryz.prog 179 [.imm 4 (l.map cY),aH most,.fn g caps] (.fn 249 [.iptr [.imm 4 (l.map cY)],.iptr [aH most],.iptr [.fn g caps]]):=⟨J1 l most⟩
theorem EX {g:FuncId} {caps:List AV} {u:AV} [bF Tryz.prog g] (hu:kx u=some (g,caps)) (l:List dG) (err:Nat→Int) (J:Nat→AL→Prop) (L0:AL) (h0:J 0 L0) (hw:∀i x L,l[i]?=some x→J i L→AC Tryz.prog g ([aH i,.agg (dZ x)]++caps) L fun c L'=>c=aH (err i)∧(err i=0→J (i+1) L')):
  AC Tryz.prog 253 [.imm 4 (l.map dZ),u] L0 fun r _=>r=cm (dl err l.length):=by
 refine aP Tryz.func253 rfl Tryz.ntmps253 rfl fun B=>?_
 refine d7 0 rfl rfl fun hlen=>?_
 rw [Lr] at hlen
 repeat' (first|refine ae ?_|refine a6 ?_|refine am ?_|refine a8 ?_|refine aa ?_|refine LF a7 I9 ?_)
 refine aJ [1,9,10] (α:=Nat×AL) (fun i=>[(11,aH i.1)]) (fun i=>i.1≤l.length∧J i.1 i.2∧dl err l.length=dg err (l.length - i.1) i.1) (fun i=>i.2) (fun i=>l.length - i.1) (0,L0) rfl ⟨rfl,trivial⟩ ⟨Nat.zero_le _,h0,rfl⟩ (fun _ _ h=>h) ?_
 rintro ⟨i,L⟩ ⟨hi,hj,he⟩
 dsimp only at hi hj he ⊢
 try dsimp only [Lp,Lo,Ln,Lh]
 repeat' (first|refine ae ?_|refine a6 ?_|refine a8 ?_|refine aa ?_|refine LF a7 I9 ?_)
 refine ay rfl (fun h=>?_) (fun h=>?_)
 ·have hil:i < l.length:=by have:=Ly h;simp at this;omega
  obtain ⟨z,hz⟩:∃z,l[i]?=some z:=⟨_,Lz hil⟩
  have hzg:=c7 (c:=dZ) hz
  repeat' (first|refine ae ?_|refine a6 ?_|refine am ?_|refine au ?_|refine a8 ?_|refine aa ?_|refine LF a7 I9 ?_|(apply aU;first|refine aT a7 ?_|refine aN a7 ?_)|(apply aK;first|refine LH 7 a7 0 LE ?_|refine LH 7 a7 1 LE ?_|refine LH 7 a7 2 LE ?_|refine LG a7 0 LD ?_|refine LG a7 1 LD ?_|refine LG a7 2 LD ?_|refine LG a7 3 LD ?_|fail)|refine bg a7 fun _=>?_|fail)
  refine dD L [] (hw i z L hz hj) rfl hu rfl (ce rfl) rfl rfl fun c L1 ⟨hc,hj'⟩=>?_
  subst hc
  rw [List.append_nil]
  repeat' (first|refine ae ?_|refine a6 ?_|refine a8 ?_|refine aa ?_|refine LF a7 I9 ?_)
  refine ay rfl (fun h2=>?_) (fun h2=>?_)
  ·have h2':=Ly h2
   repeat' (first|refine ae ?_|refine a6 ?_|refine aq ?_|refine a8 ?_|refine aC ?_|refine aQ ?_|refine bM ?_|refine aa ?_|refine LF a7 I9 ?_)
   refine LQ LA ?_
   rw [he,cJ hil h2']
   rfl
  ·have h2':=Decidable.not_not.1 (Lw h2)
   repeat' (first|refine a6 ?_|refine au ?_|refine a8 ?_|refine aM ?_|refine aa ?_|refine LF a7 I9 ?_|(apply aY;refine aX ?_)|fail)
   exact aE (i+1,L1) rfl ⟨by rw [Ls];rfl,trivial⟩ ⟨by dsimp only;omega,hj' h2',by rw [he];exact ct hil h2'⟩ (by dsimp only;omega) (fun _ _ h=>h)
 ·have hil:i=l.length:=by have:=Lw h;simp at this;omega
  subst hil
  repeat' (first|refine ae ?_|refine a6 ?_|refine aq ?_|refine aL ?_|refine a8 ?_|refine av ?_|refine aA ?_|refine aw ?_|refine aa ?_|refine LF a7 I9 ?_)
  refine LQ LA ?_
  rw [he,Nat.sub_self]
  rfl
theorem FS {g:FuncId} {caps:List AV} {u:AV} [bF Tryz.prog g] (hu:kx u=some (g,caps)) (l:List dG) (most:Int) (err:Nat→Int) (J:Nat→AL→Prop) (L0:AL) (h0:J 0 L0) (hw:(l.length:Int)≤most→∀i x L,l[i]?=some x→J i L→AC Tryz.prog g ([aH i,.agg (dZ x)]++caps) L fun c L'=>c=aH (err i)∧(err i=0→J (i+1) L')):
  AC Tryz.prog 252 [.iptr [.imm 4 (l.map dZ)],.iptr [aH most],.iptr [u]] L0 fun r _=>r=cm (da most err l.length):=by
 refine aP Tryz.func252 rfl Tryz.ntmps252 rfl fun B=>?_
 repeat' (first|refine ae ?_|refine a6 ?_|refine a8 ?_|refine aa ?_|refine LF a7 I9 ?_)
 refine ay rfl (fun h=>?_) (fun h=>?_)
 ·have h':=Ly h
  rw [Lr] at h'
  repeat' (first|refine ae ?_|refine a6 ?_|refine aq ?_|refine a8 ?_|refine aC ?_|refine aa ?_|refine LF a7 I9 ?_)
  refine LQ LA ?_
  unfold da
  rw [if_pos h']
  rfl
 ·have h':=Lw h
  rw [Lr] at h'
  repeat' (first|refine ae ?_|refine a6 ?_|refine au ?_|refine a8 ?_|refine LF a7 I9 ?_)
  refine bh L0 [] (EX hu l err J L0 h0 (hw (by omega))) rfl (fQ hu) (ce rfl) rfl fun c L1 hc=>?_
  subst hc
  repeat' (first|refine aq ?_|refine a8 ?_|refine aa ?_|refine LF a7 I9 ?_)
  refine LQ LA ?_
  unfold da
  rw [if_neg h']
  rfl
theorem J2 {g:FuncId} {caps:List AV} (l:List dG) (most:Int):bH Tryz.prog 181 [.imm 4 (l.map dZ),aH most,.fn g caps] (.fn 252 [.iptr [.imm 4 (l.map dZ)],.iptr [aH most],.iptr [.fn g caps]]):=by
 refine aP Tryz.func181 rfl Tryz.ntmps181 rfl fun B=>?_
 repeat' (first|refine ae ?_|refine a6 ?_|refine aq ?_|refine a8 ?_|refine aa ?_|refine LF a7 I9 ?_|refine bo ?_|fail)
 exact LK LA
instance {g:FuncId} {caps:List AV} (l:List dG) (most:Int):AD Tryz.prog 181 [.imm 4 (l.map dZ),aH most,.fn g caps] (.fn 252 [.iptr [.imm 4 (l.map dZ)],.iptr [aH most],.iptr [.fn g caps]]):=⟨J2 l most⟩
theorem EY {g:FuncId} {caps:List AV} {u:AV} [bF Tryz.prog g] (hu:kx u=some (g,caps)) (l:List (List Int)) (err:Nat→Int) (J:Nat→AL→Prop) (L0:AL) (h0:J 0 L0) (hw:∀i x L,l[i]?=some x→J i L→AC Tryz.prog g ([aH i,.imm 1 (aO x)]++caps) L fun c L'=>c=aH (err i)∧(err i=0→J (i+1) L')):
  AC Tryz.prog 261 [.imm 1 (l.map ID),u] L0 fun r _=>r=cm (dl err l.length):=by
 refine aP Tryz.func261 rfl Tryz.ntmps261 rfl fun B=>?_
 refine d7 0 rfl rfl fun hlen=>?_
 rw [Lr] at hlen
 repeat' (first|refine ae ?_|refine a6 ?_|refine am ?_|refine a8 ?_|refine aa ?_|refine LF a7 I9 ?_)
 refine aJ [1,9,10] (α:=Nat×AL) (fun i=>[(11,aH i.1)]) (fun i=>i.1≤l.length∧J i.1 i.2∧dl err l.length=dg err (l.length - i.1) i.1) (fun i=>i.2) (fun i=>l.length - i.1) (0,L0) rfl ⟨rfl,trivial⟩ ⟨Nat.zero_le _,h0,rfl⟩ (fun _ _ h=>h) ?_
 rintro ⟨i,L⟩ ⟨hi,hj,he⟩
 dsimp only at hi hj he ⊢
 try dsimp only [Lp,Lo,Ln,Lh]
 repeat' (first|refine ae ?_|refine a6 ?_|refine a8 ?_|refine aa ?_|refine LF a7 I9 ?_)
 refine ay rfl (fun h=>?_) (fun h=>?_)
 ·have hil:i < l.length:=by have:=Ly h;simp at this;omega
  obtain ⟨z,hz⟩:∃z,l[i]?=some z:=⟨_,Lz hil⟩
  have hzg:=c7 (c:=ID) hz
  repeat' (first|refine ae ?_|refine a6 ?_|refine am ?_|refine au ?_|refine a8 ?_|refine aa ?_|refine LF a7 I9 ?_|(apply aU;first|refine aT a7 ?_|refine aN a7 ?_)|fail)
  refine dD L [] (hw i z L hz hj) rfl hu rfl (ce rfl) rfl rfl fun c L1 ⟨hc,hj'⟩=>?_
  subst hc
  rw [List.append_nil]
  repeat' (first|refine ae ?_|refine a6 ?_|refine a8 ?_|refine aa ?_|refine LF a7 I9 ?_)
  refine ay rfl (fun h2=>?_) (fun h2=>?_)
  ·have h2':=Ly h2
   repeat' (first|refine ae ?_|refine a6 ?_|refine aq ?_|refine a8 ?_|refine aC ?_|refine aQ ?_|refine bM ?_|refine aa ?_|refine LF a7 I9 ?_)
   refine LQ LA ?_
   rw [he,cJ hil h2']
   rfl
  ·have h2':=Decidable.not_not.1 (Lw h2)
   repeat' (first|refine a6 ?_|refine au ?_|refine a8 ?_|refine aM ?_|refine aa ?_|refine LF a7 I9 ?_|(apply aY;refine aX ?_)|fail)
   exact aE (i+1,L1) rfl ⟨by rw [Ls];rfl,trivial⟩ ⟨by dsimp only;omega,hj' h2',by rw [he];exact ct hil h2'⟩ (by dsimp only;omega) (fun _ _ h=>h)
 ·have hil:i=l.length:=by have:=Lw h;simp at this;omega
  subst hil
  repeat' (first|refine ae ?_|refine a6 ?_|refine aq ?_|refine aL ?_|refine a8 ?_|refine av ?_|refine aA ?_|refine aw ?_|refine aa ?_|refine LF a7 I9 ?_)
  refine LQ LA ?_
  rw [he,Nat.sub_self]
  rfl
theorem EZ {g:FuncId} {caps:List AV} {u:AV} [bF Tryz.prog g] (hu:kx u=some (g,caps)) (l:List eG) (err:Nat→Int) (J:Nat→AL→Prop) (L0:AL) (h0:J 0 L0) (hw:∀i x L,l[i]?=some x→J i L→AC Tryz.prog g ([aH i,.agg (dO x)]++caps) L fun c L'=>c=aH (err i)∧(err i=0→J (i+1) L')):
  AC Tryz.prog 274 [.imm 2 (l.map dO),u] L0 fun r _=>r=cm (dl err l.length):=by
 refine aP Tryz.func274 rfl Tryz.ntmps274 rfl fun B=>?_
 refine d7 0 rfl rfl fun hlen=>?_
 rw [Lr] at hlen
 repeat' (first|refine ae ?_|refine a6 ?_|refine am ?_|refine a8 ?_|refine aa ?_|refine LF a7 I9 ?_)
 refine aJ [1,9,10] (α:=Nat×AL) (fun i=>[(11,aH i.1)]) (fun i=>i.1≤l.length∧J i.1 i.2∧dl err l.length=dg err (l.length - i.1) i.1) (fun i=>i.2) (fun i=>l.length - i.1) (0,L0) rfl ⟨rfl,trivial⟩ ⟨Nat.zero_le _,h0,rfl⟩ (fun _ _ h=>h) ?_
 rintro ⟨i,L⟩ ⟨hi,hj,he⟩
 dsimp only at hi hj he ⊢
 try dsimp only [Lp,Lo,Ln,Lh]
 repeat' (first|refine ae ?_|refine a6 ?_|refine a8 ?_|refine aa ?_|refine LF a7 I9 ?_)
 refine ay rfl (fun h=>?_) (fun h=>?_)
 ·have hil:i < l.length:=by have:=Ly h;simp at this;omega
  obtain ⟨z,hz⟩:∃z,l[i]?=some z:=⟨_,Lz hil⟩
  have hzg:=c7 (c:=dO) hz
  repeat' (first|refine ae ?_|refine a6 ?_|refine am ?_|refine au ?_|refine a8 ?_|refine aa ?_|refine LF a7 I9 ?_|(apply aU;first|refine aT a7 ?_|refine aN a7 ?_)|(apply aK;first|refine LH 7 a7 0 LE ?_|refine LH 7 a7 1 LE ?_|refine LH 7 a7 2 LE ?_|refine LG a7 0 LD ?_|refine LG a7 1 LD ?_|refine LG a7 2 LD ?_|refine LG a7 3 LD ?_|fail)|refine bg a7 fun _=>?_|fail)
  refine dD L [] (hw i z L hz hj) rfl hu rfl (ce rfl) rfl rfl fun c L1 ⟨hc,hj'⟩=>?_
  subst hc
  rw [List.append_nil]
  repeat' (first|refine ae ?_|refine a6 ?_|refine a8 ?_|refine aa ?_|refine LF a7 I9 ?_)
  refine ay rfl (fun h2=>?_) (fun h2=>?_)
  ·have h2':=Ly h2
   repeat' (first|refine ae ?_|refine a6 ?_|refine aq ?_|refine a8 ?_|refine aC ?_|refine aQ ?_|refine bM ?_|refine aa ?_|refine LF a7 I9 ?_)
   refine LQ LA ?_
   rw [he,cJ hil h2']
   rfl
  ·have h2':=Decidable.not_not.1 (Lw h2)
   repeat' (first|refine a6 ?_|refine au ?_|refine a8 ?_|refine aM ?_|refine aa ?_|refine LF a7 I9 ?_|(apply aY;refine aX ?_)|fail)
   exact aE (i+1,L1) rfl ⟨by rw [Ls];rfl,trivial⟩ ⟨by dsimp only;omega,hj' h2',by rw [he];exact ct hil h2'⟩ (by dsimp only;omega) (fun _ _ h=>h)
 ·have hil:i=l.length:=by have:=Lw h;simp at this;omega
  subst hil
  repeat' (first|refine ae ?_|refine a6 ?_|refine aq ?_|refine aL ?_|refine a8 ?_|refine av ?_|refine aA ?_|refine aw ?_|refine aa ?_|refine LF a7 I9 ?_)
  refine LQ LA ?_
  rw [he,Nat.sub_self]
  rfl
theorem FT {g:FuncId} {caps:List AV} {u:AV} [bF Tryz.prog g] (hu:kx u=some (g,caps)) (l:List eG) (most:Int) (err:Nat→Int) (J:Nat→AL→Prop) (L0:AL) (h0:J 0 L0) (hw:(l.length:Int)≤most→∀i x L,l[i]?=some x→J i L→AC Tryz.prog g ([aH i,.agg (dO x)]++caps) L fun c L'=>c=aH (err i)∧(err i=0→J (i+1) L')):
  AC Tryz.prog 273 [.iptr [.imm 2 (l.map dO)],.iptr [aH most],.iptr [u]] L0 fun r _=>r=cm (da most err l.length):=by
 refine aP Tryz.func273 rfl Tryz.ntmps273 rfl fun B=>?_
 repeat' (first|refine ae ?_|refine a6 ?_|refine a8 ?_|refine aa ?_|refine LF a7 I9 ?_)
 refine ay rfl (fun h=>?_) (fun h=>?_)
 ·have h':=Ly h
  rw [Lr] at h'
  repeat' (first|refine ae ?_|refine a6 ?_|refine aq ?_|refine a8 ?_|refine aC ?_|refine aa ?_|refine LF a7 I9 ?_)
  refine LQ LA ?_
  unfold da
  rw [if_pos h']
  rfl
 ·have h':=Lw h
  rw [Lr] at h'
  repeat' (first|refine ae ?_|refine a6 ?_|refine au ?_|refine a8 ?_|refine LF a7 I9 ?_)
  refine bh L0 [] (EZ hu l err J L0 h0 (hw (by omega))) rfl (fQ hu) (ce rfl) rfl fun c L1 hc=>?_
  subst hc
  repeat' (first|refine aq ?_|refine a8 ?_|refine aa ?_|refine LF a7 I9 ?_)
  refine LQ LA ?_
  unfold da
  rw [if_neg h']
  rfl
theorem HH {g:FuncId} (l:List eG) (most:Int):bH Tryz.prog 212 [.imm 2 (l.map dO),aH most,.sc (.func (.func g) #[] #[])] (.fn 273 [.iptr [.imm 2 (l.map dO)],.iptr [aH most],.iptr [.sc (.func (.func g) #[] #[])]]):=by
 refine aP Tryz.func212 rfl Tryz.ntmps212 rfl fun B=>?_
 repeat' (first|refine ae ?_|refine a6 ?_|refine aq ?_|refine a8 ?_|refine aa ?_|refine LF a7 I9 ?_|refine bo ?_|fail)
 exact LK LA
instance {g:FuncId} (l:List eG) (most:Int):AD Tryz.prog 212 [.imm 2 (l.map dO),aH most,.sc (.func (.func g) #[] #[])] (.fn 273 [.iptr [.imm 2 (l.map dO)],.iptr [aH most],.iptr [.sc (.func (.func g) #[] #[])]]):=⟨HH l most⟩
theorem F0 {g:FuncId} {caps:List AV} {u:AV} [bF Tryz.prog g] (hu:kx u=some (g,caps)) (l:List j9) (err:Nat→Int) (J:Nat→AL→Prop) (L0:AL) (h0:J 0 L0) (hw:∀i x L,l[i]?=some x→J i L→AC Tryz.prog g ([aH i,.agg (fW x)]++caps) L fun c L'=>c=aH (err i)∧(err i=0→J (i+1) L')):
  AC Tryz.prog 318 [.imm 2 (l.map fW),u] L0 fun r _=>r=cm (dl err l.length):=by
 refine aP Tryz.func318 rfl Tryz.ntmps318 rfl fun B=>?_
 refine d7 0 rfl rfl fun hlen=>?_
 rw [Lr] at hlen
 repeat' (first|refine ae ?_|refine a6 ?_|refine am ?_|refine a8 ?_|refine aa ?_|refine LF a7 I9 ?_)
 refine aJ [1,9,10] (α:=Nat×AL) (fun i=>[(11,aH i.1)]) (fun i=>i.1≤l.length∧J i.1 i.2∧dl err l.length=dg err (l.length - i.1) i.1) (fun i=>i.2) (fun i=>l.length - i.1) (0,L0) rfl ⟨rfl,trivial⟩ ⟨Nat.zero_le _,h0,rfl⟩ (fun _ _ h=>h) ?_
 rintro ⟨i,L⟩ ⟨hi,hj,he⟩
 dsimp only at hi hj he ⊢
 try dsimp only [Lp,Lo,Ln,Lh]
 repeat' (first|refine ae ?_|refine a6 ?_|refine a8 ?_|refine aa ?_|refine LF a7 I9 ?_)
 refine ay rfl (fun h=>?_) (fun h=>?_)
 ·have hil:i < l.length:=by have:=Ly h;simp at this;omega
  obtain ⟨z,hz⟩:∃z,l[i]?=some z:=⟨_,Lz hil⟩
  have hzg:=c7 (c:=fW) hz
  repeat' (first|refine ae ?_|refine a6 ?_|refine am ?_|refine au ?_|refine a8 ?_|refine aa ?_|refine LF a7 I9 ?_|(apply aU;first|refine aT a7 ?_|refine aN a7 ?_)|(apply aK;first|refine LH 7 a7 0 LE ?_|refine LH 7 a7 1 LE ?_|refine LH 7 a7 2 LE ?_|refine LG a7 0 LD ?_|refine LG a7 1 LD ?_|refine LG a7 2 LD ?_|refine LG a7 3 LD ?_|fail)|refine bg a7 fun _=>?_|fail)
  refine dD L [] (hw i z L hz hj) rfl hu rfl (ce rfl) rfl rfl fun c L1 ⟨hc,hj'⟩=>?_
  subst hc
  rw [List.append_nil]
  repeat' (first|refine ae ?_|refine a6 ?_|refine a8 ?_|refine aa ?_|refine LF a7 I9 ?_)
  refine ay rfl (fun h2=>?_) (fun h2=>?_)
  ·have h2':=Ly h2
   repeat' (first|refine ae ?_|refine a6 ?_|refine aq ?_|refine a8 ?_|refine aC ?_|refine aQ ?_|refine bM ?_|refine aa ?_|refine LF a7 I9 ?_)
   refine LQ LA ?_
   rw [he,cJ hil h2']
   rfl
  ·have h2':=Decidable.not_not.1 (Lw h2)
   repeat' (first|refine a6 ?_|refine au ?_|refine a8 ?_|refine aM ?_|refine aa ?_|refine LF a7 I9 ?_|(apply aY;refine aX ?_)|fail)
   exact aE (i+1,L1) rfl ⟨by rw [Ls];rfl,trivial⟩ ⟨by dsimp only;omega,hj' h2',by rw [he];exact ct hil h2'⟩ (by dsimp only;omega) (fun _ _ h=>h)
 ·have hil:i=l.length:=by have:=Lw h;simp at this;omega
  subst hil
  repeat' (first|refine ae ?_|refine a6 ?_|refine aq ?_|refine aL ?_|refine a8 ?_|refine av ?_|refine aA ?_|refine aw ?_|refine aa ?_|refine LF a7 I9 ?_)
  refine LQ LA ?_
  rw [he,Nat.sub_self]
  rfl
theorem mD {g:FuncId} {caps:List AV} {u:AV} [bF Tryz.prog g] (hu:kx u=some (g,caps)) (l:List Int) (err:Nat→Int) (J:Nat→AL→Prop) (L0:AL) (h0:J 0 L0) (hw:∀i x L,l[i]?=some x→J i L→AC Tryz.prog g ([aH i,aH x]++caps) L fun c L'=>c=aH (err i)∧(err i=0→J (i+1) L')):
  AC Tryz.prog 187 [.imm 1 (l.map zk),u] L0 fun r _=>r=cm (dl err l.length):=by
 refine aP Tryz.func187 rfl Tryz.ntmps187 rfl fun B=>?_
 refine d7 0 rfl rfl fun hlen=>?_
 rw [Lr] at hlen
 repeat' (first|refine ae ?_|refine a6 ?_|refine am ?_|refine a8 ?_|refine aa ?_|refine LF a7 I9 ?_)
 refine aJ [1,9,10] (α:=Nat×AL) (fun i=>[(11,aH i.1)]) (fun i=>i.1≤l.length∧J i.1 i.2∧dl err l.length=dg err (l.length - i.1) i.1) (fun i=>i.2) (fun i=>l.length - i.1) (0,L0) rfl ⟨rfl,trivial⟩ ⟨Nat.zero_le _,h0,rfl⟩ (fun _ _ h=>h) ?_
 rintro ⟨i,L⟩ ⟨hi,hj,he⟩
 dsimp only at hi hj he ⊢
 try dsimp only [Lp,Lo,Ln,Lh]
 repeat' (first|refine ae ?_|refine a6 ?_|refine a8 ?_|refine aa ?_|refine LF a7 I9 ?_)
 refine ay rfl (fun h=>?_) (fun h=>?_)
 ·have hil:i < l.length:=by have:=Ly h;simp at this;omega
  obtain ⟨z,hz⟩:∃z,l[i]?=some z:=⟨_,Lz hil⟩
  have hzg:=c7 (c:=zk) hz
  repeat' (first|refine ae ?_|refine a6 ?_|refine am ?_|refine au ?_|refine a8 ?_|refine aa ?_|refine LF a7 I9 ?_|(apply aU;first|refine aT a7 ?_|refine aN a7 ?_)|fail)
  refine dD L [] (hw i z L hz hj) rfl hu rfl (ce rfl) rfl rfl fun c L1 ⟨hc,hj'⟩=>?_
  subst hc
  rw [List.append_nil]
  repeat' (first|refine ae ?_|refine a6 ?_|refine a8 ?_|refine aa ?_|refine LF a7 I9 ?_)
  refine ay rfl (fun h2=>?_) (fun h2=>?_)
  ·have h2':=Ly h2
   repeat' (first|refine ae ?_|refine a6 ?_|refine aq ?_|refine a8 ?_|refine aC ?_|refine aQ ?_|refine bM ?_|refine aa ?_|refine LF a7 I9 ?_)
   refine LQ LA ?_
   rw [he,cJ hil h2']
   rfl
  ·have h2':=Decidable.not_not.1 (Lw h2)
   repeat' (first|refine a6 ?_|refine au ?_|refine a8 ?_|refine aM ?_|refine aa ?_|refine LF a7 I9 ?_|(apply aY;refine aX ?_)|fail)
   exact aE (i+1,L1) rfl ⟨by rw [Ls];rfl,trivial⟩ ⟨by dsimp only;omega,hj' h2',by rw [he];exact ct hil h2'⟩ (by dsimp only;omega) (fun _ _ h=>h)
 ·have hil:i=l.length:=by have:=Lw h;simp at this;omega
  subst hil
  repeat' (first|refine ae ?_|refine a6 ?_|refine aq ?_|refine aL ?_|refine a8 ?_|refine av ?_|refine aA ?_|refine aw ?_|refine aa ?_|refine LF a7 I9 ?_)
  refine LQ LA ?_
  rw [he,Nat.sub_self]
  rfl
theorem FP {g:FuncId} {caps:List AV} {u:AV} [bF Tryz.prog g] (hu:kx u=some (g,caps)) (l:List Int) (most:Int) (err:Nat→Int) (J:Nat→AL→Prop) (L0:AL) (h0:J 0 L0) (hw:(l.length:Int)≤most→∀i x L,l[i]?=some x→J i L→AC Tryz.prog g ([aH i,aH x]++caps) L fun c L'=>c=aH (err i)∧(err i=0→J (i+1) L')):
  AC Tryz.prog 214 [.iptr [.imm 1 (l.map zk)],.iptr [aH most],.iptr [u]] L0 fun r _=>r=cm (da most err l.length):=by
 refine aP Tryz.func214 rfl Tryz.ntmps214 rfl fun B=>?_
 repeat' (first|refine ae ?_|refine a6 ?_|refine a8 ?_|refine aa ?_|refine LF a7 I9 ?_)
 refine ay rfl (fun h=>?_) (fun h=>?_)
 ·have h':=Ly h
  rw [Lr] at h'
  repeat' (first|refine ae ?_|refine a6 ?_|refine aq ?_|refine a8 ?_|refine aC ?_|refine aa ?_|refine LF a7 I9 ?_)
  refine LQ LA ?_
  unfold da
  rw [if_pos h']
  rfl
 ·have h':=Lw h
  rw [Lr] at h'
  repeat' (first|refine ae ?_|refine a6 ?_|refine au ?_|refine a8 ?_|refine LF a7 I9 ?_)
  refine bh L0 [] (mD hu l err J L0 h0 (hw (by omega))) rfl (fQ hu) (ce rfl) rfl fun c L1 hc=>?_
  subst hc
  repeat' (first|refine aq ?_|refine a8 ?_|refine aa ?_|refine LF a7 I9 ?_)
  refine LQ LA ?_
  unfold da
  rw [if_neg h']
  rfl
theorem HG {g:FuncId} (l:List Int) (most:Int):bH Tryz.prog 133 [.imm 1 (l.map zk),aH most,.sc (.func (.func g) #[] #[])] (.fn 214 [.iptr [.imm 1 (l.map zk)],.iptr [aH most],.iptr [.sc (.func (.func g) #[] #[])]]):=by
 refine aP Tryz.func133 rfl Tryz.ntmps133 rfl fun B=>?_
 repeat' (first|refine ae ?_|refine a6 ?_|refine aq ?_|refine a8 ?_|refine aa ?_|refine LF a7 I9 ?_|refine bo ?_|fail)
 exact LK LA
end Go.Proofs.YtamjlkdanllgjaaGreatDoor
