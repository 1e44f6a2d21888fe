/-
  The program: looks at things, one by one.
-/
import Derived.Test.YtpmdfoaadejmkaaGreatDoorM06
import Derived.Test.YtpmdfoaadejmkaaGreatDoorM08
namespace Go.Proofs.YtpmdfoaadejmkaaGreatDoor
open Go.RowKit
attribute [local irreducible] AT bP AX AO Av Kt bb dh DA cG
def dL (err:Nat→Int):Nat→Nat→Int×Int
 | 0,_=>(0,0)
 | k+1,i=>if err i=0 then dL err k (i+1) else (err i,i)
def dK (err:Nat→Int) (n:Nat):Int×Int:=dL err n 0
def dB (most:Int) (err:Nat→Int) (n:Nat):Int×Int:=if (n:Int) > most then (2,0) else dK err n
def co (p:Int×Int):AV:= .tup [aK p.1,aK p.2]
theorem cI {err:Nat→Int} {n i:Nat} (hi:i < n) (h:err i=0):dL err (n - i) i=dL err (n - (i+1)) (i+1):=by
 rw [show n - i=(n - (i+1))+1 by omega]
 simp only [dL,h,if_true]
theorem cU {err:Nat→Int} {n i:Nat} (hi:i < n) (h:err i≠0):dL err (n - i) i=(err i,(i:Int)):=by
 rw [show n - i=(n - (i+1))+1 by omega]
 simp only [dL,h,if_false]
def L5 (q:List Int):List AV:=[.imm 1 (aW q)]
def BI (z:Int):List AV:=[aK z]
theorem gH {g:FuncId} {caps:List AV} {u:AV} (hu:lG u=some (g,caps)) {s:Nat} {l:List (List AV)}:n9 [.imm s l,u]=some [.imm s l,u]:=by
 unfold lG at hu
 split at hu <;> first | rfl | cases hu
theorem cy {L L':AL} (h:L=L'):L.Perm (L'++[]):=by rw [List.append_nil,h]
def MJ (P:Program) (g:FuncId) (caps:List AV) (n:Nat) (arg:Nat→AV) (err:Nat→Int) (J:Nat→AL→Prop):Prop:=∀i L,i < n→J i L→AC P g ([aK i,arg i]++caps) L fun c L'=>c=aK (err i)∧(err i=0→J (i+1) L')
theorem Hp {g:FuncId} {caps:List AV} {u:AV} [bS Tryz.prog g] (hu:lG u=some (g,caps)) (l:List bj) (err:Nat→Int) (J:Nat→AL→Prop) (L0:AL) (h0:J 0 L0) (hw:∀i x L,l[i]?=some x→J i L→AC Tryz.prog g ([aK i,.agg (bD x)]++caps) L fun c L'=>c=aK (err i)∧(err i=0→J (i+1) L')):
  AC Tryz.prog 113 [.imm 9 (l.map bD),u] L0 fun r _=>r=co (dK err l.length):=by
 refine aV Tryz.func113 rfl Tryz.ntmps113 rfl fun B=>?_
 refine cR 0 rfl rfl fun hlen=>?_
 rw [Nu] at hlen
 refine W03 ?_
 refine aM [1,9,10] (α:=Nat×AL) (fun i=>[(11,aK i.1)]) (fun i=>i.1≤l.length∧J i.1 i.2∧dK err l.length=dL err (l.length - i.1) i.1) (fun i=>i.2) (fun i=>l.length - i.1) (0,L0) rfl ⟨rfl,trivial⟩ ⟨Nat.zero_le _,h0,rfl⟩ (fun _ _ h=>h) ?_
 rintro ⟨i,L⟩ ⟨hi,hj,he⟩
 dsimp only at hi hj he ⊢
 try dsimp only [Ns,Nr,Nq,Nk]
 refine W01 ?_
 refine aj rfl (fun h=>?_) (fun h=>?_)
 ·have hil:i < l.length:=by have:=Ny h;simp at this;omega
  obtain ⟨z,hz⟩:∃z,l[i]?=some z:=⟨_,Nz hil⟩
  have hzg:=bG (c:=bD) hz
  refine W06 ?_
  intros
  refine dE L [] (hw i z L hz hj) rfl hu rfl (cy rfl) rfl rfl fun c L1 ⟨hc,hj'⟩=>?_
  subst hc
  rw [List.append_nil]
  refine W01 ?_
  refine aj rfl (fun h2=>?_) (fun h2=>?_)
  ·have h2':=Ny h2
   refine W01 ?_
   refine NT NA ?_
   rw [he,cU hil h2']
   rfl
  ·have h2':=Decidable.not_not.1 (Nx h2)
   refine W02 ?_
   exact aC (i+1,L1) rfl ⟨by rw [Nv];rfl,trivial⟩ ⟨by dsimp only;omega,hj' h2',by rw [he];exact cI hil h2'⟩ (by dsimp only;omega) (fun _ _ h=>h)
 ·have hil:i=l.length:=by have:=Nx h;simp at this;omega
  subst hil
  refine W01 ?_
  refine NT NA ?_
  rw [he,Nat.sub_self]
  rfl
theorem B6 {g:FuncId} {caps:List AV} {u:AV} [bS Tryz.prog g] (hu:lG u=some (g,caps)) (l:List bj) (most:Int) (err:Nat→Int) (J:Nat→AL→Prop) (L0:AL) (h0:J 0 L0) (hw:(l.length:Int)≤most→∀i x L,l[i]?=some x→J i L→AC Tryz.prog g ([aK i,.agg (bD x)]++caps) L fun c L'=>c=aK (err i)∧(err i=0→J (i+1) L')):
  AC Tryz.prog 112 [.iptr [.imm 9 (l.map bD)],.iptr [aK most],.iptr [u]] L0 fun r _=>r=co (dB most err l.length):=by
 refine aV Tryz.func112 rfl Tryz.ntmps112 rfl fun B=>?_
 refine W01 ?_
 refine aj rfl (fun h=>?_) (fun h=>?_)
 ·have h':=Ny h
  rw [Nu] at h'
  refine W01 ?_
  refine NT NA ?_
  unfold dB
  rw [if_pos h']
  rfl
 ·have h':=Nx h
  rw [Nu] at h'
  refine W01 ?_
  refine b7 L0 [] (Hp hu l err J L0 h0 (hw (by omega))) rfl (gH hu) (cy rfl) rfl fun c L1 hc=>?_
  subst hc
  refine W01 ?_
  refine NT NA ?_
  unfold dB
  rw [if_neg h']
  rfl
theorem Mm {g:FuncId} {caps:List AV} (l:List bj) (most:Int):bV Tryz.prog 50 [.imm 9 (l.map bD),aK most,.fn g caps] (.fn 112 [.iptr [.imm 9 (l.map bD)],.iptr [aK most],.iptr [.fn g caps]]):=by
 refine aV Tryz.func50 rfl Tryz.ntmps50 rfl fun B=>?_
 refine W08 ?_
 exact NQ NA
instance {g:FuncId} {caps:List AV} (l:List bj) (most:Int):AD Tryz.prog 50 [.imm 9 (l.map bD),aK most,.fn g caps] (.fn 112 [.iptr [.imm 9 (l.map bD)],.iptr [aK most],.iptr [.fn g caps]]):=⟨Mm l most⟩
theorem Hq {g:FuncId} {caps:List AV} {u:AV} [bS Tryz.prog g] (hu:lG u=some (g,caps)) (l:List gu) (err:Nat→Int) (J:Nat→AL→Prop) (L0:AL) (h0:J 0 L0) (hw:∀i x L,l[i]?=some x→J i L→AC Tryz.prog g ([aK i,.agg (ek x)]++caps) L fun c L'=>c=aK (err i)∧(err i=0→J (i+1) L')):
  AC Tryz.prog 133 [.imm 2 (l.map ek),u] L0 fun r _=>r=co (dK err l.length):=by
 refine aV Tryz.func133 rfl Tryz.ntmps133 rfl fun B=>?_
 refine cR 0 rfl rfl fun hlen=>?_
 rw [Nu] at hlen
 refine W03 ?_
 refine aM [1,9,10] (α:=Nat×AL) (fun i=>[(11,aK i.1)]) (fun i=>i.1≤l.length∧J i.1 i.2∧dK err l.length=dL err (l.length - i.1) i.1) (fun i=>i.2) (fun i=>l.length - i.1) (0,L0) rfl ⟨rfl,trivial⟩ ⟨Nat.zero_le _,h0,rfl⟩ (fun _ _ h=>h) ?_
 rintro ⟨i,L⟩ ⟨hi,hj,he⟩
 dsimp only at hi hj he ⊢
 try dsimp only [Ns,Nr,Nq,Nk]
 refine W01 ?_
 refine aj rfl (fun h=>?_) (fun h=>?_)
 ·have hil:i < l.length:=by have:=Ny h;simp at this;omega
  obtain ⟨z,hz⟩:∃z,l[i]?=some z:=⟨_,Nz hil⟩
  have hzg:=bG (c:=ek) hz
  refine W06 ?_
  intros
  refine dE L [] (hw i z L hz hj) rfl hu rfl (cy rfl) rfl rfl fun c L1 ⟨hc,hj'⟩=>?_
  subst hc
  rw [List.append_nil]
  refine W01 ?_
  refine aj rfl (fun h2=>?_) (fun h2=>?_)
  ·have h2':=Ny h2
   refine W01 ?_
   refine NT NA ?_
   rw [he,cU hil h2']
   rfl
  ·have h2':=Decidable.not_not.1 (Nx h2)
   refine W02 ?_
   exact aC (i+1,L1) rfl ⟨by rw [Nv];rfl,trivial⟩ ⟨by dsimp only;omega,hj' h2',by rw [he];exact cI hil h2'⟩ (by dsimp only;omega) (fun _ _ h=>h)
 ·have hil:i=l.length:=by have:=Nx h;simp at this;omega
  subst hil
  refine W01 ?_
  refine NT NA ?_
  rw [he,Nat.sub_self]
  rfl
theorem Ig {g:FuncId} {caps:List AV} {u:AV} [bS Tryz.prog g] (hu:lG u=some (g,caps)) (l:List gu) (most:Int) (err:Nat→Int) (J:Nat→AL→Prop) (L0:AL) (h0:J 0 L0) (hw:(l.length:Int)≤most→∀i x L,l[i]?=some x→J i L→AC Tryz.prog g ([aK i,.agg (ek x)]++caps) L fun c L'=>c=aK (err i)∧(err i=0→J (i+1) L')):
  AC Tryz.prog 132 [.iptr [.imm 2 (l.map ek)],.iptr [aK most],.iptr [u]] L0 fun r _=>r=co (dB most err l.length):=by
 refine aV Tryz.func132 rfl Tryz.ntmps132 rfl fun B=>?_
 refine W01 ?_
 refine aj rfl (fun h=>?_) (fun h=>?_)
 ·have h':=Ny h
  rw [Nu] at h'
  refine W01 ?_
  refine NT NA ?_
  unfold dB
  rw [if_pos h']
  rfl
 ·have h':=Nx h
  rw [Nu] at h'
  refine W01 ?_
  refine b7 L0 [] (Hq hu l err J L0 h0 (hw (by omega))) rfl (gH hu) (cy rfl) rfl fun c L1 hc=>?_
  subst hc
  refine W01 ?_
  refine NT NA ?_
  unfold dB
  rw [if_neg h']
  rfl
theorem Mn {g:FuncId} {caps:List AV} (l:List gu) (most:Int):bV Tryz.prog 57 [.imm 2 (l.map ek),aK most,.fn g caps] (.fn 132 [.iptr [.imm 2 (l.map ek)],.iptr [aK most],.iptr [.fn g caps]]):=by
 refine aV Tryz.func57 rfl Tryz.ntmps57 rfl fun B=>?_
 refine W08 ?_
 exact NQ NA
instance {g:FuncId} {caps:List AV} (l:List gu) (most:Int):AD Tryz.prog 57 [.imm 2 (l.map ek),aK most,.fn g caps] (.fn 132 [.iptr [.imm 2 (l.map ek)],.iptr [aK most],.iptr [.fn g caps]]):=⟨Mn l most⟩
theorem Hr {g:FuncId} {caps:List AV} {u:AV} [bS Tryz.prog g] (hu:lG u=some (g,caps)) (l:List aY) (err:Nat→Int) (J:Nat→AL→Prop) (L0:AL) (h0:J 0 L0) (hw:∀i x L,l[i]?=some x→J i L→AC Tryz.prog g ([aK i,.agg (br x)]++caps) L fun c L'=>c=aK (err i)∧(err i=0→J (i+1) L')):
  AC Tryz.prog 135 [.imm 3 (l.map br),u] L0 fun r _=>r=co (dK err l.length):=by
 refine aV Tryz.func135 rfl Tryz.ntmps135 rfl fun B=>?_
 refine cR 0 rfl rfl fun hlen=>?_
 rw [Nu] at hlen
 refine W03 ?_
 refine aM [1,9,10] (α:=Nat×AL) (fun i=>[(11,aK i.1)]) (fun i=>i.1≤l.length∧J i.1 i.2∧dK err l.length=dL err (l.length - i.1) i.1) (fun i=>i.2) (fun i=>l.length - i.1) (0,L0) rfl ⟨rfl,trivial⟩ ⟨Nat.zero_le _,h0,rfl⟩ (fun _ _ h=>h) ?_
 rintro ⟨i,L⟩ ⟨hi,hj,he⟩
 dsimp only at hi hj he ⊢
 try dsimp only [Ns,Nr,Nq,Nk]
 refine W01 ?_
 refine aj rfl (fun h=>?_) (fun h=>?_)
 ·have hil:i < l.length:=by have:=Ny h;simp at this;omega
  obtain ⟨z,hz⟩:∃z,l[i]?=some z:=⟨_,Nz hil⟩
  have hzg:=bG (c:=br) hz
  refine W06 ?_
  intros
  refine dE L [] (hw i z L hz hj) rfl hu rfl (cy rfl) rfl rfl fun c L1 ⟨hc,hj'⟩=>?_
  subst hc
  rw [List.append_nil]
  refine W01 ?_
  refine aj rfl (fun h2=>?_) (fun h2=>?_)
  ·have h2':=Ny h2
   refine W01 ?_
   refine NT NA ?_
   rw [he,cU hil h2']
   rfl
  ·have h2':=Decidable.not_not.1 (Nx h2)
   refine W02 ?_
   exact aC (i+1,L1) rfl ⟨by rw [Nv];rfl,trivial⟩ ⟨by dsimp only;omega,hj' h2',by rw [he];exact cI hil h2'⟩ (by dsimp only;omega) (fun _ _ h=>h)
 ·have hil:i=l.length:=by have:=Nx h;simp at this;omega
  subst hil
  refine W01 ?_
  refine NT NA ?_
  rw [he,Nat.sub_self]
  rfl
theorem Ih {g:FuncId} {caps:List AV} {u:AV} [bS Tryz.prog g] (hu:lG u=some (g,caps)) (l:List aY) (most:Int) (err:Nat→Int) (J:Nat→AL→Prop) (L0:AL) (h0:J 0 L0) (hw:(l.length:Int)≤most→∀i x L,l[i]?=some x→J i L→AC Tryz.prog g ([aK i,.agg (br x)]++caps) L fun c L'=>c=aK (err i)∧(err i=0→J (i+1) L')):
  AC Tryz.prog 134 [.iptr [.imm 3 (l.map br)],.iptr [aK most],.iptr [u]] L0 fun r _=>r=co (dB most err l.length):=by
 refine aV Tryz.func134 rfl Tryz.ntmps134 rfl fun B=>?_
 refine W01 ?_
 refine aj rfl (fun h=>?_) (fun h=>?_)
 ·have h':=Ny h
  rw [Nu] at h'
  refine W01 ?_
  refine NT NA ?_
  unfold dB
  rw [if_pos h']
  rfl
 ·have h':=Nx h
  rw [Nu] at h'
  refine W01 ?_
  refine b7 L0 [] (Hr hu l err J L0 h0 (hw (by omega))) rfl (gH hu) (cy rfl) rfl fun c L1 hc=>?_
  subst hc
  refine W01 ?_
  refine NT NA ?_
  unfold dB
  rw [if_neg h']
  rfl
theorem Mo {g:FuncId} {caps:List AV} (l:List aY) (most:Int):bV Tryz.prog 60 [.imm 3 (l.map br),aK most,.fn g caps] (.fn 134 [.iptr [.imm 3 (l.map br)],.iptr [aK most],.iptr [.fn g caps]]):=by
 refine aV Tryz.func60 rfl Tryz.ntmps60 rfl fun B=>?_
 refine W08 ?_
 exact NQ NA
instance {g:FuncId} {caps:List AV} (l:List aY) (most:Int):AD Tryz.prog 60 [.imm 3 (l.map br),aK most,.fn g caps] (.fn 134 [.iptr [.imm 3 (l.map br)],.iptr [aK most],.iptr [.fn g caps]]):=⟨Mo l most⟩
theorem Hs {g:FuncId} {caps:List AV} {u:AV} [bS Tryz.prog g] (hu:lG u=some (g,caps)) (l:List bk) (err:Nat→Int) (J:Nat→AL→Prop) (L0:AL) (h0:J 0 L0) (hw:∀i x L,l[i]?=some x→J i L→AC Tryz.prog g ([aK i,.agg (bI x)]++caps) L fun c L'=>c=aK (err i)∧(err i=0→J (i+1) L')):
  AC Tryz.prog 139 [.imm 6 (l.map bI),u] L0 fun r _=>r=co (dK err l.length):=by
 refine aV Tryz.func139 rfl Tryz.ntmps139 rfl fun B=>?_
 refine cR 0 rfl rfl fun hlen=>?_
 rw [Nu] at hlen
 refine W03 ?_
 refine aM [1,9,10] (α:=Nat×AL) (fun i=>[(11,aK i.1)]) (fun i=>i.1≤l.length∧J i.1 i.2∧dK err l.length=dL err (l.length - i.1) i.1) (fun i=>i.2) (fun i=>l.length - i.1) (0,L0) rfl ⟨rfl,trivial⟩ ⟨Nat.zero_le _,h0,rfl⟩ (fun _ _ h=>h) ?_
 rintro ⟨i,L⟩ ⟨hi,hj,he⟩
 dsimp only at hi hj he ⊢
 try dsimp only [Ns,Nr,Nq,Nk]
 refine W01 ?_
 refine aj rfl (fun h=>?_) (fun h=>?_)
 ·have hil:i < l.length:=by have:=Ny h;simp at this;omega
  obtain ⟨z,hz⟩:∃z,l[i]?=some z:=⟨_,Nz hil⟩
  have hzg:=bG (c:=bI) hz
  refine W06 ?_
  intros
  refine dE L [] (hw i z L hz hj) rfl hu rfl (cy rfl) rfl rfl fun c L1 ⟨hc,hj'⟩=>?_
  subst hc
  rw [List.append_nil]
  refine W01 ?_
  refine aj rfl (fun h2=>?_) (fun h2=>?_)
  ·have h2':=Ny h2
   refine W01 ?_
   refine NT NA ?_
   rw [he,cU hil h2']
   rfl
  ·have h2':=Decidable.not_not.1 (Nx h2)
   refine W02 ?_
   exact aC (i+1,L1) rfl ⟨by rw [Nv];rfl,trivial⟩ ⟨by dsimp only;omega,hj' h2',by rw [he];exact cI hil h2'⟩ (by dsimp only;omega) (fun _ _ h=>h)
 ·have hil:i=l.length:=by have:=Nx h;simp at this;omega
  subst hil
  refine W01 ?_
  refine NT NA ?_
  rw [he,Nat.sub_self]
  rfl
theorem Ht {g:FuncId} {caps:List AV} {u:AV} [bS Tryz.prog g] (hu:lG u=some (g,caps)) (l:List c6) (err:Nat→Int) (J:Nat→AL→Prop) (L0:AL) (h0:J 0 L0) (hw:∀i x L,l[i]?=some x→J i L→AC Tryz.prog g ([aK i,.agg (cg x)]++caps) L fun c L'=>c=aK (err i)∧(err i=0→J (i+1) L')):
  AC Tryz.prog 143 [.imm 2 (l.map cg),u] L0 fun r _=>r=co (dK err l.length):=by
 refine aV Tryz.func143 rfl Tryz.ntmps143 rfl fun B=>?_
 refine cR 0 rfl rfl fun hlen=>?_
 rw [Nu] at hlen
 refine W03 ?_
 refine aM [1,9,10] (α:=Nat×AL) (fun i=>[(11,aK i.1)]) (fun i=>i.1≤l.length∧J i.1 i.2∧dK err l.length=dL err (l.length - i.1) i.1) (fun i=>i.2) (fun i=>l.length - i.1) (0,L0) rfl ⟨rfl,trivial⟩ ⟨Nat.zero_le _,h0,rfl⟩ (fun _ _ h=>h) ?_
 rintro ⟨i,L⟩ ⟨hi,hj,he⟩
 dsimp only at hi hj he ⊢
 try dsimp only [Ns,Nr,Nq,Nk]
 refine W01 ?_
 refine aj rfl (fun h=>?_) (fun h=>?_)
 ·have hil:i < l.length:=by have:=Ny h;simp at this;omega
  obtain ⟨z,hz⟩:∃z,l[i]?=some z:=⟨_,Nz hil⟩
  have hzg:=bG (c:=cg) hz
  refine W06 ?_
  intros
  refine dE L [] (hw i z L hz hj) rfl hu rfl (cy rfl) rfl rfl fun c L1 ⟨hc,hj'⟩=>?_
  subst hc
  rw [List.append_nil]
  refine W01 ?_
  refine aj rfl (fun h2=>?_) (fun h2=>?_)
  ·have h2':=Ny h2
   refine W01 ?_
   refine NT NA ?_
   rw [he,cU hil h2']
   rfl
  ·have h2':=Decidable.not_not.1 (Nx h2)
   refine W02 ?_
   exact aC (i+1,L1) rfl ⟨by rw [Nv];rfl,trivial⟩ ⟨by dsimp only;omega,hj' h2',by rw [he];exact cI hil h2'⟩ (by dsimp only;omega) (fun _ _ h=>h)
 ·have hil:i=l.length:=by have:=Nx h;simp at this;omega
  subst hil
  refine W01 ?_
  refine NT NA ?_
  rw [he,Nat.sub_self]
  rfl
theorem Ii {g:FuncId} {caps:List AV} {u:AV} [bS Tryz.prog g] (hu:lG u=some (g,caps)) (l:List c6) (most:Int) (err:Nat→Int) (J:Nat→AL→Prop) (L0:AL) (h0:J 0 L0) (hw:(l.length:Int)≤most→∀i x L,l[i]?=some x→J i L→AC Tryz.prog g ([aK i,.agg (cg x)]++caps) L fun c L'=>c=aK (err i)∧(err i=0→J (i+1) L')):
  AC Tryz.prog 142 [.iptr [.imm 2 (l.map cg)],.iptr [aK most],.iptr [u]] L0 fun r _=>r=co (dB most err l.length):=by
 refine aV Tryz.func142 rfl Tryz.ntmps142 rfl fun B=>?_
 refine W01 ?_
 refine aj rfl (fun h=>?_) (fun h=>?_)
 ·have h':=Ny h
  rw [Nu] at h'
  refine W01 ?_
  refine NT NA ?_
  unfold dB
  rw [if_pos h']
  rfl
 ·have h':=Nx h
  rw [Nu] at h'
  refine W01 ?_
  refine b7 L0 [] (Ht hu l err J L0 h0 (hw (by omega))) rfl (gH hu) (cy rfl) rfl fun c L1 hc=>?_
  subst hc
  refine W01 ?_
  refine NT NA ?_
  unfold dB
  rw [if_neg h']
  rfl
theorem Mp {g:FuncId} {caps:List AV} (l:List c6) (most:Int):bV Tryz.prog 63 [.imm 2 (l.map cg),aK most,.fn g caps] (.fn 142 [.iptr [.imm 2 (l.map cg)],.iptr [aK most],.iptr [.fn g caps]]):=by
 refine aV Tryz.func63 rfl Tryz.ntmps63 rfl fun B=>?_
 refine W08 ?_
 exact NQ NA
instance {g:FuncId} {caps:List AV} (l:List c6) (most:Int):AD Tryz.prog 63 [.imm 2 (l.map cg),aK most,.fn g caps] (.fn 142 [.iptr [.imm 2 (l.map cg)],.iptr [aK most],.iptr [.fn g caps]]):=⟨Mp l most⟩
theorem Hu {g:FuncId} {caps:List AV} {u:AV} [bS Tryz.prog g] (hu:lG u=some (g,caps)) (l:List ej) (err:Nat→Int) (J:Nat→AL→Prop) (L0:AL) (h0:J 0 L0) (hw:∀i x L,l[i]?=some x→J i L→AC Tryz.prog g ([aK i,.agg (cO x)]++caps) L fun c L'=>c=aK (err i)∧(err i=0→J (i+1) L')):
  AC Tryz.prog 146 [.imm 4 (l.map cO),u] L0 fun r _=>r=co (dK err l.length):=by
 refine aV Tryz.func146 rfl Tryz.ntmps146 rfl fun B=>?_
 refine cR 0 rfl rfl fun hlen=>?_
 rw [Nu] at hlen
 refine W03 ?_
 refine aM [1,9,10] (α:=Nat×AL) (fun i=>[(11,aK i.1)]) (fun i=>i.1≤l.length∧J i.1 i.2∧dK err l.length=dL err (l.length - i.1) i.1) (fun i=>i.2) (fun i=>l.length - i.1) (0,L0) rfl ⟨rfl,trivial⟩ ⟨Nat.zero_le _,h0,rfl⟩ (fun _ _ h=>h) ?_
 rintro ⟨i,L⟩ ⟨hi,hj,he⟩
 dsimp only at hi hj he ⊢
 try dsimp only [Ns,Nr,Nq,Nk]
 refine W01 ?_
 refine aj rfl (fun h=>?_) (fun h=>?_)
 ·have hil:i < l.length:=by have:=Ny h;simp at this;omega
  obtain ⟨z,hz⟩:∃z,l[i]?=some z:=⟨_,Nz hil⟩
  have hzg:=bG (c:=cO) hz
  refine W06 ?_
  intros
  refine dE L [] (hw i z L hz hj) rfl hu rfl (cy rfl) rfl rfl fun c L1 ⟨hc,hj'⟩=>?_
  subst hc
  rw [List.append_nil]
  refine W01 ?_
  refine aj rfl (fun h2=>?_) (fun h2=>?_)
  ·have h2':=Ny h2
   refine W01 ?_
   refine NT NA ?_
   rw [he,cU hil h2']
   rfl
  ·have h2':=Decidable.not_not.1 (Nx h2)
   refine W02 ?_
   exact aC (i+1,L1) rfl ⟨by rw [Nv];rfl,trivial⟩ ⟨by dsimp only;omega,hj' h2',by rw [he];exact cI hil h2'⟩ (by dsimp only;omega) (fun _ _ h=>h)
 ·have hil:i=l.length:=by have:=Nx h;simp at this;omega
  subst hil
  refine W01 ?_
  refine NT NA ?_
  rw [he,Nat.sub_self]
  rfl
theorem Ij {g:FuncId} {caps:List AV} {u:AV} [bS Tryz.prog g] (hu:lG u=some (g,caps)) (l:List ej) (most:Int) (err:Nat→Int) (J:Nat→AL→Prop) (L0:AL) (h0:J 0 L0) (hw:(l.length:Int)≤most→∀i x L,l[i]?=some x→J i L→AC Tryz.prog g ([aK i,.agg (cO x)]++caps) L fun c L'=>c=aK (err i)∧(err i=0→J (i+1) L')):
  AC Tryz.prog 145 [.iptr [.imm 4 (l.map cO)],.iptr [aK most],.iptr [u]] L0 fun r _=>r=co (dB most err l.length):=by
 refine aV Tryz.func145 rfl Tryz.ntmps145 rfl fun B=>?_
 refine W01 ?_
 refine aj rfl (fun h=>?_) (fun h=>?_)
 ·have h':=Ny h
  rw [Nu] at h'
  refine W01 ?_
  refine NT NA ?_
  unfold dB
  rw [if_pos h']
  rfl
 ·have h':=Nx h
  rw [Nu] at h'
  refine W01 ?_
  refine b7 L0 [] (Hu hu l err J L0 h0 (hw (by omega))) rfl (gH hu) (cy rfl) rfl fun c L1 hc=>?_
  subst hc
  refine W01 ?_
  refine NT NA ?_
  unfold dB
  rw [if_neg h']
  rfl
theorem Lp {g:FuncId} {caps:List AV} (l:List ej) (most:Int):bV Tryz.prog 67 [.imm 4 (l.map cO),aK most,.fn g caps] (.fn 145 [.iptr [.imm 4 (l.map cO)],.iptr [aK most],.iptr [.fn g caps]]):=by
 refine aV Tryz.func67 rfl Tryz.ntmps67 rfl fun B=>?_
 refine W08 ?_
 exact NQ NA
instance {g:FuncId} {caps:List AV} (l:List ej) (most:Int):AD Tryz.prog 67 [.imm 4 (l.map cO),aK most,.fn g caps] (.fn 145 [.iptr [.imm 4 (l.map cO)],.iptr [aK most],.iptr [.fn g caps]]):=⟨Lp l most⟩
theorem Hv {g:FuncId} {caps:List AV} {u:AV} [bS Tryz.prog g] (hu:lG u=some (g,caps)) (l:List (List ev)) (err:Nat→Int) (J:Nat→AL→Prop) (L0:AL) (h0:J 0 L0) (hw:∀i x L,l[i]?=some x→J i L→AC Tryz.prog g ([aK i,.agg (bX x)]++caps) L fun c L'=>c=aK (err i)∧(err i=0→J (i+1) L')):
  AC Tryz.prog 148 [.imm 1 (l.map bX),u] L0 fun r _=>r=co (dK err l.length):=by
 refine aV Tryz.func148 rfl Tryz.ntmps148 rfl fun B=>?_
 refine cR 0 rfl rfl fun hlen=>?_
 rw [Nu] at hlen
 refine W03 ?_
 refine aM [1,9,10] (α:=Nat×AL) (fun i=>[(11,aK i.1)]) (fun i=>i.1≤l.length∧J i.1 i.2∧dK err l.length=dL err (l.length - i.1) i.1) (fun i=>i.2) (fun i=>l.length - i.1) (0,L0) rfl ⟨rfl,trivial⟩ ⟨Nat.zero_le _,h0,rfl⟩ (fun _ _ h=>h) ?_
 rintro ⟨i,L⟩ ⟨hi,hj,he⟩
 dsimp only at hi hj he ⊢
 try dsimp only [Ns,Nr,Nq,Nk]
 refine W01 ?_
 refine aj rfl (fun h=>?_) (fun h=>?_)
 ·have hil:i < l.length:=by have:=Ny h;simp at this;omega
  obtain ⟨z,hz⟩:∃z,l[i]?=some z:=⟨_,Nz hil⟩
  have hzg:=bG (c:=bX) hz
  refine W06 ?_
  intros
  refine dE L [] (hw i z L hz hj) rfl hu rfl (cy rfl) rfl rfl fun c L1 ⟨hc,hj'⟩=>?_
  subst hc
  rw [List.append_nil]
  refine W01 ?_
  refine aj rfl (fun h2=>?_) (fun h2=>?_)
  ·have h2':=Ny h2
   refine W01 ?_
   refine NT NA ?_
   rw [he,cU hil h2']
   rfl
  ·have h2':=Decidable.not_not.1 (Nx h2)
   refine W02 ?_
   exact aC (i+1,L1) rfl ⟨by rw [Nv];rfl,trivial⟩ ⟨by dsimp only;omega,hj' h2',by rw [he];exact cI hil h2'⟩ (by dsimp only;omega) (fun _ _ h=>h)
 ·have hil:i=l.length:=by have:=Nx h;simp at this;omega
  subst hil
  refine W01 ?_
  refine NT NA ?_
  rw [he,Nat.sub_self]
  rfl
theorem Ik {g:FuncId} {caps:List AV} {u:AV} [bS Tryz.prog g] (hu:lG u=some (g,caps)) (l:List (List ev)) (most:Int) (err:Nat→Int) (J:Nat→AL→Prop) (L0:AL) (h0:J 0 L0) (hw:(l.length:Int)≤most→∀i x L,l[i]?=some x→J i L→AC Tryz.prog g ([aK i,.agg (bX x)]++caps) L fun c L'=>c=aK (err i)∧(err i=0→J (i+1) L')):
  AC Tryz.prog 147 [.iptr [.imm 1 (l.map bX)],.iptr [aK most],.iptr [u]] L0 fun r _=>r=co (dB most err l.length):=by
 refine aV Tryz.func147 rfl Tryz.ntmps147 rfl fun B=>?_
 refine W01 ?_
 refine aj rfl (fun h=>?_) (fun h=>?_)
 ·have h':=Ny h
  rw [Nu] at h'
  refine W01 ?_
  refine NT NA ?_
  unfold dB
  rw [if_pos h']
  rfl
 ·have h':=Nx h
  rw [Nu] at h'
  refine W01 ?_
  refine b7 L0 [] (Hv hu l err J L0 h0 (hw (by omega))) rfl (gH hu) (cy rfl) rfl fun c L1 hc=>?_
  subst hc
  refine W01 ?_
  refine NT NA ?_
  unfold dB
  rw [if_neg h']
  rfl
theorem Lq {g:FuncId} {caps:List AV} (l:List (List ev)) (most:Int):bV Tryz.prog 70 [.imm 1 (l.map bX),aK most,.fn g caps] (.fn 147 [.iptr [.imm 1 (l.map bX)],.iptr [aK most],.iptr [.fn g caps]]):=by
 refine aV Tryz.func70 rfl Tryz.ntmps70 rfl fun B=>?_
 refine W08 ?_
 exact NQ NA
instance {g:FuncId} {caps:List AV} (l:List (List ev)) (most:Int):AD Tryz.prog 70 [.imm 1 (l.map bX),aK most,.fn g caps] (.fn 147 [.iptr [.imm 1 (l.map bX)],.iptr [aK most],.iptr [.fn g caps]]):=⟨Lq l most⟩
theorem Hw {g:FuncId} {caps:List AV} {u:AV} [bS Tryz.prog g] (hu:lG u=some (g,caps)) (l:List ev) (err:Nat→Int) (J:Nat→AL→Prop) (L0:AL) (h0:J 0 L0) (hw:∀i x L,l[i]?=some x→J i L→AC Tryz.prog g ([aK i,.agg (iL x)]++caps) L fun c L'=>c=aK (err i)∧(err i=0→J (i+1) L')):
  AC Tryz.prog 149 [.imm 3 (l.map iL),u] L0 fun r _=>r=co (dK err l.length):=by
 refine aV Tryz.func149 rfl Tryz.ntmps149 rfl fun B=>?_
 refine cR 0 rfl rfl fun hlen=>?_
 rw [Nu] at hlen
 refine W03 ?_
 refine aM [1,9,10] (α:=Nat×AL) (fun i=>[(11,aK i.1)]) (fun i=>i.1≤l.length∧J i.1 i.2∧dK err l.length=dL err (l.length - i.1) i.1) (fun i=>i.2) (fun i=>l.length - i.1) (0,L0) rfl ⟨rfl,trivial⟩ ⟨Nat.zero_le _,h0,rfl⟩ (fun _ _ h=>h) ?_
 rintro ⟨i,L⟩ ⟨hi,hj,he⟩
 dsimp only at hi hj he ⊢
 try dsimp only [Ns,Nr,Nq,Nk]
 refine W01 ?_
 refine aj rfl (fun h=>?_) (fun h=>?_)
 ·have hil:i < l.length:=by have:=Ny h;simp at this;omega
  obtain ⟨z,hz⟩:∃z,l[i]?=some z:=⟨_,Nz hil⟩
  have hzg:=bG (c:=iL) hz
  refine W06 ?_
  intros
  refine dE L [] (hw i z L hz hj) rfl hu rfl (cy rfl) rfl rfl fun c L1 ⟨hc,hj'⟩=>?_
  subst hc
  rw [List.append_nil]
  refine W01 ?_
  refine aj rfl (fun h2=>?_) (fun h2=>?_)
  ·have h2':=Ny h2
   refine W01 ?_
   refine NT NA ?_
   rw [he,cU hil h2']
   rfl
  ·have h2':=Decidable.not_not.1 (Nx h2)
   refine W02 ?_
   exact aC (i+1,L1) rfl ⟨by rw [Nv];rfl,trivial⟩ ⟨by dsimp only;omega,hj' h2',by rw [he];exact cI hil h2'⟩ (by dsimp only;omega) (fun _ _ h=>h)
 ·have hil:i=l.length:=by have:=Nx h;simp at this;omega
  subst hil
  refine W01 ?_
  refine NT NA ?_
  rw [he,Nat.sub_self]
  rfl
theorem Hx {g:FuncId} {caps:List AV} {u:AV} [bS Tryz.prog g] (hu:lG u=some (g,caps)) (l:List (List fh)) (err:Nat→Int) (J:Nat→AL→Prop) (L0:AL) (h0:J 0 L0) (hw:∀i x L,l[i]?=some x→J i L→AC Tryz.prog g ([aK i,.imm 2 (x.map eS)]++caps) L fun c L'=>c=aK (err i)∧(err i=0→J (i+1) L')):
  AC Tryz.prog 152 [.imm 1 (l.map dO),u] L0 fun r _=>r=co (dK err l.length):=by
 refine aV Tryz.func152 rfl Tryz.ntmps152 rfl fun B=>?_
 refine cR 0 rfl rfl fun hlen=>?_
 rw [Nu] at hlen
 refine W03 ?_
 refine aM [1,9,10] (α:=Nat×AL) (fun i=>[(11,aK i.1)]) (fun i=>i.1≤l.length∧J i.1 i.2∧dK err l.length=dL err (l.length - i.1) i.1) (fun i=>i.2) (fun i=>l.length - i.1) (0,L0) rfl ⟨rfl,trivial⟩ ⟨Nat.zero_le _,h0,rfl⟩ (fun _ _ h=>h) ?_
 rintro ⟨i,L⟩ ⟨hi,hj,he⟩
 dsimp only at hi hj he ⊢
 try dsimp only [Ns,Nr,Nq,Nk]
 refine W01 ?_
 refine aj rfl (fun h=>?_) (fun h=>?_)
 ·have hil:i < l.length:=by have:=Ny h;simp at this;omega
  obtain ⟨z,hz⟩:∃z,l[i]?=some z:=⟨_,Nz hil⟩
  have hzg:=bG (c:=dO) hz
  refine W0a ?_
  refine dE L [] (hw i z L hz hj) rfl hu rfl (cy rfl) rfl rfl fun c L1 ⟨hc,hj'⟩=>?_
  subst hc
  rw [List.append_nil]
  refine W01 ?_
  refine aj rfl (fun h2=>?_) (fun h2=>?_)
  ·have h2':=Ny h2
   refine W01 ?_
   refine NT NA ?_
   rw [he,cU hil h2']
   rfl
  ·have h2':=Decidable.not_not.1 (Nx h2)
   refine W02 ?_
   exact aC (i+1,L1) rfl ⟨by rw [Nv];rfl,trivial⟩ ⟨by dsimp only;omega,hj' h2',by rw [he];exact cI hil h2'⟩ (by dsimp only;omega) (fun _ _ h=>h)
 ·have hil:i=l.length:=by have:=Nx h;simp at this;omega
  subst hil
  refine W01 ?_
  refine NT NA ?_
  rw [he,Nat.sub_self]
  rfl
theorem Il {g:FuncId} {caps:List AV} {u:AV} [bS Tryz.prog g] (hu:lG u=some (g,caps)) (l:List (List fh)) (most:Int) (err:Nat→Int) (J:Nat→AL→Prop) (L0:AL) (h0:J 0 L0) (hw:(l.length:Int)≤most→∀i x L,l[i]?=some x→J i L→AC Tryz.prog g ([aK i,.imm 2 (x.map eS)]++caps) L fun c L'=>c=aK (err i)∧(err i=0→J (i+1) L')):
  AC Tryz.prog 151 [.iptr [.imm 1 (l.map dO)],.iptr [aK most],.iptr [u]] L0 fun r _=>r=co (dB most err l.length):=by
 refine aV Tryz.func151 rfl Tryz.ntmps151 rfl fun B=>?_
 refine W01 ?_
 refine aj rfl (fun h=>?_) (fun h=>?_)
 ·have h':=Ny h
  rw [Nu] at h'
  refine W01 ?_
  refine NT NA ?_
  unfold dB
  rw [if_pos h']
  rfl
 ·have h':=Nx h
  rw [Nu] at h'
  refine W01 ?_
  refine b7 L0 [] (Hx hu l err J L0 h0 (hw (by omega))) rfl (gH hu) (cy rfl) rfl fun c L1 hc=>?_
  subst hc
  refine W01 ?_
  refine NT NA ?_
  unfold dB
  rw [if_neg h']
  rfl
theorem JY {g:FuncId} (l:List (List fh)) (most:Int):bV Tryz.prog 73 [.imm 1 (l.map dO),aK most,.sc (.func (.func g) #[] #[])] (.fn 151 [.iptr [.imm 1 (l.map dO)],.iptr [aK most],.iptr [.sc (.func (.func g) #[] #[])]]):=by
 refine aV Tryz.func73 rfl Tryz.ntmps73 rfl fun B=>?_
 refine W08 ?_
 exact NQ NA
instance {g:FuncId} (l:List (List fh)) (most:Int):AD Tryz.prog 73 [.imm 1 (l.map dO),aK most,.sc (.func (.func g) #[] #[])] (.fn 151 [.iptr [.imm 1 (l.map dO)],.iptr [aK most],.iptr [.sc (.func (.func g) #[] #[])]]):=⟨JY l most⟩
theorem Hy {g:FuncId} {caps:List AV} {u:AV} [bS Tryz.prog g] (hu:lG u=some (g,caps)) (l:List eO) (err:Nat→Int) (J:Nat→AL→Prop) (L0:AL) (h0:J 0 L0) (hw:∀i x L,l[i]?=some x→J i L→AC Tryz.prog g ([aK i,.agg (dl x)]++caps) L fun c L'=>c=aK (err i)∧(err i=0→J (i+1) L')):
  AC Tryz.prog 198 [.imm 3 (l.map dl),u] L0 fun r _=>r=co (dK err l.length):=by
 refine aV Tryz.func198 rfl Tryz.ntmps198 rfl fun B=>?_
 refine cR 0 rfl rfl fun hlen=>?_
 rw [Nu] at hlen
 refine W03 ?_
 refine aM [1,9,10] (α:=Nat×AL) (fun i=>[(11,aK i.1)]) (fun i=>i.1≤l.length∧J i.1 i.2∧dK err l.length=dL err (l.length - i.1) i.1) (fun i=>i.2) (fun i=>l.length - i.1) (0,L0) rfl ⟨rfl,trivial⟩ ⟨Nat.zero_le _,h0,rfl⟩ (fun _ _ h=>h) ?_
 rintro ⟨i,L⟩ ⟨hi,hj,he⟩
 dsimp only at hi hj he ⊢
 try dsimp only [Ns,Nr,Nq,Nk]
 refine W01 ?_
 refine aj rfl (fun h=>?_) (fun h=>?_)
 ·have hil:i < l.length:=by have:=Ny h;simp at this;omega
  obtain ⟨z,hz⟩:∃z,l[i]?=some z:=⟨_,Nz hil⟩
  have hzg:=bG (c:=dl) hz
  refine W06 ?_
  intros
  refine dE L [] (hw i z L hz hj) rfl hu rfl (cy rfl) rfl rfl fun c L1 ⟨hc,hj'⟩=>?_
  subst hc
  rw [List.append_nil]
  refine W01 ?_
  refine aj rfl (fun h2=>?_) (fun h2=>?_)
  ·have h2':=Ny h2
   refine W01 ?_
   refine NT NA ?_
   rw [he,cU hil h2']
   rfl
  ·have h2':=Decidable.not_not.1 (Nx h2)
   refine W02 ?_
   exact aC (i+1,L1) rfl ⟨by rw [Nv];rfl,trivial⟩ ⟨by dsimp only;omega,hj' h2',by rw [he];exact cI hil h2'⟩ (by dsimp only;omega) (fun _ _ h=>h)
 ·have hil:i=l.length:=by have:=Nx h;simp at this;omega
  subst hil
  refine W01 ?_
  refine NT NA ?_
  rw [he,Nat.sub_self]
  rfl
theorem Hz {g:FuncId} {caps:List AV} {u:AV} [bS Tryz.prog g] (hu:lG u=some (g,caps)) (l:List cA) (err:Nat→Int) (J:Nat→AL→Prop) (L0:AL) (h0:J 0 L0) (hw:∀i x L,l[i]?=some x→J i L→AC Tryz.prog g ([aK i,.agg (dJ x)]++caps) L fun c L'=>c=aK (err i)∧(err i=0→J (i+1) L')):
  AC Tryz.prog 202 [.imm 3 (l.map dJ),u] L0 fun r _=>r=co (dK err l.length):=by
 refine aV Tryz.func202 rfl Tryz.ntmps202 rfl fun B=>?_
 refine cR 0 rfl rfl fun hlen=>?_
 rw [Nu] at hlen
 refine W03 ?_
 refine aM [1,9,10] (α:=Nat×AL) (fun i=>[(11,aK i.1)]) (fun i=>i.1≤l.length∧J i.1 i.2∧dK err l.length=dL err (l.length - i.1) i.1) (fun i=>i.2) (fun i=>l.length - i.1) (0,L0) rfl ⟨rfl,trivial⟩ ⟨Nat.zero_le _,h0,rfl⟩ (fun _ _ h=>h) ?_
 rintro ⟨i,L⟩ ⟨hi,hj,he⟩
 dsimp only at hi hj he ⊢
 try dsimp only [Ns,Nr,Nq,Nk]
 refine W01 ?_
 refine aj rfl (fun h=>?_) (fun h=>?_)
 ·have hil:i < l.length:=by have:=Ny h;simp at this;omega
  obtain ⟨z,hz⟩:∃z,l[i]?=some z:=⟨_,Nz hil⟩
  have hzg:=bG (c:=dJ) hz
  refine W06 ?_
  intros
  refine dE L [] (hw i z L hz hj) rfl hu rfl (cy rfl) rfl rfl fun c L1 ⟨hc,hj'⟩=>?_
  subst hc
  rw [List.append_nil]
  refine W01 ?_
  refine aj rfl (fun h2=>?_) (fun h2=>?_)
  ·have h2':=Ny h2
   refine W01 ?_
   refine NT NA ?_
   rw [he,cU hil h2']
   rfl
  ·have h2':=Decidable.not_not.1 (Nx h2)
   refine W02 ?_
   exact aC (i+1,L1) rfl ⟨by rw [Nv];rfl,trivial⟩ ⟨by dsimp only;omega,hj' h2',by rw [he];exact cI hil h2'⟩ (by dsimp only;omega) (fun _ _ h=>h)
 ·have hil:i=l.length:=by have:=Nx h;simp at this;omega
  subst hil
  refine W01 ?_
  refine NT NA ?_
  rw [he,Nat.sub_self]
  rfl
theorem Io {g:FuncId} {caps:List AV} {u:AV} [bS Tryz.prog g] (hu:lG u=some (g,caps)) (l:List cA) (most:Int) (err:Nat→Int) (J:Nat→AL→Prop) (L0:AL) (h0:J 0 L0) (hw:(l.length:Int)≤most→∀i x L,l[i]?=some x→J i L→AC Tryz.prog g ([aK i,.agg (dJ x)]++caps) L fun c L'=>c=aK (err i)∧(err i=0→J (i+1) L')):
  AC Tryz.prog 201 [.iptr [.imm 3 (l.map dJ)],.iptr [aK most],.iptr [u]] L0 fun r _=>r=co (dB most err l.length):=by
 refine aV Tryz.func201 rfl Tryz.ntmps201 rfl fun B=>?_
 refine W01 ?_
 refine aj rfl (fun h=>?_) (fun h=>?_)
 ·have h':=Ny h
  rw [Nu] at h'
  refine W01 ?_
  refine NT NA ?_
  unfold dB
  rw [if_pos h']
  rfl
 ·have h':=Nx h
  rw [Nu] at h'
  refine W01 ?_
  refine b7 L0 [] (Hz hu l err J L0 h0 (hw (by omega))) rfl (gH hu) (cy rfl) rfl fun c L1 hc=>?_
  subst hc
  refine W01 ?_
  refine NT NA ?_
  unfold dB
  rw [if_neg h']
  rfl
theorem Lr {g:FuncId} {caps:List AV} (l:List cA) (most:Int):bV Tryz.prog 117 [.imm 3 (l.map dJ),aK most,.fn g caps] (.fn 201 [.iptr [.imm 3 (l.map dJ)],.iptr [aK most],.iptr [.fn g caps]]):=by
 refine aV Tryz.func117 rfl Tryz.ntmps117 rfl fun B=>?_
 refine W08 ?_
 exact NQ NA
instance {g:FuncId} {caps:List AV} (l:List cA) (most:Int):AD Tryz.prog 117 [.imm 3 (l.map dJ),aK most,.fn g caps] (.fn 201 [.iptr [.imm 3 (l.map dJ)],.iptr [aK most],.iptr [.fn g caps]]):=⟨Lr l most⟩
theorem HA {g:FuncId} {caps:List AV} {u:AV} [bS Tryz.prog g] (hu:lG u=some (g,caps)) (l:List d9) (err:Nat→Int) (J:Nat→AL→Prop) (L0:AL) (h0:J 0 L0) (hw:∀i x L,l[i]?=some x→J i L→AC Tryz.prog g ([aK i,.agg (da x)]++caps) L fun c L'=>c=aK (err i)∧(err i=0→J (i+1) L')):
  AC Tryz.prog 204 [.imm 4 (l.map da),u] L0 fun r _=>r=co (dK err l.length):=by
 refine aV Tryz.func204 rfl Tryz.ntmps204 rfl fun B=>?_
 refine cR 0 rfl rfl fun hlen=>?_
 rw [Nu] at hlen
 refine W03 ?_
 refine aM [1,9,10] (α:=Nat×AL) (fun i=>[(11,aK i.1)]) (fun i=>i.1≤l.length∧J i.1 i.2∧dK err l.length=dL err (l.length - i.1) i.1) (fun i=>i.2) (fun i=>l.length - i.1) (0,L0) rfl ⟨rfl,trivial⟩ ⟨Nat.zero_le _,h0,rfl⟩ (fun _ _ h=>h) ?_
 rintro ⟨i,L⟩ ⟨hi,hj,he⟩
 dsimp only at hi hj he ⊢
 try dsimp only [Ns,Nr,Nq,Nk]
 refine W01 ?_
 refine aj rfl (fun h=>?_) (fun h=>?_)
 ·have hil:i < l.length:=by have:=Ny h;simp at this;omega
  obtain ⟨z,hz⟩:∃z,l[i]?=some z:=⟨_,Nz hil⟩
  have hzg:=bG (c:=da) hz
  refine W06 ?_
  intros
  refine dE L [] (hw i z L hz hj) rfl hu rfl (cy rfl) rfl rfl fun c L1 ⟨hc,hj'⟩=>?_
  subst hc
  rw [List.append_nil]
  refine W01 ?_
  refine aj rfl (fun h2=>?_) (fun h2=>?_)
  ·have h2':=Ny h2
   refine W01 ?_
   refine NT NA ?_
   rw [he,cU hil h2']
   rfl
  ·have h2':=Decidable.not_not.1 (Nx h2)
   refine W02 ?_
   exact aC (i+1,L1) rfl ⟨by rw [Nv];rfl,trivial⟩ ⟨by dsimp only;omega,hj' h2',by rw [he];exact cI hil h2'⟩ (by dsimp only;omega) (fun _ _ h=>h)
 ·have hil:i=l.length:=by have:=Nx h;simp at this;omega
  subst hil
  refine W01 ?_
  refine NT NA ?_
  rw [he,Nat.sub_self]
  rfl
theorem Ip {g:FuncId} {caps:List AV} {u:AV} [bS Tryz.prog g] (hu:lG u=some (g,caps)) (l:List d9) (most:Int) (err:Nat→Int) (J:Nat→AL→Prop) (L0:AL) (h0:J 0 L0) (hw:(l.length:Int)≤most→∀i x L,l[i]?=some x→J i L→AC Tryz.prog g ([aK i,.agg (da x)]++caps) L fun c L'=>c=aK (err i)∧(err i=0→J (i+1) L')):
  AC Tryz.prog 203 [.iptr [.imm 4 (l.map da)],.iptr [aK most],.iptr [u]] L0 fun r _=>r=co (dB most err l.length):=by
 refine aV Tryz.func203 rfl Tryz.ntmps203 rfl fun B=>?_
 refine W01 ?_
 refine aj rfl (fun h=>?_) (fun h=>?_)
 ·have h':=Ny h
  rw [Nu] at h'
  refine W01 ?_
  refine NT NA ?_
  unfold dB
  rw [if_pos h']
  rfl
 ·have h':=Nx h
  rw [Nu] at h'
  refine W01 ?_
  refine b7 L0 [] (HA hu l err J L0 h0 (hw (by omega))) rfl (gH hu) (cy rfl) rfl fun c L1 hc=>?_
  subst hc
  refine W01 ?_
  refine NT NA ?_
  unfold dB
  rw [if_neg h']
  rfl
theorem Ls {g:FuncId} {caps:List AV} (l:List d9) (most:Int):bV Tryz.prog 120 [.imm 4 (l.map da),aK most,.fn g caps] (.fn 203 [.iptr [.imm 4 (l.map da)],.iptr [aK most],.iptr [.fn g caps]]):=by
 refine aV Tryz.func120 rfl Tryz.ntmps120 rfl fun B=>?_
 refine W08 ?_
 exact NQ NA
instance {g:FuncId} {caps:List AV} (l:List d9) (most:Int):AD Tryz.prog 120 [.imm 4 (l.map da),aK most,.fn g caps] (.fn 203 [.iptr [.imm 4 (l.map da)],.iptr [aK most],.iptr [.fn g caps]]):=⟨Ls l most⟩
theorem HB {g:FuncId} {caps:List AV} {u:AV} [bS Tryz.prog g] (hu:lG u=some (g,caps)) (l:List dk) (err:Nat→Int) (J:Nat→AL→Prop) (L0:AL) (h0:J 0 L0) (hw:∀i x L,l[i]?=some x→J i L→AC Tryz.prog g ([aK i,.agg (dY x)]++caps) L fun c L'=>c=aK (err i)∧(err i=0→J (i+1) L')):
  AC Tryz.prog 207 [.imm 4 (l.map dY),u] L0 fun r _=>r=co (dK err l.length):=by
 refine aV Tryz.func207 rfl Tryz.ntmps207 rfl fun B=>?_
 refine cR 0 rfl rfl fun hlen=>?_
 rw [Nu] at hlen
 refine W03 ?_
 refine aM [1,9,10] (α:=Nat×AL) (fun i=>[(11,aK i.1)]) (fun i=>i.1≤l.length∧J i.1 i.2∧dK err l.length=dL err (l.length - i.1) i.1) (fun i=>i.2) (fun i=>l.length - i.1) (0,L0) rfl ⟨rfl,trivial⟩ ⟨Nat.zero_le _,h0,rfl⟩ (fun _ _ h=>h) ?_
 rintro ⟨i,L⟩ ⟨hi,hj,he⟩
 dsimp only at hi hj he ⊢
 try dsimp only [Ns,Nr,Nq,Nk]
 refine W01 ?_
 refine aj rfl (fun h=>?_) (fun h=>?_)
 ·have hil:i < l.length:=by have:=Ny h;simp at this;omega
  obtain ⟨z,hz⟩:∃z,l[i]?=some z:=⟨_,Nz hil⟩
  have hzg:=bG (c:=dY) hz
  refine W06 ?_
  intros
  refine dE L [] (hw i z L hz hj) rfl hu rfl (cy rfl) rfl rfl fun c L1 ⟨hc,hj'⟩=>?_
  subst hc
  rw [List.append_nil]
  refine W01 ?_
  refine aj rfl (fun h2=>?_) (fun h2=>?_)
  ·have h2':=Ny h2
   refine W01 ?_
   refine NT NA ?_
   rw [he,cU hil h2']
   rfl
  ·have h2':=Decidable.not_not.1 (Nx h2)
   refine W02 ?_
   exact aC (i+1,L1) rfl ⟨by rw [Nv];rfl,trivial⟩ ⟨by dsimp only;omega,hj' h2',by rw [he];exact cI hil h2'⟩ (by dsimp only;omega) (fun _ _ h=>h)
 ·have hil:i=l.length:=by have:=Nx h;simp at this;omega
  subst hil
  refine W01 ?_
  refine NT NA ?_
  rw [he,Nat.sub_self]
  rfl
theorem Iq {g:FuncId} {caps:List AV} {u:AV} [bS Tryz.prog g] (hu:lG u=some (g,caps)) (l:List dk) (most:Int) (err:Nat→Int) (J:Nat→AL→Prop) (L0:AL) (h0:J 0 L0) (hw:(l.length:Int)≤most→∀i x L,l[i]?=some x→J i L→AC Tryz.prog g ([aK i,.agg (dY x)]++caps) L fun c L'=>c=aK (err i)∧(err i=0→J (i+1) L')):
  AC Tryz.prog 206 [.iptr [.imm 4 (l.map dY)],.iptr [aK most],.iptr [u]] L0 fun r _=>r=co (dB most err l.length):=by
 refine aV Tryz.func206 rfl Tryz.ntmps206 rfl fun B=>?_
 refine W01 ?_
 refine aj rfl (fun h=>?_) (fun h=>?_)
 ·have h':=Ny h
  rw [Nu] at h'
  refine W01 ?_
  refine NT NA ?_
  unfold dB
  rw [if_pos h']
  rfl
 ·have h':=Nx h
  rw [Nu] at h'
  refine W01 ?_
  refine b7 L0 [] (HB hu l err J L0 h0 (hw (by omega))) rfl (gH hu) (cy rfl) rfl fun c L1 hc=>?_
  subst hc
  refine W01 ?_
  refine NT NA ?_
  unfold dB
  rw [if_neg h']
  rfl
theorem Lu {g:FuncId} {caps:List AV} (l:List dk) (most:Int):bV Tryz.prog 122 [.imm 4 (l.map dY),aK most,.fn g caps] (.fn 206 [.iptr [.imm 4 (l.map dY)],.iptr [aK most],.iptr [.fn g caps]]):=by
 refine aV Tryz.func122 rfl Tryz.ntmps122 rfl fun B=>?_
 refine W08 ?_
 exact NQ NA
instance {g:FuncId} {caps:List AV} (l:List dk) (most:Int):AD Tryz.prog 122 [.imm 4 (l.map dY),aK most,.fn g caps] (.fn 206 [.iptr [.imm 4 (l.map dY)],.iptr [aK most],.iptr [.fn g caps]]):=⟨Lu l most⟩
theorem HC {g:FuncId} {caps:List AV} {u:AV} [bS Tryz.prog g] (hu:lG u=some (g,caps)) (l:List (List Int)) (err:Nat→Int) (J:Nat→AL→Prop) (L0:AL) (h0:J 0 L0) (hw:∀i x L,l[i]?=some x→J i L→AC Tryz.prog g ([aK i,.imm 1 (aW x)]++caps) L fun c L'=>c=aK (err i)∧(err i=0→J (i+1) L')):
  AC Tryz.prog 215 [.imm 1 (l.map L5),u] L0 fun r _=>r=co (dK err l.length):=by
 refine aV Tryz.func215 rfl Tryz.ntmps215 rfl fun B=>?_
 refine cR 0 rfl rfl fun hlen=>?_
 rw [Nu] at hlen
 refine W03 ?_
 refine aM [1,9,10] (α:=Nat×AL) (fun i=>[(11,aK i.1)]) (fun i=>i.1≤l.length∧J i.1 i.2∧dK err l.length=dL err (l.length - i.1) i.1) (fun i=>i.2) (fun i=>l.length - i.1) (0,L0) rfl ⟨rfl,trivial⟩ ⟨Nat.zero_le _,h0,rfl⟩ (fun _ _ h=>h) ?_
 rintro ⟨i,L⟩ ⟨hi,hj,he⟩
 dsimp only at hi hj he ⊢
 try dsimp only [Ns,Nr,Nq,Nk]
 refine W01 ?_
 refine aj rfl (fun h=>?_) (fun h=>?_)
 ·have hil:i < l.length:=by have:=Ny h;simp at this;omega
  obtain ⟨z,hz⟩:∃z,l[i]?=some z:=⟨_,Nz hil⟩
  have hzg:=bG (c:=L5) hz
  refine W0a ?_
  refine dE L [] (hw i z L hz hj) rfl hu rfl (cy rfl) rfl rfl fun c L1 ⟨hc,hj'⟩=>?_
  subst hc
  rw [List.append_nil]
  refine W01 ?_
  refine aj rfl (fun h2=>?_) (fun h2=>?_)
  ·have h2':=Ny h2
   refine W01 ?_
   refine NT NA ?_
   rw [he,cU hil h2']
   rfl
  ·have h2':=Decidable.not_not.1 (Nx h2)
   refine W02 ?_
   exact aC (i+1,L1) rfl ⟨by rw [Nv];rfl,trivial⟩ ⟨by dsimp only;omega,hj' h2',by rw [he];exact cI hil h2'⟩ (by dsimp only;omega) (fun _ _ h=>h)
 ·have hil:i=l.length:=by have:=Nx h;simp at this;omega
  subst hil
  refine W01 ?_
  refine NT NA ?_
  rw [he,Nat.sub_self]
  rfl
theorem HD {g:FuncId} {caps:List AV} {u:AV} [bS Tryz.prog g] (hu:lG u=some (g,caps)) (l:List fh) (err:Nat→Int) (J:Nat→AL→Prop) (L0:AL) (h0:J 0 L0) (hw:∀i x L,l[i]?=some x→J i L→AC Tryz.prog g ([aK i,.agg (eS x)]++caps) L fun c L'=>c=aK (err i)∧(err i=0→J (i+1) L')):
  AC Tryz.prog 228 [.imm 2 (l.map eS),u] L0 fun r _=>r=co (dK err l.length):=by
 refine aV Tryz.func228 rfl Tryz.ntmps228 rfl fun B=>?_
 refine cR 0 rfl rfl fun hlen=>?_
 rw [Nu] at hlen
 refine W03 ?_
 refine aM [1,9,10] (α:=Nat×AL) (fun i=>[(11,aK i.1)]) (fun i=>i.1≤l.length∧J i.1 i.2∧dK err l.length=dL err (l.length - i.1) i.1) (fun i=>i.2) (fun i=>l.length - i.1) (0,L0) rfl ⟨rfl,trivial⟩ ⟨Nat.zero_le _,h0,rfl⟩ (fun _ _ h=>h) ?_
 rintro ⟨i,L⟩ ⟨hi,hj,he⟩
 dsimp only at hi hj he ⊢
 try dsimp only [Ns,Nr,Nq,Nk]
 refine W01 ?_
 refine aj rfl (fun h=>?_) (fun h=>?_)
 ·have hil:i < l.length:=by have:=Ny h;simp at this;omega
  obtain ⟨z,hz⟩:∃z,l[i]?=some z:=⟨_,Nz hil⟩
  have hzg:=bG (c:=eS) hz
  refine W06 ?_
  intros
  refine dE L [] (hw i z L hz hj) rfl hu rfl (cy rfl) rfl rfl fun c L1 ⟨hc,hj'⟩=>?_
  subst hc
  rw [List.append_nil]
  refine W01 ?_
  refine aj rfl (fun h2=>?_) (fun h2=>?_)
  ·have h2':=Ny h2
   refine W01 ?_
   refine NT NA ?_
   rw [he,cU hil h2']
   rfl
  ·have h2':=Decidable.not_not.1 (Nx h2)
   refine W02 ?_
   exact aC (i+1,L1) rfl ⟨by rw [Nv];rfl,trivial⟩ ⟨by dsimp only;omega,hj' h2',by rw [he];exact cI hil h2'⟩ (by dsimp only;omega) (fun _ _ h=>h)
 ·have hil:i=l.length:=by have:=Nx h;simp at this;omega
  subst hil
  refine W01 ?_
  refine NT NA ?_
  rw [he,Nat.sub_self]
  rfl
theorem Ir {g:FuncId} {caps:List AV} {u:AV} [bS Tryz.prog g] (hu:lG u=some (g,caps)) (l:List fh) (most:Int) (err:Nat→Int) (J:Nat→AL→Prop) (L0:AL) (h0:J 0 L0) (hw:(l.length:Int)≤most→∀i x L,l[i]?=some x→J i L→AC Tryz.prog g ([aK i,.agg (eS x)]++caps) L fun c L'=>c=aK (err i)∧(err i=0→J (i+1) L')):
  AC Tryz.prog 227 [.iptr [.imm 2 (l.map eS)],.iptr [aK most],.iptr [u]] L0 fun r _=>r=co (dB most err l.length):=by
 refine aV Tryz.func227 rfl Tryz.ntmps227 rfl fun B=>?_
 refine W01 ?_
 refine aj rfl (fun h=>?_) (fun h=>?_)
 ·have h':=Ny h
  rw [Nu] at h'
  refine W01 ?_
  refine NT NA ?_
  unfold dB
  rw [if_pos h']
  rfl
 ·have h':=Nx h
  rw [Nu] at h'
  refine W01 ?_
  refine b7 L0 [] (HD hu l err J L0 h0 (hw (by omega))) rfl (gH hu) (cy rfl) rfl fun c L1 hc=>?_
  subst hc
  refine W01 ?_
  refine NT NA ?_
  unfold dB
  rw [if_neg h']
  rfl
theorem JZ {g:FuncId} (l:List fh) (most:Int):bV Tryz.prog 153 [.imm 2 (l.map eS),aK most,.sc (.func (.func g) #[] #[])] (.fn 227 [.iptr [.imm 2 (l.map eS)],.iptr [aK most],.iptr [.sc (.func (.func g) #[] #[])]]):=by
 refine aV Tryz.func153 rfl Tryz.ntmps153 rfl fun B=>?_
 refine W08 ?_
 exact NQ NA
instance {g:FuncId} (l:List fh) (most:Int):AD Tryz.prog 153 [.imm 2 (l.map eS),aK most,.sc (.func (.func g) #[] #[])] (.fn 227 [.iptr [.imm 2 (l.map eS)],.iptr [aK most],.iptr [.sc (.func (.func g) #[] #[])]]):=⟨JZ l most⟩
theorem HE {g:FuncId} {caps:List AV} {u:AV} [bS Tryz.prog g] (hu:lG u=some (g,caps)) (l:List jt) (err:Nat→Int) (J:Nat→AL→Prop) (L0:AL) (h0:J 0 L0) (hw:∀i x L,l[i]?=some x→J i L→AC Tryz.prog g ([aK i,.agg (fj x)]++caps) L fun c L'=>c=aK (err i)∧(err i=0→J (i+1) L')):
  AC Tryz.prog 272 [.imm 2 (l.map fj),u] L0 fun r _=>r=co (dK err l.length):=by
 refine aV Tryz.func272 rfl Tryz.ntmps272 rfl fun B=>?_
 refine cR 0 rfl rfl fun hlen=>?_
 rw [Nu] at hlen
 refine W03 ?_
 refine aM [1,9,10] (α:=Nat×AL) (fun i=>[(11,aK i.1)]) (fun i=>i.1≤l.length∧J i.1 i.2∧dK err l.length=dL err (l.length - i.1) i.1) (fun i=>i.2) (fun i=>l.length - i.1) (0,L0) rfl ⟨rfl,trivial⟩ ⟨Nat.zero_le _,h0,rfl⟩ (fun _ _ h=>h) ?_
 rintro ⟨i,L⟩ ⟨hi,hj,he⟩
 dsimp only at hi hj he ⊢
 try dsimp only [Ns,Nr,Nq,Nk]
 refine W01 ?_
 refine aj rfl (fun h=>?_) (fun h=>?_)
 ·have hil:i < l.length:=by have:=Ny h;simp at this;omega
  obtain ⟨z,hz⟩:∃z,l[i]?=some z:=⟨_,Nz hil⟩
  have hzg:=bG (c:=fj) hz
  refine W06 ?_
  intros
  refine dE L [] (hw i z L hz hj) rfl hu rfl (cy rfl) rfl rfl fun c L1 ⟨hc,hj'⟩=>?_
  subst hc
  rw [List.append_nil]
  refine W01 ?_
  refine aj rfl (fun h2=>?_) (fun h2=>?_)
  ·have h2':=Ny h2
   refine W01 ?_
   refine NT NA ?_
   rw [he,cU hil h2']
   rfl
  ·have h2':=Decidable.not_not.1 (Nx h2)
   refine W02 ?_
   exact aC (i+1,L1) rfl ⟨by rw [Nv];rfl,trivial⟩ ⟨by dsimp only;omega,hj' h2',by rw [he];exact cI hil h2'⟩ (by dsimp only;omega) (fun _ _ h=>h)
 ·have hil:i=l.length:=by have:=Nx h;simp at this;omega
  subst hil
  refine W01 ?_
  refine NT NA ?_
  rw [he,Nat.sub_self]
  rfl
theorem om {g:FuncId} {caps:List AV} {u:AV} [bS Tryz.prog g] (hu:lG u=some (g,caps)) (l:List Int) (err:Nat→Int) (J:Nat→AL→Prop) (L0:AL) (h0:J 0 L0) (hw:∀i x L,l[i]?=some x→J i L→AC Tryz.prog g ([aK i,aK x]++caps) L fun c L'=>c=aK (err i)∧(err i=0→J (i+1) L')):
  AC Tryz.prog 128 [.imm 1 (l.map BI),u] L0 fun r _=>r=co (dK err l.length):=by
 refine aV Tryz.func128 rfl Tryz.ntmps128 rfl fun B=>?_
 refine cR 0 rfl rfl fun hlen=>?_
 rw [Nu] at hlen
 refine W03 ?_
 refine aM [1,9,10] (α:=Nat×AL) (fun i=>[(11,aK i.1)]) (fun i=>i.1≤l.length∧J i.1 i.2∧dK err l.length=dL err (l.length - i.1) i.1) (fun i=>i.2) (fun i=>l.length - i.1) (0,L0) rfl ⟨rfl,trivial⟩ ⟨Nat.zero_le _,h0,rfl⟩ (fun _ _ h=>h) ?_
 rintro ⟨i,L⟩ ⟨hi,hj,he⟩
 dsimp only at hi hj he ⊢
 try dsimp only [Ns,Nr,Nq,Nk]
 refine W01 ?_
 refine aj rfl (fun h=>?_) (fun h=>?_)
 ·have hil:i < l.length:=by have:=Ny h;simp at this;omega
  obtain ⟨z,hz⟩:∃z,l[i]?=some z:=⟨_,Nz hil⟩
  have hzg:=bG (c:=BI) hz
  refine W0a ?_
  refine dE L [] (hw i z L hz hj) rfl hu rfl (cy rfl) rfl rfl fun c L1 ⟨hc,hj'⟩=>?_
  subst hc
  rw [List.append_nil]
  refine W01 ?_
  refine aj rfl (fun h2=>?_) (fun h2=>?_)
  ·have h2':=Ny h2
   refine W01 ?_
   refine NT NA ?_
   rw [he,cU hil h2']
   rfl
  ·have h2':=Decidable.not_not.1 (Nx h2)
   refine W02 ?_
   exact aC (i+1,L1) rfl ⟨by rw [Nv];rfl,trivial⟩ ⟨by dsimp only;omega,hj' h2',by rw [he];exact cI hil h2'⟩ (by dsimp only;omega) (fun _ _ h=>h)
 ·have hil:i=l.length:=by have:=Nx h;simp at this;omega
  subst hil
  refine W01 ?_
  refine NT NA ?_
  rw [he,Nat.sub_self]
  rfl
theorem Im {g:FuncId} {caps:List AV} {u:AV} [bS Tryz.prog g] (hu:lG u=some (g,caps)) (l:List Int) (most:Int) (err:Nat→Int) (J:Nat→AL→Prop) (L0:AL) (h0:J 0 L0) (hw:(l.length:Int)≤most→∀i x L,l[i]?=some x→J i L→AC Tryz.prog g ([aK i,aK x]++caps) L fun c L'=>c=aK (err i)∧(err i=0→J (i+1) L')):
  AC Tryz.prog 155 [.iptr [.imm 1 (l.map BI)],.iptr [aK most],.iptr [u]] L0 fun r _=>r=co (dB most err l.length):=by
 refine aV Tryz.func155 rfl Tryz.ntmps155 rfl fun B=>?_
 refine W01 ?_
 refine aj rfl (fun h=>?_) (fun h=>?_)
 ·have h':=Ny h
  rw [Nu] at h'
  refine W01 ?_
  refine NT NA ?_
  unfold dB
  rw [if_pos h']
  rfl
 ·have h':=Nx h
  rw [Nu] at h'
  refine W01 ?_
  refine b7 L0 [] (om hu l err J L0 h0 (hw (by omega))) rfl (gH hu) (cy rfl) rfl fun c L1 hc=>?_
  subst hc
  refine W01 ?_
  refine NT NA ?_
  unfold dB
  rw [if_neg h']
  rfl
theorem FG {g:FuncId} (l:List Int) (most:Int):bV Tryz.prog 76 [.imm 1 (l.map BI),aK most,.sc (.func (.func g) #[] #[])] (.fn 155 [.iptr [.imm 1 (l.map BI)],.iptr [aK most],.iptr [.sc (.func (.func g) #[] #[])]]):=by
 refine aV Tryz.func76 rfl Tryz.ntmps76 rfl fun B=>?_
 refine W08 ?_
 exact NQ NA
theorem W09 {A B:Prop} (k:B) (h:W00 B→A:=by intro k;(repeat' (first|refine aD ?_|refine aZ a5 ?_|fail));exact k.g):A:=h ⟨k⟩
theorem W0b {A B:Prop} (k:B) (h:W00 B→A:=by intro k;(repeat' (first|refine aD ?_|refine aZ a5 ?_|(apply bC;refine bN a5 ?_)|fail));exact k.g):A:=h ⟨k⟩
theorem W0d {A B:Prop} (k:B) (h:W00 B→A:=by intro k;(repeat' (first|refine Ng ?_|refine NG a5 IG ?_|(apply bz;first|refine NJ a5 0 NC ?_|refine NJ a5 1 NC ?_|refine NJ a5 2 NC ?_|refine NJ a5 3 NC ?_|refine NK a5 0 NC ?_|refine NK a5 1 NC ?_|refine NK a5 2 NC ?_|refine NL a5 1 NA (by assumption) rfl ?_|refine NL a5 0 NA (by assumption) rfl ?_|fail)|refine bM a5 ?_|fail));exact k.g):A:=h ⟨k⟩
theorem W0g {A B:Prop} (k:B) (h:W00 B→A:=by intro k;(repeat' (first|refine Ng ?_|refine NG a5 IG ?_|refine bM a5 ?_|fail));exact k.g):A:=h ⟨k⟩
theorem W0m {A B:Prop} (k:B) (h:W00 B→A:=by intro k;(repeat' (first|refine aD ?_|refine aZ a5 ?_|refine ce a5 0 rfl rfl rfl rfl (by first|trivial|rfl) ?_));exact k.g):A:=h ⟨k⟩
theorem W0t {A B:Prop} (k:B) (h:W00 B→A:=by intro k;(repeat' (first|refine aD ?_|refine aZ a5 ?_|(apply d5;refine dz ?_)|fail));exact k.g):A:=h ⟨k⟩
theorem W0x {A B:Prop} (k:B) (h:W00 B→A:=by intro k;(repeat' (first|refine aD ?_|refine aZ a5 ?_|(apply dA;refine eI ?_)|fail));exact k.g):A:=h ⟨k⟩
theorem W0H {A B:Prop} (k:B) (h:W00 B→A:=by intro k;(repeat' (first|refine aD ?_|refine aZ a5 ?_|(apply bC;refine bN a5 ?_)|refine ce a5 0 rfl rfl rfl rfl (by first|trivial|rfl) ?_));exact k.g):A:=h ⟨k⟩
theorem W0M {A B:Prop} (k:B) (h:W00 B→A:=by intro k;(repeat' (first|refine aD ?_|refine dQ a5 ?_|fail));exact k.g):A:=h ⟨k⟩
theorem W0V {A B:Prop} (k:B) (h:W00 B→A:=by intro k;(repeat' (first|refine aD ?_|refine aZ a5 ?_|refine dQ a5 ?_|fail));exact k.g):A:=h ⟨k⟩
theorem W0Y {A B:Prop} (k:B) (h:W00 B→A:=by intro k;(repeat' (first|refine Ng ?_|refine NG a5 IG ?_|refine bM a5 ?_|(apply bA;refine bw ?_)|fail));exact k.g):A:=h ⟨k⟩
theorem W11 {A B:Prop} (k:B) (h:W00 B→A:=by intro k;(repeat' (first|refine aD ?_|refine aZ a5 ?_|refine gw rfl rfl ?_));exact k.g):A:=h ⟨k⟩
theorem W13 {A B:Prop} (k:B) (h:W00 B→A:=by intro k;(repeat' (first|refine aD ?_|refine aZ a5 ?_|(apply dA;refine eI ?_)|(apply bC;refine bN a5 ?_)|fail));exact k.g):A:=h ⟨k⟩
theorem W14 {A B:Prop} (k:B) (h:W00 B→A:=by intro k;(repeat' (first|refine aD ?_|refine aZ a5 ?_|(apply bC;refine bN a5 ?_)|(apply d5;refine dz ?_)|fail));exact k.g):A:=h ⟨k⟩
theorem W16 {A B:Prop} (k:B) (h:W00 B→A:=by intro k;(repeat' (first|refine aD ?_|refine aZ a5 ?_|refine gw rfl rfl ?_|refine tu rfl ?_));exact k.g):A:=h ⟨k⟩
theorem W1a {A B:Prop} (k:B) (h:W00 B→A:=by intro k;(repeat' (first|refine aD ?_|refine aZ a5 ?_|(apply dA;refine eI ?_)|(apply bC;refine bN a5 ?_)|(apply d5;refine dz ?_)|fail));exact k.g):A:=h ⟨k⟩
theorem W1i {A B:Prop} (k:B) (h:W00 B→A:=by intro k;(repeat' (first|refine aD ?_|refine aZ a5 ?_|(apply bC;refine bN a5 ?_)|refine dQ a5 ?_|refine ce a5 0 rfl rfl rfl rfl (by first|trivial|rfl) ?_));exact k.g):A:=h ⟨k⟩
theorem W1o {A B:Prop} (k:B) (h:W00 B→A:=by intro k;(repeat' (first|refine aD ?_|refine aZ a5 ?_|(apply bC;refine bN a5 ?_)|refine dQ a5 ?_|fail));exact k.g):A:=h ⟨k⟩
theorem W1y {A B:Prop} (k:B) (h:W00 B→A:=by intro k;(repeat' (first|refine aD ?_|refine aZ a5 ?_|refine dQ a5 ?_|refine ce a5 0 rfl rfl rfl rfl (by first|trivial|rfl) ?_));exact k.g):A:=h ⟨k⟩
theorem W1D {A B:Prop} (k:B) (h:W00 B→A:=by intro k;(repeat' (first|refine aD ?_|refine aZ a5 ?_|refine ce a5 1 rfl rfl rfl rfl (by first|trivial|rfl) ?_));exact k.g):A:=h ⟨k⟩
theorem W1J {A B:Prop} (k:B) (h:W00 B→A:=by intro k;(repeat' (first|refine aD ?_|refine aZ a5 ?_|(apply dA;refine eI ?_)|refine dQ a5 ?_|fail));exact k.g):A:=h ⟨k⟩
theorem W1L {A B:Prop} (k:B) (h:W00 B→A:=by intro k;(repeat' (first|refine Ng ?_|refine ak ?_|refine NG a5 IG ?_|refine bM a5 ?_|fail));exact k.g):A:=h ⟨k⟩
theorem W1N {A B:Prop} (k:B) (h:W00 B→A:=by intro k;(repeat' (first|refine NG a5 IG ?_|(apply aS;refine aR ?_)|refine bM a5 ?_|fail));exact k.g):A:=h ⟨k⟩
end Go.Proofs.YtpmdfoaadejmkaaGreatDoor
