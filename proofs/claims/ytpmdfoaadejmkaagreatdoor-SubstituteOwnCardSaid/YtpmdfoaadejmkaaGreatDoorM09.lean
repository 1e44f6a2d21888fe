/-
  The program: looks at things, one by one.
-/
import Derived.Test.YtpmdfoaadejmkaaGreatDoorM06
import Derived.Test.YtpmdfoaadejmkaaGreatDoorM08
import Derived.Test.YtpmdfoaadejmkaaGreatDoorM05
namespace Go.Proofs.YtpmdfoaadejmkaaGreatDoor
open Go.RowKit
attribute [local irreducible] AT br AX AO Av Kt b7 dm DA cA
def dq (err:Nat→Int):Nat→Nat→Int×Int
 | 0,_=>(0,0)
 | k+1,i=>if err i=0 then dq err k (i+1) else (err i,i)
def dv (err:Nat→Int) (n:Nat):Int×Int:=dq err n 0
def dk (most:Int) (err:Nat→Int) (n:Nat):Int×Int:=if (n:Int) > most then (2,0) else dv err n
def cu (p:Int×Int):AV:= .tup [aI p.1,aI p.2]
theorem cD {err:Nat→Int} {n i:Nat} (hi:i < n) (h:err i=0):dq err (n - i) i=dq err (n - (i+1)) (i+1):=by
 rw [show n - i=(n - (i+1))+1 by omega]
 simp only [dq,h,if_true]
theorem cP {err:Nat→Int} {n i:Nat} (hi:i < n) (h:err i≠0):dq err (n - i) i=(err i,(i:Int)):=by
 rw [show n - i=(n - (i+1))+1 by omega]
 simp only [dq,h,if_false]
theorem qS {err:Nat→Int}:∀(k i:Nat),(∀j,i≤j→j < i+k→err j=0)→dq err k i=(0,0)
 | 0,_,_=>rfl
 | k+1,i,h=>by
  simp only [dq]
  rw [if_pos (h i (Nat.le_refl _) (by omega))]
  exact qS k (i+1) fun j h1 h2=>h j (by omega) (by omega)
theorem sJ {err:Nat→Int} {n:Nat} (h:∀i,i < n→err i=0):dv err n=(0,0):=qS n 0 fun j _ hj=>h j (by omega)
theorem BA {most:Int} {err:Nat→Int} {n:Nat} (hm:(n:Int)≤most) (h:∀i,i < n→err i=0):dk most err n=(0,0):=by
 unfold dk
 rw [if_neg (by omega),sJ h]
def IX (q:List Int):List AV:=[.imm 1 (aQ q)]
def A5 (z:Int):List AV:=[aI z]
theorem fZ {g:FuncId} {caps:List AV} {u:AV} (hu:lj u=some (g,caps)) {s:Nat} {l:List (List AV)}:gN [.imm s l,u]=some [.imm s l,u]:=by
 unfold lj at hu
 split at hu <;> first | rfl | cases hu
theorem ck {L L':AL} (h:L=L'):L.Perm (L'++[]):=by rw [List.append_nil,h]
def Kk (P:Program) (g:FuncId) (caps:List AV) (n:Nat) (arg:Nat→AV) (err:Nat→Int) (J:Nat→AL→Prop):Prop:=∀i L,i < n→J i L→AC P g ([aI i,arg i]++caps) L fun c L'=>c=aI (err i)∧(err i=0→J (i+1) L')
theorem Fy {g:FuncId} {caps:List AV} {u:AV} [bD Tryz.prog g] (hu:lj u=some (g,caps)) (l:List bi) (err:Nat→Int) (J:Nat→AL→Prop) (L0:AL) (h0:J 0 L0) (hw:∀i x L,l[i]?=some x→J i L→AC Tryz.prog g ([aI i,.agg (bI x)]++caps) L fun c L'=>c=aI (err i)∧(err i=0→J (i+1) L')):
  AC Tryz.prog 113 [.imm 9 (l.map bI),u] L0 fun r _=>r=cu (dv err l.length):=by
 refine aS Tryz.func113 rfl Tryz.ntmps113 rfl fun B=>?_
 refine cW 0 rfl rfl fun hlen=>?_
 rw [Lu] at hlen
 refine W04 ?_
 refine aN [1,9,10] (α:=Nat×AL) (fun i=>[(11,aI i.1)]) (fun i=>i.1≤l.length∧J i.1 i.2∧dv err l.length=dq err (l.length - i.1) i.1) (fun i=>i.2) (fun i=>l.length - i.1) (0,L0) rfl ⟨rfl,trivial⟩ ⟨Nat.zero_le _,h0,rfl⟩ (fun _ _ h=>h) ?_
 rintro ⟨i,L⟩ ⟨hi,hj,he⟩
 dsimp only at hi hj he ⊢
 try dsimp only [Lr,Lq,Lp,Li]
 refine W01 ?_
 refine ar rfl (fun h=>?_) (fun h=>?_)
 ·have hil:i < l.length:=by have:=Lz h;simp at this;omega
  obtain ⟨z,hz⟩:∃z,l[i]?=some z:=⟨_,Iy hil⟩
  have hzg:=cO (c:=bI) hz
  refine W03 ?_
  intros
  refine dH L [] (hw i z L hz hj) rfl hu rfl (ck rfl) rfl rfl fun c L1 ⟨hc,hj'⟩=>?_
  subst hc
  rw [List.append_nil]
  refine W01 ?_
  refine ar rfl (fun h2=>?_) (fun h2=>?_)
  ·have h2':=Lz h2
   refine W09 ?_
   refine LT LA ?_
   rw [he,cP hil h2']
   rfl
  ·have h2':=Decidable.not_not.1 (Ly h2)
   refine W06 ?_
   exact aC (i+1,L1) rfl ⟨by rw [Lv];rfl,trivial⟩ ⟨by dsimp only;omega,hj' h2',by rw [he];exact cD hil h2'⟩ (by dsimp only;omega) (fun _ _ h=>h)
 ·have hil:i=l.length:=by have:=Ly h;simp at this;omega
  subst hil
  refine W02 ?_
  refine LT LA ?_
  rw [he,Nat.sub_self]
  rfl
theorem Gp {g:FuncId} {caps:List AV} {u:AV} [bD Tryz.prog g] (hu:lj u=some (g,caps)) (l:List bi) (most:Int) (err:Nat→Int) (J:Nat→AL→Prop) (L0:AL) (h0:J 0 L0) (hw:(l.length:Int)≤most→∀i x L,l[i]?=some x→J i L→AC Tryz.prog g ([aI i,.agg (bI x)]++caps) L fun c L'=>c=aI (err i)∧(err i=0→J (i+1) L')):
  AC Tryz.prog 112 [.iptr [.imm 9 (l.map bI)],.iptr [aI most],.iptr [u]] L0 fun r _=>r=cu (dk most err l.length):=by
 refine aS Tryz.func112 rfl Tryz.ntmps112 rfl fun B=>?_
 refine W01 ?_
 refine ar rfl (fun h=>?_) (fun h=>?_)
 ·have h':=Lz h
  rw [Lu] at h'
  refine W07 ?_
  refine LT LA ?_
  unfold dk
  rw [if_pos h']
  rfl
 ·have h':=Ly h
  rw [Lu] at h'
  refine W0e ?_
  refine b9 L0 [] (Fy hu l err J L0 h0 (hw (by omega))) rfl (fZ hu) (ck rfl) rfl fun c L1 hc=>?_
  subst hc
  refine W0c ?_
  refine LT LA ?_
  unfold dk
  rw [if_neg h']
  rfl
theorem JZ {g:FuncId} {caps:List AV} (l:List bi) (most:Int):c5 Tryz.prog 50 [.imm 9 (l.map bI),aI most,.fn g caps] (.fn 112 [.iptr [.imm 9 (l.map bI)],.iptr [aI most],.iptr [.fn g caps]]):=by
 refine aS Tryz.func50 rfl Tryz.ntmps50 rfl fun B=>?_
 refine W0h ?_
 exact LN LA
instance {g:FuncId} {caps:List AV} (l:List bi) (most:Int):AD Tryz.prog 50 [.imm 9 (l.map bI),aI most,.fn g caps] (.fn 112 [.iptr [.imm 9 (l.map bI)],.iptr [aI most],.iptr [.fn g caps]]):=⟨JZ l most⟩
theorem Fz {g:FuncId} {caps:List AV} {u:AV} [bD Tryz.prog g] (hu:lj u=some (g,caps)) (l:List gB) (err:Nat→Int) (J:Nat→AL→Prop) (L0:AL) (h0:J 0 L0) (hw:∀i x L,l[i]?=some x→J i L→AC Tryz.prog g ([aI i,.agg (ep x)]++caps) L fun c L'=>c=aI (err i)∧(err i=0→J (i+1) L')):
  AC Tryz.prog 133 [.imm 2 (l.map ep),u] L0 fun r _=>r=cu (dv err l.length):=by
 refine aS Tryz.func133 rfl Tryz.ntmps133 rfl fun B=>?_
 refine cW 0 rfl rfl fun hlen=>?_
 rw [Lu] at hlen
 refine W04 ?_
 refine aN [1,9,10] (α:=Nat×AL) (fun i=>[(11,aI i.1)]) (fun i=>i.1≤l.length∧J i.1 i.2∧dv err l.length=dq err (l.length - i.1) i.1) (fun i=>i.2) (fun i=>l.length - i.1) (0,L0) rfl ⟨rfl,trivial⟩ ⟨Nat.zero_le _,h0,rfl⟩ (fun _ _ h=>h) ?_
 rintro ⟨i,L⟩ ⟨hi,hj,he⟩
 dsimp only at hi hj he ⊢
 try dsimp only [Lr,Lq,Lp,Li]
 refine W01 ?_
 refine ar rfl (fun h=>?_) (fun h=>?_)
 ·have hil:i < l.length:=by have:=Lz h;simp at this;omega
  obtain ⟨z,hz⟩:∃z,l[i]?=some z:=⟨_,Iy hil⟩
  have hzg:=cO (c:=ep) hz
  refine W03 ?_
  intros
  refine dH L [] (hw i z L hz hj) rfl hu rfl (ck rfl) rfl rfl fun c L1 ⟨hc,hj'⟩=>?_
  subst hc
  rw [List.append_nil]
  refine W01 ?_
  refine ar rfl (fun h2=>?_) (fun h2=>?_)
  ·have h2':=Lz h2
   refine W09 ?_
   refine LT LA ?_
   rw [he,cP hil h2']
   rfl
  ·have h2':=Decidable.not_not.1 (Ly h2)
   refine W06 ?_
   exact aC (i+1,L1) rfl ⟨by rw [Lv];rfl,trivial⟩ ⟨by dsimp only;omega,hj' h2',by rw [he];exact cD hil h2'⟩ (by dsimp only;omega) (fun _ _ h=>h)
 ·have hil:i=l.length:=by have:=Ly h;simp at this;omega
  subst hil
  refine W02 ?_
  refine LT LA ?_
  rw [he,Nat.sub_self]
  rfl
theorem Gq {g:FuncId} {caps:List AV} {u:AV} [bD Tryz.prog g] (hu:lj u=some (g,caps)) (l:List gB) (most:Int) (err:Nat→Int) (J:Nat→AL→Prop) (L0:AL) (h0:J 0 L0) (hw:(l.length:Int)≤most→∀i x L,l[i]?=some x→J i L→AC Tryz.prog g ([aI i,.agg (ep x)]++caps) L fun c L'=>c=aI (err i)∧(err i=0→J (i+1) L')):
  AC Tryz.prog 132 [.iptr [.imm 2 (l.map ep)],.iptr [aI most],.iptr [u]] L0 fun r _=>r=cu (dk most err l.length):=by
 refine aS Tryz.func132 rfl Tryz.ntmps132 rfl fun B=>?_
 refine W01 ?_
 refine ar rfl (fun h=>?_) (fun h=>?_)
 ·have h':=Lz h
  rw [Lu] at h'
  refine W07 ?_
  refine LT LA ?_
  unfold dk
  rw [if_pos h']
  rfl
 ·have h':=Ly h
  rw [Lu] at h'
  refine W0e ?_
  refine b9 L0 [] (Fz hu l err J L0 h0 (hw (by omega))) rfl (fZ hu) (ck rfl) rfl fun c L1 hc=>?_
  subst hc
  refine W0c ?_
  refine LT LA ?_
  unfold dk
  rw [if_neg h']
  rfl
theorem K0 {g:FuncId} {caps:List AV} (l:List gB) (most:Int):c5 Tryz.prog 57 [.imm 2 (l.map ep),aI most,.fn g caps] (.fn 132 [.iptr [.imm 2 (l.map ep)],.iptr [aI most],.iptr [.fn g caps]]):=by
 refine aS Tryz.func57 rfl Tryz.ntmps57 rfl fun B=>?_
 refine W0h ?_
 exact LN LA
instance {g:FuncId} {caps:List AV} (l:List gB) (most:Int):AD Tryz.prog 57 [.imm 2 (l.map ep),aI most,.fn g caps] (.fn 132 [.iptr [.imm 2 (l.map ep)],.iptr [aI most],.iptr [.fn g caps]]):=⟨K0 l most⟩
theorem FA {g:FuncId} {caps:List AV} {u:AV} [bD Tryz.prog g] (hu:lj u=some (g,caps)) (l:List aO) (err:Nat→Int) (J:Nat→AL→Prop) (L0:AL) (h0:J 0 L0) (hw:∀i x L,l[i]?=some x→J i L→AC Tryz.prog g ([aI i,.agg (bJ x)]++caps) L fun c L'=>c=aI (err i)∧(err i=0→J (i+1) L')):
  AC Tryz.prog 135 [.imm 3 (l.map bJ),u] L0 fun r _=>r=cu (dv err l.length):=by
 refine aS Tryz.func135 rfl Tryz.ntmps135 rfl fun B=>?_
 refine cW 0 rfl rfl fun hlen=>?_
 rw [Lu] at hlen
 refine W04 ?_
 refine aN [1,9,10] (α:=Nat×AL) (fun i=>[(11,aI i.1)]) (fun i=>i.1≤l.length∧J i.1 i.2∧dv err l.length=dq err (l.length - i.1) i.1) (fun i=>i.2) (fun i=>l.length - i.1) (0,L0) rfl ⟨rfl,trivial⟩ ⟨Nat.zero_le _,h0,rfl⟩ (fun _ _ h=>h) ?_
 rintro ⟨i,L⟩ ⟨hi,hj,he⟩
 dsimp only at hi hj he ⊢
 try dsimp only [Lr,Lq,Lp,Li]
 refine W01 ?_
 refine ar rfl (fun h=>?_) (fun h=>?_)
 ·have hil:i < l.length:=by have:=Lz h;simp at this;omega
  obtain ⟨z,hz⟩:∃z,l[i]?=some z:=⟨_,Iy hil⟩
  have hzg:=cO (c:=bJ) hz
  refine W03 ?_
  intros
  refine dH L [] (hw i z L hz hj) rfl hu rfl (ck rfl) rfl rfl fun c L1 ⟨hc,hj'⟩=>?_
  subst hc
  rw [List.append_nil]
  refine W01 ?_
  refine ar rfl (fun h2=>?_) (fun h2=>?_)
  ·have h2':=Lz h2
   refine W09 ?_
   refine LT LA ?_
   rw [he,cP hil h2']
   rfl
  ·have h2':=Decidable.not_not.1 (Ly h2)
   refine W06 ?_
   exact aC (i+1,L1) rfl ⟨by rw [Lv];rfl,trivial⟩ ⟨by dsimp only;omega,hj' h2',by rw [he];exact cD hil h2'⟩ (by dsimp only;omega) (fun _ _ h=>h)
 ·have hil:i=l.length:=by have:=Ly h;simp at this;omega
  subst hil
  refine W02 ?_
  refine LT LA ?_
  rw [he,Nat.sub_self]
  rfl
theorem Gr {g:FuncId} {caps:List AV} {u:AV} [bD Tryz.prog g] (hu:lj u=some (g,caps)) (l:List aO) (most:Int) (err:Nat→Int) (J:Nat→AL→Prop) (L0:AL) (h0:J 0 L0) (hw:(l.length:Int)≤most→∀i x L,l[i]?=some x→J i L→AC Tryz.prog g ([aI i,.agg (bJ x)]++caps) L fun c L'=>c=aI (err i)∧(err i=0→J (i+1) L')):
  AC Tryz.prog 134 [.iptr [.imm 3 (l.map bJ)],.iptr [aI most],.iptr [u]] L0 fun r _=>r=cu (dk most err l.length):=by
 refine aS Tryz.func134 rfl Tryz.ntmps134 rfl fun B=>?_
 refine W01 ?_
 refine ar rfl (fun h=>?_) (fun h=>?_)
 ·have h':=Lz h
  rw [Lu] at h'
  refine W07 ?_
  refine LT LA ?_
  unfold dk
  rw [if_pos h']
  rfl
 ·have h':=Ly h
  rw [Lu] at h'
  refine W0e ?_
  refine b9 L0 [] (FA hu l err J L0 h0 (hw (by omega))) rfl (fZ hu) (ck rfl) rfl fun c L1 hc=>?_
  subst hc
  refine W0c ?_
  refine LT LA ?_
  unfold dk
  rw [if_neg h']
  rfl
theorem K1 {g:FuncId} {caps:List AV} (l:List aO) (most:Int):c5 Tryz.prog 60 [.imm 3 (l.map bJ),aI most,.fn g caps] (.fn 134 [.iptr [.imm 3 (l.map bJ)],.iptr [aI most],.iptr [.fn g caps]]):=by
 refine aS Tryz.func60 rfl Tryz.ntmps60 rfl fun B=>?_
 refine W0h ?_
 exact LN LA
instance {g:FuncId} {caps:List AV} (l:List aO) (most:Int):AD Tryz.prog 60 [.imm 3 (l.map bJ),aI most,.fn g caps] (.fn 134 [.iptr [.imm 3 (l.map bJ)],.iptr [aI most],.iptr [.fn g caps]]):=⟨K1 l most⟩
theorem FB {g:FuncId} {caps:List AV} {u:AV} [bD Tryz.prog g] (hu:lj u=some (g,caps)) (l:List b8) (err:Nat→Int) (J:Nat→AL→Prop) (L0:AL) (h0:J 0 L0) (hw:∀i x L,l[i]?=some x→J i L→AC Tryz.prog g ([aI i,.agg (bV x)]++caps) L fun c L'=>c=aI (err i)∧(err i=0→J (i+1) L')):
  AC Tryz.prog 139 [.imm 6 (l.map bV),u] L0 fun r _=>r=cu (dv err l.length):=by
 refine aS Tryz.func139 rfl Tryz.ntmps139 rfl fun B=>?_
 refine cW 0 rfl rfl fun hlen=>?_
 rw [Lu] at hlen
 refine W04 ?_
 refine aN [1,9,10] (α:=Nat×AL) (fun i=>[(11,aI i.1)]) (fun i=>i.1≤l.length∧J i.1 i.2∧dv err l.length=dq err (l.length - i.1) i.1) (fun i=>i.2) (fun i=>l.length - i.1) (0,L0) rfl ⟨rfl,trivial⟩ ⟨Nat.zero_le _,h0,rfl⟩ (fun _ _ h=>h) ?_
 rintro ⟨i,L⟩ ⟨hi,hj,he⟩
 dsimp only at hi hj he ⊢
 try dsimp only [Lr,Lq,Lp,Li]
 refine W01 ?_
 refine ar rfl (fun h=>?_) (fun h=>?_)
 ·have hil:i < l.length:=by have:=Lz h;simp at this;omega
  obtain ⟨z,hz⟩:∃z,l[i]?=some z:=⟨_,Iy hil⟩
  have hzg:=cO (c:=bV) hz
  refine W03 ?_
  intros
  refine dH L [] (hw i z L hz hj) rfl hu rfl (ck rfl) rfl rfl fun c L1 ⟨hc,hj'⟩=>?_
  subst hc
  rw [List.append_nil]
  refine W01 ?_
  refine ar rfl (fun h2=>?_) (fun h2=>?_)
  ·have h2':=Lz h2
   refine W09 ?_
   refine LT LA ?_
   rw [he,cP hil h2']
   rfl
  ·have h2':=Decidable.not_not.1 (Ly h2)
   refine W06 ?_
   exact aC (i+1,L1) rfl ⟨by rw [Lv];rfl,trivial⟩ ⟨by dsimp only;omega,hj' h2',by rw [he];exact cD hil h2'⟩ (by dsimp only;omega) (fun _ _ h=>h)
 ·have hil:i=l.length:=by have:=Ly h;simp at this;omega
  subst hil
  refine W02 ?_
  refine LT LA ?_
  rw [he,Nat.sub_self]
  rfl
theorem FC {g:FuncId} {caps:List AV} {u:AV} [bD Tryz.prog g] (hu:lj u=some (g,caps)) (l:List c9) (err:Nat→Int) (J:Nat→AL→Prop) (L0:AL) (h0:J 0 L0) (hw:∀i x L,l[i]?=some x→J i L→AC Tryz.prog g ([aI i,.agg (cj x)]++caps) L fun c L'=>c=aI (err i)∧(err i=0→J (i+1) L')):
  AC Tryz.prog 143 [.imm 2 (l.map cj),u] L0 fun r _=>r=cu (dv err l.length):=by
 refine aS Tryz.func143 rfl Tryz.ntmps143 rfl fun B=>?_
 refine cW 0 rfl rfl fun hlen=>?_
 rw [Lu] at hlen
 refine W04 ?_
 refine aN [1,9,10] (α:=Nat×AL) (fun i=>[(11,aI i.1)]) (fun i=>i.1≤l.length∧J i.1 i.2∧dv err l.length=dq err (l.length - i.1) i.1) (fun i=>i.2) (fun i=>l.length - i.1) (0,L0) rfl ⟨rfl,trivial⟩ ⟨Nat.zero_le _,h0,rfl⟩ (fun _ _ h=>h) ?_
 rintro ⟨i,L⟩ ⟨hi,hj,he⟩
 dsimp only at hi hj he ⊢
 try dsimp only [Lr,Lq,Lp,Li]
 refine W01 ?_
 refine ar rfl (fun h=>?_) (fun h=>?_)
 ·have hil:i < l.length:=by have:=Lz h;simp at this;omega
  obtain ⟨z,hz⟩:∃z,l[i]?=some z:=⟨_,Iy hil⟩
  have hzg:=cO (c:=cj) hz
  refine W03 ?_
  intros
  refine dH L [] (hw i z L hz hj) rfl hu rfl (ck rfl) rfl rfl fun c L1 ⟨hc,hj'⟩=>?_
  subst hc
  rw [List.append_nil]
  refine W01 ?_
  refine ar rfl (fun h2=>?_) (fun h2=>?_)
  ·have h2':=Lz h2
   refine W09 ?_
   refine LT LA ?_
   rw [he,cP hil h2']
   rfl
  ·have h2':=Decidable.not_not.1 (Ly h2)
   refine W06 ?_
   exact aC (i+1,L1) rfl ⟨by rw [Lv];rfl,trivial⟩ ⟨by dsimp only;omega,hj' h2',by rw [he];exact cD hil h2'⟩ (by dsimp only;omega) (fun _ _ h=>h)
 ·have hil:i=l.length:=by have:=Ly h;simp at this;omega
  subst hil
  refine W02 ?_
  refine LT LA ?_
  rw [he,Nat.sub_self]
  rfl
theorem Gt {g:FuncId} {caps:List AV} {u:AV} [bD Tryz.prog g] (hu:lj u=some (g,caps)) (l:List c9) (most:Int) (err:Nat→Int) (J:Nat→AL→Prop) (L0:AL) (h0:J 0 L0) (hw:(l.length:Int)≤most→∀i x L,l[i]?=some x→J i L→AC Tryz.prog g ([aI i,.agg (cj x)]++caps) L fun c L'=>c=aI (err i)∧(err i=0→J (i+1) L')):
  AC Tryz.prog 142 [.iptr [.imm 2 (l.map cj)],.iptr [aI most],.iptr [u]] L0 fun r _=>r=cu (dk most err l.length):=by
 refine aS Tryz.func142 rfl Tryz.ntmps142 rfl fun B=>?_
 refine W01 ?_
 refine ar rfl (fun h=>?_) (fun h=>?_)
 ·have h':=Lz h
  rw [Lu] at h'
  refine W07 ?_
  refine LT LA ?_
  unfold dk
  rw [if_pos h']
  rfl
 ·have h':=Ly h
  rw [Lu] at h'
  refine W0e ?_
  refine b9 L0 [] (FC hu l err J L0 h0 (hw (by omega))) rfl (fZ hu) (ck rfl) rfl fun c L1 hc=>?_
  subst hc
  refine W0c ?_
  refine LT LA ?_
  unfold dk
  rw [if_neg h']
  rfl
theorem K2 {g:FuncId} {caps:List AV} (l:List c9) (most:Int):c5 Tryz.prog 63 [.imm 2 (l.map cj),aI most,.fn g caps] (.fn 142 [.iptr [.imm 2 (l.map cj)],.iptr [aI most],.iptr [.fn g caps]]):=by
 refine aS Tryz.func63 rfl Tryz.ntmps63 rfl fun B=>?_
 refine W0h ?_
 exact LN LA
instance {g:FuncId} {caps:List AV} (l:List c9) (most:Int):AD Tryz.prog 63 [.imm 2 (l.map cj),aI most,.fn g caps] (.fn 142 [.iptr [.imm 2 (l.map cj)],.iptr [aI most],.iptr [.fn g caps]]):=⟨K2 l most⟩
theorem FD {g:FuncId} {caps:List AV} {u:AV} [bD Tryz.prog g] (hu:lj u=some (g,caps)) (l:List eR) (err:Nat→Int) (J:Nat→AL→Prop) (L0:AL) (h0:J 0 L0) (hw:∀i x L,l[i]?=some x→J i L→AC Tryz.prog g ([aI i,.agg (cM x)]++caps) L fun c L'=>c=aI (err i)∧(err i=0→J (i+1) L')):
  AC Tryz.prog 146 [.imm 4 (l.map cM),u] L0 fun r _=>r=cu (dv err l.length):=by
 refine aS Tryz.func146 rfl Tryz.ntmps146 rfl fun B=>?_
 refine cW 0 rfl rfl fun hlen=>?_
 rw [Lu] at hlen
 refine W04 ?_
 refine aN [1,9,10] (α:=Nat×AL) (fun i=>[(11,aI i.1)]) (fun i=>i.1≤l.length∧J i.1 i.2∧dv err l.length=dq err (l.length - i.1) i.1) (fun i=>i.2) (fun i=>l.length - i.1) (0,L0) rfl ⟨rfl,trivial⟩ ⟨Nat.zero_le _,h0,rfl⟩ (fun _ _ h=>h) ?_
 rintro ⟨i,L⟩ ⟨hi,hj,he⟩
 dsimp only at hi hj he ⊢
 try dsimp only [Lr,Lq,Lp,Li]
 refine W01 ?_
 refine ar rfl (fun h=>?_) (fun h=>?_)
 ·have hil:i < l.length:=by have:=Lz h;simp at this;omega
  obtain ⟨z,hz⟩:∃z,l[i]?=some z:=⟨_,Iy hil⟩
  have hzg:=cO (c:=cM) hz
  refine W03 ?_
  intros
  refine dH L [] (hw i z L hz hj) rfl hu rfl (ck rfl) rfl rfl fun c L1 ⟨hc,hj'⟩=>?_
  subst hc
  rw [List.append_nil]
  refine W01 ?_
  refine ar rfl (fun h2=>?_) (fun h2=>?_)
  ·have h2':=Lz h2
   refine W09 ?_
   refine LT LA ?_
   rw [he,cP hil h2']
   rfl
  ·have h2':=Decidable.not_not.1 (Ly h2)
   refine W06 ?_
   exact aC (i+1,L1) rfl ⟨by rw [Lv];rfl,trivial⟩ ⟨by dsimp only;omega,hj' h2',by rw [he];exact cD hil h2'⟩ (by dsimp only;omega) (fun _ _ h=>h)
 ·have hil:i=l.length:=by have:=Ly h;simp at this;omega
  subst hil
  refine W02 ?_
  refine LT LA ?_
  rw [he,Nat.sub_self]
  rfl
theorem Gu {g:FuncId} {caps:List AV} {u:AV} [bD Tryz.prog g] (hu:lj u=some (g,caps)) (l:List eR) (most:Int) (err:Nat→Int) (J:Nat→AL→Prop) (L0:AL) (h0:J 0 L0) (hw:(l.length:Int)≤most→∀i x L,l[i]?=some x→J i L→AC Tryz.prog g ([aI i,.agg (cM x)]++caps) L fun c L'=>c=aI (err i)∧(err i=0→J (i+1) L')):
  AC Tryz.prog 145 [.iptr [.imm 4 (l.map cM)],.iptr [aI most],.iptr [u]] L0 fun r _=>r=cu (dk most err l.length):=by
 refine aS Tryz.func145 rfl Tryz.ntmps145 rfl fun B=>?_
 refine W01 ?_
 refine ar rfl (fun h=>?_) (fun h=>?_)
 ·have h':=Lz h
  rw [Lu] at h'
  refine W07 ?_
  refine LT LA ?_
  unfold dk
  rw [if_pos h']
  rfl
 ·have h':=Ly h
  rw [Lu] at h'
  refine W0e ?_
  refine b9 L0 [] (FD hu l err J L0 h0 (hw (by omega))) rfl (fZ hu) (ck rfl) rfl fun c L1 hc=>?_
  subst hc
  refine W0c ?_
  refine LT LA ?_
  unfold dk
  rw [if_neg h']
  rfl
theorem Jb {g:FuncId} {caps:List AV} (l:List eR) (most:Int):c5 Tryz.prog 67 [.imm 4 (l.map cM),aI most,.fn g caps] (.fn 145 [.iptr [.imm 4 (l.map cM)],.iptr [aI most],.iptr [.fn g caps]]):=by
 refine aS Tryz.func67 rfl Tryz.ntmps67 rfl fun B=>?_
 refine W0h ?_
 exact LN LA
instance {g:FuncId} {caps:List AV} (l:List eR) (most:Int):AD Tryz.prog 67 [.imm 4 (l.map cM),aI most,.fn g caps] (.fn 145 [.iptr [.imm 4 (l.map cM)],.iptr [aI most],.iptr [.fn g caps]]):=⟨Jb l most⟩
theorem FE {g:FuncId} {caps:List AV} {u:AV} [bD Tryz.prog g] (hu:lj u=some (g,caps)) (l:List (List fq)) (err:Nat→Int) (J:Nat→AL→Prop) (L0:AL) (h0:J 0 L0) (hw:∀i x L,l[i]?=some x→J i L→AC Tryz.prog g ([aI i,.agg (bN x)]++caps) L fun c L'=>c=aI (err i)∧(err i=0→J (i+1) L')):
  AC Tryz.prog 148 [.imm 1 (l.map bN),u] L0 fun r _=>r=cu (dv err l.length):=by
 refine aS Tryz.func148 rfl Tryz.ntmps148 rfl fun B=>?_
 refine cW 0 rfl rfl fun hlen=>?_
 rw [Lu] at hlen
 refine W04 ?_
 refine aN [1,9,10] (α:=Nat×AL) (fun i=>[(11,aI i.1)]) (fun i=>i.1≤l.length∧J i.1 i.2∧dv err l.length=dq err (l.length - i.1) i.1) (fun i=>i.2) (fun i=>l.length - i.1) (0,L0) rfl ⟨rfl,trivial⟩ ⟨Nat.zero_le _,h0,rfl⟩ (fun _ _ h=>h) ?_
 rintro ⟨i,L⟩ ⟨hi,hj,he⟩
 dsimp only at hi hj he ⊢
 try dsimp only [Lr,Lq,Lp,Li]
 refine W01 ?_
 refine ar rfl (fun h=>?_) (fun h=>?_)
 ·have hil:i < l.length:=by have:=Lz h;simp at this;omega
  obtain ⟨z,hz⟩:∃z,l[i]?=some z:=⟨_,Iy hil⟩
  have hzg:=cO (c:=bN) hz
  refine W03 ?_
  intros
  refine dH L [] (hw i z L hz hj) rfl hu rfl (ck rfl) rfl rfl fun c L1 ⟨hc,hj'⟩=>?_
  subst hc
  rw [List.append_nil]
  refine W01 ?_
  refine ar rfl (fun h2=>?_) (fun h2=>?_)
  ·have h2':=Lz h2
   refine W09 ?_
   refine LT LA ?_
   rw [he,cP hil h2']
   rfl
  ·have h2':=Decidable.not_not.1 (Ly h2)
   refine W06 ?_
   exact aC (i+1,L1) rfl ⟨by rw [Lv];rfl,trivial⟩ ⟨by dsimp only;omega,hj' h2',by rw [he];exact cD hil h2'⟩ (by dsimp only;omega) (fun _ _ h=>h)
 ·have hil:i=l.length:=by have:=Ly h;simp at this;omega
  subst hil
  refine W02 ?_
  refine LT LA ?_
  rw [he,Nat.sub_self]
  rfl
theorem Gv {g:FuncId} {caps:List AV} {u:AV} [bD Tryz.prog g] (hu:lj u=some (g,caps)) (l:List (List fq)) (most:Int) (err:Nat→Int) (J:Nat→AL→Prop) (L0:AL) (h0:J 0 L0) (hw:(l.length:Int)≤most→∀i x L,l[i]?=some x→J i L→AC Tryz.prog g ([aI i,.agg (bN x)]++caps) L fun c L'=>c=aI (err i)∧(err i=0→J (i+1) L')):
  AC Tryz.prog 147 [.iptr [.imm 1 (l.map bN)],.iptr [aI most],.iptr [u]] L0 fun r _=>r=cu (dk most err l.length):=by
 refine aS Tryz.func147 rfl Tryz.ntmps147 rfl fun B=>?_
 refine W01 ?_
 refine ar rfl (fun h=>?_) (fun h=>?_)
 ·have h':=Lz h
  rw [Lu] at h'
  refine W07 ?_
  refine LT LA ?_
  unfold dk
  rw [if_pos h']
  rfl
 ·have h':=Ly h
  rw [Lu] at h'
  refine W0e ?_
  refine b9 L0 [] (FE hu l err J L0 h0 (hw (by omega))) rfl (fZ hu) (ck rfl) rfl fun c L1 hc=>?_
  subst hc
  refine W0c ?_
  refine LT LA ?_
  unfold dk
  rw [if_neg h']
  rfl
theorem Jc {g:FuncId} {caps:List AV} (l:List (List fq)) (most:Int):c5 Tryz.prog 70 [.imm 1 (l.map bN),aI most,.fn g caps] (.fn 147 [.iptr [.imm 1 (l.map bN)],.iptr [aI most],.iptr [.fn g caps]]):=by
 refine aS Tryz.func70 rfl Tryz.ntmps70 rfl fun B=>?_
 refine W0h ?_
 exact LN LA
instance {g:FuncId} {caps:List AV} (l:List (List fq)) (most:Int):AD Tryz.prog 70 [.imm 1 (l.map bN),aI most,.fn g caps] (.fn 147 [.iptr [.imm 1 (l.map bN)],.iptr [aI most],.iptr [.fn g caps]]):=⟨Jc l most⟩
theorem FF {g:FuncId} {caps:List AV} {u:AV} [bD Tryz.prog g] (hu:lj u=some (g,caps)) (l:List fq) (err:Nat→Int) (J:Nat→AL→Prop) (L0:AL) (h0:J 0 L0) (hw:∀i x L,l[i]?=some x→J i L→AC Tryz.prog g ([aI i,.agg (ld x)]++caps) L fun c L'=>c=aI (err i)∧(err i=0→J (i+1) L')):
  AC Tryz.prog 149 [.imm 3 (l.map ld),u] L0 fun r _=>r=cu (dv err l.length):=by
 refine aS Tryz.func149 rfl Tryz.ntmps149 rfl fun B=>?_
 refine cW 0 rfl rfl fun hlen=>?_
 rw [Lu] at hlen
 refine W04 ?_
 refine aN [1,9,10] (α:=Nat×AL) (fun i=>[(11,aI i.1)]) (fun i=>i.1≤l.length∧J i.1 i.2∧dv err l.length=dq err (l.length - i.1) i.1) (fun i=>i.2) (fun i=>l.length - i.1) (0,L0) rfl ⟨rfl,trivial⟩ ⟨Nat.zero_le _,h0,rfl⟩ (fun _ _ h=>h) ?_
 rintro ⟨i,L⟩ ⟨hi,hj,he⟩
 dsimp only at hi hj he ⊢
 try dsimp only [Lr,Lq,Lp,Li]
 refine W01 ?_
 refine ar rfl (fun h=>?_) (fun h=>?_)
 ·have hil:i < l.length:=by have:=Lz h;simp at this;omega
  obtain ⟨z,hz⟩:∃z,l[i]?=some z:=⟨_,Iy hil⟩
  have hzg:=cO (c:=ld) hz
  refine W03 ?_
  intros
  refine dH L [] (hw i z L hz hj) rfl hu rfl (ck rfl) rfl rfl fun c L1 ⟨hc,hj'⟩=>?_
  subst hc
  rw [List.append_nil]
  refine W01 ?_
  refine ar rfl (fun h2=>?_) (fun h2=>?_)
  ·have h2':=Lz h2
   refine W09 ?_
   refine LT LA ?_
   rw [he,cP hil h2']
   rfl
  ·have h2':=Decidable.not_not.1 (Ly h2)
   refine W06 ?_
   exact aC (i+1,L1) rfl ⟨by rw [Lv];rfl,trivial⟩ ⟨by dsimp only;omega,hj' h2',by rw [he];exact cD hil h2'⟩ (by dsimp only;omega) (fun _ _ h=>h)
 ·have hil:i=l.length:=by have:=Ly h;simp at this;omega
  subst hil
  refine W02 ?_
  refine LT LA ?_
  rw [he,Nat.sub_self]
  rfl
theorem FG {g:FuncId} {caps:List AV} {u:AV} [bD Tryz.prog g] (hu:lj u=some (g,caps)) (l:List (List gx)) (err:Nat→Int) (J:Nat→AL→Prop) (L0:AL) (h0:J 0 L0) (hw:∀i x L,l[i]?=some x→J i L→AC Tryz.prog g ([aI i,.imm 2 (x.map fj)]++caps) L fun c L'=>c=aI (err i)∧(err i=0→J (i+1) L')):
  AC Tryz.prog 152 [.imm 1 (l.map dG),u] L0 fun r _=>r=cu (dv err l.length):=by
 refine aS Tryz.func152 rfl Tryz.ntmps152 rfl fun B=>?_
 refine cW 0 rfl rfl fun hlen=>?_
 rw [Lu] at hlen
 refine W04 ?_
 refine aN [1,9,10] (α:=Nat×AL) (fun i=>[(11,aI i.1)]) (fun i=>i.1≤l.length∧J i.1 i.2∧dv err l.length=dq err (l.length - i.1) i.1) (fun i=>i.2) (fun i=>l.length - i.1) (0,L0) rfl ⟨rfl,trivial⟩ ⟨Nat.zero_le _,h0,rfl⟩ (fun _ _ h=>h) ?_
 rintro ⟨i,L⟩ ⟨hi,hj,he⟩
 dsimp only at hi hj he ⊢
 try dsimp only [Lr,Lq,Lp,Li]
 refine W01 ?_
 refine ar rfl (fun h=>?_) (fun h=>?_)
 ·have hil:i < l.length:=by have:=Lz h;simp at this;omega
  obtain ⟨z,hz⟩:∃z,l[i]?=some z:=⟨_,Iy hil⟩
  have hzg:=cO (c:=dG) hz
  refine W08 ?_
  refine dH L [] (hw i z L hz hj) rfl hu rfl (ck rfl) rfl rfl fun c L1 ⟨hc,hj'⟩=>?_
  subst hc
  rw [List.append_nil]
  refine W01 ?_
  refine ar rfl (fun h2=>?_) (fun h2=>?_)
  ·have h2':=Lz h2
   refine W09 ?_
   refine LT LA ?_
   rw [he,cP hil h2']
   rfl
  ·have h2':=Decidable.not_not.1 (Ly h2)
   refine W06 ?_
   exact aC (i+1,L1) rfl ⟨by rw [Lv];rfl,trivial⟩ ⟨by dsimp only;omega,hj' h2',by rw [he];exact cD hil h2'⟩ (by dsimp only;omega) (fun _ _ h=>h)
 ·have hil:i=l.length:=by have:=Ly h;simp at this;omega
  subst hil
  refine W02 ?_
  refine LT LA ?_
  rw [he,Nat.sub_self]
  rfl
theorem Gw {g:FuncId} {caps:List AV} {u:AV} [bD Tryz.prog g] (hu:lj u=some (g,caps)) (l:List (List gx)) (most:Int) (err:Nat→Int) (J:Nat→AL→Prop) (L0:AL) (h0:J 0 L0) (hw:(l.length:Int)≤most→∀i x L,l[i]?=some x→J i L→AC Tryz.prog g ([aI i,.imm 2 (x.map fj)]++caps) L fun c L'=>c=aI (err i)∧(err i=0→J (i+1) L')):
  AC Tryz.prog 151 [.iptr [.imm 1 (l.map dG)],.iptr [aI most],.iptr [u]] L0 fun r _=>r=cu (dk most err l.length):=by
 refine aS Tryz.func151 rfl Tryz.ntmps151 rfl fun B=>?_
 refine W01 ?_
 refine ar rfl (fun h=>?_) (fun h=>?_)
 ·have h':=Lz h
  rw [Lu] at h'
  refine W07 ?_
  refine LT LA ?_
  unfold dk
  rw [if_pos h']
  rfl
 ·have h':=Ly h
  rw [Lu] at h'
  refine W0e ?_
  refine b9 L0 [] (FG hu l err J L0 h0 (hw (by omega))) rfl (fZ hu) (ck rfl) rfl fun c L1 hc=>?_
  subst hc
  refine W0c ?_
  refine LT LA ?_
  unfold dk
  rw [if_neg h']
  rfl
theorem I5 {g:FuncId} (l:List (List gx)) (most:Int):c5 Tryz.prog 73 [.imm 1 (l.map dG),aI most,.sc (.func (.func g) #[] #[])] (.fn 151 [.iptr [.imm 1 (l.map dG)],.iptr [aI most],.iptr [.sc (.func (.func g) #[] #[])]]):=by
 refine aS Tryz.func73 rfl Tryz.ntmps73 rfl fun B=>?_
 refine W0h ?_
 exact LN LA
instance {g:FuncId} (l:List (List gx)) (most:Int):AD Tryz.prog 73 [.imm 1 (l.map dG),aI most,.sc (.func (.func g) #[] #[])] (.fn 151 [.iptr [.imm 1 (l.map dG)],.iptr [aI most],.iptr [.sc (.func (.func g) #[] #[])]]):=⟨I5 l most⟩
theorem FH {g:FuncId} {caps:List AV} {u:AV} [bD Tryz.prog g] (hu:lj u=some (g,caps)) (l:List f3) (err:Nat→Int) (J:Nat→AL→Prop) (L0:AL) (h0:J 0 L0) (hw:∀i x L,l[i]?=some x→J i L→AC Tryz.prog g ([aI i,.agg (dL x)]++caps) L fun c L'=>c=aI (err i)∧(err i=0→J (i+1) L')):
  AC Tryz.prog 198 [.imm 3 (l.map dL),u] L0 fun r _=>r=cu (dv err l.length):=by
 refine aS Tryz.func198 rfl Tryz.ntmps198 rfl fun B=>?_
 refine cW 0 rfl rfl fun hlen=>?_
 rw [Lu] at hlen
 refine W04 ?_
 refine aN [1,9,10] (α:=Nat×AL) (fun i=>[(11,aI i.1)]) (fun i=>i.1≤l.length∧J i.1 i.2∧dv err l.length=dq err (l.length - i.1) i.1) (fun i=>i.2) (fun i=>l.length - i.1) (0,L0) rfl ⟨rfl,trivial⟩ ⟨Nat.zero_le _,h0,rfl⟩ (fun _ _ h=>h) ?_
 rintro ⟨i,L⟩ ⟨hi,hj,he⟩
 dsimp only at hi hj he ⊢
 try dsimp only [Lr,Lq,Lp,Li]
 refine W01 ?_
 refine ar rfl (fun h=>?_) (fun h=>?_)
 ·have hil:i < l.length:=by have:=Lz h;simp at this;omega
  obtain ⟨z,hz⟩:∃z,l[i]?=some z:=⟨_,Iy hil⟩
  have hzg:=cO (c:=dL) hz
  refine W03 ?_
  intros
  refine dH L [] (hw i z L hz hj) rfl hu rfl (ck rfl) rfl rfl fun c L1 ⟨hc,hj'⟩=>?_
  subst hc
  rw [List.append_nil]
  refine W01 ?_
  refine ar rfl (fun h2=>?_) (fun h2=>?_)
  ·have h2':=Lz h2
   refine W09 ?_
   refine LT LA ?_
   rw [he,cP hil h2']
   rfl
  ·have h2':=Decidable.not_not.1 (Ly h2)
   refine W06 ?_
   exact aC (i+1,L1) rfl ⟨by rw [Lv];rfl,trivial⟩ ⟨by dsimp only;omega,hj' h2',by rw [he];exact cD hil h2'⟩ (by dsimp only;omega) (fun _ _ h=>h)
 ·have hil:i=l.length:=by have:=Ly h;simp at this;omega
  subst hil
  refine W02 ?_
  refine LT LA ?_
  rw [he,Nat.sub_self]
  rfl
theorem FI {g:FuncId} {caps:List AV} {u:AV} [bD Tryz.prog g] (hu:lj u=some (g,caps)) (l:List dX) (err:Nat→Int) (J:Nat→AL→Prop) (L0:AL) (h0:J 0 L0) (hw:∀i x L,l[i]?=some x→J i L→AC Tryz.prog g ([aI i,.agg (f0 x)]++caps) L fun c L'=>c=aI (err i)∧(err i=0→J (i+1) L')):
  AC Tryz.prog 202 [.imm 3 (l.map f0),u] L0 fun r _=>r=cu (dv err l.length):=by
 refine aS Tryz.func202 rfl Tryz.ntmps202 rfl fun B=>?_
 refine cW 0 rfl rfl fun hlen=>?_
 rw [Lu] at hlen
 refine W04 ?_
 refine aN [1,9,10] (α:=Nat×AL) (fun i=>[(11,aI i.1)]) (fun i=>i.1≤l.length∧J i.1 i.2∧dv err l.length=dq err (l.length - i.1) i.1) (fun i=>i.2) (fun i=>l.length - i.1) (0,L0) rfl ⟨rfl,trivial⟩ ⟨Nat.zero_le _,h0,rfl⟩ (fun _ _ h=>h) ?_
 rintro ⟨i,L⟩ ⟨hi,hj,he⟩
 dsimp only at hi hj he ⊢
 try dsimp only [Lr,Lq,Lp,Li]
 refine W01 ?_
 refine ar rfl (fun h=>?_) (fun h=>?_)
 ·have hil:i < l.length:=by have:=Lz h;simp at this;omega
  obtain ⟨z,hz⟩:∃z,l[i]?=some z:=⟨_,Iy hil⟩
  have hzg:=cO (c:=f0) hz
  refine W03 ?_
  intros
  refine dH L [] (hw i z L hz hj) rfl hu rfl (ck rfl) rfl rfl fun c L1 ⟨hc,hj'⟩=>?_
  subst hc
  rw [List.append_nil]
  refine W01 ?_
  refine ar rfl (fun h2=>?_) (fun h2=>?_)
  ·have h2':=Lz h2
   refine W09 ?_
   refine LT LA ?_
   rw [he,cP hil h2']
   rfl
  ·have h2':=Decidable.not_not.1 (Ly h2)
   refine W06 ?_
   exact aC (i+1,L1) rfl ⟨by rw [Lv];rfl,trivial⟩ ⟨by dsimp only;omega,hj' h2',by rw [he];exact cD hil h2'⟩ (by dsimp only;omega) (fun _ _ h=>h)
 ·have hil:i=l.length:=by have:=Ly h;simp at this;omega
  subst hil
  refine W02 ?_
  refine LT LA ?_
  rw [he,Nat.sub_self]
  rfl
theorem Gy {g:FuncId} {caps:List AV} {u:AV} [bD Tryz.prog g] (hu:lj u=some (g,caps)) (l:List dX) (most:Int) (err:Nat→Int) (J:Nat→AL→Prop) (L0:AL) (h0:J 0 L0) (hw:(l.length:Int)≤most→∀i x L,l[i]?=some x→J i L→AC Tryz.prog g ([aI i,.agg (f0 x)]++caps) L fun c L'=>c=aI (err i)∧(err i=0→J (i+1) L')):
  AC Tryz.prog 201 [.iptr [.imm 3 (l.map f0)],.iptr [aI most],.iptr [u]] L0 fun r _=>r=cu (dk most err l.length):=by
 refine aS Tryz.func201 rfl Tryz.ntmps201 rfl fun B=>?_
 refine W01 ?_
 refine ar rfl (fun h=>?_) (fun h=>?_)
 ·have h':=Lz h
  rw [Lu] at h'
  refine W07 ?_
  refine LT LA ?_
  unfold dk
  rw [if_pos h']
  rfl
 ·have h':=Ly h
  rw [Lu] at h'
  refine W0e ?_
  refine b9 L0 [] (FI hu l err J L0 h0 (hw (by omega))) rfl (fZ hu) (ck rfl) rfl fun c L1 hc=>?_
  subst hc
  refine W0c ?_
  refine LT LA ?_
  unfold dk
  rw [if_neg h']
  rfl
theorem Jd {g:FuncId} {caps:List AV} (l:List dX) (most:Int):c5 Tryz.prog 117 [.imm 3 (l.map f0),aI most,.fn g caps] (.fn 201 [.iptr [.imm 3 (l.map f0)],.iptr [aI most],.iptr [.fn g caps]]):=by
 refine aS Tryz.func117 rfl Tryz.ntmps117 rfl fun B=>?_
 refine W0h ?_
 exact LN LA
instance {g:FuncId} {caps:List AV} (l:List dX) (most:Int):AD Tryz.prog 117 [.imm 3 (l.map f0),aI most,.fn g caps] (.fn 201 [.iptr [.imm 3 (l.map f0)],.iptr [aI most],.iptr [.fn g caps]]):=⟨Jd l most⟩
theorem FJ {g:FuncId} {caps:List AV} {u:AV} [bD Tryz.prog g] (hu:lj u=some (g,caps)) (l:List dE) (err:Nat→Int) (J:Nat→AL→Prop) (L0:AL) (h0:J 0 L0) (hw:∀i x L,l[i]?=some x→J i L→AC Tryz.prog g ([aI i,.agg (dp x)]++caps) L fun c L'=>c=aI (err i)∧(err i=0→J (i+1) L')):
  AC Tryz.prog 204 [.imm 4 (l.map dp),u] L0 fun r _=>r=cu (dv err l.length):=by
 refine aS Tryz.func204 rfl Tryz.ntmps204 rfl fun B=>?_
 refine cW 0 rfl rfl fun hlen=>?_
 rw [Lu] at hlen
 refine W04 ?_
 refine aN [1,9,10] (α:=Nat×AL) (fun i=>[(11,aI i.1)]) (fun i=>i.1≤l.length∧J i.1 i.2∧dv err l.length=dq err (l.length - i.1) i.1) (fun i=>i.2) (fun i=>l.length - i.1) (0,L0) rfl ⟨rfl,trivial⟩ ⟨Nat.zero_le _,h0,rfl⟩ (fun _ _ h=>h) ?_
 rintro ⟨i,L⟩ ⟨hi,hj,he⟩
 dsimp only at hi hj he ⊢
 try dsimp only [Lr,Lq,Lp,Li]
 refine W01 ?_
 refine ar rfl (fun h=>?_) (fun h=>?_)
 ·have hil:i < l.length:=by have:=Lz h;simp at this;omega
  obtain ⟨z,hz⟩:∃z,l[i]?=some z:=⟨_,Iy hil⟩
  have hzg:=cO (c:=dp) hz
  refine W03 ?_
  intros
  refine dH L [] (hw i z L hz hj) rfl hu rfl (ck rfl) rfl rfl fun c L1 ⟨hc,hj'⟩=>?_
  subst hc
  rw [List.append_nil]
  refine W01 ?_
  refine ar rfl (fun h2=>?_) (fun h2=>?_)
  ·have h2':=Lz h2
   refine W09 ?_
   refine LT LA ?_
   rw [he,cP hil h2']
   rfl
  ·have h2':=Decidable.not_not.1 (Ly h2)
   refine W06 ?_
   exact aC (i+1,L1) rfl ⟨by rw [Lv];rfl,trivial⟩ ⟨by dsimp only;omega,hj' h2',by rw [he];exact cD hil h2'⟩ (by dsimp only;omega) (fun _ _ h=>h)
 ·have hil:i=l.length:=by have:=Ly h;simp at this;omega
  subst hil
  refine W02 ?_
  refine LT LA ?_
  rw [he,Nat.sub_self]
  rfl
theorem Gz {g:FuncId} {caps:List AV} {u:AV} [bD Tryz.prog g] (hu:lj u=some (g,caps)) (l:List dE) (most:Int) (err:Nat→Int) (J:Nat→AL→Prop) (L0:AL) (h0:J 0 L0) (hw:(l.length:Int)≤most→∀i x L,l[i]?=some x→J i L→AC Tryz.prog g ([aI i,.agg (dp x)]++caps) L fun c L'=>c=aI (err i)∧(err i=0→J (i+1) L')):
  AC Tryz.prog 203 [.iptr [.imm 4 (l.map dp)],.iptr [aI most],.iptr [u]] L0 fun r _=>r=cu (dk most err l.length):=by
 refine aS Tryz.func203 rfl Tryz.ntmps203 rfl fun B=>?_
 refine W01 ?_
 refine ar rfl (fun h=>?_) (fun h=>?_)
 ·have h':=Lz h
  rw [Lu] at h'
  refine W07 ?_
  refine LT LA ?_
  unfold dk
  rw [if_pos h']
  rfl
 ·have h':=Ly h
  rw [Lu] at h'
  refine W0e ?_
  refine b9 L0 [] (FJ hu l err J L0 h0 (hw (by omega))) rfl (fZ hu) (ck rfl) rfl fun c L1 hc=>?_
  subst hc
  refine W0c ?_
  refine LT LA ?_
  unfold dk
  rw [if_neg h']
  rfl
theorem Je {g:FuncId} {caps:List AV} (l:List dE) (most:Int):c5 Tryz.prog 120 [.imm 4 (l.map dp),aI most,.fn g caps] (.fn 203 [.iptr [.imm 4 (l.map dp)],.iptr [aI most],.iptr [.fn g caps]]):=by
 refine aS Tryz.func120 rfl Tryz.ntmps120 rfl fun B=>?_
 refine W0h ?_
 exact LN LA
instance {g:FuncId} {caps:List AV} (l:List dE) (most:Int):AD Tryz.prog 120 [.imm 4 (l.map dp),aI most,.fn g caps] (.fn 203 [.iptr [.imm 4 (l.map dp)],.iptr [aI most],.iptr [.fn g caps]]):=⟨Je l most⟩
theorem FK {g:FuncId} {caps:List AV} {u:AV} [bD Tryz.prog g] (hu:lj u=some (g,caps)) (l:List dO) (err:Nat→Int) (J:Nat→AL→Prop) (L0:AL) (h0:J 0 L0) (hw:∀i x L,l[i]?=some x→J i L→AC Tryz.prog g ([aI i,.agg (ev x)]++caps) L fun c L'=>c=aI (err i)∧(err i=0→J (i+1) L')):
  AC Tryz.prog 207 [.imm 4 (l.map ev),u] L0 fun r _=>r=cu (dv err l.length):=by
 refine aS Tryz.func207 rfl Tryz.ntmps207 rfl fun B=>?_
 refine cW 0 rfl rfl fun hlen=>?_
 rw [Lu] at hlen
 refine W04 ?_
 refine aN [1,9,10] (α:=Nat×AL) (fun i=>[(11,aI i.1)]) (fun i=>i.1≤l.length∧J i.1 i.2∧dv err l.length=dq err (l.length - i.1) i.1) (fun i=>i.2) (fun i=>l.length - i.1) (0,L0) rfl ⟨rfl,trivial⟩ ⟨Nat.zero_le _,h0,rfl⟩ (fun _ _ h=>h) ?_
 rintro ⟨i,L⟩ ⟨hi,hj,he⟩
 dsimp only at hi hj he ⊢
 try dsimp only [Lr,Lq,Lp,Li]
 refine W01 ?_
 refine ar rfl (fun h=>?_) (fun h=>?_)
 ·have hil:i < l.length:=by have:=Lz h;simp at this;omega
  obtain ⟨z,hz⟩:∃z,l[i]?=some z:=⟨_,Iy hil⟩
  have hzg:=cO (c:=ev) hz
  refine W03 ?_
  intros
  refine dH L [] (hw i z L hz hj) rfl hu rfl (ck rfl) rfl rfl fun c L1 ⟨hc,hj'⟩=>?_
  subst hc
  rw [List.append_nil]
  refine W01 ?_
  refine ar rfl (fun h2=>?_) (fun h2=>?_)
  ·have h2':=Lz h2
   refine W09 ?_
   refine LT LA ?_
   rw [he,cP hil h2']
   rfl
  ·have h2':=Decidable.not_not.1 (Ly h2)
   refine W06 ?_
   exact aC (i+1,L1) rfl ⟨by rw [Lv];rfl,trivial⟩ ⟨by dsimp only;omega,hj' h2',by rw [he];exact cD hil h2'⟩ (by dsimp only;omega) (fun _ _ h=>h)
 ·have hil:i=l.length:=by have:=Ly h;simp at this;omega
  subst hil
  refine W02 ?_
  refine LT LA ?_
  rw [he,Nat.sub_self]
  rfl
theorem GA {g:FuncId} {caps:List AV} {u:AV} [bD Tryz.prog g] (hu:lj u=some (g,caps)) (l:List dO) (most:Int) (err:Nat→Int) (J:Nat→AL→Prop) (L0:AL) (h0:J 0 L0) (hw:(l.length:Int)≤most→∀i x L,l[i]?=some x→J i L→AC Tryz.prog g ([aI i,.agg (ev x)]++caps) L fun c L'=>c=aI (err i)∧(err i=0→J (i+1) L')):
  AC Tryz.prog 206 [.iptr [.imm 4 (l.map ev)],.iptr [aI most],.iptr [u]] L0 fun r _=>r=cu (dk most err l.length):=by
 refine aS Tryz.func206 rfl Tryz.ntmps206 rfl fun B=>?_
 refine W01 ?_
 refine ar rfl (fun h=>?_) (fun h=>?_)
 ·have h':=Lz h
  rw [Lu] at h'
  refine W07 ?_
  refine LT LA ?_
  unfold dk
  rw [if_pos h']
  rfl
 ·have h':=Ly h
  rw [Lu] at h'
  refine W0e ?_
  refine b9 L0 [] (FK hu l err J L0 h0 (hw (by omega))) rfl (fZ hu) (ck rfl) rfl fun c L1 hc=>?_
  subst hc
  refine W0c ?_
  refine LT LA ?_
  unfold dk
  rw [if_neg h']
  rfl
theorem Jf {g:FuncId} {caps:List AV} (l:List dO) (most:Int):c5 Tryz.prog 122 [.imm 4 (l.map ev),aI most,.fn g caps] (.fn 206 [.iptr [.imm 4 (l.map ev)],.iptr [aI most],.iptr [.fn g caps]]):=by
 refine aS Tryz.func122 rfl Tryz.ntmps122 rfl fun B=>?_
 refine W0h ?_
 exact LN LA
instance {g:FuncId} {caps:List AV} (l:List dO) (most:Int):AD Tryz.prog 122 [.imm 4 (l.map ev),aI most,.fn g caps] (.fn 206 [.iptr [.imm 4 (l.map ev)],.iptr [aI most],.iptr [.fn g caps]]):=⟨Jf l most⟩
theorem FL {g:FuncId} {caps:List AV} {u:AV} [bD Tryz.prog g] (hu:lj u=some (g,caps)) (l:List (List Int)) (err:Nat→Int) (J:Nat→AL→Prop) (L0:AL) (h0:J 0 L0) (hw:∀i x L,l[i]?=some x→J i L→AC Tryz.prog g ([aI i,.imm 1 (aQ x)]++caps) L fun c L'=>c=aI (err i)∧(err i=0→J (i+1) L')):
  AC Tryz.prog 215 [.imm 1 (l.map IX),u] L0 fun r _=>r=cu (dv err l.length):=by
 refine aS Tryz.func215 rfl Tryz.ntmps215 rfl fun B=>?_
 refine cW 0 rfl rfl fun hlen=>?_
 rw [Lu] at hlen
 refine W04 ?_
 refine aN [1,9,10] (α:=Nat×AL) (fun i=>[(11,aI i.1)]) (fun i=>i.1≤l.length∧J i.1 i.2∧dv err l.length=dq err (l.length - i.1) i.1) (fun i=>i.2) (fun i=>l.length - i.1) (0,L0) rfl ⟨rfl,trivial⟩ ⟨Nat.zero_le _,h0,rfl⟩ (fun _ _ h=>h) ?_
 rintro ⟨i,L⟩ ⟨hi,hj,he⟩
 dsimp only at hi hj he ⊢
 try dsimp only [Lr,Lq,Lp,Li]
 refine W01 ?_
 refine ar rfl (fun h=>?_) (fun h=>?_)
 ·have hil:i < l.length:=by have:=Lz h;simp at this;omega
  obtain ⟨z,hz⟩:∃z,l[i]?=some z:=⟨_,Iy hil⟩
  have hzg:=cO (c:=IX) hz
  refine W08 ?_
  refine dH L [] (hw i z L hz hj) rfl hu rfl (ck rfl) rfl rfl fun c L1 ⟨hc,hj'⟩=>?_
  subst hc
  rw [List.append_nil]
  refine W01 ?_
  refine ar rfl (fun h2=>?_) (fun h2=>?_)
  ·have h2':=Lz h2
   refine W09 ?_
   refine LT LA ?_
   rw [he,cP hil h2']
   rfl
  ·have h2':=Decidable.not_not.1 (Ly h2)
   refine W06 ?_
   exact aC (i+1,L1) rfl ⟨by rw [Lv];rfl,trivial⟩ ⟨by dsimp only;omega,hj' h2',by rw [he];exact cD hil h2'⟩ (by dsimp only;omega) (fun _ _ h=>h)
 ·have hil:i=l.length:=by have:=Ly h;simp at this;omega
  subst hil
  refine W02 ?_
  refine LT LA ?_
  rw [he,Nat.sub_self]
  rfl
theorem FM {g:FuncId} {caps:List AV} {u:AV} [bD Tryz.prog g] (hu:lj u=some (g,caps)) (l:List gx) (err:Nat→Int) (J:Nat→AL→Prop) (L0:AL) (h0:J 0 L0) (hw:∀i x L,l[i]?=some x→J i L→AC Tryz.prog g ([aI i,.agg (fj x)]++caps) L fun c L'=>c=aI (err i)∧(err i=0→J (i+1) L')):
  AC Tryz.prog 228 [.imm 2 (l.map fj),u] L0 fun r _=>r=cu (dv err l.length):=by
 refine aS Tryz.func228 rfl Tryz.ntmps228 rfl fun B=>?_
 refine cW 0 rfl rfl fun hlen=>?_
 rw [Lu] at hlen
 refine W04 ?_
 refine aN [1,9,10] (α:=Nat×AL) (fun i=>[(11,aI i.1)]) (fun i=>i.1≤l.length∧J i.1 i.2∧dv err l.length=dq err (l.length - i.1) i.1) (fun i=>i.2) (fun i=>l.length - i.1) (0,L0) rfl ⟨rfl,trivial⟩ ⟨Nat.zero_le _,h0,rfl⟩ (fun _ _ h=>h) ?_
 rintro ⟨i,L⟩ ⟨hi,hj,he⟩
 dsimp only at hi hj he ⊢
 try dsimp only [Lr,Lq,Lp,Li]
 refine W01 ?_
 refine ar rfl (fun h=>?_) (fun h=>?_)
 ·have hil:i < l.length:=by have:=Lz h;simp at this;omega
  obtain ⟨z,hz⟩:∃z,l[i]?=some z:=⟨_,Iy hil⟩
  have hzg:=cO (c:=fj) hz
  refine W03 ?_
  intros
  refine dH L [] (hw i z L hz hj) rfl hu rfl (ck rfl) rfl rfl fun c L1 ⟨hc,hj'⟩=>?_
  subst hc
  rw [List.append_nil]
  refine W01 ?_
  refine ar rfl (fun h2=>?_) (fun h2=>?_)
  ·have h2':=Lz h2
   refine W09 ?_
   refine LT LA ?_
   rw [he,cP hil h2']
   rfl
  ·have h2':=Decidable.not_not.1 (Ly h2)
   refine W06 ?_
   exact aC (i+1,L1) rfl ⟨by rw [Lv];rfl,trivial⟩ ⟨by dsimp only;omega,hj' h2',by rw [he];exact cD hil h2'⟩ (by dsimp only;omega) (fun _ _ h=>h)
 ·have hil:i=l.length:=by have:=Ly h;simp at this;omega
  subst hil
  refine W02 ?_
  refine LT LA ?_
  rw [he,Nat.sub_self]
  rfl
theorem GB {g:FuncId} {caps:List AV} {u:AV} [bD Tryz.prog g] (hu:lj u=some (g,caps)) (l:List gx) (most:Int) (err:Nat→Int) (J:Nat→AL→Prop) (L0:AL) (h0:J 0 L0) (hw:(l.length:Int)≤most→∀i x L,l[i]?=some x→J i L→AC Tryz.prog g ([aI i,.agg (fj x)]++caps) L fun c L'=>c=aI (err i)∧(err i=0→J (i+1) L')):
  AC Tryz.prog 227 [.iptr [.imm 2 (l.map fj)],.iptr [aI most],.iptr [u]] L0 fun r _=>r=cu (dk most err l.length):=by
 refine aS Tryz.func227 rfl Tryz.ntmps227 rfl fun B=>?_
 refine W01 ?_
 refine ar rfl (fun h=>?_) (fun h=>?_)
 ·have h':=Lz h
  rw [Lu] at h'
  refine W07 ?_
  refine LT LA ?_
  unfold dk
  rw [if_pos h']
  rfl
 ·have h':=Ly h
  rw [Lu] at h'
  refine W0e ?_
  refine b9 L0 [] (FM hu l err J L0 h0 (hw (by omega))) rfl (fZ hu) (ck rfl) rfl fun c L1 hc=>?_
  subst hc
  refine W0c ?_
  refine LT LA ?_
  unfold dk
  rw [if_neg h']
  rfl
theorem I7 {g:FuncId} (l:List gx) (most:Int):c5 Tryz.prog 153 [.imm 2 (l.map fj),aI most,.sc (.func (.func g) #[] #[])] (.fn 227 [.iptr [.imm 2 (l.map fj)],.iptr [aI most],.iptr [.sc (.func (.func g) #[] #[])]]):=by
 refine aS Tryz.func153 rfl Tryz.ntmps153 rfl fun B=>?_
 refine W0h ?_
 exact LN LA
instance {g:FuncId} (l:List gx) (most:Int):AD Tryz.prog 153 [.imm 2 (l.map fj),aI most,.sc (.func (.func g) #[] #[])] (.fn 227 [.iptr [.imm 2 (l.map fj)],.iptr [aI most],.iptr [.sc (.func (.func g) #[] #[])]]):=⟨I7 l most⟩
theorem FN {g:FuncId} {caps:List AV} {u:AV} [bD Tryz.prog g] (hu:lj u=some (g,caps)) (l:List gO) (err:Nat→Int) (J:Nat→AL→Prop) (L0:AL) (h0:J 0 L0) (hw:∀i x L,l[i]?=some x→J i L→AC Tryz.prog g ([aI i,.agg (dC x)]++caps) L fun c L'=>c=aI (err i)∧(err i=0→J (i+1) L')):
  AC Tryz.prog 272 [.imm 2 (l.map dC),u] L0 fun r _=>r=cu (dv err l.length):=by
 refine aS Tryz.func272 rfl Tryz.ntmps272 rfl fun B=>?_
 refine cW 0 rfl rfl fun hlen=>?_
 rw [Lu] at hlen
 refine W04 ?_
 refine aN [1,9,10] (α:=Nat×AL) (fun i=>[(11,aI i.1)]) (fun i=>i.1≤l.length∧J i.1 i.2∧dv err l.length=dq err (l.length - i.1) i.1) (fun i=>i.2) (fun i=>l.length - i.1) (0,L0) rfl ⟨rfl,trivial⟩ ⟨Nat.zero_le _,h0,rfl⟩ (fun _ _ h=>h) ?_
 rintro ⟨i,L⟩ ⟨hi,hj,he⟩
 dsimp only at hi hj he ⊢
 try dsimp only [Lr,Lq,Lp,Li]
 refine W01 ?_
 refine ar rfl (fun h=>?_) (fun h=>?_)
 ·have hil:i < l.length:=by have:=Lz h;simp at this;omega
  obtain ⟨z,hz⟩:∃z,l[i]?=some z:=⟨_,Iy hil⟩
  have hzg:=cO (c:=dC) hz
  refine W03 ?_
  intros
  refine dH L [] (hw i z L hz hj) rfl hu rfl (ck rfl) rfl rfl fun c L1 ⟨hc,hj'⟩=>?_
  subst hc
  rw [List.append_nil]
  refine W01 ?_
  refine ar rfl (fun h2=>?_) (fun h2=>?_)
  ·have h2':=Lz h2
   refine W09 ?_
   refine LT LA ?_
   rw [he,cP hil h2']
   rfl
  ·have h2':=Decidable.not_not.1 (Ly h2)
   refine W06 ?_
   exact aC (i+1,L1) rfl ⟨by rw [Lv];rfl,trivial⟩ ⟨by dsimp only;omega,hj' h2',by rw [he];exact cD hil h2'⟩ (by dsimp only;omega) (fun _ _ h=>h)
 ·have hil:i=l.length:=by have:=Ly h;simp at this;omega
  subst hil
  refine W02 ?_
  refine LT LA ?_
  rw [he,Nat.sub_self]
  rfl
theorem np {g:FuncId} {caps:List AV} {u:AV} [bD Tryz.prog g] (hu:lj u=some (g,caps)) (l:List Int) (err:Nat→Int) (J:Nat→AL→Prop) (L0:AL) (h0:J 0 L0) (hw:∀i x L,l[i]?=some x→J i L→AC Tryz.prog g ([aI i,aI x]++caps) L fun c L'=>c=aI (err i)∧(err i=0→J (i+1) L')):
  AC Tryz.prog 128 [.imm 1 (l.map A5),u] L0 fun r _=>r=cu (dv err l.length):=by
 refine aS Tryz.func128 rfl Tryz.ntmps128 rfl fun B=>?_
 refine cW 0 rfl rfl fun hlen=>?_
 rw [Lu] at hlen
 refine W04 ?_
 refine aN [1,9,10] (α:=Nat×AL) (fun i=>[(11,aI i.1)]) (fun i=>i.1≤l.length∧J i.1 i.2∧dv err l.length=dq err (l.length - i.1) i.1) (fun i=>i.2) (fun i=>l.length - i.1) (0,L0) rfl ⟨rfl,trivial⟩ ⟨Nat.zero_le _,h0,rfl⟩ (fun _ _ h=>h) ?_
 rintro ⟨i,L⟩ ⟨hi,hj,he⟩
 dsimp only at hi hj he ⊢
 try dsimp only [Lr,Lq,Lp,Li]
 refine W01 ?_
 refine ar rfl (fun h=>?_) (fun h=>?_)
 ·have hil:i < l.length:=by have:=Lz h;simp at this;omega
  obtain ⟨z,hz⟩:∃z,l[i]?=some z:=⟨_,Iy hil⟩
  have hzg:=cO (c:=A5) hz
  refine W08 ?_
  refine dH L [] (hw i z L hz hj) rfl hu rfl (ck rfl) rfl rfl fun c L1 ⟨hc,hj'⟩=>?_
  subst hc
  rw [List.append_nil]
  refine W01 ?_
  refine ar rfl (fun h2=>?_) (fun h2=>?_)
  ·have h2':=Lz h2
   refine W09 ?_
   refine LT LA ?_
   rw [he,cP hil h2']
   rfl
  ·have h2':=Decidable.not_not.1 (Ly h2)
   refine W06 ?_
   exact aC (i+1,L1) rfl ⟨by rw [Lv];rfl,trivial⟩ ⟨by dsimp only;omega,hj' h2',by rw [he];exact cD hil h2'⟩ (by dsimp only;omega) (fun _ _ h=>h)
 ·have hil:i=l.length:=by have:=Ly h;simp at this;omega
  subst hil
  refine W02 ?_
  refine LT LA ?_
  rw [he,Nat.sub_self]
  rfl
theorem Gx {g:FuncId} {caps:List AV} {u:AV} [bD Tryz.prog g] (hu:lj u=some (g,caps)) (l:List Int) (most:Int) (err:Nat→Int) (J:Nat→AL→Prop) (L0:AL) (h0:J 0 L0) (hw:(l.length:Int)≤most→∀i x L,l[i]?=some x→J i L→AC Tryz.prog g ([aI i,aI x]++caps) L fun c L'=>c=aI (err i)∧(err i=0→J (i+1) L')):
  AC Tryz.prog 155 [.iptr [.imm 1 (l.map A5)],.iptr [aI most],.iptr [u]] L0 fun r _=>r=cu (dk most err l.length):=by
 refine aS Tryz.func155 rfl Tryz.ntmps155 rfl fun B=>?_
 refine W01 ?_
 refine ar rfl (fun h=>?_) (fun h=>?_)
 ·have h':=Lz h
  rw [Lu] at h'
  refine W07 ?_
  refine LT LA ?_
  unfold dk
  rw [if_pos h']
  rfl
 ·have h':=Ly h
  rw [Lu] at h'
  refine W0e ?_
  refine b9 L0 [] (np hu l err J L0 h0 (hw (by omega))) rfl (fZ hu) (ck rfl) rfl fun c L1 hc=>?_
  subst hc
  refine W0c ?_
  refine LT LA ?_
  unfold dk
  rw [if_neg h']
  rfl
theorem I6 {g:FuncId} (l:List Int) (most:Int):c5 Tryz.prog 76 [.imm 1 (l.map A5),aI most,.sc (.func (.func g) #[] #[])] (.fn 155 [.iptr [.imm 1 (l.map A5)],.iptr [aI most],.iptr [.sc (.func (.func g) #[] #[])]]):=by
 refine aS Tryz.func76 rfl Tryz.ntmps76 rfl fun B=>?_
 refine W0h ?_
 exact LN LA
end Go.Proofs.YtpmdfoaadejmkaaGreatDoor
