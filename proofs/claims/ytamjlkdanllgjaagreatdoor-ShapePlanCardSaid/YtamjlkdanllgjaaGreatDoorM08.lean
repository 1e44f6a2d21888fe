/-
  The program: looks at things, one by one.
-/
import Derived.Test.YtamjlkdanllgjaaGreatDoorM06
import Derived.Test.YtamjlkdanllgjaaGreatDoorM07
import Derived.Test.YtamjlkdanllgjaaGreatDoorM05
namespace Go.Proofs.YtamjlkdanllgjaaGreatDoor
open Go.RowKit
attribute [local irreducible] AT bF AX AO Av Kt b8 d9 DA cu
set_option maxRecDepth 8000
def dI (err:Nat→Int):Nat→Nat→Int×Int
 | 0,_=>(0,0)
 | k+1,i=>if err i=0 then dI err k (i+1) else (err i,i)
def dG (err:Nat→Int) (n:Nat):Int×Int:=dI err n 0
def dB (most:Int) (err:Nat→Int) (n:Nat):Int×Int:=if (n:Int) > most then (2,0) else dG err n
def ct (p:Int×Int):AV:= .tup [aG p.1,aG p.2]
theorem cE {err:Nat→Int} {n i:Nat} (hi:i < n) (h:err i=0):dI err (n - i) i=dI err (n - (i+1)) (i+1):=by
 rw [show n - i=(n - (i+1))+1 by omega]
 simp only [dI,h,if_true]
theorem cX {err:Nat→Int} {n i:Nat} (hi:i < n) (h:err i≠0):dI err (n - i) i=(err i,(i:Int)):=by
 rw [show n - i=(n - (i+1))+1 by omega]
 simp only [dI,h,if_false]
def Ls (q:List Int):List AV:=[.imm 1 (aL q)]
def Bg (z:Int):List AV:=[aG z]
theorem fV {g:FuncId} {caps:List AV} {u:AV} (hu:kW u=some (g,caps)) {s:Nat} {l:List (List AV)}:lq [.imm s l,u]=some [.imm s l,u]:=by
 unfold kW at hu
 split at hu <;> first | rfl | cases hu
theorem cj {L L':AL} (h:L=L'):L.Perm (L'++[]):=by rw [List.append_nil,h]
def Nj (P:Program) (g:FuncId) (caps:List AV) (n:Nat) (arg:Nat→AV) (err:Nat→Int) (J:Nat→AL→Prop):Prop:=∀i L,i < n→J i L→AC P g ([aG i,arg i]++caps) L fun c L'=>c=aG (err i)∧(err i=0→J (i+1) L')
theorem GX {g:FuncId} {caps:List AV} {u:AV} [bK Tryz.prog g] (hu:kW u=some (g,caps)) (l:List bn) (err:Nat→Int) (J:Nat→AL→Prop) (L0:AL) (h0:J 0 L0) (hw:∀i x L,l[i]?=some x→J i L→AC Tryz.prog g ([aG i,.agg (bG x)]++caps) L fun c L'=>c=aG (err i)∧(err i=0→J (i+1) L')):
  AC Tryz.prog 172 [.imm 9 (l.map bG),u] L0 fun r _=>r=ct (dG err l.length):=by
 refine aQ Tryz.func172 rfl Tryz.ntmps172 rfl fun B=>?_
 refine cV 0 rfl rfl fun hlen=>?_
 rw [Ou] at hlen
 refine W03 ?_
 refine aJ [1,9,10] (α:=Nat×AL) (fun i=>[(11,aG i.1)]) (fun i=>i.1≤l.length∧J i.1 i.2∧dG err l.length=dI err (l.length - i.1) i.1) (fun i=>i.2) (fun i=>l.length - i.1) (0,L0) rfl ⟨rfl,trivial⟩ ⟨Nat.zero_le _,h0,rfl⟩ (fun _ _ h=>h) ?_
 rintro ⟨i,L⟩ ⟨hi,hj,he⟩
 dsimp only at hi hj he ⊢
 try dsimp only [Oq,Oo,Om,Oh]
 refine W01 ?_
 refine aw rfl (fun h=>?_) (fun h=>?_)
 ·have hil:i < l.length:=by have:=Oy h;simp at this;omega
  obtain ⟨z,hz⟩:∃z,l[i]?=some z:=⟨_,Oz hil⟩
  have hzg:=c7 (c:=bG) hz
  refine W04 ?_
  intros
  refine dO L [] (hw i z L hz hj) rfl hu rfl (cj rfl) rfl rfl fun c L1 ⟨hc,hj'⟩=>?_
  subst hc
  rw [List.append_nil]
  refine W01 ?_
  refine aw rfl (fun h2=>?_) (fun h2=>?_)
  ·have h2':=Oy h2
   refine W01 ?_
   refine OQ NZ ?_
   rw [he,cX hil h2']
   rfl
  ·have h2':=Decidable.not_not.1 (Ox h2)
   refine W02 ?_
   exact aD (i+1,L1) rfl ⟨by rw [Ov];rfl,trivial⟩ ⟨by dsimp only;omega,hj' h2',by rw [he];exact cE hil h2'⟩ (by dsimp only;omega) (fun _ _ h=>h)
 ·have hil:i=l.length:=by have:=Ox h;simp at this;omega
  subst hil
  refine W01 ?_
  refine OQ NZ ?_
  rw [he,Nat.sub_self]
  rfl
theorem I2 {g:FuncId} {caps:List AV} {u:AV} [bK Tryz.prog g] (hu:kW u=some (g,caps)) (l:List bn) (most:Int) (err:Nat→Int) (J:Nat→AL→Prop) (L0:AL) (h0:J 0 L0) (hw:(l.length:Int)≤most→∀i x L,l[i]?=some x→J i L→AC Tryz.prog g ([aG i,.agg (bG x)]++caps) L fun c L'=>c=aG (err i)∧(err i=0→J (i+1) L')):
  AC Tryz.prog 171 [.iptr [.imm 9 (l.map bG)],.iptr [aG most],.iptr [u]] L0 fun r _=>r=ct (dB most err l.length):=by
 refine aQ Tryz.func171 rfl Tryz.ntmps171 rfl fun B=>?_
 refine W01 ?_
 refine aw rfl (fun h=>?_) (fun h=>?_)
 ·have h':=Oy h
  rw [Ou] at h'
  refine W01 ?_
  refine OQ NZ ?_
  unfold dB
  rw [if_pos h']
  rfl
 ·have h':=Ox h
  rw [Ou] at h'
  refine W01 ?_
  refine bh L0 [] (GX hu l err J L0 h0 (hw (by omega))) rfl (fV hu) (cj rfl) rfl fun c L1 hc=>?_
  subst hc
  refine W01 ?_
  refine OQ NZ ?_
  unfold dB
  rw [if_neg h']
  rfl
theorem MZ {g:FuncId} {caps:List AV} (l:List bn) (most:Int):bH Tryz.prog 107 [.imm 9 (l.map bG),aG most,.fn g caps] (.fn 171 [.iptr [.imm 9 (l.map bG)],.iptr [aG most],.iptr [.fn g caps]]):=by
 refine aQ Tryz.func107 rfl Tryz.ntmps107 rfl fun B=>?_
 refine W07 ?_
 exact OL NZ
instance {g:FuncId} {caps:List AV} (l:List bn) (most:Int):AD Tryz.prog 107 [.imm 9 (l.map bG),aG most,.fn g caps] (.fn 171 [.iptr [.imm 9 (l.map bG)],.iptr [aG most],.iptr [.fn g caps]]):=⟨MZ l most⟩
theorem GY {g:FuncId} {caps:List AV} {u:AV} [bK Tryz.prog g] (hu:kW u=some (g,caps)) (l:List dt) (err:Nat→Int) (J:Nat→AL→Prop) (L0:AL) (h0:J 0 L0) (hw:∀i x L,l[i]?=some x→J i L→AC Tryz.prog g ([aG i,.agg (dv x)]++caps) L fun c L'=>c=aG (err i)∧(err i=0→J (i+1) L')):
  AC Tryz.prog 192 [.imm 2 (l.map dv),u] L0 fun r _=>r=ct (dG err l.length):=by
 refine aQ Tryz.func192 rfl Tryz.ntmps192 rfl fun B=>?_
 refine cV 0 rfl rfl fun hlen=>?_
 rw [Ou] at hlen
 refine W03 ?_
 refine aJ [1,9,10] (α:=Nat×AL) (fun i=>[(11,aG i.1)]) (fun i=>i.1≤l.length∧J i.1 i.2∧dG err l.length=dI err (l.length - i.1) i.1) (fun i=>i.2) (fun i=>l.length - i.1) (0,L0) rfl ⟨rfl,trivial⟩ ⟨Nat.zero_le _,h0,rfl⟩ (fun _ _ h=>h) ?_
 rintro ⟨i,L⟩ ⟨hi,hj,he⟩
 dsimp only at hi hj he ⊢
 try dsimp only [Oq,Oo,Om,Oh]
 refine W01 ?_
 refine aw rfl (fun h=>?_) (fun h=>?_)
 ·have hil:i < l.length:=by have:=Oy h;simp at this;omega
  obtain ⟨z,hz⟩:∃z,l[i]?=some z:=⟨_,Oz hil⟩
  have hzg:=c7 (c:=dv) hz
  refine W04 ?_
  intros
  refine dO L [] (hw i z L hz hj) rfl hu rfl (cj rfl) rfl rfl fun c L1 ⟨hc,hj'⟩=>?_
  subst hc
  rw [List.append_nil]
  refine W01 ?_
  refine aw rfl (fun h2=>?_) (fun h2=>?_)
  ·have h2':=Oy h2
   refine W01 ?_
   refine OQ NZ ?_
   rw [he,cX hil h2']
   rfl
  ·have h2':=Decidable.not_not.1 (Ox h2)
   refine W02 ?_
   exact aD (i+1,L1) rfl ⟨by rw [Ov];rfl,trivial⟩ ⟨by dsimp only;omega,hj' h2',by rw [he];exact cE hil h2'⟩ (by dsimp only;omega) (fun _ _ h=>h)
 ·have hil:i=l.length:=by have:=Ox h;simp at this;omega
  subst hil
  refine W01 ?_
  refine OQ NZ ?_
  rw [he,Nat.sub_self]
  rfl
theorem I3 {g:FuncId} {caps:List AV} {u:AV} [bK Tryz.prog g] (hu:kW u=some (g,caps)) (l:List dt) (most:Int) (err:Nat→Int) (J:Nat→AL→Prop) (L0:AL) (h0:J 0 L0) (hw:(l.length:Int)≤most→∀i x L,l[i]?=some x→J i L→AC Tryz.prog g ([aG i,.agg (dv x)]++caps) L fun c L'=>c=aG (err i)∧(err i=0→J (i+1) L')):
  AC Tryz.prog 191 [.iptr [.imm 2 (l.map dv)],.iptr [aG most],.iptr [u]] L0 fun r _=>r=ct (dB most err l.length):=by
 refine aQ Tryz.func191 rfl Tryz.ntmps191 rfl fun B=>?_
 refine W01 ?_
 refine aw rfl (fun h=>?_) (fun h=>?_)
 ·have h':=Oy h
  rw [Ou] at h'
  refine W01 ?_
  refine OQ NZ ?_
  unfold dB
  rw [if_pos h']
  rfl
 ·have h':=Ox h
  rw [Ou] at h'
  refine W01 ?_
  refine bh L0 [] (GY hu l err J L0 h0 (hw (by omega))) rfl (fV hu) (cj rfl) rfl fun c L1 hc=>?_
  subst hc
  refine W01 ?_
  refine OQ NZ ?_
  unfold dB
  rw [if_neg h']
  rfl
theorem N0 {g:FuncId} {caps:List AV} (l:List dt) (most:Int):bH Tryz.prog 114 [.imm 2 (l.map dv),aG most,.fn g caps] (.fn 191 [.iptr [.imm 2 (l.map dv)],.iptr [aG most],.iptr [.fn g caps]]):=by
 refine aQ Tryz.func114 rfl Tryz.ntmps114 rfl fun B=>?_
 refine W07 ?_
 exact OL NZ
instance {g:FuncId} {caps:List AV} (l:List dt) (most:Int):AD Tryz.prog 114 [.imm 2 (l.map dv),aG most,.fn g caps] (.fn 191 [.iptr [.imm 2 (l.map dv)],.iptr [aG most],.iptr [.fn g caps]]):=⟨N0 l most⟩
theorem GZ {g:FuncId} {caps:List AV} {u:AV} [bK Tryz.prog g] (hu:kW u=some (g,caps)) (l:List bf) (err:Nat→Int) (J:Nat→AL→Prop) (L0:AL) (h0:J 0 L0) (hw:∀i x L,l[i]?=some x→J i L→AC Tryz.prog g ([aG i,.agg (bC x)]++caps) L fun c L'=>c=aG (err i)∧(err i=0→J (i+1) L')):
  AC Tryz.prog 194 [.imm 3 (l.map bC),u] L0 fun r _=>r=ct (dG err l.length):=by
 refine aQ Tryz.func194 rfl Tryz.ntmps194 rfl fun B=>?_
 refine cV 0 rfl rfl fun hlen=>?_
 rw [Ou] at hlen
 refine W03 ?_
 refine aJ [1,9,10] (α:=Nat×AL) (fun i=>[(11,aG i.1)]) (fun i=>i.1≤l.length∧J i.1 i.2∧dG err l.length=dI err (l.length - i.1) i.1) (fun i=>i.2) (fun i=>l.length - i.1) (0,L0) rfl ⟨rfl,trivial⟩ ⟨Nat.zero_le _,h0,rfl⟩ (fun _ _ h=>h) ?_
 rintro ⟨i,L⟩ ⟨hi,hj,he⟩
 dsimp only at hi hj he ⊢
 try dsimp only [Oq,Oo,Om,Oh]
 refine W01 ?_
 refine aw rfl (fun h=>?_) (fun h=>?_)
 ·have hil:i < l.length:=by have:=Oy h;simp at this;omega
  obtain ⟨z,hz⟩:∃z,l[i]?=some z:=⟨_,Oz hil⟩
  have hzg:=c7 (c:=bC) hz
  refine W04 ?_
  intros
  refine dO L [] (hw i z L hz hj) rfl hu rfl (cj rfl) rfl rfl fun c L1 ⟨hc,hj'⟩=>?_
  subst hc
  rw [List.append_nil]
  refine W01 ?_
  refine aw rfl (fun h2=>?_) (fun h2=>?_)
  ·have h2':=Oy h2
   refine W01 ?_
   refine OQ NZ ?_
   rw [he,cX hil h2']
   rfl
  ·have h2':=Decidable.not_not.1 (Ox h2)
   refine W02 ?_
   exact aD (i+1,L1) rfl ⟨by rw [Ov];rfl,trivial⟩ ⟨by dsimp only;omega,hj' h2',by rw [he];exact cE hil h2'⟩ (by dsimp only;omega) (fun _ _ h=>h)
 ·have hil:i=l.length:=by have:=Ox h;simp at this;omega
  subst hil
  refine W01 ?_
  refine OQ NZ ?_
  rw [he,Nat.sub_self]
  rfl
theorem I4 {g:FuncId} {caps:List AV} {u:AV} [bK Tryz.prog g] (hu:kW u=some (g,caps)) (l:List bf) (most:Int) (err:Nat→Int) (J:Nat→AL→Prop) (L0:AL) (h0:J 0 L0) (hw:(l.length:Int)≤most→∀i x L,l[i]?=some x→J i L→AC Tryz.prog g ([aG i,.agg (bC x)]++caps) L fun c L'=>c=aG (err i)∧(err i=0→J (i+1) L')):
  AC Tryz.prog 193 [.iptr [.imm 3 (l.map bC)],.iptr [aG most],.iptr [u]] L0 fun r _=>r=ct (dB most err l.length):=by
 refine aQ Tryz.func193 rfl Tryz.ntmps193 rfl fun B=>?_
 refine W01 ?_
 refine aw rfl (fun h=>?_) (fun h=>?_)
 ·have h':=Oy h
  rw [Ou] at h'
  refine W01 ?_
  refine OQ NZ ?_
  unfold dB
  rw [if_pos h']
  rfl
 ·have h':=Ox h
  rw [Ou] at h'
  refine W01 ?_
  refine bh L0 [] (GZ hu l err J L0 h0 (hw (by omega))) rfl (fV hu) (cj rfl) rfl fun c L1 hc=>?_
  subst hc
  refine W01 ?_
  refine OQ NZ ?_
  unfold dB
  rw [if_neg h']
  rfl
theorem N1 {g:FuncId} {caps:List AV} (l:List bf) (most:Int):bH Tryz.prog 117 [.imm 3 (l.map bC),aG most,.fn g caps] (.fn 193 [.iptr [.imm 3 (l.map bC)],.iptr [aG most],.iptr [.fn g caps]]):=by
 refine aQ Tryz.func117 rfl Tryz.ntmps117 rfl fun B=>?_
 refine W07 ?_
 exact OL NZ
instance {g:FuncId} {caps:List AV} (l:List bf) (most:Int):AD Tryz.prog 117 [.imm 3 (l.map bC),aG most,.fn g caps] (.fn 193 [.iptr [.imm 3 (l.map bC)],.iptr [aG most],.iptr [.fn g caps]]):=⟨N1 l most⟩
theorem H0 {g:FuncId} {caps:List AV} {u:AV} [bK Tryz.prog g] (hu:kW u=some (g,caps)) (l:List bJ) (err:Nat→Int) (J:Nat→AL→Prop) (L0:AL) (h0:J 0 L0) (hw:∀i x L,l[i]?=some x→J i L→AC Tryz.prog g ([aG i,.agg (bN x)]++caps) L fun c L'=>c=aG (err i)∧(err i=0→J (i+1) L')):
  AC Tryz.prog 198 [.imm 6 (l.map bN),u] L0 fun r _=>r=ct (dG err l.length):=by
 refine aQ Tryz.func198 rfl Tryz.ntmps198 rfl fun B=>?_
 refine cV 0 rfl rfl fun hlen=>?_
 rw [Ou] at hlen
 refine W03 ?_
 refine aJ [1,9,10] (α:=Nat×AL) (fun i=>[(11,aG i.1)]) (fun i=>i.1≤l.length∧J i.1 i.2∧dG err l.length=dI err (l.length - i.1) i.1) (fun i=>i.2) (fun i=>l.length - i.1) (0,L0) rfl ⟨rfl,trivial⟩ ⟨Nat.zero_le _,h0,rfl⟩ (fun _ _ h=>h) ?_
 rintro ⟨i,L⟩ ⟨hi,hj,he⟩
 dsimp only at hi hj he ⊢
 try dsimp only [Oq,Oo,Om,Oh]
 refine W01 ?_
 refine aw rfl (fun h=>?_) (fun h=>?_)
 ·have hil:i < l.length:=by have:=Oy h;simp at this;omega
  obtain ⟨z,hz⟩:∃z,l[i]?=some z:=⟨_,Oz hil⟩
  have hzg:=c7 (c:=bN) hz
  refine W04 ?_
  intros
  refine dO L [] (hw i z L hz hj) rfl hu rfl (cj rfl) rfl rfl fun c L1 ⟨hc,hj'⟩=>?_
  subst hc
  rw [List.append_nil]
  refine W01 ?_
  refine aw rfl (fun h2=>?_) (fun h2=>?_)
  ·have h2':=Oy h2
   refine W01 ?_
   refine OQ NZ ?_
   rw [he,cX hil h2']
   rfl
  ·have h2':=Decidable.not_not.1 (Ox h2)
   refine W02 ?_
   exact aD (i+1,L1) rfl ⟨by rw [Ov];rfl,trivial⟩ ⟨by dsimp only;omega,hj' h2',by rw [he];exact cE hil h2'⟩ (by dsimp only;omega) (fun _ _ h=>h)
 ·have hil:i=l.length:=by have:=Ox h;simp at this;omega
  subst hil
  refine W01 ?_
  refine OQ NZ ?_
  rw [he,Nat.sub_self]
  rfl
theorem H1 {g:FuncId} {caps:List AV} {u:AV} [bK Tryz.prog g] (hu:kW u=some (g,caps)) (l:List bz) (err:Nat→Int) (J:Nat→AL→Prop) (L0:AL) (h0:J 0 L0) (hw:∀i x L,l[i]?=some x→J i L→AC Tryz.prog g ([aG i,.agg (bI x)]++caps) L fun c L'=>c=aG (err i)∧(err i=0→J (i+1) L')):
  AC Tryz.prog 202 [.imm 2 (l.map bI),u] L0 fun r _=>r=ct (dG err l.length):=by
 refine aQ Tryz.func202 rfl Tryz.ntmps202 rfl fun B=>?_
 refine cV 0 rfl rfl fun hlen=>?_
 rw [Ou] at hlen
 refine W03 ?_
 refine aJ [1,9,10] (α:=Nat×AL) (fun i=>[(11,aG i.1)]) (fun i=>i.1≤l.length∧J i.1 i.2∧dG err l.length=dI err (l.length - i.1) i.1) (fun i=>i.2) (fun i=>l.length - i.1) (0,L0) rfl ⟨rfl,trivial⟩ ⟨Nat.zero_le _,h0,rfl⟩ (fun _ _ h=>h) ?_
 rintro ⟨i,L⟩ ⟨hi,hj,he⟩
 dsimp only at hi hj he ⊢
 try dsimp only [Oq,Oo,Om,Oh]
 refine W01 ?_
 refine aw rfl (fun h=>?_) (fun h=>?_)
 ·have hil:i < l.length:=by have:=Oy h;simp at this;omega
  obtain ⟨z,hz⟩:∃z,l[i]?=some z:=⟨_,Oz hil⟩
  have hzg:=c7 (c:=bI) hz
  refine W04 ?_
  intros
  refine dO L [] (hw i z L hz hj) rfl hu rfl (cj rfl) rfl rfl fun c L1 ⟨hc,hj'⟩=>?_
  subst hc
  rw [List.append_nil]
  refine W01 ?_
  refine aw rfl (fun h2=>?_) (fun h2=>?_)
  ·have h2':=Oy h2
   refine W01 ?_
   refine OQ NZ ?_
   rw [he,cX hil h2']
   rfl
  ·have h2':=Decidable.not_not.1 (Ox h2)
   refine W02 ?_
   exact aD (i+1,L1) rfl ⟨by rw [Ov];rfl,trivial⟩ ⟨by dsimp only;omega,hj' h2',by rw [he];exact cE hil h2'⟩ (by dsimp only;omega) (fun _ _ h=>h)
 ·have hil:i=l.length:=by have:=Ox h;simp at this;omega
  subst hil
  refine W01 ?_
  refine OQ NZ ?_
  rw [he,Nat.sub_self]
  rfl
theorem I5 {g:FuncId} {caps:List AV} {u:AV} [bK Tryz.prog g] (hu:kW u=some (g,caps)) (l:List bz) (most:Int) (err:Nat→Int) (J:Nat→AL→Prop) (L0:AL) (h0:J 0 L0) (hw:(l.length:Int)≤most→∀i x L,l[i]?=some x→J i L→AC Tryz.prog g ([aG i,.agg (bI x)]++caps) L fun c L'=>c=aG (err i)∧(err i=0→J (i+1) L')):
  AC Tryz.prog 201 [.iptr [.imm 2 (l.map bI)],.iptr [aG most],.iptr [u]] L0 fun r _=>r=ct (dB most err l.length):=by
 refine aQ Tryz.func201 rfl Tryz.ntmps201 rfl fun B=>?_
 refine W01 ?_
 refine aw rfl (fun h=>?_) (fun h=>?_)
 ·have h':=Oy h
  rw [Ou] at h'
  refine W01 ?_
  refine OQ NZ ?_
  unfold dB
  rw [if_pos h']
  rfl
 ·have h':=Ox h
  rw [Ou] at h'
  refine W01 ?_
  refine bh L0 [] (H1 hu l err J L0 h0 (hw (by omega))) rfl (fV hu) (cj rfl) rfl fun c L1 hc=>?_
  subst hc
  refine W01 ?_
  refine OQ NZ ?_
  unfold dB
  rw [if_neg h']
  rfl
theorem N2 {g:FuncId} {caps:List AV} (l:List bz) (most:Int):bH Tryz.prog 120 [.imm 2 (l.map bI),aG most,.fn g caps] (.fn 201 [.iptr [.imm 2 (l.map bI)],.iptr [aG most],.iptr [.fn g caps]]):=by
 refine aQ Tryz.func120 rfl Tryz.ntmps120 rfl fun B=>?_
 refine W07 ?_
 exact OL NZ
instance {g:FuncId} {caps:List AV} (l:List bz) (most:Int):AD Tryz.prog 120 [.imm 2 (l.map bI),aG most,.fn g caps] (.fn 201 [.iptr [.imm 2 (l.map bI)],.iptr [aG most],.iptr [.fn g caps]]):=⟨N2 l most⟩
theorem H2 {g:FuncId} {caps:List AV} {u:AV} [bK Tryz.prog g] (hu:kW u=some (g,caps)) (l:List eI) (err:Nat→Int) (J:Nat→AL→Prop) (L0:AL) (h0:J 0 L0) (hw:∀i x L,l[i]?=some x→J i L→AC Tryz.prog g ([aG i,.agg (cS x)]++caps) L fun c L'=>c=aG (err i)∧(err i=0→J (i+1) L')):
  AC Tryz.prog 205 [.imm 4 (l.map cS),u] L0 fun r _=>r=ct (dG err l.length):=by
 refine aQ Tryz.func205 rfl Tryz.ntmps205 rfl fun B=>?_
 refine cV 0 rfl rfl fun hlen=>?_
 rw [Ou] at hlen
 refine W03 ?_
 refine aJ [1,9,10] (α:=Nat×AL) (fun i=>[(11,aG i.1)]) (fun i=>i.1≤l.length∧J i.1 i.2∧dG err l.length=dI err (l.length - i.1) i.1) (fun i=>i.2) (fun i=>l.length - i.1) (0,L0) rfl ⟨rfl,trivial⟩ ⟨Nat.zero_le _,h0,rfl⟩ (fun _ _ h=>h) ?_
 rintro ⟨i,L⟩ ⟨hi,hj,he⟩
 dsimp only at hi hj he ⊢
 try dsimp only [Oq,Oo,Om,Oh]
 refine W01 ?_
 refine aw rfl (fun h=>?_) (fun h=>?_)
 ·have hil:i < l.length:=by have:=Oy h;simp at this;omega
  obtain ⟨z,hz⟩:∃z,l[i]?=some z:=⟨_,Oz hil⟩
  have hzg:=c7 (c:=cS) hz
  refine W04 ?_
  intros
  refine dO L [] (hw i z L hz hj) rfl hu rfl (cj rfl) rfl rfl fun c L1 ⟨hc,hj'⟩=>?_
  subst hc
  rw [List.append_nil]
  refine W01 ?_
  refine aw rfl (fun h2=>?_) (fun h2=>?_)
  ·have h2':=Oy h2
   refine W01 ?_
   refine OQ NZ ?_
   rw [he,cX hil h2']
   rfl
  ·have h2':=Decidable.not_not.1 (Ox h2)
   refine W02 ?_
   exact aD (i+1,L1) rfl ⟨by rw [Ov];rfl,trivial⟩ ⟨by dsimp only;omega,hj' h2',by rw [he];exact cE hil h2'⟩ (by dsimp only;omega) (fun _ _ h=>h)
 ·have hil:i=l.length:=by have:=Ox h;simp at this;omega
  subst hil
  refine W01 ?_
  refine OQ NZ ?_
  rw [he,Nat.sub_self]
  rfl
theorem I6 {g:FuncId} {caps:List AV} {u:AV} [bK Tryz.prog g] (hu:kW u=some (g,caps)) (l:List eI) (most:Int) (err:Nat→Int) (J:Nat→AL→Prop) (L0:AL) (h0:J 0 L0) (hw:(l.length:Int)≤most→∀i x L,l[i]?=some x→J i L→AC Tryz.prog g ([aG i,.agg (cS x)]++caps) L fun c L'=>c=aG (err i)∧(err i=0→J (i+1) L')):
  AC Tryz.prog 204 [.iptr [.imm 4 (l.map cS)],.iptr [aG most],.iptr [u]] L0 fun r _=>r=ct (dB most err l.length):=by
 refine aQ Tryz.func204 rfl Tryz.ntmps204 rfl fun B=>?_
 refine W01 ?_
 refine aw rfl (fun h=>?_) (fun h=>?_)
 ·have h':=Oy h
  rw [Ou] at h'
  refine W01 ?_
  refine OQ NZ ?_
  unfold dB
  rw [if_pos h']
  rfl
 ·have h':=Ox h
  rw [Ou] at h'
  refine W01 ?_
  refine bh L0 [] (H2 hu l err J L0 h0 (hw (by omega))) rfl (fV hu) (cj rfl) rfl fun c L1 hc=>?_
  subst hc
  refine W01 ?_
  refine OQ NZ ?_
  unfold dB
  rw [if_neg h']
  rfl
theorem LQ {g:FuncId} {caps:List AV} (l:List eI) (most:Int):bH Tryz.prog 124 [.imm 4 (l.map cS),aG most,.fn g caps] (.fn 204 [.iptr [.imm 4 (l.map cS)],.iptr [aG most],.iptr [.fn g caps]]):=by
 refine aQ Tryz.func124 rfl Tryz.ntmps124 rfl fun B=>?_
 refine W07 ?_
 exact OL NZ
instance {g:FuncId} {caps:List AV} (l:List eI) (most:Int):AD Tryz.prog 124 [.imm 4 (l.map cS),aG most,.fn g caps] (.fn 204 [.iptr [.imm 4 (l.map cS)],.iptr [aG most],.iptr [.fn g caps]]):=⟨LQ l most⟩
theorem H3 {g:FuncId} {caps:List AV} {u:AV} [bK Tryz.prog g] (hu:kW u=some (g,caps)) (l:List (List f9)) (err:Nat→Int) (J:Nat→AL→Prop) (L0:AL) (h0:J 0 L0) (hw:∀i x L,l[i]?=some x→J i L→AC Tryz.prog g ([aG i,.agg (bW x)]++caps) L fun c L'=>c=aG (err i)∧(err i=0→J (i+1) L')):
  AC Tryz.prog 207 [.imm 1 (l.map bW),u] L0 fun r _=>r=ct (dG err l.length):=by
 refine aQ Tryz.func207 rfl Tryz.ntmps207 rfl fun B=>?_
 refine cV 0 rfl rfl fun hlen=>?_
 rw [Ou] at hlen
 refine W03 ?_
 refine aJ [1,9,10] (α:=Nat×AL) (fun i=>[(11,aG i.1)]) (fun i=>i.1≤l.length∧J i.1 i.2∧dG err l.length=dI err (l.length - i.1) i.1) (fun i=>i.2) (fun i=>l.length - i.1) (0,L0) rfl ⟨rfl,trivial⟩ ⟨Nat.zero_le _,h0,rfl⟩ (fun _ _ h=>h) ?_
 rintro ⟨i,L⟩ ⟨hi,hj,he⟩
 dsimp only at hi hj he ⊢
 try dsimp only [Oq,Oo,Om,Oh]
 refine W01 ?_
 refine aw rfl (fun h=>?_) (fun h=>?_)
 ·have hil:i < l.length:=by have:=Oy h;simp at this;omega
  obtain ⟨z,hz⟩:∃z,l[i]?=some z:=⟨_,Oz hil⟩
  have hzg:=c7 (c:=bW) hz
  refine W04 ?_
  intros
  refine dO L [] (hw i z L hz hj) rfl hu rfl (cj rfl) rfl rfl fun c L1 ⟨hc,hj'⟩=>?_
  subst hc
  rw [List.append_nil]
  refine W01 ?_
  refine aw rfl (fun h2=>?_) (fun h2=>?_)
  ·have h2':=Oy h2
   refine W01 ?_
   refine OQ NZ ?_
   rw [he,cX hil h2']
   rfl
  ·have h2':=Decidable.not_not.1 (Ox h2)
   refine W02 ?_
   exact aD (i+1,L1) rfl ⟨by rw [Ov];rfl,trivial⟩ ⟨by dsimp only;omega,hj' h2',by rw [he];exact cE hil h2'⟩ (by dsimp only;omega) (fun _ _ h=>h)
 ·have hil:i=l.length:=by have:=Ox h;simp at this;omega
  subst hil
  refine W01 ?_
  refine OQ NZ ?_
  rw [he,Nat.sub_self]
  rfl
theorem I7 {g:FuncId} {caps:List AV} {u:AV} [bK Tryz.prog g] (hu:kW u=some (g,caps)) (l:List (List f9)) (most:Int) (err:Nat→Int) (J:Nat→AL→Prop) (L0:AL) (h0:J 0 L0) (hw:(l.length:Int)≤most→∀i x L,l[i]?=some x→J i L→AC Tryz.prog g ([aG i,.agg (bW x)]++caps) L fun c L'=>c=aG (err i)∧(err i=0→J (i+1) L')):
  AC Tryz.prog 206 [.iptr [.imm 1 (l.map bW)],.iptr [aG most],.iptr [u]] L0 fun r _=>r=ct (dB most err l.length):=by
 refine aQ Tryz.func206 rfl Tryz.ntmps206 rfl fun B=>?_
 refine W01 ?_
 refine aw rfl (fun h=>?_) (fun h=>?_)
 ·have h':=Oy h
  rw [Ou] at h'
  refine W01 ?_
  refine OQ NZ ?_
  unfold dB
  rw [if_pos h']
  rfl
 ·have h':=Ox h
  rw [Ou] at h'
  refine W01 ?_
  refine bh L0 [] (H3 hu l err J L0 h0 (hw (by omega))) rfl (fV hu) (cj rfl) rfl fun c L1 hc=>?_
  subst hc
  refine W01 ?_
  refine OQ NZ ?_
  unfold dB
  rw [if_neg h']
  rfl
theorem LR {g:FuncId} {caps:List AV} (l:List (List f9)) (most:Int):bH Tryz.prog 127 [.imm 1 (l.map bW),aG most,.fn g caps] (.fn 206 [.iptr [.imm 1 (l.map bW)],.iptr [aG most],.iptr [.fn g caps]]):=by
 refine aQ Tryz.func127 rfl Tryz.ntmps127 rfl fun B=>?_
 refine W07 ?_
 exact OL NZ
instance {g:FuncId} {caps:List AV} (l:List (List f9)) (most:Int):AD Tryz.prog 127 [.imm 1 (l.map bW),aG most,.fn g caps] (.fn 206 [.iptr [.imm 1 (l.map bW)],.iptr [aG most],.iptr [.fn g caps]]):=⟨LR l most⟩
theorem H4 {g:FuncId} {caps:List AV} {u:AV} [bK Tryz.prog g] (hu:kW u=some (g,caps)) (l:List f9) (err:Nat→Int) (J:Nat→AL→Prop) (L0:AL) (h0:J 0 L0) (hw:∀i x L,l[i]?=some x→J i L→AC Tryz.prog g ([aG i,.agg (kN x)]++caps) L fun c L'=>c=aG (err i)∧(err i=0→J (i+1) L')):
  AC Tryz.prog 208 [.imm 3 (l.map kN),u] L0 fun r _=>r=ct (dG err l.length):=by
 refine aQ Tryz.func208 rfl Tryz.ntmps208 rfl fun B=>?_
 refine cV 0 rfl rfl fun hlen=>?_
 rw [Ou] at hlen
 refine W03 ?_
 refine aJ [1,9,10] (α:=Nat×AL) (fun i=>[(11,aG i.1)]) (fun i=>i.1≤l.length∧J i.1 i.2∧dG err l.length=dI err (l.length - i.1) i.1) (fun i=>i.2) (fun i=>l.length - i.1) (0,L0) rfl ⟨rfl,trivial⟩ ⟨Nat.zero_le _,h0,rfl⟩ (fun _ _ h=>h) ?_
 rintro ⟨i,L⟩ ⟨hi,hj,he⟩
 dsimp only at hi hj he ⊢
 try dsimp only [Oq,Oo,Om,Oh]
 refine W01 ?_
 refine aw rfl (fun h=>?_) (fun h=>?_)
 ·have hil:i < l.length:=by have:=Oy h;simp at this;omega
  obtain ⟨z,hz⟩:∃z,l[i]?=some z:=⟨_,Oz hil⟩
  have hzg:=c7 (c:=kN) hz
  refine W04 ?_
  intros
  refine dO L [] (hw i z L hz hj) rfl hu rfl (cj rfl) rfl rfl fun c L1 ⟨hc,hj'⟩=>?_
  subst hc
  rw [List.append_nil]
  refine W01 ?_
  refine aw rfl (fun h2=>?_) (fun h2=>?_)
  ·have h2':=Oy h2
   refine W01 ?_
   refine OQ NZ ?_
   rw [he,cX hil h2']
   rfl
  ·have h2':=Decidable.not_not.1 (Ox h2)
   refine W02 ?_
   exact aD (i+1,L1) rfl ⟨by rw [Ov];rfl,trivial⟩ ⟨by dsimp only;omega,hj' h2',by rw [he];exact cE hil h2'⟩ (by dsimp only;omega) (fun _ _ h=>h)
 ·have hil:i=l.length:=by have:=Ox h;simp at this;omega
  subst hil
  refine W01 ?_
  refine OQ NZ ?_
  rw [he,Nat.sub_self]
  rfl
theorem H5 {g:FuncId} {caps:List AV} {u:AV} [bK Tryz.prog g] (hu:kW u=some (g,caps)) (l:List (List eW)) (err:Nat→Int) (J:Nat→AL→Prop) (L0:AL) (h0:J 0 L0) (hw:∀i x L,l[i]?=some x→J i L→AC Tryz.prog g ([aG i,.imm 2 (x.map dX)]++caps) L fun c L'=>c=aG (err i)∧(err i=0→J (i+1) L')):
  AC Tryz.prog 211 [.imm 1 (l.map d6),u] L0 fun r _=>r=ct (dG err l.length):=by
 refine aQ Tryz.func211 rfl Tryz.ntmps211 rfl fun B=>?_
 refine cV 0 rfl rfl fun hlen=>?_
 rw [Ou] at hlen
 refine W03 ?_
 refine aJ [1,9,10] (α:=Nat×AL) (fun i=>[(11,aG i.1)]) (fun i=>i.1≤l.length∧J i.1 i.2∧dG err l.length=dI err (l.length - i.1) i.1) (fun i=>i.2) (fun i=>l.length - i.1) (0,L0) rfl ⟨rfl,trivial⟩ ⟨Nat.zero_le _,h0,rfl⟩ (fun _ _ h=>h) ?_
 rintro ⟨i,L⟩ ⟨hi,hj,he⟩
 dsimp only at hi hj he ⊢
 try dsimp only [Oq,Oo,Om,Oh]
 refine W01 ?_
 refine aw rfl (fun h=>?_) (fun h=>?_)
 ·have hil:i < l.length:=by have:=Oy h;simp at this;omega
  obtain ⟨z,hz⟩:∃z,l[i]?=some z:=⟨_,Oz hil⟩
  have hzg:=c7 (c:=d6) hz
  refine W08 ?_
  refine dO L [] (hw i z L hz hj) rfl hu rfl (cj rfl) rfl rfl fun c L1 ⟨hc,hj'⟩=>?_
  subst hc
  rw [List.append_nil]
  refine W01 ?_
  refine aw rfl (fun h2=>?_) (fun h2=>?_)
  ·have h2':=Oy h2
   refine W01 ?_
   refine OQ NZ ?_
   rw [he,cX hil h2']
   rfl
  ·have h2':=Decidable.not_not.1 (Ox h2)
   refine W02 ?_
   exact aD (i+1,L1) rfl ⟨by rw [Ov];rfl,trivial⟩ ⟨by dsimp only;omega,hj' h2',by rw [he];exact cE hil h2'⟩ (by dsimp only;omega) (fun _ _ h=>h)
 ·have hil:i=l.length:=by have:=Ox h;simp at this;omega
  subst hil
  refine W01 ?_
  refine OQ NZ ?_
  rw [he,Nat.sub_self]
  rfl
theorem I8 {g:FuncId} {caps:List AV} {u:AV} [bK Tryz.prog g] (hu:kW u=some (g,caps)) (l:List (List eW)) (most:Int) (err:Nat→Int) (J:Nat→AL→Prop) (L0:AL) (h0:J 0 L0) (hw:(l.length:Int)≤most→∀i x L,l[i]?=some x→J i L→AC Tryz.prog g ([aG i,.imm 2 (x.map dX)]++caps) L fun c L'=>c=aG (err i)∧(err i=0→J (i+1) L')):
  AC Tryz.prog 210 [.iptr [.imm 1 (l.map d6)],.iptr [aG most],.iptr [u]] L0 fun r _=>r=ct (dB most err l.length):=by
 refine aQ Tryz.func210 rfl Tryz.ntmps210 rfl fun B=>?_
 refine W01 ?_
 refine aw rfl (fun h=>?_) (fun h=>?_)
 ·have h':=Oy h
  rw [Ou] at h'
  refine W01 ?_
  refine OQ NZ ?_
  unfold dB
  rw [if_pos h']
  rfl
 ·have h':=Ox h
  rw [Ou] at h'
  refine W01 ?_
  refine bh L0 [] (H5 hu l err J L0 h0 (hw (by omega))) rfl (fV hu) (cj rfl) rfl fun c L1 hc=>?_
  subst hc
  refine W01 ?_
  refine OQ NZ ?_
  unfold dB
  rw [if_neg h']
  rfl
theorem Kc {g:FuncId} (l:List (List eW)) (most:Int):bH Tryz.prog 130 [.imm 1 (l.map d6),aG most,.sc (.func (.func g) #[] #[])] (.fn 210 [.iptr [.imm 1 (l.map d6)],.iptr [aG most],.iptr [.sc (.func (.func g) #[] #[])]]):=by
 refine aQ Tryz.func130 rfl Tryz.ntmps130 rfl fun B=>?_
 refine W07 ?_
 exact OL NZ
instance {g:FuncId} (l:List (List eW)) (most:Int):AD Tryz.prog 130 [.imm 1 (l.map d6),aG most,.sc (.func (.func g) #[] #[])] (.fn 210 [.iptr [.imm 1 (l.map d6)],.iptr [aG most],.iptr [.sc (.func (.func g) #[] #[])]]):=⟨Kc l most⟩
theorem H6 {g:FuncId} {caps:List AV} {u:AV} [bK Tryz.prog g] (hu:kW u=some (g,caps)) (l:List eM) (err:Nat→Int) (J:Nat→AL→Prop) (L0:AL) (h0:J 0 L0) (hw:∀i x L,l[i]?=some x→J i L→AC Tryz.prog g ([aG i,.agg (dH x)]++caps) L fun c L'=>c=aG (err i)∧(err i=0→J (i+1) L')):
  AC Tryz.prog 244 [.imm 3 (l.map dH),u] L0 fun r _=>r=ct (dG err l.length):=by
 refine aQ Tryz.func244 rfl Tryz.ntmps244 rfl fun B=>?_
 refine cV 0 rfl rfl fun hlen=>?_
 rw [Ou] at hlen
 refine W03 ?_
 refine aJ [1,9,10] (α:=Nat×AL) (fun i=>[(11,aG i.1)]) (fun i=>i.1≤l.length∧J i.1 i.2∧dG err l.length=dI err (l.length - i.1) i.1) (fun i=>i.2) (fun i=>l.length - i.1) (0,L0) rfl ⟨rfl,trivial⟩ ⟨Nat.zero_le _,h0,rfl⟩ (fun _ _ h=>h) ?_
 rintro ⟨i,L⟩ ⟨hi,hj,he⟩
 dsimp only at hi hj he ⊢
 try dsimp only [Oq,Oo,Om,Oh]
 refine W01 ?_
 refine aw rfl (fun h=>?_) (fun h=>?_)
 ·have hil:i < l.length:=by have:=Oy h;simp at this;omega
  obtain ⟨z,hz⟩:∃z,l[i]?=some z:=⟨_,Oz hil⟩
  have hzg:=c7 (c:=dH) hz
  refine W04 ?_
  intros
  refine dO L [] (hw i z L hz hj) rfl hu rfl (cj rfl) rfl rfl fun c L1 ⟨hc,hj'⟩=>?_
  subst hc
  rw [List.append_nil]
  refine W01 ?_
  refine aw rfl (fun h2=>?_) (fun h2=>?_)
  ·have h2':=Oy h2
   refine W01 ?_
   refine OQ NZ ?_
   rw [he,cX hil h2']
   rfl
  ·have h2':=Decidable.not_not.1 (Ox h2)
   refine W02 ?_
   exact aD (i+1,L1) rfl ⟨by rw [Ov];rfl,trivial⟩ ⟨by dsimp only;omega,hj' h2',by rw [he];exact cE hil h2'⟩ (by dsimp only;omega) (fun _ _ h=>h)
 ·have hil:i=l.length:=by have:=Ox h;simp at this;omega
  subst hil
  refine W01 ?_
  refine OQ NZ ?_
  rw [he,Nat.sub_self]
  rfl
theorem H7 {g:FuncId} {caps:List AV} {u:AV} [bK Tryz.prog g] (hu:kW u=some (g,caps)) (l:List dW) (err:Nat→Int) (J:Nat→AL→Prop) (L0:AL) (h0:J 0 L0) (hw:∀i x L,l[i]?=some x→J i L→AC Tryz.prog g ([aG i,.agg (eG x)]++caps) L fun c L'=>c=aG (err i)∧(err i=0→J (i+1) L')):
  AC Tryz.prog 248 [.imm 3 (l.map eG),u] L0 fun r _=>r=ct (dG err l.length):=by
 refine aQ Tryz.func248 rfl Tryz.ntmps248 rfl fun B=>?_
 refine cV 0 rfl rfl fun hlen=>?_
 rw [Ou] at hlen
 refine W03 ?_
 refine aJ [1,9,10] (α:=Nat×AL) (fun i=>[(11,aG i.1)]) (fun i=>i.1≤l.length∧J i.1 i.2∧dG err l.length=dI err (l.length - i.1) i.1) (fun i=>i.2) (fun i=>l.length - i.1) (0,L0) rfl ⟨rfl,trivial⟩ ⟨Nat.zero_le _,h0,rfl⟩ (fun _ _ h=>h) ?_
 rintro ⟨i,L⟩ ⟨hi,hj,he⟩
 dsimp only at hi hj he ⊢
 try dsimp only [Oq,Oo,Om,Oh]
 refine W01 ?_
 refine aw rfl (fun h=>?_) (fun h=>?_)
 ·have hil:i < l.length:=by have:=Oy h;simp at this;omega
  obtain ⟨z,hz⟩:∃z,l[i]?=some z:=⟨_,Oz hil⟩
  have hzg:=c7 (c:=eG) hz
  refine W04 ?_
  intros
  refine dO L [] (hw i z L hz hj) rfl hu rfl (cj rfl) rfl rfl fun c L1 ⟨hc,hj'⟩=>?_
  subst hc
  rw [List.append_nil]
  refine W01 ?_
  refine aw rfl (fun h2=>?_) (fun h2=>?_)
  ·have h2':=Oy h2
   refine W01 ?_
   refine OQ NZ ?_
   rw [he,cX hil h2']
   rfl
  ·have h2':=Decidable.not_not.1 (Ox h2)
   refine W02 ?_
   exact aD (i+1,L1) rfl ⟨by rw [Ov];rfl,trivial⟩ ⟨by dsimp only;omega,hj' h2',by rw [he];exact cE hil h2'⟩ (by dsimp only;omega) (fun _ _ h=>h)
 ·have hil:i=l.length:=by have:=Ox h;simp at this;omega
  subst hil
  refine W01 ?_
  refine OQ NZ ?_
  rw [he,Nat.sub_self]
  rfl
theorem Ia {g:FuncId} {caps:List AV} {u:AV} [bK Tryz.prog g] (hu:kW u=some (g,caps)) (l:List dW) (most:Int) (err:Nat→Int) (J:Nat→AL→Prop) (L0:AL) (h0:J 0 L0) (hw:(l.length:Int)≤most→∀i x L,l[i]?=some x→J i L→AC Tryz.prog g ([aG i,.agg (eG x)]++caps) L fun c L'=>c=aG (err i)∧(err i=0→J (i+1) L')):
  AC Tryz.prog 247 [.iptr [.imm 3 (l.map eG)],.iptr [aG most],.iptr [u]] L0 fun r _=>r=ct (dB most err l.length):=by
 refine aQ Tryz.func247 rfl Tryz.ntmps247 rfl fun B=>?_
 refine W01 ?_
 refine aw rfl (fun h=>?_) (fun h=>?_)
 ·have h':=Oy h
  rw [Ou] at h'
  refine W01 ?_
  refine OQ NZ ?_
  unfold dB
  rw [if_pos h']
  rfl
 ·have h':=Ox h
  rw [Ou] at h'
  refine W01 ?_
  refine bh L0 [] (H7 hu l err J L0 h0 (hw (by omega))) rfl (fV hu) (cj rfl) rfl fun c L1 hc=>?_
  subst hc
  refine W01 ?_
  refine OQ NZ ?_
  unfold dB
  rw [if_neg h']
  rfl
theorem LT {g:FuncId} {caps:List AV} (l:List dW) (most:Int):bH Tryz.prog 176 [.imm 3 (l.map eG),aG most,.fn g caps] (.fn 247 [.iptr [.imm 3 (l.map eG)],.iptr [aG most],.iptr [.fn g caps]]):=by
 refine aQ Tryz.func176 rfl Tryz.ntmps176 rfl fun B=>?_
 refine W07 ?_
 exact OL NZ
instance {g:FuncId} {caps:List AV} (l:List dW) (most:Int):AD Tryz.prog 176 [.imm 3 (l.map eG),aG most,.fn g caps] (.fn 247 [.iptr [.imm 3 (l.map eG)],.iptr [aG most],.iptr [.fn g caps]]):=⟨LT l most⟩
theorem H8 {g:FuncId} {caps:List AV} {u:AV} [bK Tryz.prog g] (hu:kW u=some (g,caps)) (l:List dN) (err:Nat→Int) (J:Nat→AL→Prop) (L0:AL) (h0:J 0 L0) (hw:∀i x L,l[i]?=some x→J i L→AC Tryz.prog g ([aG i,.agg (df x)]++caps) L fun c L'=>c=aG (err i)∧(err i=0→J (i+1) L')):
  AC Tryz.prog 250 [.imm 4 (l.map df),u] L0 fun r _=>r=ct (dG err l.length):=by
 refine aQ Tryz.func250 rfl Tryz.ntmps250 rfl fun B=>?_
 refine cV 0 rfl rfl fun hlen=>?_
 rw [Ou] at hlen
 refine W03 ?_
 refine aJ [1,9,10] (α:=Nat×AL) (fun i=>[(11,aG i.1)]) (fun i=>i.1≤l.length∧J i.1 i.2∧dG err l.length=dI err (l.length - i.1) i.1) (fun i=>i.2) (fun i=>l.length - i.1) (0,L0) rfl ⟨rfl,trivial⟩ ⟨Nat.zero_le _,h0,rfl⟩ (fun _ _ h=>h) ?_
 rintro ⟨i,L⟩ ⟨hi,hj,he⟩
 dsimp only at hi hj he ⊢
 try dsimp only [Oq,Oo,Om,Oh]
 refine W01 ?_
 refine aw rfl (fun h=>?_) (fun h=>?_)
 ·have hil:i < l.length:=by have:=Oy h;simp at this;omega
  obtain ⟨z,hz⟩:∃z,l[i]?=some z:=⟨_,Oz hil⟩
  have hzg:=c7 (c:=df) hz
  refine W04 ?_
  intros
  refine dO L [] (hw i z L hz hj) rfl hu rfl (cj rfl) rfl rfl fun c L1 ⟨hc,hj'⟩=>?_
  subst hc
  rw [List.append_nil]
  refine W01 ?_
  refine aw rfl (fun h2=>?_) (fun h2=>?_)
  ·have h2':=Oy h2
   refine W01 ?_
   refine OQ NZ ?_
   rw [he,cX hil h2']
   rfl
  ·have h2':=Decidable.not_not.1 (Ox h2)
   refine W02 ?_
   exact aD (i+1,L1) rfl ⟨by rw [Ov];rfl,trivial⟩ ⟨by dsimp only;omega,hj' h2',by rw [he];exact cE hil h2'⟩ (by dsimp only;omega) (fun _ _ h=>h)
 ·have hil:i=l.length:=by have:=Ox h;simp at this;omega
  subst hil
  refine W01 ?_
  refine OQ NZ ?_
  rw [he,Nat.sub_self]
  rfl
theorem Ib {g:FuncId} {caps:List AV} {u:AV} [bK Tryz.prog g] (hu:kW u=some (g,caps)) (l:List dN) (most:Int) (err:Nat→Int) (J:Nat→AL→Prop) (L0:AL) (h0:J 0 L0) (hw:(l.length:Int)≤most→∀i x L,l[i]?=some x→J i L→AC Tryz.prog g ([aG i,.agg (df x)]++caps) L fun c L'=>c=aG (err i)∧(err i=0→J (i+1) L')):
  AC Tryz.prog 249 [.iptr [.imm 4 (l.map df)],.iptr [aG most],.iptr [u]] L0 fun r _=>r=ct (dB most err l.length):=by
 refine aQ Tryz.func249 rfl Tryz.ntmps249 rfl fun B=>?_
 refine W01 ?_
 refine aw rfl (fun h=>?_) (fun h=>?_)
 ·have h':=Oy h
  rw [Ou] at h'
  refine W01 ?_
  refine OQ NZ ?_
  unfold dB
  rw [if_pos h']
  rfl
 ·have h':=Ox h
  rw [Ou] at h'
  refine W01 ?_
  refine bh L0 [] (H8 hu l err J L0 h0 (hw (by omega))) rfl (fV hu) (cj rfl) rfl fun c L1 hc=>?_
  subst hc
  refine W01 ?_
  refine OQ NZ ?_
  unfold dB
  rw [if_neg h']
  rfl
theorem LU {g:FuncId} {caps:List AV} (l:List dN) (most:Int):bH Tryz.prog 179 [.imm 4 (l.map df),aG most,.fn g caps] (.fn 249 [.iptr [.imm 4 (l.map df)],.iptr [aG most],.iptr [.fn g caps]]):=by
 refine aQ Tryz.func179 rfl Tryz.ntmps179 rfl fun B=>?_
 refine W07 ?_
 exact OL NZ
instance {g:FuncId} {caps:List AV} (l:List dN) (most:Int):AD Tryz.prog 179 [.imm 4 (l.map df),aG most,.fn g caps] (.fn 249 [.iptr [.imm 4 (l.map df)],.iptr [aG most],.iptr [.fn g caps]]):=⟨LU l most⟩
theorem H9 {g:FuncId} {caps:List AV} {u:AV} [bK Tryz.prog g] (hu:kW u=some (g,caps)) (l:List dT) (err:Nat→Int) (J:Nat→AL→Prop) (L0:AL) (h0:J 0 L0) (hw:∀i x L,l[i]?=some x→J i L→AC Tryz.prog g ([aG i,.agg (ei x)]++caps) L fun c L'=>c=aG (err i)∧(err i=0→J (i+1) L')):
  AC Tryz.prog 253 [.imm 4 (l.map ei),u] L0 fun r _=>r=ct (dG err l.length):=by
 refine aQ Tryz.func253 rfl Tryz.ntmps253 rfl fun B=>?_
 refine cV 0 rfl rfl fun hlen=>?_
 rw [Ou] at hlen
 refine W03 ?_
 refine aJ [1,9,10] (α:=Nat×AL) (fun i=>[(11,aG i.1)]) (fun i=>i.1≤l.length∧J i.1 i.2∧dG err l.length=dI err (l.length - i.1) i.1) (fun i=>i.2) (fun i=>l.length - i.1) (0,L0) rfl ⟨rfl,trivial⟩ ⟨Nat.zero_le _,h0,rfl⟩ (fun _ _ h=>h) ?_
 rintro ⟨i,L⟩ ⟨hi,hj,he⟩
 dsimp only at hi hj he ⊢
 try dsimp only [Oq,Oo,Om,Oh]
 refine W01 ?_
 refine aw rfl (fun h=>?_) (fun h=>?_)
 ·have hil:i < l.length:=by have:=Oy h;simp at this;omega
  obtain ⟨z,hz⟩:∃z,l[i]?=some z:=⟨_,Oz hil⟩
  have hzg:=c7 (c:=ei) hz
  refine W04 ?_
  intros
  refine dO L [] (hw i z L hz hj) rfl hu rfl (cj rfl) rfl rfl fun c L1 ⟨hc,hj'⟩=>?_
  subst hc
  rw [List.append_nil]
  refine W01 ?_
  refine aw rfl (fun h2=>?_) (fun h2=>?_)
  ·have h2':=Oy h2
   refine W01 ?_
   refine OQ NZ ?_
   rw [he,cX hil h2']
   rfl
  ·have h2':=Decidable.not_not.1 (Ox h2)
   refine W02 ?_
   exact aD (i+1,L1) rfl ⟨by rw [Ov];rfl,trivial⟩ ⟨by dsimp only;omega,hj' h2',by rw [he];exact cE hil h2'⟩ (by dsimp only;omega) (fun _ _ h=>h)
 ·have hil:i=l.length:=by have:=Ox h;simp at this;omega
  subst hil
  refine W01 ?_
  refine OQ NZ ?_
  rw [he,Nat.sub_self]
  rfl
theorem Ic {g:FuncId} {caps:List AV} {u:AV} [bK Tryz.prog g] (hu:kW u=some (g,caps)) (l:List dT) (most:Int) (err:Nat→Int) (J:Nat→AL→Prop) (L0:AL) (h0:J 0 L0) (hw:(l.length:Int)≤most→∀i x L,l[i]?=some x→J i L→AC Tryz.prog g ([aG i,.agg (ei x)]++caps) L fun c L'=>c=aG (err i)∧(err i=0→J (i+1) L')):
  AC Tryz.prog 252 [.iptr [.imm 4 (l.map ei)],.iptr [aG most],.iptr [u]] L0 fun r _=>r=ct (dB most err l.length):=by
 refine aQ Tryz.func252 rfl Tryz.ntmps252 rfl fun B=>?_
 refine W01 ?_
 refine aw rfl (fun h=>?_) (fun h=>?_)
 ·have h':=Oy h
  rw [Ou] at h'
  refine W01 ?_
  refine OQ NZ ?_
  unfold dB
  rw [if_pos h']
  rfl
 ·have h':=Ox h
  rw [Ou] at h'
  refine W01 ?_
  refine bh L0 [] (H9 hu l err J L0 h0 (hw (by omega))) rfl (fV hu) (cj rfl) rfl fun c L1 hc=>?_
  subst hc
  refine W01 ?_
  refine OQ NZ ?_
  unfold dB
  rw [if_neg h']
  rfl
theorem LV {g:FuncId} {caps:List AV} (l:List dT) (most:Int):bH Tryz.prog 181 [.imm 4 (l.map ei),aG most,.fn g caps] (.fn 252 [.iptr [.imm 4 (l.map ei)],.iptr [aG most],.iptr [.fn g caps]]):=by
 refine aQ Tryz.func181 rfl Tryz.ntmps181 rfl fun B=>?_
 refine W07 ?_
 exact OL NZ
instance {g:FuncId} {caps:List AV} (l:List dT) (most:Int):AD Tryz.prog 181 [.imm 4 (l.map ei),aG most,.fn g caps] (.fn 252 [.iptr [.imm 4 (l.map ei)],.iptr [aG most],.iptr [.fn g caps]]):=⟨LV l most⟩
theorem Ha {g:FuncId} {caps:List AV} {u:AV} [bK Tryz.prog g] (hu:kW u=some (g,caps)) (l:List (List Int)) (err:Nat→Int) (J:Nat→AL→Prop) (L0:AL) (h0:J 0 L0) (hw:∀i x L,l[i]?=some x→J i L→AC Tryz.prog g ([aG i,.imm 1 (aL x)]++caps) L fun c L'=>c=aG (err i)∧(err i=0→J (i+1) L')):
  AC Tryz.prog 261 [.imm 1 (l.map Ls),u] L0 fun r _=>r=ct (dG err l.length):=by
 refine aQ Tryz.func261 rfl Tryz.ntmps261 rfl fun B=>?_
 refine cV 0 rfl rfl fun hlen=>?_
 rw [Ou] at hlen
 refine W03 ?_
 refine aJ [1,9,10] (α:=Nat×AL) (fun i=>[(11,aG i.1)]) (fun i=>i.1≤l.length∧J i.1 i.2∧dG err l.length=dI err (l.length - i.1) i.1) (fun i=>i.2) (fun i=>l.length - i.1) (0,L0) rfl ⟨rfl,trivial⟩ ⟨Nat.zero_le _,h0,rfl⟩ (fun _ _ h=>h) ?_
 rintro ⟨i,L⟩ ⟨hi,hj,he⟩
 dsimp only at hi hj he ⊢
 try dsimp only [Oq,Oo,Om,Oh]
 refine W01 ?_
 refine aw rfl (fun h=>?_) (fun h=>?_)
 ·have hil:i < l.length:=by have:=Oy h;simp at this;omega
  obtain ⟨z,hz⟩:∃z,l[i]?=some z:=⟨_,Oz hil⟩
  have hzg:=c7 (c:=Ls) hz
  refine W08 ?_
  refine dO L [] (hw i z L hz hj) rfl hu rfl (cj rfl) rfl rfl fun c L1 ⟨hc,hj'⟩=>?_
  subst hc
  rw [List.append_nil]
  refine W01 ?_
  refine aw rfl (fun h2=>?_) (fun h2=>?_)
  ·have h2':=Oy h2
   refine W01 ?_
   refine OQ NZ ?_
   rw [he,cX hil h2']
   rfl
  ·have h2':=Decidable.not_not.1 (Ox h2)
   refine W02 ?_
   exact aD (i+1,L1) rfl ⟨by rw [Ov];rfl,trivial⟩ ⟨by dsimp only;omega,hj' h2',by rw [he];exact cE hil h2'⟩ (by dsimp only;omega) (fun _ _ h=>h)
 ·have hil:i=l.length:=by have:=Ox h;simp at this;omega
  subst hil
  refine W01 ?_
  refine OQ NZ ?_
  rw [he,Nat.sub_self]
  rfl
theorem Hb {g:FuncId} {caps:List AV} {u:AV} [bK Tryz.prog g] (hu:kW u=some (g,caps)) (l:List eW) (err:Nat→Int) (J:Nat→AL→Prop) (L0:AL) (h0:J 0 L0) (hw:∀i x L,l[i]?=some x→J i L→AC Tryz.prog g ([aG i,.agg (dX x)]++caps) L fun c L'=>c=aG (err i)∧(err i=0→J (i+1) L')):
  AC Tryz.prog 274 [.imm 2 (l.map dX),u] L0 fun r _=>r=ct (dG err l.length):=by
 refine aQ Tryz.func274 rfl Tryz.ntmps274 rfl fun B=>?_
 refine cV 0 rfl rfl fun hlen=>?_
 rw [Ou] at hlen
 refine W03 ?_
 refine aJ [1,9,10] (α:=Nat×AL) (fun i=>[(11,aG i.1)]) (fun i=>i.1≤l.length∧J i.1 i.2∧dG err l.length=dI err (l.length - i.1) i.1) (fun i=>i.2) (fun i=>l.length - i.1) (0,L0) rfl ⟨rfl,trivial⟩ ⟨Nat.zero_le _,h0,rfl⟩ (fun _ _ h=>h) ?_
 rintro ⟨i,L⟩ ⟨hi,hj,he⟩
 dsimp only at hi hj he ⊢
 try dsimp only [Oq,Oo,Om,Oh]
 refine W01 ?_
 refine aw rfl (fun h=>?_) (fun h=>?_)
 ·have hil:i < l.length:=by have:=Oy h;simp at this;omega
  obtain ⟨z,hz⟩:∃z,l[i]?=some z:=⟨_,Oz hil⟩
  have hzg:=c7 (c:=dX) hz
  refine W04 ?_
  intros
  refine dO L [] (hw i z L hz hj) rfl hu rfl (cj rfl) rfl rfl fun c L1 ⟨hc,hj'⟩=>?_
  subst hc
  rw [List.append_nil]
  refine W01 ?_
  refine aw rfl (fun h2=>?_) (fun h2=>?_)
  ·have h2':=Oy h2
   refine W01 ?_
   refine OQ NZ ?_
   rw [he,cX hil h2']
   rfl
  ·have h2':=Decidable.not_not.1 (Ox h2)
   refine W02 ?_
   exact aD (i+1,L1) rfl ⟨by rw [Ov];rfl,trivial⟩ ⟨by dsimp only;omega,hj' h2',by rw [he];exact cE hil h2'⟩ (by dsimp only;omega) (fun _ _ h=>h)
 ·have hil:i=l.length:=by have:=Ox h;simp at this;omega
  subst hil
  refine W01 ?_
  refine OQ NZ ?_
  rw [he,Nat.sub_self]
  rfl
theorem Ie {g:FuncId} {caps:List AV} {u:AV} [bK Tryz.prog g] (hu:kW u=some (g,caps)) (l:List eW) (most:Int) (err:Nat→Int) (J:Nat→AL→Prop) (L0:AL) (h0:J 0 L0) (hw:(l.length:Int)≤most→∀i x L,l[i]?=some x→J i L→AC Tryz.prog g ([aG i,.agg (dX x)]++caps) L fun c L'=>c=aG (err i)∧(err i=0→J (i+1) L')):
  AC Tryz.prog 273 [.iptr [.imm 2 (l.map dX)],.iptr [aG most],.iptr [u]] L0 fun r _=>r=ct (dB most err l.length):=by
 refine aQ Tryz.func273 rfl Tryz.ntmps273 rfl fun B=>?_
 refine W01 ?_
 refine aw rfl (fun h=>?_) (fun h=>?_)
 ·have h':=Oy h
  rw [Ou] at h'
  refine W01 ?_
  refine OQ NZ ?_
  unfold dB
  rw [if_pos h']
  rfl
 ·have h':=Ox h
  rw [Ou] at h'
  refine W01 ?_
  refine bh L0 [] (Hb hu l err J L0 h0 (hw (by omega))) rfl (fV hu) (cj rfl) rfl fun c L1 hc=>?_
  subst hc
  refine W01 ?_
  refine OQ NZ ?_
  unfold dB
  rw [if_neg h']
  rfl
theorem Ke {g:FuncId} (l:List eW) (most:Int):bH Tryz.prog 212 [.imm 2 (l.map dX),aG most,.sc (.func (.func g) #[] #[])] (.fn 273 [.iptr [.imm 2 (l.map dX)],.iptr [aG most],.iptr [.sc (.func (.func g) #[] #[])]]):=by
 refine aQ Tryz.func212 rfl Tryz.ntmps212 rfl fun B=>?_
 refine W07 ?_
 exact OL NZ
instance {g:FuncId} (l:List eW) (most:Int):AD Tryz.prog 212 [.imm 2 (l.map dX),aG most,.sc (.func (.func g) #[] #[])] (.fn 273 [.iptr [.imm 2 (l.map dX)],.iptr [aG most],.iptr [.sc (.func (.func g) #[] #[])]]):=⟨Ke l most⟩
theorem Hc {g:FuncId} {caps:List AV} {u:AV} [bK Tryz.prog g] (hu:kW u=some (g,caps)) (l:List jt) (err:Nat→Int) (J:Nat→AL→Prop) (L0:AL) (h0:J 0 L0) (hw:∀i x L,l[i]?=some x→J i L→AC Tryz.prog g ([aG i,.agg (g9 x)]++caps) L fun c L'=>c=aG (err i)∧(err i=0→J (i+1) L')):
  AC Tryz.prog 318 [.imm 2 (l.map g9),u] L0 fun r _=>r=ct (dG err l.length):=by
 refine aQ Tryz.func318 rfl Tryz.ntmps318 rfl fun B=>?_
 refine cV 0 rfl rfl fun hlen=>?_
 rw [Ou] at hlen
 refine W03 ?_
 refine aJ [1,9,10] (α:=Nat×AL) (fun i=>[(11,aG i.1)]) (fun i=>i.1≤l.length∧J i.1 i.2∧dG err l.length=dI err (l.length - i.1) i.1) (fun i=>i.2) (fun i=>l.length - i.1) (0,L0) rfl ⟨rfl,trivial⟩ ⟨Nat.zero_le _,h0,rfl⟩ (fun _ _ h=>h) ?_
 rintro ⟨i,L⟩ ⟨hi,hj,he⟩
 dsimp only at hi hj he ⊢
 try dsimp only [Oq,Oo,Om,Oh]
 refine W01 ?_
 refine aw rfl (fun h=>?_) (fun h=>?_)
 ·have hil:i < l.length:=by have:=Oy h;simp at this;omega
  obtain ⟨z,hz⟩:∃z,l[i]?=some z:=⟨_,Oz hil⟩
  have hzg:=c7 (c:=g9) hz
  refine W04 ?_
  intros
  refine dO L [] (hw i z L hz hj) rfl hu rfl (cj rfl) rfl rfl fun c L1 ⟨hc,hj'⟩=>?_
  subst hc
  rw [List.append_nil]
  refine W01 ?_
  refine aw rfl (fun h2=>?_) (fun h2=>?_)
  ·have h2':=Oy h2
   refine W01 ?_
   refine OQ NZ ?_
   rw [he,cX hil h2']
   rfl
  ·have h2':=Decidable.not_not.1 (Ox h2)
   refine W02 ?_
   exact aD (i+1,L1) rfl ⟨by rw [Ov];rfl,trivial⟩ ⟨by dsimp only;omega,hj' h2',by rw [he];exact cE hil h2'⟩ (by dsimp only;omega) (fun _ _ h=>h)
 ·have hil:i=l.length:=by have:=Ox h;simp at this;omega
  subst hil
  refine W01 ?_
  refine OQ NZ ?_
  rw [he,Nat.sub_self]
  rfl
theorem nh {g:FuncId} {caps:List AV} {u:AV} [bK Tryz.prog g] (hu:kW u=some (g,caps)) (l:List Int) (err:Nat→Int) (J:Nat→AL→Prop) (L0:AL) (h0:J 0 L0) (hw:∀i x L,l[i]?=some x→J i L→AC Tryz.prog g ([aG i,aG x]++caps) L fun c L'=>c=aG (err i)∧(err i=0→J (i+1) L')):
  AC Tryz.prog 187 [.imm 1 (l.map Bg),u] L0 fun r _=>r=ct (dG err l.length):=by
 refine aQ Tryz.func187 rfl Tryz.ntmps187 rfl fun B=>?_
 refine cV 0 rfl rfl fun hlen=>?_
 rw [Ou] at hlen
 refine W03 ?_
 refine aJ [1,9,10] (α:=Nat×AL) (fun i=>[(11,aG i.1)]) (fun i=>i.1≤l.length∧J i.1 i.2∧dG err l.length=dI err (l.length - i.1) i.1) (fun i=>i.2) (fun i=>l.length - i.1) (0,L0) rfl ⟨rfl,trivial⟩ ⟨Nat.zero_le _,h0,rfl⟩ (fun _ _ h=>h) ?_
 rintro ⟨i,L⟩ ⟨hi,hj,he⟩
 dsimp only at hi hj he ⊢
 try dsimp only [Oq,Oo,Om,Oh]
 refine W01 ?_
 refine aw rfl (fun h=>?_) (fun h=>?_)
 ·have hil:i < l.length:=by have:=Oy h;simp at this;omega
  obtain ⟨z,hz⟩:∃z,l[i]?=some z:=⟨_,Oz hil⟩
  have hzg:=c7 (c:=Bg) hz
  refine W08 ?_
  refine dO L [] (hw i z L hz hj) rfl hu rfl (cj rfl) rfl rfl fun c L1 ⟨hc,hj'⟩=>?_
  subst hc
  rw [List.append_nil]
  refine W01 ?_
  refine aw rfl (fun h2=>?_) (fun h2=>?_)
  ·have h2':=Oy h2
   refine W01 ?_
   refine OQ NZ ?_
   rw [he,cX hil h2']
   rfl
  ·have h2':=Decidable.not_not.1 (Ox h2)
   refine W02 ?_
   exact aD (i+1,L1) rfl ⟨by rw [Ov];rfl,trivial⟩ ⟨by dsimp only;omega,hj' h2',by rw [he];exact cE hil h2'⟩ (by dsimp only;omega) (fun _ _ h=>h)
 ·have hil:i=l.length:=by have:=Ox h;simp at this;omega
  subst hil
  refine W01 ?_
  refine OQ NZ ?_
  rw [he,Nat.sub_self]
  rfl
theorem I9 {g:FuncId} {caps:List AV} {u:AV} [bK Tryz.prog g] (hu:kW u=some (g,caps)) (l:List Int) (most:Int) (err:Nat→Int) (J:Nat→AL→Prop) (L0:AL) (h0:J 0 L0) (hw:(l.length:Int)≤most→∀i x L,l[i]?=some x→J i L→AC Tryz.prog g ([aG i,aG x]++caps) L fun c L'=>c=aG (err i)∧(err i=0→J (i+1) L')):
  AC Tryz.prog 214 [.iptr [.imm 1 (l.map Bg)],.iptr [aG most],.iptr [u]] L0 fun r _=>r=ct (dB most err l.length):=by
 refine aQ Tryz.func214 rfl Tryz.ntmps214 rfl fun B=>?_
 refine W01 ?_
 refine aw rfl (fun h=>?_) (fun h=>?_)
 ·have h':=Oy h
  rw [Ou] at h'
  refine W01 ?_
  refine OQ NZ ?_
  unfold dB
  rw [if_pos h']
  rfl
 ·have h':=Ox h
  rw [Ou] at h'
  refine W01 ?_
  refine bh L0 [] (nh hu l err J L0 h0 (hw (by omega))) rfl (fV hu) (cj rfl) rfl fun c L1 hc=>?_
  subst hc
  refine W01 ?_
  refine OQ NZ ?_
  unfold dB
  rw [if_neg h']
  rfl
theorem Kd {g:FuncId} (l:List Int) (most:Int):bH Tryz.prog 133 [.imm 1 (l.map Bg),aG most,.sc (.func (.func g) #[] #[])] (.fn 214 [.iptr [.imm 1 (l.map Bg)],.iptr [aG most],.iptr [.sc (.func (.func g) #[] #[])]]):=by
 refine aQ Tryz.func133 rfl Tryz.ntmps133 rfl fun B=>?_
 refine W07 ?_
 exact OL NZ
end Go.Proofs.YtamjlkdanllgjaaGreatDoor
