/-
  The program: looks at things, one by one.
-/
import Derived.Test.YtpmdfoaadejmkaaGreatDoorM06
import Derived.Test.YtpmdfoaadejmkaaGreatDoorM08
import Derived.Test.YtpmdfoaadejmkaaGreatDoorM05
namespace Go.Proofs.YtpmdfoaadejmkaaGreatDoor
open Go.RowKit
attribute [local irreducible] AT bJ AX AO Av Kt bi dq DA cG
def du (err:Nat→Int):Nat→Nat→Int×Int
 | 0,_=>(0,0)
 | k+1,i=>if err i=0 then du err k (i+1) else (err i,i)
def dx (err:Nat→Int) (n:Nat):Int×Int:=du err n 0
def dp (most:Int) (err:Nat→Int) (n:Nat):Int×Int:=if (n:Int) > most then (2,0) else dx err n
def cD (p:Int×Int):AV:= .tup [aF p.1,aF p.2]
theorem cH {err:Nat→Int} {n i:Nat} (hi:i < n) (h:err i=0):du err (n - i) i=du err (n - (i+1)) (i+1):=by
 rw [show n - i=(n - (i+1))+1 by omega]
 simp only [du,h,if_true]
theorem cY {err:Nat→Int} {n i:Nat} (hi:i < n) (h:err i≠0):du err (n - i) i=(err i,(i:Int)):=by
 rw [show n - i=(n - (i+1))+1 by omega]
 simp only [du,h,if_false]
theorem qY {err:Nat→Int}:∀(k i:Nat),(∀j,i≤j→j < i+k→err j=0)→du err k i=(0,0)
 | 0,_,_=>rfl
 | k+1,i,h=>by
  simp only [du]
  rw [if_pos (h i (Nat.le_refl _) (by omega))]
  exact qY k (i+1) fun j h1 h2=>h j (by omega) (by omega)
theorem sU {err:Nat→Int} {n:Nat} (h:∀i,i < n→err i=0):dx err n=(0,0):=qY n 0 fun j _ hj=>h j (by omega)
theorem Bn {most:Int} {err:Nat→Int} {n:Nat} (hm:(n:Int)≤most) (h:∀i,i < n→err i=0):dp most err n=(0,0):=by
 unfold dp
 rw [if_neg (by omega),sU h]
def Ir (q:List Int):List AV:=[.imm 1 (aW q)]
def zR (z:Int):List AV:=[aF z]
theorem fW {g:FuncId} {caps:List AV} {u:AV} (hu:lm u=some (g,caps)) {s:Nat} {l:List (List AV)}:mB [.imm s l,u]=some [.imm s l,u]:=by
 unfold lm at hu
 split at hu <;> first | rfl | cases hu
theorem bK {L L':AL} (h:L=L'):L.Perm (L'++[]):=by rw [List.append_nil,h]
def JU (P:Program) (g:FuncId) (caps:List AV) (n:Nat) (arg:Nat→AV) (err:Nat→Int) (J:Nat→AL→Prop):Prop:=∀i L,i < n→J i L→AC P g ([aF i,arg i]++caps) L fun c L'=>c=aF (err i)∧(err i=0→J (i+1) L')
theorem F6 {g:FuncId} {caps:List AV} {u:AV} [bM Tryz.prog g] (hu:lm u=some (g,caps)) (l:List bD) (err:Nat→Int) (J:Nat→AL→Prop) (L0:AL) (h0:J 0 L0) (hw:∀i x L,l[i]?=some x→J i L→AC Tryz.prog g ([aF i,.agg (bT x)]++caps) L fun c L'=>c=aF (err i)∧(err i=0→J (i+1) L')):
  AC Tryz.prog 113 [.imm 9 (l.map bT),u] L0 fun r _=>r=cD (dx err l.length):=by
 refine aN Tryz.func113 rfl Tryz.ntmps113 rfl fun B=>?_
 refine cW 0 rfl rfl fun hlen=>?_
 rw [Ku] at hlen
 repeat' (first|refine L3 ?_|refine ak ?_|refine KG a4 HY ?_)
 refine aR [1,9,10] (α:=Nat×AL) (fun i=>[(11,aF i.1)]) (fun i=>i.1≤l.length∧J i.1 i.2∧dx err l.length=du err (l.length - i.1) i.1) (fun i=>i.2) (fun i=>l.length - i.1) (0,L0) rfl ⟨rfl,trivial⟩ ⟨Nat.zero_le _,h0,rfl⟩ (fun _ _ h=>h) ?_
 rintro ⟨i,L⟩ ⟨hi,hj,he⟩
 dsimp only at hi hj he ⊢
 try dsimp only [Kr,Kq,Kp,Lv]
 repeat' (first|refine L3 ?_|refine KG a4 HY ?_)
 refine aw rfl (fun h=>?_) (fun h=>?_)
 ·have hil:i < l.length:=by have:=Ky h;simp at this;omega
  obtain ⟨z,hz⟩:∃z,l[i]?=some z:=⟨_,Kz hil⟩
  have hzg:=c5 (c:=bT) hz
  repeat' (first|refine L3 ?_|refine ak ?_|refine KG a4 HY ?_|(apply aQ;first|refine aO a4 ?_|refine aG a4 ?_)|(apply aM;first|refine KL 7 a4 0 KF ?_|refine KL 7 a4 1 KF ?_|refine KL 7 a4 2 KF ?_|refine KH a4 0 KE ?_|refine KH a4 1 KE ?_|refine KH a4 2 KE ?_|refine KH a4 3 KE ?_|fail)|refine bq a4 fun _=>?_|fail)
  refine dQ L [] (hw i z L hz hj) rfl hu rfl (bK rfl) rfl rfl fun c L1 ⟨hc,hj'⟩=>?_
  subst hc
  rw [List.append_nil]
  repeat' (first|refine L3 ?_|refine KG a4 HY ?_)
  refine aw rfl (fun h2=>?_) (fun h2=>?_)
  ·have h2':=Ky h2
   repeat' (first|refine L3 ?_|refine KG a4 HY ?_)
   refine KX KA ?_
   rw [he,cY hil h2']
   rfl
  ·have h2':=Decidable.not_not.1 (Kx h2)
   repeat' (first|refine L3 ?_|refine KG a4 HY ?_|(apply aU;refine aT ?_)|fail)
   exact aD (i+1,L1) rfl ⟨by rw [Kv];rfl,trivial⟩ ⟨by dsimp only;omega,hj' h2',by rw [he];exact cH hil h2'⟩ (by dsimp only;omega) (fun _ _ h=>h)
 ·have hil:i=l.length:=by have:=Kx h;simp at this;omega
  subst hil
  repeat' (first|refine L3 ?_|refine KG a4 HY ?_)
  refine KX KA ?_
  rw [he,Nat.sub_self]
  rfl
theorem FX {g:FuncId} {caps:List AV} {u:AV} [bM Tryz.prog g] (hu:lm u=some (g,caps)) (l:List bD) (most:Int) (err:Nat→Int) (J:Nat→AL→Prop) (L0:AL) (h0:J 0 L0) (hw:(l.length:Int)≤most→∀i x L,l[i]?=some x→J i L→AC Tryz.prog g ([aF i,.agg (bT x)]++caps) L fun c L'=>c=aF (err i)∧(err i=0→J (i+1) L')):
  AC Tryz.prog 112 [.iptr [.imm 9 (l.map bT)],.iptr [aF most],.iptr [u]] L0 fun r _=>r=cD (dp most err l.length):=by
 refine aN Tryz.func112 rfl Tryz.ntmps112 rfl fun B=>?_
 repeat' (first|refine L3 ?_|refine KG a4 HY ?_)
 refine aw rfl (fun h=>?_) (fun h=>?_)
 ·have h':=Ky h
  rw [Ku] at h'
  repeat' (first|refine L3 ?_|refine KG a4 HY ?_)
  refine KX KA ?_
  unfold dp
  rw [if_pos h']
  rfl
 ·have h':=Kx h
  rw [Ku] at h'
  repeat' (first|refine L3 ?_|refine KG a4 HY ?_)
  refine b6 L0 [] (F6 hu l err J L0 h0 (hw (by omega))) rfl (fW hu) (bK rfl) rfl fun c L1 hc=>?_
  subst hc
  repeat' (first|refine L3 ?_|refine KG a4 HY ?_)
  refine KX KA ?_
  unfold dp
  rw [if_neg h']
  rfl
theorem Jx {g:FuncId} {caps:List AV} (l:List bD) (most:Int):bU Tryz.prog 50 [.imm 9 (l.map bT),aF most,.fn g caps] (.fn 112 [.iptr [.imm 9 (l.map bT)],.iptr [aF most],.iptr [.fn g caps]]):=by
 refine aN Tryz.func50 rfl Tryz.ntmps50 rfl fun B=>?_
 repeat' (first|refine L3 ?_|refine KG a4 HY ?_|refine bA ?_|fail)
 exact KQ KA
instance {g:FuncId} {caps:List AV} (l:List bD) (most:Int):AD Tryz.prog 50 [.imm 9 (l.map bT),aF most,.fn g caps] (.fn 112 [.iptr [.imm 9 (l.map bT)],.iptr [aF most],.iptr [.fn g caps]]):=⟨Jx l most⟩
theorem F7 {g:FuncId} {caps:List AV} {u:AV} [bM Tryz.prog g] (hu:lm u=some (g,caps)) (l:List gu) (err:Nat→Int) (J:Nat→AL→Prop) (L0:AL) (h0:J 0 L0) (hw:∀i x L,l[i]?=some x→J i L→AC Tryz.prog g ([aF i,.agg (eB x)]++caps) L fun c L'=>c=aF (err i)∧(err i=0→J (i+1) L')):
  AC Tryz.prog 133 [.imm 2 (l.map eB),u] L0 fun r _=>r=cD (dx err l.length):=by
 refine aN Tryz.func133 rfl Tryz.ntmps133 rfl fun B=>?_
 refine cW 0 rfl rfl fun hlen=>?_
 rw [Ku] at hlen
 repeat' (first|refine L3 ?_|refine ak ?_|refine KG a4 HY ?_)
 refine aR [1,9,10] (α:=Nat×AL) (fun i=>[(11,aF i.1)]) (fun i=>i.1≤l.length∧J i.1 i.2∧dx err l.length=du err (l.length - i.1) i.1) (fun i=>i.2) (fun i=>l.length - i.1) (0,L0) rfl ⟨rfl,trivial⟩ ⟨Nat.zero_le _,h0,rfl⟩ (fun _ _ h=>h) ?_
 rintro ⟨i,L⟩ ⟨hi,hj,he⟩
 dsimp only at hi hj he ⊢
 try dsimp only [Kr,Kq,Kp,Lv]
 repeat' (first|refine L3 ?_|refine KG a4 HY ?_)
 refine aw rfl (fun h=>?_) (fun h=>?_)
 ·have hil:i < l.length:=by have:=Ky h;simp at this;omega
  obtain ⟨z,hz⟩:∃z,l[i]?=some z:=⟨_,Kz hil⟩
  have hzg:=c5 (c:=eB) hz
  repeat' (first|refine L3 ?_|refine ak ?_|refine KG a4 HY ?_|(apply aQ;first|refine aO a4 ?_|refine aG a4 ?_)|(apply aM;first|refine KL 7 a4 0 KF ?_|refine KL 7 a4 1 KF ?_|refine KL 7 a4 2 KF ?_|refine KH a4 0 KE ?_|refine KH a4 1 KE ?_|refine KH a4 2 KE ?_|refine KH a4 3 KE ?_|fail)|refine bq a4 fun _=>?_|fail)
  refine dQ L [] (hw i z L hz hj) rfl hu rfl (bK rfl) rfl rfl fun c L1 ⟨hc,hj'⟩=>?_
  subst hc
  rw [List.append_nil]
  repeat' (first|refine L3 ?_|refine KG a4 HY ?_)
  refine aw rfl (fun h2=>?_) (fun h2=>?_)
  ·have h2':=Ky h2
   repeat' (first|refine L3 ?_|refine KG a4 HY ?_)
   refine KX KA ?_
   rw [he,cY hil h2']
   rfl
  ·have h2':=Decidable.not_not.1 (Kx h2)
   repeat' (first|refine L3 ?_|refine KG a4 HY ?_|(apply aU;refine aT ?_)|fail)
   exact aD (i+1,L1) rfl ⟨by rw [Kv];rfl,trivial⟩ ⟨by dsimp only;omega,hj' h2',by rw [he];exact cH hil h2'⟩ (by dsimp only;omega) (fun _ _ h=>h)
 ·have hil:i=l.length:=by have:=Kx h;simp at this;omega
  subst hil
  repeat' (first|refine L3 ?_|refine KG a4 HY ?_)
  refine KX KA ?_
  rw [he,Nat.sub_self]
  rfl
theorem FY {g:FuncId} {caps:List AV} {u:AV} [bM Tryz.prog g] (hu:lm u=some (g,caps)) (l:List gu) (most:Int) (err:Nat→Int) (J:Nat→AL→Prop) (L0:AL) (h0:J 0 L0) (hw:(l.length:Int)≤most→∀i x L,l[i]?=some x→J i L→AC Tryz.prog g ([aF i,.agg (eB x)]++caps) L fun c L'=>c=aF (err i)∧(err i=0→J (i+1) L')):
  AC Tryz.prog 132 [.iptr [.imm 2 (l.map eB)],.iptr [aF most],.iptr [u]] L0 fun r _=>r=cD (dp most err l.length):=by
 refine aN Tryz.func132 rfl Tryz.ntmps132 rfl fun B=>?_
 repeat' (first|refine L3 ?_|refine KG a4 HY ?_)
 refine aw rfl (fun h=>?_) (fun h=>?_)
 ·have h':=Ky h
  rw [Ku] at h'
  repeat' (first|refine L3 ?_|refine KG a4 HY ?_)
  refine KX KA ?_
  unfold dp
  rw [if_pos h']
  rfl
 ·have h':=Kx h
  rw [Ku] at h'
  repeat' (first|refine L3 ?_|refine KG a4 HY ?_)
  refine b6 L0 [] (F7 hu l err J L0 h0 (hw (by omega))) rfl (fW hu) (bK rfl) rfl fun c L1 hc=>?_
  subst hc
  repeat' (first|refine L3 ?_|refine KG a4 HY ?_)
  refine KX KA ?_
  unfold dp
  rw [if_neg h']
  rfl
theorem Jy {g:FuncId} {caps:List AV} (l:List gu) (most:Int):bU Tryz.prog 57 [.imm 2 (l.map eB),aF most,.fn g caps] (.fn 132 [.iptr [.imm 2 (l.map eB)],.iptr [aF most],.iptr [.fn g caps]]):=by
 refine aN Tryz.func57 rfl Tryz.ntmps57 rfl fun B=>?_
 repeat' (first|refine L3 ?_|refine KG a4 HY ?_|refine bA ?_|fail)
 exact KQ KA
instance {g:FuncId} {caps:List AV} (l:List gu) (most:Int):AD Tryz.prog 57 [.imm 2 (l.map eB),aF most,.fn g caps] (.fn 132 [.iptr [.imm 2 (l.map eB)],.iptr [aF most],.iptr [.fn g caps]]):=⟨Jy l most⟩
theorem F8 {g:FuncId} {caps:List AV} {u:AV} [bM Tryz.prog g] (hu:lm u=some (g,caps)) (l:List aL) (err:Nat→Int) (J:Nat→AL→Prop) (L0:AL) (h0:J 0 L0) (hw:∀i x L,l[i]?=some x→J i L→AC Tryz.prog g ([aF i,.agg (bw x)]++caps) L fun c L'=>c=aF (err i)∧(err i=0→J (i+1) L')):
  AC Tryz.prog 135 [.imm 3 (l.map bw),u] L0 fun r _=>r=cD (dx err l.length):=by
 refine aN Tryz.func135 rfl Tryz.ntmps135 rfl fun B=>?_
 refine cW 0 rfl rfl fun hlen=>?_
 rw [Ku] at hlen
 repeat' (first|refine L3 ?_|refine ak ?_|refine KG a4 HY ?_)
 refine aR [1,9,10] (α:=Nat×AL) (fun i=>[(11,aF i.1)]) (fun i=>i.1≤l.length∧J i.1 i.2∧dx err l.length=du err (l.length - i.1) i.1) (fun i=>i.2) (fun i=>l.length - i.1) (0,L0) rfl ⟨rfl,trivial⟩ ⟨Nat.zero_le _,h0,rfl⟩ (fun _ _ h=>h) ?_
 rintro ⟨i,L⟩ ⟨hi,hj,he⟩
 dsimp only at hi hj he ⊢
 try dsimp only [Kr,Kq,Kp,Lv]
 repeat' (first|refine L3 ?_|refine KG a4 HY ?_)
 refine aw rfl (fun h=>?_) (fun h=>?_)
 ·have hil:i < l.length:=by have:=Ky h;simp at this;omega
  obtain ⟨z,hz⟩:∃z,l[i]?=some z:=⟨_,Kz hil⟩
  have hzg:=c5 (c:=bw) hz
  repeat' (first|refine L3 ?_|refine ak ?_|refine KG a4 HY ?_|(apply aQ;first|refine aO a4 ?_|refine aG a4 ?_)|(apply aM;first|refine KL 7 a4 0 KF ?_|refine KL 7 a4 1 KF ?_|refine KL 7 a4 2 KF ?_|refine KH a4 0 KE ?_|refine KH a4 1 KE ?_|refine KH a4 2 KE ?_|refine KH a4 3 KE ?_|fail)|refine bq a4 fun _=>?_|fail)
  refine dQ L [] (hw i z L hz hj) rfl hu rfl (bK rfl) rfl rfl fun c L1 ⟨hc,hj'⟩=>?_
  subst hc
  rw [List.append_nil]
  repeat' (first|refine L3 ?_|refine KG a4 HY ?_)
  refine aw rfl (fun h2=>?_) (fun h2=>?_)
  ·have h2':=Ky h2
   repeat' (first|refine L3 ?_|refine KG a4 HY ?_)
   refine KX KA ?_
   rw [he,cY hil h2']
   rfl
  ·have h2':=Decidable.not_not.1 (Kx h2)
   repeat' (first|refine L3 ?_|refine KG a4 HY ?_|(apply aU;refine aT ?_)|fail)
   exact aD (i+1,L1) rfl ⟨by rw [Kv];rfl,trivial⟩ ⟨by dsimp only;omega,hj' h2',by rw [he];exact cH hil h2'⟩ (by dsimp only;omega) (fun _ _ h=>h)
 ·have hil:i=l.length:=by have:=Kx h;simp at this;omega
  subst hil
  repeat' (first|refine L3 ?_|refine KG a4 HY ?_)
  refine KX KA ?_
  rw [he,Nat.sub_self]
  rfl
theorem FZ {g:FuncId} {caps:List AV} {u:AV} [bM Tryz.prog g] (hu:lm u=some (g,caps)) (l:List aL) (most:Int) (err:Nat→Int) (J:Nat→AL→Prop) (L0:AL) (h0:J 0 L0) (hw:(l.length:Int)≤most→∀i x L,l[i]?=some x→J i L→AC Tryz.prog g ([aF i,.agg (bw x)]++caps) L fun c L'=>c=aF (err i)∧(err i=0→J (i+1) L')):
  AC Tryz.prog 134 [.iptr [.imm 3 (l.map bw)],.iptr [aF most],.iptr [u]] L0 fun r _=>r=cD (dp most err l.length):=by
 refine aN Tryz.func134 rfl Tryz.ntmps134 rfl fun B=>?_
 repeat' (first|refine L3 ?_|refine KG a4 HY ?_)
 refine aw rfl (fun h=>?_) (fun h=>?_)
 ·have h':=Ky h
  rw [Ku] at h'
  repeat' (first|refine L3 ?_|refine KG a4 HY ?_)
  refine KX KA ?_
  unfold dp
  rw [if_pos h']
  rfl
 ·have h':=Kx h
  rw [Ku] at h'
  repeat' (first|refine L3 ?_|refine KG a4 HY ?_)
  refine b6 L0 [] (F8 hu l err J L0 h0 (hw (by omega))) rfl (fW hu) (bK rfl) rfl fun c L1 hc=>?_
  subst hc
  repeat' (first|refine L3 ?_|refine KG a4 HY ?_)
  refine KX KA ?_
  unfold dp
  rw [if_neg h']
  rfl
theorem Jz {g:FuncId} {caps:List AV} (l:List aL) (most:Int):bU Tryz.prog 60 [.imm 3 (l.map bw),aF most,.fn g caps] (.fn 134 [.iptr [.imm 3 (l.map bw)],.iptr [aF most],.iptr [.fn g caps]]):=by
 refine aN Tryz.func60 rfl Tryz.ntmps60 rfl fun B=>?_
 repeat' (first|refine L3 ?_|refine KG a4 HY ?_|refine bA ?_|fail)
 exact KQ KA
instance {g:FuncId} {caps:List AV} (l:List aL) (most:Int):AD Tryz.prog 60 [.imm 3 (l.map bw),aF most,.fn g caps] (.fn 134 [.iptr [.imm 3 (l.map bw)],.iptr [aF most],.iptr [.fn g caps]]):=⟨Jz l most⟩
theorem F9 {g:FuncId} {caps:List AV} {u:AV} [bM Tryz.prog g] (hu:lm u=some (g,caps)) (l:List bh) (err:Nat→Int) (J:Nat→AL→Prop) (L0:AL) (h0:J 0 L0) (hw:∀i x L,l[i]?=some x→J i L→AC Tryz.prog g ([aF i,.agg (bC x)]++caps) L fun c L'=>c=aF (err i)∧(err i=0→J (i+1) L')):
  AC Tryz.prog 139 [.imm 6 (l.map bC),u] L0 fun r _=>r=cD (dx err l.length):=by
 refine aN Tryz.func139 rfl Tryz.ntmps139 rfl fun B=>?_
 refine cW 0 rfl rfl fun hlen=>?_
 rw [Ku] at hlen
 repeat' (first|refine L3 ?_|refine ak ?_|refine KG a4 HY ?_)
 refine aR [1,9,10] (α:=Nat×AL) (fun i=>[(11,aF i.1)]) (fun i=>i.1≤l.length∧J i.1 i.2∧dx err l.length=du err (l.length - i.1) i.1) (fun i=>i.2) (fun i=>l.length - i.1) (0,L0) rfl ⟨rfl,trivial⟩ ⟨Nat.zero_le _,h0,rfl⟩ (fun _ _ h=>h) ?_
 rintro ⟨i,L⟩ ⟨hi,hj,he⟩
 dsimp only at hi hj he ⊢
 try dsimp only [Kr,Kq,Kp,Lv]
 repeat' (first|refine L3 ?_|refine KG a4 HY ?_)
 refine aw rfl (fun h=>?_) (fun h=>?_)
 ·have hil:i < l.length:=by have:=Ky h;simp at this;omega
  obtain ⟨z,hz⟩:∃z,l[i]?=some z:=⟨_,Kz hil⟩
  have hzg:=c5 (c:=bC) hz
  repeat' (first|refine L3 ?_|refine ak ?_|refine KG a4 HY ?_|(apply aQ;first|refine aO a4 ?_|refine aG a4 ?_)|(apply aM;first|refine KL 7 a4 0 KF ?_|refine KL 7 a4 1 KF ?_|refine KL 7 a4 2 KF ?_|refine KH a4 0 KE ?_|refine KH a4 1 KE ?_|refine KH a4 2 KE ?_|refine KH a4 3 KE ?_|fail)|refine bq a4 fun _=>?_|fail)
  refine dQ L [] (hw i z L hz hj) rfl hu rfl (bK rfl) rfl rfl fun c L1 ⟨hc,hj'⟩=>?_
  subst hc
  rw [List.append_nil]
  repeat' (first|refine L3 ?_|refine KG a4 HY ?_)
  refine aw rfl (fun h2=>?_) (fun h2=>?_)
  ·have h2':=Ky h2
   repeat' (first|refine L3 ?_|refine KG a4 HY ?_)
   refine KX KA ?_
   rw [he,cY hil h2']
   rfl
  ·have h2':=Decidable.not_not.1 (Kx h2)
   repeat' (first|refine L3 ?_|refine KG a4 HY ?_|(apply aU;refine aT ?_)|fail)
   exact aD (i+1,L1) rfl ⟨by rw [Kv];rfl,trivial⟩ ⟨by dsimp only;omega,hj' h2',by rw [he];exact cH hil h2'⟩ (by dsimp only;omega) (fun _ _ h=>h)
 ·have hil:i=l.length:=by have:=Kx h;simp at this;omega
  subst hil
  repeat' (first|refine L3 ?_|refine KG a4 HY ?_)
  refine KX KA ?_
  rw [he,Nat.sub_self]
  rfl
theorem Fa {g:FuncId} {caps:List AV} {u:AV} [bM Tryz.prog g] (hu:lm u=some (g,caps)) (l:List ck) (err:Nat→Int) (J:Nat→AL→Prop) (L0:AL) (h0:J 0 L0) (hw:∀i x L,l[i]?=some x→J i L→AC Tryz.prog g ([aF i,.agg (cy x)]++caps) L fun c L'=>c=aF (err i)∧(err i=0→J (i+1) L')):
  AC Tryz.prog 143 [.imm 2 (l.map cy),u] L0 fun r _=>r=cD (dx err l.length):=by
 refine aN Tryz.func143 rfl Tryz.ntmps143 rfl fun B=>?_
 refine cW 0 rfl rfl fun hlen=>?_
 rw [Ku] at hlen
 repeat' (first|refine L3 ?_|refine ak ?_|refine KG a4 HY ?_)
 refine aR [1,9,10] (α:=Nat×AL) (fun i=>[(11,aF i.1)]) (fun i=>i.1≤l.length∧J i.1 i.2∧dx err l.length=du err (l.length - i.1) i.1) (fun i=>i.2) (fun i=>l.length - i.1) (0,L0) rfl ⟨rfl,trivial⟩ ⟨Nat.zero_le _,h0,rfl⟩ (fun _ _ h=>h) ?_
 rintro ⟨i,L⟩ ⟨hi,hj,he⟩
 dsimp only at hi hj he ⊢
 try dsimp only [Kr,Kq,Kp,Lv]
 repeat' (first|refine L3 ?_|refine KG a4 HY ?_)
 refine aw rfl (fun h=>?_) (fun h=>?_)
 ·have hil:i < l.length:=by have:=Ky h;simp at this;omega
  obtain ⟨z,hz⟩:∃z,l[i]?=some z:=⟨_,Kz hil⟩
  have hzg:=c5 (c:=cy) hz
  repeat' (first|refine L3 ?_|refine ak ?_|refine KG a4 HY ?_|(apply aQ;first|refine aO a4 ?_|refine aG a4 ?_)|(apply aM;first|refine KL 7 a4 0 KF ?_|refine KL 7 a4 1 KF ?_|refine KL 7 a4 2 KF ?_|refine KH a4 0 KE ?_|refine KH a4 1 KE ?_|refine KH a4 2 KE ?_|refine KH a4 3 KE ?_|fail)|refine bq a4 fun _=>?_|fail)
  refine dQ L [] (hw i z L hz hj) rfl hu rfl (bK rfl) rfl rfl fun c L1 ⟨hc,hj'⟩=>?_
  subst hc
  rw [List.append_nil]
  repeat' (first|refine L3 ?_|refine KG a4 HY ?_)
  refine aw rfl (fun h2=>?_) (fun h2=>?_)
  ·have h2':=Ky h2
   repeat' (first|refine L3 ?_|refine KG a4 HY ?_)
   refine KX KA ?_
   rw [he,cY hil h2']
   rfl
  ·have h2':=Decidable.not_not.1 (Kx h2)
   repeat' (first|refine L3 ?_|refine KG a4 HY ?_|(apply aU;refine aT ?_)|fail)
   exact aD (i+1,L1) rfl ⟨by rw [Kv];rfl,trivial⟩ ⟨by dsimp only;omega,hj' h2',by rw [he];exact cH hil h2'⟩ (by dsimp only;omega) (fun _ _ h=>h)
 ·have hil:i=l.length:=by have:=Kx h;simp at this;omega
  subst hil
  repeat' (first|refine L3 ?_|refine KG a4 HY ?_)
  refine KX KA ?_
  rw [he,Nat.sub_self]
  rfl
theorem G0 {g:FuncId} {caps:List AV} {u:AV} [bM Tryz.prog g] (hu:lm u=some (g,caps)) (l:List ck) (most:Int) (err:Nat→Int) (J:Nat→AL→Prop) (L0:AL) (h0:J 0 L0) (hw:(l.length:Int)≤most→∀i x L,l[i]?=some x→J i L→AC Tryz.prog g ([aF i,.agg (cy x)]++caps) L fun c L'=>c=aF (err i)∧(err i=0→J (i+1) L')):
  AC Tryz.prog 142 [.iptr [.imm 2 (l.map cy)],.iptr [aF most],.iptr [u]] L0 fun r _=>r=cD (dp most err l.length):=by
 refine aN Tryz.func142 rfl Tryz.ntmps142 rfl fun B=>?_
 repeat' (first|refine L3 ?_|refine KG a4 HY ?_)
 refine aw rfl (fun h=>?_) (fun h=>?_)
 ·have h':=Ky h
  rw [Ku] at h'
  repeat' (first|refine L3 ?_|refine KG a4 HY ?_)
  refine KX KA ?_
  unfold dp
  rw [if_pos h']
  rfl
 ·have h':=Kx h
  rw [Ku] at h'
  repeat' (first|refine L3 ?_|refine KG a4 HY ?_)
  refine b6 L0 [] (Fa hu l err J L0 h0 (hw (by omega))) rfl (fW hu) (bK rfl) rfl fun c L1 hc=>?_
  subst hc
  repeat' (first|refine L3 ?_|refine KG a4 HY ?_)
  refine KX KA ?_
  unfold dp
  rw [if_neg h']
  rfl
theorem JA {g:FuncId} {caps:List AV} (l:List ck) (most:Int):bU Tryz.prog 63 [.imm 2 (l.map cy),aF most,.fn g caps] (.fn 142 [.iptr [.imm 2 (l.map cy)],.iptr [aF most],.iptr [.fn g caps]]):=by
 refine aN Tryz.func63 rfl Tryz.ntmps63 rfl fun B=>?_
 repeat' (first|refine L3 ?_|refine KG a4 HY ?_|refine bA ?_|fail)
 exact KQ KA
instance {g:FuncId} {caps:List AV} (l:List ck) (most:Int):AD Tryz.prog 63 [.imm 2 (l.map cy),aF most,.fn g caps] (.fn 142 [.iptr [.imm 2 (l.map cy)],.iptr [aF most],.iptr [.fn g caps]]):=⟨JA l most⟩
theorem Fb {g:FuncId} {caps:List AV} {u:AV} [bM Tryz.prog g] (hu:lm u=some (g,caps)) (l:List eN) (err:Nat→Int) (J:Nat→AL→Prop) (L0:AL) (h0:J 0 L0) (hw:∀i x L,l[i]?=some x→J i L→AC Tryz.prog g ([aF i,.agg (cX x)]++caps) L fun c L'=>c=aF (err i)∧(err i=0→J (i+1) L')):
  AC Tryz.prog 146 [.imm 4 (l.map cX),u] L0 fun r _=>r=cD (dx err l.length):=by
 refine aN Tryz.func146 rfl Tryz.ntmps146 rfl fun B=>?_
 refine cW 0 rfl rfl fun hlen=>?_
 rw [Ku] at hlen
 repeat' (first|refine L3 ?_|refine ak ?_|refine KG a4 HY ?_)
 refine aR [1,9,10] (α:=Nat×AL) (fun i=>[(11,aF i.1)]) (fun i=>i.1≤l.length∧J i.1 i.2∧dx err l.length=du err (l.length - i.1) i.1) (fun i=>i.2) (fun i=>l.length - i.1) (0,L0) rfl ⟨rfl,trivial⟩ ⟨Nat.zero_le _,h0,rfl⟩ (fun _ _ h=>h) ?_
 rintro ⟨i,L⟩ ⟨hi,hj,he⟩
 dsimp only at hi hj he ⊢
 try dsimp only [Kr,Kq,Kp,Lv]
 repeat' (first|refine L3 ?_|refine KG a4 HY ?_)
 refine aw rfl (fun h=>?_) (fun h=>?_)
 ·have hil:i < l.length:=by have:=Ky h;simp at this;omega
  obtain ⟨z,hz⟩:∃z,l[i]?=some z:=⟨_,Kz hil⟩
  have hzg:=c5 (c:=cX) hz
  repeat' (first|refine L3 ?_|refine ak ?_|refine KG a4 HY ?_|(apply aQ;first|refine aO a4 ?_|refine aG a4 ?_)|(apply aM;first|refine KL 7 a4 0 KF ?_|refine KL 7 a4 1 KF ?_|refine KL 7 a4 2 KF ?_|refine KH a4 0 KE ?_|refine KH a4 1 KE ?_|refine KH a4 2 KE ?_|refine KH a4 3 KE ?_|fail)|refine bq a4 fun _=>?_|fail)
  refine dQ L [] (hw i z L hz hj) rfl hu rfl (bK rfl) rfl rfl fun c L1 ⟨hc,hj'⟩=>?_
  subst hc
  rw [List.append_nil]
  repeat' (first|refine L3 ?_|refine KG a4 HY ?_)
  refine aw rfl (fun h2=>?_) (fun h2=>?_)
  ·have h2':=Ky h2
   repeat' (first|refine L3 ?_|refine KG a4 HY ?_)
   refine KX KA ?_
   rw [he,cY hil h2']
   rfl
  ·have h2':=Decidable.not_not.1 (Kx h2)
   repeat' (first|refine L3 ?_|refine KG a4 HY ?_|(apply aU;refine aT ?_)|fail)
   exact aD (i+1,L1) rfl ⟨by rw [Kv];rfl,trivial⟩ ⟨by dsimp only;omega,hj' h2',by rw [he];exact cH hil h2'⟩ (by dsimp only;omega) (fun _ _ h=>h)
 ·have hil:i=l.length:=by have:=Kx h;simp at this;omega
  subst hil
  repeat' (first|refine L3 ?_|refine KG a4 HY ?_)
  refine KX KA ?_
  rw [he,Nat.sub_self]
  rfl
theorem G1 {g:FuncId} {caps:List AV} {u:AV} [bM Tryz.prog g] (hu:lm u=some (g,caps)) (l:List eN) (most:Int) (err:Nat→Int) (J:Nat→AL→Prop) (L0:AL) (h0:J 0 L0) (hw:(l.length:Int)≤most→∀i x L,l[i]?=some x→J i L→AC Tryz.prog g ([aF i,.agg (cX x)]++caps) L fun c L'=>c=aF (err i)∧(err i=0→J (i+1) L')):
  AC Tryz.prog 145 [.iptr [.imm 4 (l.map cX)],.iptr [aF most],.iptr [u]] L0 fun r _=>r=cD (dp most err l.length):=by
 refine aN Tryz.func145 rfl Tryz.ntmps145 rfl fun B=>?_
 repeat' (first|refine L3 ?_|refine KG a4 HY ?_)
 refine aw rfl (fun h=>?_) (fun h=>?_)
 ·have h':=Ky h
  rw [Ku] at h'
  repeat' (first|refine L3 ?_|refine KG a4 HY ?_)
  refine KX KA ?_
  unfold dp
  rw [if_pos h']
  rfl
 ·have h':=Kx h
  rw [Ku] at h'
  repeat' (first|refine L3 ?_|refine KG a4 HY ?_)
  refine b6 L0 [] (Fb hu l err J L0 h0 (hw (by omega))) rfl (fW hu) (bK rfl) rfl fun c L1 hc=>?_
  subst hc
  repeat' (first|refine L3 ?_|refine KG a4 HY ?_)
  refine KX KA ?_
  unfold dp
  rw [if_neg h']
  rfl
theorem IG {g:FuncId} {caps:List AV} (l:List eN) (most:Int):bU Tryz.prog 67 [.imm 4 (l.map cX),aF most,.fn g caps] (.fn 145 [.iptr [.imm 4 (l.map cX)],.iptr [aF most],.iptr [.fn g caps]]):=by
 refine aN Tryz.func67 rfl Tryz.ntmps67 rfl fun B=>?_
 repeat' (first|refine L3 ?_|refine KG a4 HY ?_|refine bA ?_|fail)
 exact KQ KA
instance {g:FuncId} {caps:List AV} (l:List eN) (most:Int):AD Tryz.prog 67 [.imm 4 (l.map cX),aF most,.fn g caps] (.fn 145 [.iptr [.imm 4 (l.map cX)],.iptr [aF most],.iptr [.fn g caps]]):=⟨IG l most⟩
theorem Fc {g:FuncId} {caps:List AV} {u:AV} [bM Tryz.prog g] (hu:lm u=some (g,caps)) (l:List (List fk)) (err:Nat→Int) (J:Nat→AL→Prop) (L0:AL) (h0:J 0 L0) (hw:∀i x L,l[i]?=some x→J i L→AC Tryz.prog g ([aF i,.agg (bZ x)]++caps) L fun c L'=>c=aF (err i)∧(err i=0→J (i+1) L')):
  AC Tryz.prog 148 [.imm 1 (l.map bZ),u] L0 fun r _=>r=cD (dx err l.length):=by
 refine aN Tryz.func148 rfl Tryz.ntmps148 rfl fun B=>?_
 refine cW 0 rfl rfl fun hlen=>?_
 rw [Ku] at hlen
 repeat' (first|refine L3 ?_|refine ak ?_|refine KG a4 HY ?_)
 refine aR [1,9,10] (α:=Nat×AL) (fun i=>[(11,aF i.1)]) (fun i=>i.1≤l.length∧J i.1 i.2∧dx err l.length=du err (l.length - i.1) i.1) (fun i=>i.2) (fun i=>l.length - i.1) (0,L0) rfl ⟨rfl,trivial⟩ ⟨Nat.zero_le _,h0,rfl⟩ (fun _ _ h=>h) ?_
 rintro ⟨i,L⟩ ⟨hi,hj,he⟩
 dsimp only at hi hj he ⊢
 try dsimp only [Kr,Kq,Kp,Lv]
 repeat' (first|refine L3 ?_|refine KG a4 HY ?_)
 refine aw rfl (fun h=>?_) (fun h=>?_)
 ·have hil:i < l.length:=by have:=Ky h;simp at this;omega
  obtain ⟨z,hz⟩:∃z,l[i]?=some z:=⟨_,Kz hil⟩
  have hzg:=c5 (c:=bZ) hz
  repeat' (first|refine L3 ?_|refine ak ?_|refine KG a4 HY ?_|(apply aQ;first|refine aO a4 ?_|refine aG a4 ?_)|(apply aM;first|refine KL 7 a4 0 KF ?_|refine KL 7 a4 1 KF ?_|refine KL 7 a4 2 KF ?_|refine KH a4 0 KE ?_|refine KH a4 1 KE ?_|refine KH a4 2 KE ?_|refine KH a4 3 KE ?_|fail)|refine bq a4 fun _=>?_|fail)
  refine dQ L [] (hw i z L hz hj) rfl hu rfl (bK rfl) rfl rfl fun c L1 ⟨hc,hj'⟩=>?_
  subst hc
  rw [List.append_nil]
  repeat' (first|refine L3 ?_|refine KG a4 HY ?_)
  refine aw rfl (fun h2=>?_) (fun h2=>?_)
  ·have h2':=Ky h2
   repeat' (first|refine L3 ?_|refine KG a4 HY ?_)
   refine KX KA ?_
   rw [he,cY hil h2']
   rfl
  ·have h2':=Decidable.not_not.1 (Kx h2)
   repeat' (first|refine L3 ?_|refine KG a4 HY ?_|(apply aU;refine aT ?_)|fail)
   exact aD (i+1,L1) rfl ⟨by rw [Kv];rfl,trivial⟩ ⟨by dsimp only;omega,hj' h2',by rw [he];exact cH hil h2'⟩ (by dsimp only;omega) (fun _ _ h=>h)
 ·have hil:i=l.length:=by have:=Kx h;simp at this;omega
  subst hil
  repeat' (first|refine L3 ?_|refine KG a4 HY ?_)
  refine KX KA ?_
  rw [he,Nat.sub_self]
  rfl
theorem G2 {g:FuncId} {caps:List AV} {u:AV} [bM Tryz.prog g] (hu:lm u=some (g,caps)) (l:List (List fk)) (most:Int) (err:Nat→Int) (J:Nat→AL→Prop) (L0:AL) (h0:J 0 L0) (hw:(l.length:Int)≤most→∀i x L,l[i]?=some x→J i L→AC Tryz.prog g ([aF i,.agg (bZ x)]++caps) L fun c L'=>c=aF (err i)∧(err i=0→J (i+1) L')):
  AC Tryz.prog 147 [.iptr [.imm 1 (l.map bZ)],.iptr [aF most],.iptr [u]] L0 fun r _=>r=cD (dp most err l.length):=by
 refine aN Tryz.func147 rfl Tryz.ntmps147 rfl fun B=>?_
 repeat' (first|refine L3 ?_|refine KG a4 HY ?_)
 refine aw rfl (fun h=>?_) (fun h=>?_)
 ·have h':=Ky h
  rw [Ku] at h'
  repeat' (first|refine L3 ?_|refine KG a4 HY ?_)
  refine KX KA ?_
  unfold dp
  rw [if_pos h']
  rfl
 ·have h':=Kx h
  rw [Ku] at h'
  repeat' (first|refine L3 ?_|refine KG a4 HY ?_)
  refine b6 L0 [] (Fc hu l err J L0 h0 (hw (by omega))) rfl (fW hu) (bK rfl) rfl fun c L1 hc=>?_
  subst hc
  repeat' (first|refine L3 ?_|refine KG a4 HY ?_)
  refine KX KA ?_
  unfold dp
  rw [if_neg h']
  rfl
theorem IH {g:FuncId} {caps:List AV} (l:List (List fk)) (most:Int):bU Tryz.prog 70 [.imm 1 (l.map bZ),aF most,.fn g caps] (.fn 147 [.iptr [.imm 1 (l.map bZ)],.iptr [aF most],.iptr [.fn g caps]]):=by
 refine aN Tryz.func70 rfl Tryz.ntmps70 rfl fun B=>?_
 repeat' (first|refine L3 ?_|refine KG a4 HY ?_|refine bA ?_|fail)
 exact KQ KA
instance {g:FuncId} {caps:List AV} (l:List (List fk)) (most:Int):AD Tryz.prog 70 [.imm 1 (l.map bZ),aF most,.fn g caps] (.fn 147 [.iptr [.imm 1 (l.map bZ)],.iptr [aF most],.iptr [.fn g caps]]):=⟨IH l most⟩
theorem Fd {g:FuncId} {caps:List AV} {u:AV} [bM Tryz.prog g] (hu:lm u=some (g,caps)) (l:List fk) (err:Nat→Int) (J:Nat→AL→Prop) (L0:AL) (h0:J 0 L0) (hw:∀i x L,l[i]?=some x→J i L→AC Tryz.prog g ([aF i,.agg (l9 x)]++caps) L fun c L'=>c=aF (err i)∧(err i=0→J (i+1) L')):
  AC Tryz.prog 149 [.imm 3 (l.map l9),u] L0 fun r _=>r=cD (dx err l.length):=by
 refine aN Tryz.func149 rfl Tryz.ntmps149 rfl fun B=>?_
 refine cW 0 rfl rfl fun hlen=>?_
 rw [Ku] at hlen
 repeat' (first|refine L3 ?_|refine ak ?_|refine KG a4 HY ?_)
 refine aR [1,9,10] (α:=Nat×AL) (fun i=>[(11,aF i.1)]) (fun i=>i.1≤l.length∧J i.1 i.2∧dx err l.length=du err (l.length - i.1) i.1) (fun i=>i.2) (fun i=>l.length - i.1) (0,L0) rfl ⟨rfl,trivial⟩ ⟨Nat.zero_le _,h0,rfl⟩ (fun _ _ h=>h) ?_
 rintro ⟨i,L⟩ ⟨hi,hj,he⟩
 dsimp only at hi hj he ⊢
 try dsimp only [Kr,Kq,Kp,Lv]
 repeat' (first|refine L3 ?_|refine KG a4 HY ?_)
 refine aw rfl (fun h=>?_) (fun h=>?_)
 ·have hil:i < l.length:=by have:=Ky h;simp at this;omega
  obtain ⟨z,hz⟩:∃z,l[i]?=some z:=⟨_,Kz hil⟩
  have hzg:=c5 (c:=l9) hz
  repeat' (first|refine L3 ?_|refine ak ?_|refine KG a4 HY ?_|(apply aQ;first|refine aO a4 ?_|refine aG a4 ?_)|(apply aM;first|refine KL 7 a4 0 KF ?_|refine KL 7 a4 1 KF ?_|refine KL 7 a4 2 KF ?_|refine KH a4 0 KE ?_|refine KH a4 1 KE ?_|refine KH a4 2 KE ?_|refine KH a4 3 KE ?_|fail)|refine bq a4 fun _=>?_|fail)
  refine dQ L [] (hw i z L hz hj) rfl hu rfl (bK rfl) rfl rfl fun c L1 ⟨hc,hj'⟩=>?_
  subst hc
  rw [List.append_nil]
  repeat' (first|refine L3 ?_|refine KG a4 HY ?_)
  refine aw rfl (fun h2=>?_) (fun h2=>?_)
  ·have h2':=Ky h2
   repeat' (first|refine L3 ?_|refine KG a4 HY ?_)
   refine KX KA ?_
   rw [he,cY hil h2']
   rfl
  ·have h2':=Decidable.not_not.1 (Kx h2)
   repeat' (first|refine L3 ?_|refine KG a4 HY ?_|(apply aU;refine aT ?_)|fail)
   exact aD (i+1,L1) rfl ⟨by rw [Kv];rfl,trivial⟩ ⟨by dsimp only;omega,hj' h2',by rw [he];exact cH hil h2'⟩ (by dsimp only;omega) (fun _ _ h=>h)
 ·have hil:i=l.length:=by have:=Kx h;simp at this;omega
  subst hil
  repeat' (first|refine L3 ?_|refine KG a4 HY ?_)
  refine KX KA ?_
  rw [he,Nat.sub_self]
  rfl
theorem Fe {g:FuncId} {caps:List AV} {u:AV} [bM Tryz.prog g] (hu:lm u=some (g,caps)) (l:List (List gr)) (err:Nat→Int) (J:Nat→AL→Prop) (L0:AL) (h0:J 0 L0) (hw:∀i x L,l[i]?=some x→J i L→AC Tryz.prog g ([aF i,.imm 2 (x.map fc)]++caps) L fun c L'=>c=aF (err i)∧(err i=0→J (i+1) L')):
  AC Tryz.prog 152 [.imm 1 (l.map dU),u] L0 fun r _=>r=cD (dx err l.length):=by
 refine aN Tryz.func152 rfl Tryz.ntmps152 rfl fun B=>?_
 refine cW 0 rfl rfl fun hlen=>?_
 rw [Ku] at hlen
 repeat' (first|refine L3 ?_|refine ak ?_|refine KG a4 HY ?_)
 refine aR [1,9,10] (α:=Nat×AL) (fun i=>[(11,aF i.1)]) (fun i=>i.1≤l.length∧J i.1 i.2∧dx err l.length=du err (l.length - i.1) i.1) (fun i=>i.2) (fun i=>l.length - i.1) (0,L0) rfl ⟨rfl,trivial⟩ ⟨Nat.zero_le _,h0,rfl⟩ (fun _ _ h=>h) ?_
 rintro ⟨i,L⟩ ⟨hi,hj,he⟩
 dsimp only at hi hj he ⊢
 try dsimp only [Kr,Kq,Kp,Lv]
 repeat' (first|refine L3 ?_|refine KG a4 HY ?_)
 refine aw rfl (fun h=>?_) (fun h=>?_)
 ·have hil:i < l.length:=by have:=Ky h;simp at this;omega
  obtain ⟨z,hz⟩:∃z,l[i]?=some z:=⟨_,Kz hil⟩
  have hzg:=c5 (c:=dU) hz
  repeat' (first|refine L3 ?_|refine ak ?_|refine KG a4 HY ?_|(apply aQ;first|refine aO a4 ?_|refine aG a4 ?_)|fail)
  refine dQ L [] (hw i z L hz hj) rfl hu rfl (bK rfl) rfl rfl fun c L1 ⟨hc,hj'⟩=>?_
  subst hc
  rw [List.append_nil]
  repeat' (first|refine L3 ?_|refine KG a4 HY ?_)
  refine aw rfl (fun h2=>?_) (fun h2=>?_)
  ·have h2':=Ky h2
   repeat' (first|refine L3 ?_|refine KG a4 HY ?_)
   refine KX KA ?_
   rw [he,cY hil h2']
   rfl
  ·have h2':=Decidable.not_not.1 (Kx h2)
   repeat' (first|refine L3 ?_|refine KG a4 HY ?_|(apply aU;refine aT ?_)|fail)
   exact aD (i+1,L1) rfl ⟨by rw [Kv];rfl,trivial⟩ ⟨by dsimp only;omega,hj' h2',by rw [he];exact cH hil h2'⟩ (by dsimp only;omega) (fun _ _ h=>h)
 ·have hil:i=l.length:=by have:=Kx h;simp at this;omega
  subst hil
  repeat' (first|refine L3 ?_|refine KG a4 HY ?_)
  refine KX KA ?_
  rw [he,Nat.sub_self]
  rfl
theorem G3 {g:FuncId} {caps:List AV} {u:AV} [bM Tryz.prog g] (hu:lm u=some (g,caps)) (l:List (List gr)) (most:Int) (err:Nat→Int) (J:Nat→AL→Prop) (L0:AL) (h0:J 0 L0) (hw:(l.length:Int)≤most→∀i x L,l[i]?=some x→J i L→AC Tryz.prog g ([aF i,.imm 2 (x.map fc)]++caps) L fun c L'=>c=aF (err i)∧(err i=0→J (i+1) L')):
  AC Tryz.prog 151 [.iptr [.imm 1 (l.map dU)],.iptr [aF most],.iptr [u]] L0 fun r _=>r=cD (dp most err l.length):=by
 refine aN Tryz.func151 rfl Tryz.ntmps151 rfl fun B=>?_
 repeat' (first|refine L3 ?_|refine KG a4 HY ?_)
 refine aw rfl (fun h=>?_) (fun h=>?_)
 ·have h':=Ky h
  rw [Ku] at h'
  repeat' (first|refine L3 ?_|refine KG a4 HY ?_)
  refine KX KA ?_
  unfold dp
  rw [if_pos h']
  rfl
 ·have h':=Kx h
  rw [Ku] at h'
  repeat' (first|refine L3 ?_|refine KG a4 HY ?_)
  refine b6 L0 [] (Fe hu l err J L0 h0 (hw (by omega))) rfl (fW hu) (bK rfl) rfl fun c L1 hc=>?_
  subst hc
  repeat' (first|refine L3 ?_|refine KG a4 HY ?_)
  refine KX KA ?_
  unfold dp
  rw [if_neg h']
  rfl
theorem Hy {g:FuncId} (l:List (List gr)) (most:Int):bU Tryz.prog 73 [.imm 1 (l.map dU),aF most,.sc (.func (.func g) #[] #[])] (.fn 151 [.iptr [.imm 1 (l.map dU)],.iptr [aF most],.iptr [.sc (.func (.func g) #[] #[])]]):=by
 refine aN Tryz.func73 rfl Tryz.ntmps73 rfl fun B=>?_
 repeat' (first|refine L3 ?_|refine KG a4 HY ?_|refine bA ?_|fail)
 exact KQ KA
instance {g:FuncId} (l:List (List gr)) (most:Int):AD Tryz.prog 73 [.imm 1 (l.map dU),aF most,.sc (.func (.func g) #[] #[])] (.fn 151 [.iptr [.imm 1 (l.map dU)],.iptr [aF most],.iptr [.sc (.func (.func g) #[] #[])]]):=⟨Hy l most⟩
theorem Ff {g:FuncId} {caps:List AV} {u:AV} [bM Tryz.prog g] (hu:lm u=some (g,caps)) (l:List eS) (err:Nat→Int) (J:Nat→AL→Prop) (L0:AL) (h0:J 0 L0) (hw:∀i x L,l[i]?=some x→J i L→AC Tryz.prog g ([aF i,.agg (dR x)]++caps) L fun c L'=>c=aF (err i)∧(err i=0→J (i+1) L')):
  AC Tryz.prog 198 [.imm 3 (l.map dR),u] L0 fun r _=>r=cD (dx err l.length):=by
 refine aN Tryz.func198 rfl Tryz.ntmps198 rfl fun B=>?_
 refine cW 0 rfl rfl fun hlen=>?_
 rw [Ku] at hlen
 repeat' (first|refine L3 ?_|refine ak ?_|refine KG a4 HY ?_)
 refine aR [1,9,10] (α:=Nat×AL) (fun i=>[(11,aF i.1)]) (fun i=>i.1≤l.length∧J i.1 i.2∧dx err l.length=du err (l.length - i.1) i.1) (fun i=>i.2) (fun i=>l.length - i.1) (0,L0) rfl ⟨rfl,trivial⟩ ⟨Nat.zero_le _,h0,rfl⟩ (fun _ _ h=>h) ?_
 rintro ⟨i,L⟩ ⟨hi,hj,he⟩
 dsimp only at hi hj he ⊢
 try dsimp only [Kr,Kq,Kp,Lv]
 repeat' (first|refine L3 ?_|refine KG a4 HY ?_)
 refine aw rfl (fun h=>?_) (fun h=>?_)
 ·have hil:i < l.length:=by have:=Ky h;simp at this;omega
  obtain ⟨z,hz⟩:∃z,l[i]?=some z:=⟨_,Kz hil⟩
  have hzg:=c5 (c:=dR) hz
  repeat' (first|refine L3 ?_|refine ak ?_|refine KG a4 HY ?_|(apply aQ;first|refine aO a4 ?_|refine aG a4 ?_)|(apply aM;first|refine KL 7 a4 0 KF ?_|refine KL 7 a4 1 KF ?_|refine KL 7 a4 2 KF ?_|refine KH a4 0 KE ?_|refine KH a4 1 KE ?_|refine KH a4 2 KE ?_|refine KH a4 3 KE ?_|fail)|refine bq a4 fun _=>?_|fail)
  refine dQ L [] (hw i z L hz hj) rfl hu rfl (bK rfl) rfl rfl fun c L1 ⟨hc,hj'⟩=>?_
  subst hc
  rw [List.append_nil]
  repeat' (first|refine L3 ?_|refine KG a4 HY ?_)
  refine aw rfl (fun h2=>?_) (fun h2=>?_)
  ·have h2':=Ky h2
   repeat' (first|refine L3 ?_|refine KG a4 HY ?_)
   refine KX KA ?_
   rw [he,cY hil h2']
   rfl
  ·have h2':=Decidable.not_not.1 (Kx h2)
   repeat' (first|refine L3 ?_|refine KG a4 HY ?_|(apply aU;refine aT ?_)|fail)
   exact aD (i+1,L1) rfl ⟨by rw [Kv];rfl,trivial⟩ ⟨by dsimp only;omega,hj' h2',by rw [he];exact cH hil h2'⟩ (by dsimp only;omega) (fun _ _ h=>h)
 ·have hil:i=l.length:=by have:=Kx h;simp at this;omega
  subst hil
  repeat' (first|refine L3 ?_|refine KG a4 HY ?_)
  refine KX KA ?_
  rw [he,Nat.sub_self]
  rfl
theorem Fg {g:FuncId} {caps:List AV} {u:AV} [bM Tryz.prog g] (hu:lm u=some (g,caps)) (l:List ec) (err:Nat→Int) (J:Nat→AL→Prop) (L0:AL) (h0:J 0 L0) (hw:∀i x L,l[i]?=some x→J i L→AC Tryz.prog g ([aF i,.agg (eR x)]++caps) L fun c L'=>c=aF (err i)∧(err i=0→J (i+1) L')):
  AC Tryz.prog 202 [.imm 3 (l.map eR),u] L0 fun r _=>r=cD (dx err l.length):=by
 refine aN Tryz.func202 rfl Tryz.ntmps202 rfl fun B=>?_
 refine cW 0 rfl rfl fun hlen=>?_
 rw [Ku] at hlen
 repeat' (first|refine L3 ?_|refine ak ?_|refine KG a4 HY ?_)
 refine aR [1,9,10] (α:=Nat×AL) (fun i=>[(11,aF i.1)]) (fun i=>i.1≤l.length∧J i.1 i.2∧dx err l.length=du err (l.length - i.1) i.1) (fun i=>i.2) (fun i=>l.length - i.1) (0,L0) rfl ⟨rfl,trivial⟩ ⟨Nat.zero_le _,h0,rfl⟩ (fun _ _ h=>h) ?_
 rintro ⟨i,L⟩ ⟨hi,hj,he⟩
 dsimp only at hi hj he ⊢
 try dsimp only [Kr,Kq,Kp,Lv]
 repeat' (first|refine L3 ?_|refine KG a4 HY ?_)
 refine aw rfl (fun h=>?_) (fun h=>?_)
 ·have hil:i < l.length:=by have:=Ky h;simp at this;omega
  obtain ⟨z,hz⟩:∃z,l[i]?=some z:=⟨_,Kz hil⟩
  have hzg:=c5 (c:=eR) hz
  repeat' (first|refine L3 ?_|refine ak ?_|refine KG a4 HY ?_|(apply aQ;first|refine aO a4 ?_|refine aG a4 ?_)|(apply aM;first|refine KL 7 a4 0 KF ?_|refine KL 7 a4 1 KF ?_|refine KL 7 a4 2 KF ?_|refine KH a4 0 KE ?_|refine KH a4 1 KE ?_|refine KH a4 2 KE ?_|refine KH a4 3 KE ?_|fail)|refine bq a4 fun _=>?_|fail)
  refine dQ L [] (hw i z L hz hj) rfl hu rfl (bK rfl) rfl rfl fun c L1 ⟨hc,hj'⟩=>?_
  subst hc
  rw [List.append_nil]
  repeat' (first|refine L3 ?_|refine KG a4 HY ?_)
  refine aw rfl (fun h2=>?_) (fun h2=>?_)
  ·have h2':=Ky h2
   repeat' (first|refine L3 ?_|refine KG a4 HY ?_)
   refine KX KA ?_
   rw [he,cY hil h2']
   rfl
  ·have h2':=Decidable.not_not.1 (Kx h2)
   repeat' (first|refine L3 ?_|refine KG a4 HY ?_|(apply aU;refine aT ?_)|fail)
   exact aD (i+1,L1) rfl ⟨by rw [Kv];rfl,trivial⟩ ⟨by dsimp only;omega,hj' h2',by rw [he];exact cH hil h2'⟩ (by dsimp only;omega) (fun _ _ h=>h)
 ·have hil:i=l.length:=by have:=Kx h;simp at this;omega
  subst hil
  repeat' (first|refine L3 ?_|refine KG a4 HY ?_)
  refine KX KA ?_
  rw [he,Nat.sub_self]
  rfl
theorem G5 {g:FuncId} {caps:List AV} {u:AV} [bM Tryz.prog g] (hu:lm u=some (g,caps)) (l:List ec) (most:Int) (err:Nat→Int) (J:Nat→AL→Prop) (L0:AL) (h0:J 0 L0) (hw:(l.length:Int)≤most→∀i x L,l[i]?=some x→J i L→AC Tryz.prog g ([aF i,.agg (eR x)]++caps) L fun c L'=>c=aF (err i)∧(err i=0→J (i+1) L')):
  AC Tryz.prog 201 [.iptr [.imm 3 (l.map eR)],.iptr [aF most],.iptr [u]] L0 fun r _=>r=cD (dp most err l.length):=by
 refine aN Tryz.func201 rfl Tryz.ntmps201 rfl fun B=>?_
 repeat' (first|refine L3 ?_|refine KG a4 HY ?_)
 refine aw rfl (fun h=>?_) (fun h=>?_)
 ·have h':=Ky h
  rw [Ku] at h'
  repeat' (first|refine L3 ?_|refine KG a4 HY ?_)
  refine KX KA ?_
  unfold dp
  rw [if_pos h']
  rfl
 ·have h':=Kx h
  rw [Ku] at h'
  repeat' (first|refine L3 ?_|refine KG a4 HY ?_)
  refine b6 L0 [] (Fg hu l err J L0 h0 (hw (by omega))) rfl (fW hu) (bK rfl) rfl fun c L1 hc=>?_
  subst hc
  repeat' (first|refine L3 ?_|refine KG a4 HY ?_)
  refine KX KA ?_
  unfold dp
  rw [if_neg h']
  rfl
theorem II {g:FuncId} {caps:List AV} (l:List ec) (most:Int):bU Tryz.prog 117 [.imm 3 (l.map eR),aF most,.fn g caps] (.fn 201 [.iptr [.imm 3 (l.map eR)],.iptr [aF most],.iptr [.fn g caps]]):=by
 refine aN Tryz.func117 rfl Tryz.ntmps117 rfl fun B=>?_
 repeat' (first|refine L3 ?_|refine KG a4 HY ?_|refine bA ?_|fail)
 exact KQ KA
instance {g:FuncId} {caps:List AV} (l:List ec) (most:Int):AD Tryz.prog 117 [.imm 3 (l.map eR),aF most,.fn g caps] (.fn 201 [.iptr [.imm 3 (l.map eR)],.iptr [aF most],.iptr [.fn g caps]]):=⟨II l most⟩
theorem Fh {g:FuncId} {caps:List AV} {u:AV} [bM Tryz.prog g] (hu:lm u=some (g,caps)) (l:List dO) (err:Nat→Int) (J:Nat→AL→Prop) (L0:AL) (h0:J 0 L0) (hw:∀i x L,l[i]?=some x→J i L→AC Tryz.prog g ([aF i,.agg (dt x)]++caps) L fun c L'=>c=aF (err i)∧(err i=0→J (i+1) L')):
  AC Tryz.prog 204 [.imm 4 (l.map dt),u] L0 fun r _=>r=cD (dx err l.length):=by
 refine aN Tryz.func204 rfl Tryz.ntmps204 rfl fun B=>?_
 refine cW 0 rfl rfl fun hlen=>?_
 rw [Ku] at hlen
 repeat' (first|refine L3 ?_|refine ak ?_|refine KG a4 HY ?_)
 refine aR [1,9,10] (α:=Nat×AL) (fun i=>[(11,aF i.1)]) (fun i=>i.1≤l.length∧J i.1 i.2∧dx err l.length=du err (l.length - i.1) i.1) (fun i=>i.2) (fun i=>l.length - i.1) (0,L0) rfl ⟨rfl,trivial⟩ ⟨Nat.zero_le _,h0,rfl⟩ (fun _ _ h=>h) ?_
 rintro ⟨i,L⟩ ⟨hi,hj,he⟩
 dsimp only at hi hj he ⊢
 try dsimp only [Kr,Kq,Kp,Lv]
 repeat' (first|refine L3 ?_|refine KG a4 HY ?_)
 refine aw rfl (fun h=>?_) (fun h=>?_)
 ·have hil:i < l.length:=by have:=Ky h;simp at this;omega
  obtain ⟨z,hz⟩:∃z,l[i]?=some z:=⟨_,Kz hil⟩
  have hzg:=c5 (c:=dt) hz
  repeat' (first|refine L3 ?_|refine ak ?_|refine KG a4 HY ?_|(apply aQ;first|refine aO a4 ?_|refine aG a4 ?_)|(apply aM;first|refine KL 7 a4 0 KF ?_|refine KL 7 a4 1 KF ?_|refine KL 7 a4 2 KF ?_|refine KH a4 0 KE ?_|refine KH a4 1 KE ?_|refine KH a4 2 KE ?_|refine KH a4 3 KE ?_|fail)|refine bq a4 fun _=>?_|fail)
  refine dQ L [] (hw i z L hz hj) rfl hu rfl (bK rfl) rfl rfl fun c L1 ⟨hc,hj'⟩=>?_
  subst hc
  rw [List.append_nil]
  repeat' (first|refine L3 ?_|refine KG a4 HY ?_)
  refine aw rfl (fun h2=>?_) (fun h2=>?_)
  ·have h2':=Ky h2
   repeat' (first|refine L3 ?_|refine KG a4 HY ?_)
   refine KX KA ?_
   rw [he,cY hil h2']
   rfl
  ·have h2':=Decidable.not_not.1 (Kx h2)
   repeat' (first|refine L3 ?_|refine KG a4 HY ?_|(apply aU;refine aT ?_)|fail)
   exact aD (i+1,L1) rfl ⟨by rw [Kv];rfl,trivial⟩ ⟨by dsimp only;omega,hj' h2',by rw [he];exact cH hil h2'⟩ (by dsimp only;omega) (fun _ _ h=>h)
 ·have hil:i=l.length:=by have:=Kx h;simp at this;omega
  subst hil
  repeat' (first|refine L3 ?_|refine KG a4 HY ?_)
  refine KX KA ?_
  rw [he,Nat.sub_self]
  rfl
theorem G6 {g:FuncId} {caps:List AV} {u:AV} [bM Tryz.prog g] (hu:lm u=some (g,caps)) (l:List dO) (most:Int) (err:Nat→Int) (J:Nat→AL→Prop) (L0:AL) (h0:J 0 L0) (hw:(l.length:Int)≤most→∀i x L,l[i]?=some x→J i L→AC Tryz.prog g ([aF i,.agg (dt x)]++caps) L fun c L'=>c=aF (err i)∧(err i=0→J (i+1) L')):
  AC Tryz.prog 203 [.iptr [.imm 4 (l.map dt)],.iptr [aF most],.iptr [u]] L0 fun r _=>r=cD (dp most err l.length):=by
 refine aN Tryz.func203 rfl Tryz.ntmps203 rfl fun B=>?_
 repeat' (first|refine L3 ?_|refine KG a4 HY ?_)
 refine aw rfl (fun h=>?_) (fun h=>?_)
 ·have h':=Ky h
  rw [Ku] at h'
  repeat' (first|refine L3 ?_|refine KG a4 HY ?_)
  refine KX KA ?_
  unfold dp
  rw [if_pos h']
  rfl
 ·have h':=Kx h
  rw [Ku] at h'
  repeat' (first|refine L3 ?_|refine KG a4 HY ?_)
  refine b6 L0 [] (Fh hu l err J L0 h0 (hw (by omega))) rfl (fW hu) (bK rfl) rfl fun c L1 hc=>?_
  subst hc
  repeat' (first|refine L3 ?_|refine KG a4 HY ?_)
  refine KX KA ?_
  unfold dp
  rw [if_neg h']
  rfl
theorem IJ {g:FuncId} {caps:List AV} (l:List dO) (most:Int):bU Tryz.prog 120 [.imm 4 (l.map dt),aF most,.fn g caps] (.fn 203 [.iptr [.imm 4 (l.map dt)],.iptr [aF most],.iptr [.fn g caps]]):=by
 refine aN Tryz.func120 rfl Tryz.ntmps120 rfl fun B=>?_
 repeat' (first|refine L3 ?_|refine KG a4 HY ?_|refine bA ?_|fail)
 exact KQ KA
instance {g:FuncId} {caps:List AV} (l:List dO) (most:Int):AD Tryz.prog 120 [.imm 4 (l.map dt),aF most,.fn g caps] (.fn 203 [.iptr [.imm 4 (l.map dt)],.iptr [aF most],.iptr [.fn g caps]]):=⟨IJ l most⟩
theorem Fi {g:FuncId} {caps:List AV} {u:AV} [bM Tryz.prog g] (hu:lm u=some (g,caps)) (l:List dW) (err:Nat→Int) (J:Nat→AL→Prop) (L0:AL) (h0:J 0 L0) (hw:∀i x L,l[i]?=some x→J i L→AC Tryz.prog g ([aF i,.agg (ev x)]++caps) L fun c L'=>c=aF (err i)∧(err i=0→J (i+1) L')):
  AC Tryz.prog 207 [.imm 4 (l.map ev),u] L0 fun r _=>r=cD (dx err l.length):=by
 refine aN Tryz.func207 rfl Tryz.ntmps207 rfl fun B=>?_
 refine cW 0 rfl rfl fun hlen=>?_
 rw [Ku] at hlen
 repeat' (first|refine L3 ?_|refine ak ?_|refine KG a4 HY ?_)
 refine aR [1,9,10] (α:=Nat×AL) (fun i=>[(11,aF i.1)]) (fun i=>i.1≤l.length∧J i.1 i.2∧dx err l.length=du err (l.length - i.1) i.1) (fun i=>i.2) (fun i=>l.length - i.1) (0,L0) rfl ⟨rfl,trivial⟩ ⟨Nat.zero_le _,h0,rfl⟩ (fun _ _ h=>h) ?_
 rintro ⟨i,L⟩ ⟨hi,hj,he⟩
 dsimp only at hi hj he ⊢
 try dsimp only [Kr,Kq,Kp,Lv]
 repeat' (first|refine L3 ?_|refine KG a4 HY ?_)
 refine aw rfl (fun h=>?_) (fun h=>?_)
 ·have hil:i < l.length:=by have:=Ky h;simp at this;omega
  obtain ⟨z,hz⟩:∃z,l[i]?=some z:=⟨_,Kz hil⟩
  have hzg:=c5 (c:=ev) hz
  repeat' (first|refine L3 ?_|refine ak ?_|refine KG a4 HY ?_|(apply aQ;first|refine aO a4 ?_|refine aG a4 ?_)|(apply aM;first|refine KL 7 a4 0 KF ?_|refine KL 7 a4 1 KF ?_|refine KL 7 a4 2 KF ?_|refine KH a4 0 KE ?_|refine KH a4 1 KE ?_|refine KH a4 2 KE ?_|refine KH a4 3 KE ?_|fail)|refine bq a4 fun _=>?_|fail)
  refine dQ L [] (hw i z L hz hj) rfl hu rfl (bK rfl) rfl rfl fun c L1 ⟨hc,hj'⟩=>?_
  subst hc
  rw [List.append_nil]
  repeat' (first|refine L3 ?_|refine KG a4 HY ?_)
  refine aw rfl (fun h2=>?_) (fun h2=>?_)
  ·have h2':=Ky h2
   repeat' (first|refine L3 ?_|refine KG a4 HY ?_)
   refine KX KA ?_
   rw [he,cY hil h2']
   rfl
  ·have h2':=Decidable.not_not.1 (Kx h2)
   repeat' (first|refine L3 ?_|refine KG a4 HY ?_|(apply aU;refine aT ?_)|fail)
   exact aD (i+1,L1) rfl ⟨by rw [Kv];rfl,trivial⟩ ⟨by dsimp only;omega,hj' h2',by rw [he];exact cH hil h2'⟩ (by dsimp only;omega) (fun _ _ h=>h)
 ·have hil:i=l.length:=by have:=Kx h;simp at this;omega
  subst hil
  repeat' (first|refine L3 ?_|refine KG a4 HY ?_)
  refine KX KA ?_
  rw [he,Nat.sub_self]
  rfl
theorem G7 {g:FuncId} {caps:List AV} {u:AV} [bM Tryz.prog g] (hu:lm u=some (g,caps)) (l:List dW) (most:Int) (err:Nat→Int) (J:Nat→AL→Prop) (L0:AL) (h0:J 0 L0) (hw:(l.length:Int)≤most→∀i x L,l[i]?=some x→J i L→AC Tryz.prog g ([aF i,.agg (ev x)]++caps) L fun c L'=>c=aF (err i)∧(err i=0→J (i+1) L')):
  AC Tryz.prog 206 [.iptr [.imm 4 (l.map ev)],.iptr [aF most],.iptr [u]] L0 fun r _=>r=cD (dp most err l.length):=by
 refine aN Tryz.func206 rfl Tryz.ntmps206 rfl fun B=>?_
 repeat' (first|refine L3 ?_|refine KG a4 HY ?_)
 refine aw rfl (fun h=>?_) (fun h=>?_)
 ·have h':=Ky h
  rw [Ku] at h'
  repeat' (first|refine L3 ?_|refine KG a4 HY ?_)
  refine KX KA ?_
  unfold dp
  rw [if_pos h']
  rfl
 ·have h':=Kx h
  rw [Ku] at h'
  repeat' (first|refine L3 ?_|refine KG a4 HY ?_)
  refine b6 L0 [] (Fi hu l err J L0 h0 (hw (by omega))) rfl (fW hu) (bK rfl) rfl fun c L1 hc=>?_
  subst hc
  repeat' (first|refine L3 ?_|refine KG a4 HY ?_)
  refine KX KA ?_
  unfold dp
  rw [if_neg h']
  rfl
theorem IK {g:FuncId} {caps:List AV} (l:List dW) (most:Int):bU Tryz.prog 122 [.imm 4 (l.map ev),aF most,.fn g caps] (.fn 206 [.iptr [.imm 4 (l.map ev)],.iptr [aF most],.iptr [.fn g caps]]):=by
 refine aN Tryz.func122 rfl Tryz.ntmps122 rfl fun B=>?_
 repeat' (first|refine L3 ?_|refine KG a4 HY ?_|refine bA ?_|fail)
 exact KQ KA
instance {g:FuncId} {caps:List AV} (l:List dW) (most:Int):AD Tryz.prog 122 [.imm 4 (l.map ev),aF most,.fn g caps] (.fn 206 [.iptr [.imm 4 (l.map ev)],.iptr [aF most],.iptr [.fn g caps]]):=⟨IK l most⟩
theorem Fj {g:FuncId} {caps:List AV} {u:AV} [bM Tryz.prog g] (hu:lm u=some (g,caps)) (l:List (List Int)) (err:Nat→Int) (J:Nat→AL→Prop) (L0:AL) (h0:J 0 L0) (hw:∀i x L,l[i]?=some x→J i L→AC Tryz.prog g ([aF i,.imm 1 (aW x)]++caps) L fun c L'=>c=aF (err i)∧(err i=0→J (i+1) L')):
  AC Tryz.prog 215 [.imm 1 (l.map Ir),u] L0 fun r _=>r=cD (dx err l.length):=by
 refine aN Tryz.func215 rfl Tryz.ntmps215 rfl fun B=>?_
 refine cW 0 rfl rfl fun hlen=>?_
 rw [Ku] at hlen
 repeat' (first|refine L3 ?_|refine ak ?_|refine KG a4 HY ?_)
 refine aR [1,9,10] (α:=Nat×AL) (fun i=>[(11,aF i.1)]) (fun i=>i.1≤l.length∧J i.1 i.2∧dx err l.length=du err (l.length - i.1) i.1) (fun i=>i.2) (fun i=>l.length - i.1) (0,L0) rfl ⟨rfl,trivial⟩ ⟨Nat.zero_le _,h0,rfl⟩ (fun _ _ h=>h) ?_
 rintro ⟨i,L⟩ ⟨hi,hj,he⟩
 dsimp only at hi hj he ⊢
 try dsimp only [Kr,Kq,Kp,Lv]
 repeat' (first|refine L3 ?_|refine KG a4 HY ?_)
 refine aw rfl (fun h=>?_) (fun h=>?_)
 ·have hil:i < l.length:=by have:=Ky h;simp at this;omega
  obtain ⟨z,hz⟩:∃z,l[i]?=some z:=⟨_,Kz hil⟩
  have hzg:=c5 (c:=Ir) hz
  repeat' (first|refine L3 ?_|refine ak ?_|refine KG a4 HY ?_|(apply aQ;first|refine aO a4 ?_|refine aG a4 ?_)|fail)
  refine dQ L [] (hw i z L hz hj) rfl hu rfl (bK rfl) rfl rfl fun c L1 ⟨hc,hj'⟩=>?_
  subst hc
  rw [List.append_nil]
  repeat' (first|refine L3 ?_|refine KG a4 HY ?_)
  refine aw rfl (fun h2=>?_) (fun h2=>?_)
  ·have h2':=Ky h2
   repeat' (first|refine L3 ?_|refine KG a4 HY ?_)
   refine KX KA ?_
   rw [he,cY hil h2']
   rfl
  ·have h2':=Decidable.not_not.1 (Kx h2)
   repeat' (first|refine L3 ?_|refine KG a4 HY ?_|(apply aU;refine aT ?_)|fail)
   exact aD (i+1,L1) rfl ⟨by rw [Kv];rfl,trivial⟩ ⟨by dsimp only;omega,hj' h2',by rw [he];exact cH hil h2'⟩ (by dsimp only;omega) (fun _ _ h=>h)
 ·have hil:i=l.length:=by have:=Kx h;simp at this;omega
  subst hil
  repeat' (first|refine L3 ?_|refine KG a4 HY ?_)
  refine KX KA ?_
  rw [he,Nat.sub_self]
  rfl
theorem Fk {g:FuncId} {caps:List AV} {u:AV} [bM Tryz.prog g] (hu:lm u=some (g,caps)) (l:List gr) (err:Nat→Int) (J:Nat→AL→Prop) (L0:AL) (h0:J 0 L0) (hw:∀i x L,l[i]?=some x→J i L→AC Tryz.prog g ([aF i,.agg (fc x)]++caps) L fun c L'=>c=aF (err i)∧(err i=0→J (i+1) L')):
  AC Tryz.prog 228 [.imm 2 (l.map fc),u] L0 fun r _=>r=cD (dx err l.length):=by
 refine aN Tryz.func228 rfl Tryz.ntmps228 rfl fun B=>?_
 refine cW 0 rfl rfl fun hlen=>?_
 rw [Ku] at hlen
 repeat' (first|refine L3 ?_|refine ak ?_|refine KG a4 HY ?_)
 refine aR [1,9,10] (α:=Nat×AL) (fun i=>[(11,aF i.1)]) (fun i=>i.1≤l.length∧J i.1 i.2∧dx err l.length=du err (l.length - i.1) i.1) (fun i=>i.2) (fun i=>l.length - i.1) (0,L0) rfl ⟨rfl,trivial⟩ ⟨Nat.zero_le _,h0,rfl⟩ (fun _ _ h=>h) ?_
 rintro ⟨i,L⟩ ⟨hi,hj,he⟩
 dsimp only at hi hj he ⊢
 try dsimp only [Kr,Kq,Kp,Lv]
 repeat' (first|refine L3 ?_|refine KG a4 HY ?_)
 refine aw rfl (fun h=>?_) (fun h=>?_)
 ·have hil:i < l.length:=by have:=Ky h;simp at this;omega
  obtain ⟨z,hz⟩:∃z,l[i]?=some z:=⟨_,Kz hil⟩
  have hzg:=c5 (c:=fc) hz
  repeat' (first|refine L3 ?_|refine ak ?_|refine KG a4 HY ?_|(apply aQ;first|refine aO a4 ?_|refine aG a4 ?_)|(apply aM;first|refine KL 7 a4 0 KF ?_|refine KL 7 a4 1 KF ?_|refine KL 7 a4 2 KF ?_|refine KH a4 0 KE ?_|refine KH a4 1 KE ?_|refine KH a4 2 KE ?_|refine KH a4 3 KE ?_|fail)|refine bq a4 fun _=>?_|fail)
  refine dQ L [] (hw i z L hz hj) rfl hu rfl (bK rfl) rfl rfl fun c L1 ⟨hc,hj'⟩=>?_
  subst hc
  rw [List.append_nil]
  repeat' (first|refine L3 ?_|refine KG a4 HY ?_)
  refine aw rfl (fun h2=>?_) (fun h2=>?_)
  ·have h2':=Ky h2
   repeat' (first|refine L3 ?_|refine KG a4 HY ?_)
   refine KX KA ?_
   rw [he,cY hil h2']
   rfl
  ·have h2':=Decidable.not_not.1 (Kx h2)
   repeat' (first|refine L3 ?_|refine KG a4 HY ?_|(apply aU;refine aT ?_)|fail)
   exact aD (i+1,L1) rfl ⟨by rw [Kv];rfl,trivial⟩ ⟨by dsimp only;omega,hj' h2',by rw [he];exact cH hil h2'⟩ (by dsimp only;omega) (fun _ _ h=>h)
 ·have hil:i=l.length:=by have:=Kx h;simp at this;omega
  subst hil
  repeat' (first|refine L3 ?_|refine KG a4 HY ?_)
  refine KX KA ?_
  rw [he,Nat.sub_self]
  rfl
theorem G8 {g:FuncId} {caps:List AV} {u:AV} [bM Tryz.prog g] (hu:lm u=some (g,caps)) (l:List gr) (most:Int) (err:Nat→Int) (J:Nat→AL→Prop) (L0:AL) (h0:J 0 L0) (hw:(l.length:Int)≤most→∀i x L,l[i]?=some x→J i L→AC Tryz.prog g ([aF i,.agg (fc x)]++caps) L fun c L'=>c=aF (err i)∧(err i=0→J (i+1) L')):
  AC Tryz.prog 227 [.iptr [.imm 2 (l.map fc)],.iptr [aF most],.iptr [u]] L0 fun r _=>r=cD (dp most err l.length):=by
 refine aN Tryz.func227 rfl Tryz.ntmps227 rfl fun B=>?_
 repeat' (first|refine L3 ?_|refine KG a4 HY ?_)
 refine aw rfl (fun h=>?_) (fun h=>?_)
 ·have h':=Ky h
  rw [Ku] at h'
  repeat' (first|refine L3 ?_|refine KG a4 HY ?_)
  refine KX KA ?_
  unfold dp
  rw [if_pos h']
  rfl
 ·have h':=Kx h
  rw [Ku] at h'
  repeat' (first|refine L3 ?_|refine KG a4 HY ?_)
  refine b6 L0 [] (Fk hu l err J L0 h0 (hw (by omega))) rfl (fW hu) (bK rfl) rfl fun c L1 hc=>?_
  subst hc
  repeat' (first|refine L3 ?_|refine KG a4 HY ?_)
  refine KX KA ?_
  unfold dp
  rw [if_neg h']
  rfl
theorem HA {g:FuncId} (l:List gr) (most:Int):bU Tryz.prog 153 [.imm 2 (l.map fc),aF most,.sc (.func (.func g) #[] #[])] (.fn 227 [.iptr [.imm 2 (l.map fc)],.iptr [aF most],.iptr [.sc (.func (.func g) #[] #[])]]):=by
 refine aN Tryz.func153 rfl Tryz.ntmps153 rfl fun B=>?_
 repeat' (first|refine L3 ?_|refine KG a4 HY ?_|refine bA ?_|fail)
 exact KQ KA
instance {g:FuncId} (l:List gr) (most:Int):AD Tryz.prog 153 [.imm 2 (l.map fc),aF most,.sc (.func (.func g) #[] #[])] (.fn 227 [.iptr [.imm 2 (l.map fc)],.iptr [aF most],.iptr [.sc (.func (.func g) #[] #[])]]):=⟨HA l most⟩
theorem Fl {g:FuncId} {caps:List AV} {u:AV} [bM Tryz.prog g] (hu:lm u=some (g,caps)) (l:List gK) (err:Nat→Int) (J:Nat→AL→Prop) (L0:AL) (h0:J 0 L0) (hw:∀i x L,l[i]?=some x→J i L→AC Tryz.prog g ([aF i,.agg (eK x)]++caps) L fun c L'=>c=aF (err i)∧(err i=0→J (i+1) L')):
  AC Tryz.prog 272 [.imm 2 (l.map eK),u] L0 fun r _=>r=cD (dx err l.length):=by
 refine aN Tryz.func272 rfl Tryz.ntmps272 rfl fun B=>?_
 refine cW 0 rfl rfl fun hlen=>?_
 rw [Ku] at hlen
 repeat' (first|refine L3 ?_|refine ak ?_|refine KG a4 HY ?_)
 refine aR [1,9,10] (α:=Nat×AL) (fun i=>[(11,aF i.1)]) (fun i=>i.1≤l.length∧J i.1 i.2∧dx err l.length=du err (l.length - i.1) i.1) (fun i=>i.2) (fun i=>l.length - i.1) (0,L0) rfl ⟨rfl,trivial⟩ ⟨Nat.zero_le _,h0,rfl⟩ (fun _ _ h=>h) ?_
 rintro ⟨i,L⟩ ⟨hi,hj,he⟩
 dsimp only at hi hj he ⊢
 try dsimp only [Kr,Kq,Kp,Lv]
 repeat' (first|refine L3 ?_|refine KG a4 HY ?_)
 refine aw rfl (fun h=>?_) (fun h=>?_)
 ·have hil:i < l.length:=by have:=Ky h;simp at this;omega
  obtain ⟨z,hz⟩:∃z,l[i]?=some z:=⟨_,Kz hil⟩
  have hzg:=c5 (c:=eK) hz
  repeat' (first|refine L3 ?_|refine ak ?_|refine KG a4 HY ?_|(apply aQ;first|refine aO a4 ?_|refine aG a4 ?_)|(apply aM;first|refine KL 7 a4 0 KF ?_|refine KL 7 a4 1 KF ?_|refine KL 7 a4 2 KF ?_|refine KH a4 0 KE ?_|refine KH a4 1 KE ?_|refine KH a4 2 KE ?_|refine KH a4 3 KE ?_|fail)|refine bq a4 fun _=>?_|fail)
  refine dQ L [] (hw i z L hz hj) rfl hu rfl (bK rfl) rfl rfl fun c L1 ⟨hc,hj'⟩=>?_
  subst hc
  rw [List.append_nil]
  repeat' (first|refine L3 ?_|refine KG a4 HY ?_)
  refine aw rfl (fun h2=>?_) (fun h2=>?_)
  ·have h2':=Ky h2
   repeat' (first|refine L3 ?_|refine KG a4 HY ?_)
   refine KX KA ?_
   rw [he,cY hil h2']
   rfl
  ·have h2':=Decidable.not_not.1 (Kx h2)
   repeat' (first|refine L3 ?_|refine KG a4 HY ?_|(apply aU;refine aT ?_)|fail)
   exact aD (i+1,L1) rfl ⟨by rw [Kv];rfl,trivial⟩ ⟨by dsimp only;omega,hj' h2',by rw [he];exact cH hil h2'⟩ (by dsimp only;omega) (fun _ _ h=>h)
 ·have hil:i=l.length:=by have:=Kx h;simp at this;omega
  subst hil
  repeat' (first|refine L3 ?_|refine KG a4 HY ?_)
  refine KX KA ?_
  rw [he,Nat.sub_self]
  rfl
theorem nz {g:FuncId} {caps:List AV} {u:AV} [bM Tryz.prog g] (hu:lm u=some (g,caps)) (l:List Int) (err:Nat→Int) (J:Nat→AL→Prop) (L0:AL) (h0:J 0 L0) (hw:∀i x L,l[i]?=some x→J i L→AC Tryz.prog g ([aF i,aF x]++caps) L fun c L'=>c=aF (err i)∧(err i=0→J (i+1) L')):
  AC Tryz.prog 128 [.imm 1 (l.map zR),u] L0 fun r _=>r=cD (dx err l.length):=by
 refine aN Tryz.func128 rfl Tryz.ntmps128 rfl fun B=>?_
 refine cW 0 rfl rfl fun hlen=>?_
 rw [Ku] at hlen
 repeat' (first|refine L3 ?_|refine ak ?_|refine KG a4 HY ?_)
 refine aR [1,9,10] (α:=Nat×AL) (fun i=>[(11,aF i.1)]) (fun i=>i.1≤l.length∧J i.1 i.2∧dx err l.length=du err (l.length - i.1) i.1) (fun i=>i.2) (fun i=>l.length - i.1) (0,L0) rfl ⟨rfl,trivial⟩ ⟨Nat.zero_le _,h0,rfl⟩ (fun _ _ h=>h) ?_
 rintro ⟨i,L⟩ ⟨hi,hj,he⟩
 dsimp only at hi hj he ⊢
 try dsimp only [Kr,Kq,Kp,Lv]
 repeat' (first|refine L3 ?_|refine KG a4 HY ?_)
 refine aw rfl (fun h=>?_) (fun h=>?_)
 ·have hil:i < l.length:=by have:=Ky h;simp at this;omega
  obtain ⟨z,hz⟩:∃z,l[i]?=some z:=⟨_,Kz hil⟩
  have hzg:=c5 (c:=zR) hz
  repeat' (first|refine L3 ?_|refine ak ?_|refine KG a4 HY ?_|(apply aQ;first|refine aO a4 ?_|refine aG a4 ?_)|fail)
  refine dQ L [] (hw i z L hz hj) rfl hu rfl (bK rfl) rfl rfl fun c L1 ⟨hc,hj'⟩=>?_
  subst hc
  rw [List.append_nil]
  repeat' (first|refine L3 ?_|refine KG a4 HY ?_)
  refine aw rfl (fun h2=>?_) (fun h2=>?_)
  ·have h2':=Ky h2
   repeat' (first|refine L3 ?_|refine KG a4 HY ?_)
   refine KX KA ?_
   rw [he,cY hil h2']
   rfl
  ·have h2':=Decidable.not_not.1 (Kx h2)
   repeat' (first|refine L3 ?_|refine KG a4 HY ?_|(apply aU;refine aT ?_)|fail)
   exact aD (i+1,L1) rfl ⟨by rw [Kv];rfl,trivial⟩ ⟨by dsimp only;omega,hj' h2',by rw [he];exact cH hil h2'⟩ (by dsimp only;omega) (fun _ _ h=>h)
 ·have hil:i=l.length:=by have:=Kx h;simp at this;omega
  subst hil
  repeat' (first|refine L3 ?_|refine KG a4 HY ?_)
  refine KX KA ?_
  rw [he,Nat.sub_self]
  rfl
theorem G4 {g:FuncId} {caps:List AV} {u:AV} [bM Tryz.prog g] (hu:lm u=some (g,caps)) (l:List Int) (most:Int) (err:Nat→Int) (J:Nat→AL→Prop) (L0:AL) (h0:J 0 L0) (hw:(l.length:Int)≤most→∀i x L,l[i]?=some x→J i L→AC Tryz.prog g ([aF i,aF x]++caps) L fun c L'=>c=aF (err i)∧(err i=0→J (i+1) L')):
  AC Tryz.prog 155 [.iptr [.imm 1 (l.map zR)],.iptr [aF most],.iptr [u]] L0 fun r _=>r=cD (dp most err l.length):=by
 refine aN Tryz.func155 rfl Tryz.ntmps155 rfl fun B=>?_
 repeat' (first|refine L3 ?_|refine KG a4 HY ?_)
 refine aw rfl (fun h=>?_) (fun h=>?_)
 ·have h':=Ky h
  rw [Ku] at h'
  repeat' (first|refine L3 ?_|refine KG a4 HY ?_)
  refine KX KA ?_
  unfold dp
  rw [if_pos h']
  rfl
 ·have h':=Kx h
  rw [Ku] at h'
  repeat' (first|refine L3 ?_|refine KG a4 HY ?_)
  refine b6 L0 [] (nz hu l err J L0 h0 (hw (by omega))) rfl (fW hu) (bK rfl) rfl fun c L1 hc=>?_
  subst hc
  repeat' (first|refine L3 ?_|refine KG a4 HY ?_)
  refine KX KA ?_
  unfold dp
  rw [if_neg h']
  rfl
theorem Hz {g:FuncId} (l:List Int) (most:Int):bU Tryz.prog 76 [.imm 1 (l.map zR),aF most,.sc (.func (.func g) #[] #[])] (.fn 155 [.iptr [.imm 1 (l.map zR)],.iptr [aF most],.iptr [.sc (.func (.func g) #[] #[])]]):=by
 refine aN Tryz.func76 rfl Tryz.ntmps76 rfl fun B=>?_
 repeat' (first|refine L3 ?_|refine KG a4 HY ?_|refine bA ?_|fail)
 exact KQ KA
end Go.Proofs.YtpmdfoaadejmkaaGreatDoor
