/-
  The program: looks at things, one by one.
-/
import Derived.Test.YtjjpkibjffmceaaGreatM06
import Derived.Test.YtjjpkibjffmceaaGreatM05
namespace Go.Proofs.YtjjpkibjffmceaaGreat
open Go.RowKit
attribute [local irreducible] AT cg AX AO Av Kt bJ eC DA du
def ek (err:Nat→Int):Nat→Nat→Int×Int
 | 0,_=>(0,0)
 | k+1,i=>if err i=0 then ek err k (i+1) else (err i,i)
def eg (err:Nat→Int) (n:Nat):Int×Int:=ek err n 0
def dY (most:Int) (err:Nat→Int) (n:Nat):Int×Int:=if (n:Int) > most then (2,0) else eg err n
def cE (p:Int×Int):AV:= .tup [aP p.1,aP p.2]
theorem cW {err:Nat→Int} {n i:Nat} (hi:i < n) (h:err i=0):ek err (n - i) i=ek err (n - (i+1)) (i+1):=by
 rw [show n - i=(n - (i+1))+1 by omega]
 simp only [ek,h,if_true]
theorem dz {err:Nat→Int} {n i:Nat} (hi:i < n) (h:err i≠0):ek err (n - i) i=(err i,(i:Int)):=by
 rw [show n - i=(n - (i+1))+1 by omega]
 simp only [ek,h,if_false]
def mS (q:List Int):List AV:=[.imm 1 (aS q)]
def gO (z:Int):List AV:=[aP z]
theorem fQ {g:FuncId} {caps:List AV} {u:AV} (hu:jV u=some (g,caps)) {s:Nat} {l:List (List AV)}:l6 [.imm s l,u]=some [.imm s l,u]:=by
 unfold jV at hu
 split at hu <;> first | rfl | cases hu
theorem ck {L L':AL} (h:L=L'):L.Perm (L'++[]):=by rw [List.append_nil,h]
def Ij (P:Program) (g:FuncId) (caps:List AV) (n:Nat) (arg:Nat→AV) (err:Nat→Int) (J:Nat→AL→Prop):Prop:=∀i L,i < n→J i L→AC P g ([aP i,arg i]++caps) L fun c L'=>c=aP (err i)∧(err i=0→J (i+1) L')
theorem DB {g:FuncId} {caps:List AV} {u:AV} [bT Tryz.prog g] (hu:jV u=some (g,caps)) (l:List bL) (err:Nat→Int) (J:Nat→AL→Prop) (L0:AL) (h0:J 0 L0) (hw:∀i x L,l[i]?=some x→J i L→AC Tryz.prog g ([aP i,.agg (bh x)]++caps) L fun c L'=>c=aP (err i)∧(err i=0→J (i+1) L')):
  AC Tryz.prog 158 [.imm 9 (l.map bh),u] L0 fun r _=>r=cE (eg err l.length):=by
 refine aX Tryz.func158 rfl Tryz.ntmps158 rfl fun B=>?_
 refine cN 0 rfl rfl fun hlen=>?_
 rw [Jt] at hlen
 repeat' (first|refine go ?_|refine am ?_|refine IG a6 EV ?_)
 refine aO [1,9,10] (α:=Nat×AL) (fun i=>[(11,aP i.1)]) (fun i=>i.1≤l.length∧J i.1 i.2∧eg err l.length=ek err (l.length - i.1) i.1) (fun i=>i.2) (fun i=>l.length - i.1) (0,L0) rfl ⟨rfl,trivial⟩ ⟨Nat.zero_le _,h0,rfl⟩ (fun _ _ h=>h) ?_
 rintro ⟨i,L⟩ ⟨hi,hj,he⟩
 dsimp only at hi hj he ⊢
 try dsimp only [Jr,Jq,Jp,Jk]
 repeat' (first|refine go ?_|refine IG a6 EV ?_)
 refine au rfl (fun h=>?_) (fun h=>?_)
 ·have hil:i < l.length:=by have:=Jy h;simp at this;omega
  obtain ⟨z,hz⟩:∃z,l[i]?=some z:=⟨_,Jz hil⟩
  have hzg:=bA (c:=bh) hz
  repeat' (first|refine go ?_|refine am ?_|refine IG a6 EV ?_|(apply aV;first|refine aU a6 ?_|refine aN a6 ?_)|(apply aJ;first|refine II 7 a6 0 IF ?_|refine II 7 a6 1 IF ?_|refine II 7 a6 2 IF ?_|refine IH a6 0 IE ?_|refine IH a6 1 IE ?_|refine IH a6 2 IE ?_|refine IH a6 3 IE ?_|fail)|refine bc a6 fun _=>?_|fail)
  refine dx L [] (hw i z L hz hj) rfl hu rfl (ck rfl) rfl rfl fun c L1 ⟨hc,hj'⟩=>?_
  subst hc
  rw [List.append_nil]
  repeat' (first|refine go ?_|refine IG a6 EV ?_)
  refine au rfl (fun h2=>?_) (fun h2=>?_)
  ·have h2':=Jy h2
   repeat' (first|refine go ?_|refine IG a6 EV ?_)
   refine IU IB ?_
   rw [he,dz hil h2']
   rfl
  ·have h2':=Decidable.not_not.1 (Jx h2)
   repeat' (first|refine go ?_|refine IG a6 EV ?_|(apply aW;refine aT ?_)|fail)
   exact aB (i+1,L1) rfl ⟨by rw [Jv];rfl,trivial⟩ ⟨by dsimp only;omega,hj' h2',by rw [he];exact cW hil h2'⟩ (by dsimp only;omega) (fun _ _ h=>h)
 ·have hil:i=l.length:=by have:=Jx h;simp at this;omega
  subst hil
  repeat' (first|refine go ?_|refine IG a6 EV ?_)
  refine IU IB ?_
  rw [he,Nat.sub_self]
  rfl
theorem xZ {g:FuncId} {caps:List AV} {u:AV} [bT Tryz.prog g] (hu:jV u=some (g,caps)) (l:List bL) (most:Int) (err:Nat→Int) (J:Nat→AL→Prop) (L0:AL) (h0:J 0 L0) (hw:(l.length:Int)≤most→∀i x L,l[i]?=some x→J i L→AC Tryz.prog g ([aP i,.agg (bh x)]++caps) L fun c L'=>c=aP (err i)∧(err i=0→J (i+1) L')):
  AC Tryz.prog 157 [.iptr [.imm 9 (l.map bh)],.iptr [aP most],.iptr [u]] L0 fun r _=>r=cE (dY most err l.length):=by
 refine aX Tryz.func157 rfl Tryz.ntmps157 rfl fun B=>?_
 repeat' (first|refine go ?_|refine IG a6 EV ?_)
 refine au rfl (fun h=>?_) (fun h=>?_)
 ·have h':=Jy h
  rw [Jt] at h'
  repeat' (first|refine go ?_|refine IG a6 EV ?_)
  refine IU IB ?_
  unfold dY
  rw [if_pos h']
  rfl
 ·have h':=Jx h
  rw [Jt] at h'
  repeat' (first|refine go ?_|refine IG a6 EV ?_)
  refine bn L0 [] (DB hu l err J L0 h0 (hw (by omega))) rfl (fQ hu) (ck rfl) rfl fun c L1 hc=>?_
  subst hc
  repeat' (first|refine go ?_|refine IG a6 EV ?_)
  refine IU IB ?_
  unfold dY
  rw [if_neg h']
  rfl
theorem I4 {g:FuncId} {caps:List AV} (l:List bL) (most:Int):bZ Tryz.prog 116 [.imm 9 (l.map bh),aP most,.fn g caps] (.fn 157 [.iptr [.imm 9 (l.map bh)],.iptr [aP most],.iptr [.fn g caps]]):=by
 refine aX Tryz.func116 rfl Tryz.ntmps116 rfl fun B=>?_
 repeat' (first|refine go ?_|refine IG a6 EV ?_|refine bD ?_|fail)
 exact IP IB
instance {g:FuncId} {caps:List AV} (l:List bL) (most:Int):AD Tryz.prog 116 [.imm 9 (l.map bh),aP most,.fn g caps] (.fn 157 [.iptr [.imm 9 (l.map bh)],.iptr [aP most],.iptr [.fn g caps]]):=⟨I4 l most⟩
theorem DC {g:FuncId} {caps:List AV} {u:AV} [bT Tryz.prog g] (hu:jV u=some (g,caps)) (l:List ey) (err:Nat→Int) (J:Nat→AL→Prop) (L0:AL) (h0:J 0 L0) (hw:∀i x L,l[i]?=some x→J i L→AC Tryz.prog g ([aP i,.agg (cm x)]++caps) L fun c L'=>c=aP (err i)∧(err i=0→J (i+1) L')):
  AC Tryz.prog 178 [.imm 2 (l.map cm),u] L0 fun r _=>r=cE (eg err l.length):=by
 refine aX Tryz.func178 rfl Tryz.ntmps178 rfl fun B=>?_
 refine cN 0 rfl rfl fun hlen=>?_
 rw [Jt] at hlen
 repeat' (first|refine go ?_|refine am ?_|refine IG a6 EV ?_)
 refine aO [1,9,10] (α:=Nat×AL) (fun i=>[(11,aP i.1)]) (fun i=>i.1≤l.length∧J i.1 i.2∧eg err l.length=ek err (l.length - i.1) i.1) (fun i=>i.2) (fun i=>l.length - i.1) (0,L0) rfl ⟨rfl,trivial⟩ ⟨Nat.zero_le _,h0,rfl⟩ (fun _ _ h=>h) ?_
 rintro ⟨i,L⟩ ⟨hi,hj,he⟩
 dsimp only at hi hj he ⊢
 try dsimp only [Jr,Jq,Jp,Jk]
 repeat' (first|refine go ?_|refine IG a6 EV ?_)
 refine au rfl (fun h=>?_) (fun h=>?_)
 ·have hil:i < l.length:=by have:=Jy h;simp at this;omega
  obtain ⟨z,hz⟩:∃z,l[i]?=some z:=⟨_,Jz hil⟩
  have hzg:=bA (c:=cm) hz
  repeat' (first|refine go ?_|refine am ?_|refine IG a6 EV ?_|(apply aV;first|refine aU a6 ?_|refine aN a6 ?_)|(apply aJ;first|refine II 7 a6 0 IF ?_|refine II 7 a6 1 IF ?_|refine II 7 a6 2 IF ?_|refine IH a6 0 IE ?_|refine IH a6 1 IE ?_|refine IH a6 2 IE ?_|refine IH a6 3 IE ?_|fail)|refine bc a6 fun _=>?_|fail)
  refine dx L [] (hw i z L hz hj) rfl hu rfl (ck rfl) rfl rfl fun c L1 ⟨hc,hj'⟩=>?_
  subst hc
  rw [List.append_nil]
  repeat' (first|refine go ?_|refine IG a6 EV ?_)
  refine au rfl (fun h2=>?_) (fun h2=>?_)
  ·have h2':=Jy h2
   repeat' (first|refine go ?_|refine IG a6 EV ?_)
   refine IU IB ?_
   rw [he,dz hil h2']
   rfl
  ·have h2':=Decidable.not_not.1 (Jx h2)
   repeat' (first|refine go ?_|refine IG a6 EV ?_|(apply aW;refine aT ?_)|fail)
   exact aB (i+1,L1) rfl ⟨by rw [Jv];rfl,trivial⟩ ⟨by dsimp only;omega,hj' h2',by rw [he];exact cW hil h2'⟩ (by dsimp only;omega) (fun _ _ h=>h)
 ·have hil:i=l.length:=by have:=Jx h;simp at this;omega
  subst hil
  repeat' (first|refine go ?_|refine IG a6 EV ?_)
  refine IU IB ?_
  rw [he,Nat.sub_self]
  rfl
theorem EA {g:FuncId} {caps:List AV} {u:AV} [bT Tryz.prog g] (hu:jV u=some (g,caps)) (l:List ey) (most:Int) (err:Nat→Int) (J:Nat→AL→Prop) (L0:AL) (h0:J 0 L0) (hw:(l.length:Int)≤most→∀i x L,l[i]?=some x→J i L→AC Tryz.prog g ([aP i,.agg (cm x)]++caps) L fun c L'=>c=aP (err i)∧(err i=0→J (i+1) L')):
  AC Tryz.prog 177 [.iptr [.imm 2 (l.map cm)],.iptr [aP most],.iptr [u]] L0 fun r _=>r=cE (dY most err l.length):=by
 refine aX Tryz.func177 rfl Tryz.ntmps177 rfl fun B=>?_
 repeat' (first|refine go ?_|refine IG a6 EV ?_)
 refine au rfl (fun h=>?_) (fun h=>?_)
 ·have h':=Jy h
  rw [Jt] at h'
  repeat' (first|refine go ?_|refine IG a6 EV ?_)
  refine IU IB ?_
  unfold dY
  rw [if_pos h']
  rfl
 ·have h':=Jx h
  rw [Jt] at h'
  repeat' (first|refine go ?_|refine IG a6 EV ?_)
  refine bn L0 [] (DC hu l err J L0 h0 (hw (by omega))) rfl (fQ hu) (ck rfl) rfl fun c L1 hc=>?_
  subst hc
  repeat' (first|refine go ?_|refine IG a6 EV ?_)
  refine IU IB ?_
  unfold dY
  rw [if_neg h']
  rfl
theorem I5 {g:FuncId} {caps:List AV} (l:List ey) (most:Int):bZ Tryz.prog 123 [.imm 2 (l.map cm),aP most,.fn g caps] (.fn 177 [.iptr [.imm 2 (l.map cm)],.iptr [aP most],.iptr [.fn g caps]]):=by
 refine aX Tryz.func123 rfl Tryz.ntmps123 rfl fun B=>?_
 repeat' (first|refine go ?_|refine IG a6 EV ?_|refine bD ?_|fail)
 exact IP IB
instance {g:FuncId} {caps:List AV} (l:List ey) (most:Int):AD Tryz.prog 123 [.imm 2 (l.map cm),aP most,.fn g caps] (.fn 177 [.iptr [.imm 2 (l.map cm)],.iptr [aP most],.iptr [.fn g caps]]):=⟨I5 l most⟩
theorem DD {g:FuncId} {caps:List AV} {u:AV} [bT Tryz.prog g] (hu:jV u=some (g,caps)) (l:List bj) (err:Nat→Int) (J:Nat→AL→Prop) (L0:AL) (h0:J 0 L0) (hw:∀i x L,l[i]?=some x→J i L→AC Tryz.prog g ([aP i,.agg (bi x)]++caps) L fun c L'=>c=aP (err i)∧(err i=0→J (i+1) L')):
  AC Tryz.prog 180 [.imm 3 (l.map bi),u] L0 fun r _=>r=cE (eg err l.length):=by
 refine aX Tryz.func180 rfl Tryz.ntmps180 rfl fun B=>?_
 refine cN 0 rfl rfl fun hlen=>?_
 rw [Jt] at hlen
 repeat' (first|refine go ?_|refine am ?_|refine IG a6 EV ?_)
 refine aO [1,9,10] (α:=Nat×AL) (fun i=>[(11,aP i.1)]) (fun i=>i.1≤l.length∧J i.1 i.2∧eg err l.length=ek err (l.length - i.1) i.1) (fun i=>i.2) (fun i=>l.length - i.1) (0,L0) rfl ⟨rfl,trivial⟩ ⟨Nat.zero_le _,h0,rfl⟩ (fun _ _ h=>h) ?_
 rintro ⟨i,L⟩ ⟨hi,hj,he⟩
 dsimp only at hi hj he ⊢
 try dsimp only [Jr,Jq,Jp,Jk]
 repeat' (first|refine go ?_|refine IG a6 EV ?_)
 refine au rfl (fun h=>?_) (fun h=>?_)
 ·have hil:i < l.length:=by have:=Jy h;simp at this;omega
  obtain ⟨z,hz⟩:∃z,l[i]?=some z:=⟨_,Jz hil⟩
  have hzg:=bA (c:=bi) hz
  repeat' (first|refine go ?_|refine am ?_|refine IG a6 EV ?_|(apply aV;first|refine aU a6 ?_|refine aN a6 ?_)|(apply aJ;first|refine II 7 a6 0 IF ?_|refine II 7 a6 1 IF ?_|refine II 7 a6 2 IF ?_|refine IH a6 0 IE ?_|refine IH a6 1 IE ?_|refine IH a6 2 IE ?_|refine IH a6 3 IE ?_|fail)|refine bc a6 fun _=>?_|fail)
  refine dx L [] (hw i z L hz hj) rfl hu rfl (ck rfl) rfl rfl fun c L1 ⟨hc,hj'⟩=>?_
  subst hc
  rw [List.append_nil]
  repeat' (first|refine go ?_|refine IG a6 EV ?_)
  refine au rfl (fun h2=>?_) (fun h2=>?_)
  ·have h2':=Jy h2
   repeat' (first|refine go ?_|refine IG a6 EV ?_)
   refine IU IB ?_
   rw [he,dz hil h2']
   rfl
  ·have h2':=Decidable.not_not.1 (Jx h2)
   repeat' (first|refine go ?_|refine IG a6 EV ?_|(apply aW;refine aT ?_)|fail)
   exact aB (i+1,L1) rfl ⟨by rw [Jv];rfl,trivial⟩ ⟨by dsimp only;omega,hj' h2',by rw [he];exact cW hil h2'⟩ (by dsimp only;omega) (fun _ _ h=>h)
 ·have hil:i=l.length:=by have:=Jx h;simp at this;omega
  subst hil
  repeat' (first|refine go ?_|refine IG a6 EV ?_)
  refine IU IB ?_
  rw [he,Nat.sub_self]
  rfl
theorem EB {g:FuncId} {caps:List AV} {u:AV} [bT Tryz.prog g] (hu:jV u=some (g,caps)) (l:List bj) (most:Int) (err:Nat→Int) (J:Nat→AL→Prop) (L0:AL) (h0:J 0 L0) (hw:(l.length:Int)≤most→∀i x L,l[i]?=some x→J i L→AC Tryz.prog g ([aP i,.agg (bi x)]++caps) L fun c L'=>c=aP (err i)∧(err i=0→J (i+1) L')):
  AC Tryz.prog 179 [.iptr [.imm 3 (l.map bi)],.iptr [aP most],.iptr [u]] L0 fun r _=>r=cE (dY most err l.length):=by
 refine aX Tryz.func179 rfl Tryz.ntmps179 rfl fun B=>?_
 repeat' (first|refine go ?_|refine IG a6 EV ?_)
 refine au rfl (fun h=>?_) (fun h=>?_)
 ·have h':=Jy h
  rw [Jt] at h'
  repeat' (first|refine go ?_|refine IG a6 EV ?_)
  refine IU IB ?_
  unfold dY
  rw [if_pos h']
  rfl
 ·have h':=Jx h
  rw [Jt] at h'
  repeat' (first|refine go ?_|refine IG a6 EV ?_)
  refine bn L0 [] (DD hu l err J L0 h0 (hw (by omega))) rfl (fQ hu) (ck rfl) rfl fun c L1 hc=>?_
  subst hc
  repeat' (first|refine go ?_|refine IG a6 EV ?_)
  refine IU IB ?_
  unfold dY
  rw [if_neg h']
  rfl
theorem I6 {g:FuncId} {caps:List AV} (l:List bj) (most:Int):bZ Tryz.prog 126 [.imm 3 (l.map bi),aP most,.fn g caps] (.fn 179 [.iptr [.imm 3 (l.map bi)],.iptr [aP most],.iptr [.fn g caps]]):=by
 refine aX Tryz.func126 rfl Tryz.ntmps126 rfl fun B=>?_
 repeat' (first|refine go ?_|refine IG a6 EV ?_|refine bD ?_|fail)
 exact IP IB
instance {g:FuncId} {caps:List AV} (l:List bj) (most:Int):AD Tryz.prog 126 [.imm 3 (l.map bi),aP most,.fn g caps] (.fn 179 [.iptr [.imm 3 (l.map bi)],.iptr [aP most],.iptr [.fn g caps]]):=⟨I6 l most⟩
theorem DF {g:FuncId} {caps:List AV} {u:AV} [bT Tryz.prog g] (hu:jV u=some (g,caps)) (l:List cb) (err:Nat→Int) (J:Nat→AL→Prop) (L0:AL) (h0:J 0 L0) (hw:∀i x L,l[i]?=some x→J i L→AC Tryz.prog g ([aP i,.agg (bE x)]++caps) L fun c L'=>c=aP (err i)∧(err i=0→J (i+1) L')):
  AC Tryz.prog 184 [.imm 6 (l.map bE),u] L0 fun r _=>r=cE (eg err l.length):=by
 refine aX Tryz.func184 rfl Tryz.ntmps184 rfl fun B=>?_
 refine cN 0 rfl rfl fun hlen=>?_
 rw [Jt] at hlen
 repeat' (first|refine go ?_|refine am ?_|refine IG a6 EV ?_)
 refine aO [1,9,10] (α:=Nat×AL) (fun i=>[(11,aP i.1)]) (fun i=>i.1≤l.length∧J i.1 i.2∧eg err l.length=ek err (l.length - i.1) i.1) (fun i=>i.2) (fun i=>l.length - i.1) (0,L0) rfl ⟨rfl,trivial⟩ ⟨Nat.zero_le _,h0,rfl⟩ (fun _ _ h=>h) ?_
 rintro ⟨i,L⟩ ⟨hi,hj,he⟩
 dsimp only at hi hj he ⊢
 try dsimp only [Jr,Jq,Jp,Jk]
 repeat' (first|refine go ?_|refine IG a6 EV ?_)
 refine au rfl (fun h=>?_) (fun h=>?_)
 ·have hil:i < l.length:=by have:=Jy h;simp at this;omega
  obtain ⟨z,hz⟩:∃z,l[i]?=some z:=⟨_,Jz hil⟩
  have hzg:=bA (c:=bE) hz
  repeat' (first|refine go ?_|refine am ?_|refine IG a6 EV ?_|(apply aV;first|refine aU a6 ?_|refine aN a6 ?_)|(apply aJ;first|refine II 7 a6 0 IF ?_|refine II 7 a6 1 IF ?_|refine II 7 a6 2 IF ?_|refine IH a6 0 IE ?_|refine IH a6 1 IE ?_|refine IH a6 2 IE ?_|refine IH a6 3 IE ?_|fail)|refine bc a6 fun _=>?_|fail)
  refine dx L [] (hw i z L hz hj) rfl hu rfl (ck rfl) rfl rfl fun c L1 ⟨hc,hj'⟩=>?_
  subst hc
  rw [List.append_nil]
  repeat' (first|refine go ?_|refine IG a6 EV ?_)
  refine au rfl (fun h2=>?_) (fun h2=>?_)
  ·have h2':=Jy h2
   repeat' (first|refine go ?_|refine IG a6 EV ?_)
   refine IU IB ?_
   rw [he,dz hil h2']
   rfl
  ·have h2':=Decidable.not_not.1 (Jx h2)
   repeat' (first|refine go ?_|refine IG a6 EV ?_|(apply aW;refine aT ?_)|fail)
   exact aB (i+1,L1) rfl ⟨by rw [Jv];rfl,trivial⟩ ⟨by dsimp only;omega,hj' h2',by rw [he];exact cW hil h2'⟩ (by dsimp only;omega) (fun _ _ h=>h)
 ·have hil:i=l.length:=by have:=Jx h;simp at this;omega
  subst hil
  repeat' (first|refine go ?_|refine IG a6 EV ?_)
  refine IU IB ?_
  rw [he,Nat.sub_self]
  rfl
theorem DG {g:FuncId} {caps:List AV} {u:AV} [bT Tryz.prog g] (hu:jV u=some (g,caps)) (l:List bX) (err:Nat→Int) (J:Nat→AL→Prop) (L0:AL) (h0:J 0 L0) (hw:∀i x L,l[i]?=some x→J i L→AC Tryz.prog g ([aP i,.agg (bv x)]++caps) L fun c L'=>c=aP (err i)∧(err i=0→J (i+1) L')):
  AC Tryz.prog 188 [.imm 2 (l.map bv),u] L0 fun r _=>r=cE (eg err l.length):=by
 refine aX Tryz.func188 rfl Tryz.ntmps188 rfl fun B=>?_
 refine cN 0 rfl rfl fun hlen=>?_
 rw [Jt] at hlen
 repeat' (first|refine go ?_|refine am ?_|refine IG a6 EV ?_)
 refine aO [1,9,10] (α:=Nat×AL) (fun i=>[(11,aP i.1)]) (fun i=>i.1≤l.length∧J i.1 i.2∧eg err l.length=ek err (l.length - i.1) i.1) (fun i=>i.2) (fun i=>l.length - i.1) (0,L0) rfl ⟨rfl,trivial⟩ ⟨Nat.zero_le _,h0,rfl⟩ (fun _ _ h=>h) ?_
 rintro ⟨i,L⟩ ⟨hi,hj,he⟩
 dsimp only at hi hj he ⊢
 try dsimp only [Jr,Jq,Jp,Jk]
 repeat' (first|refine go ?_|refine IG a6 EV ?_)
 refine au rfl (fun h=>?_) (fun h=>?_)
 ·have hil:i < l.length:=by have:=Jy h;simp at this;omega
  obtain ⟨z,hz⟩:∃z,l[i]?=some z:=⟨_,Jz hil⟩
  have hzg:=bA (c:=bv) hz
  repeat' (first|refine go ?_|refine am ?_|refine IG a6 EV ?_|(apply aV;first|refine aU a6 ?_|refine aN a6 ?_)|(apply aJ;first|refine II 7 a6 0 IF ?_|refine II 7 a6 1 IF ?_|refine II 7 a6 2 IF ?_|refine IH a6 0 IE ?_|refine IH a6 1 IE ?_|refine IH a6 2 IE ?_|refine IH a6 3 IE ?_|fail)|refine bc a6 fun _=>?_|fail)
  refine dx L [] (hw i z L hz hj) rfl hu rfl (ck rfl) rfl rfl fun c L1 ⟨hc,hj'⟩=>?_
  subst hc
  rw [List.append_nil]
  repeat' (first|refine go ?_|refine IG a6 EV ?_)
  refine au rfl (fun h2=>?_) (fun h2=>?_)
  ·have h2':=Jy h2
   repeat' (first|refine go ?_|refine IG a6 EV ?_)
   refine IU IB ?_
   rw [he,dz hil h2']
   rfl
  ·have h2':=Decidable.not_not.1 (Jx h2)
   repeat' (first|refine go ?_|refine IG a6 EV ?_|(apply aW;refine aT ?_)|fail)
   exact aB (i+1,L1) rfl ⟨by rw [Jv];rfl,trivial⟩ ⟨by dsimp only;omega,hj' h2',by rw [he];exact cW hil h2'⟩ (by dsimp only;omega) (fun _ _ h=>h)
 ·have hil:i=l.length:=by have:=Jx h;simp at this;omega
  subst hil
  repeat' (first|refine go ?_|refine IG a6 EV ?_)
  refine IU IB ?_
  rw [he,Nat.sub_self]
  rfl
theorem EC {g:FuncId} {caps:List AV} {u:AV} [bT Tryz.prog g] (hu:jV u=some (g,caps)) (l:List bX) (most:Int) (err:Nat→Int) (J:Nat→AL→Prop) (L0:AL) (h0:J 0 L0) (hw:(l.length:Int)≤most→∀i x L,l[i]?=some x→J i L→AC Tryz.prog g ([aP i,.agg (bv x)]++caps) L fun c L'=>c=aP (err i)∧(err i=0→J (i+1) L')):
  AC Tryz.prog 187 [.iptr [.imm 2 (l.map bv)],.iptr [aP most],.iptr [u]] L0 fun r _=>r=cE (dY most err l.length):=by
 refine aX Tryz.func187 rfl Tryz.ntmps187 rfl fun B=>?_
 repeat' (first|refine go ?_|refine IG a6 EV ?_)
 refine au rfl (fun h=>?_) (fun h=>?_)
 ·have h':=Jy h
  rw [Jt] at h'
  repeat' (first|refine go ?_|refine IG a6 EV ?_)
  refine IU IB ?_
  unfold dY
  rw [if_pos h']
  rfl
 ·have h':=Jx h
  rw [Jt] at h'
  repeat' (first|refine go ?_|refine IG a6 EV ?_)
  refine bn L0 [] (DG hu l err J L0 h0 (hw (by omega))) rfl (fQ hu) (ck rfl) rfl fun c L1 hc=>?_
  subst hc
  repeat' (first|refine go ?_|refine IG a6 EV ?_)
  refine IU IB ?_
  unfold dY
  rw [if_neg h']
  rfl
theorem I7 {g:FuncId} {caps:List AV} (l:List bX) (most:Int):bZ Tryz.prog 129 [.imm 2 (l.map bv),aP most,.fn g caps] (.fn 187 [.iptr [.imm 2 (l.map bv)],.iptr [aP most],.iptr [.fn g caps]]):=by
 refine aX Tryz.func129 rfl Tryz.ntmps129 rfl fun B=>?_
 repeat' (first|refine go ?_|refine IG a6 EV ?_|refine bD ?_|fail)
 exact IP IB
instance {g:FuncId} {caps:List AV} (l:List bX) (most:Int):AD Tryz.prog 129 [.imm 2 (l.map bv),aP most,.fn g caps] (.fn 187 [.iptr [.imm 2 (l.map bv)],.iptr [aP most],.iptr [.fn g caps]]):=⟨I7 l most⟩
theorem DH {g:FuncId} {caps:List AV} {u:AV} [bT Tryz.prog g] (hu:jV u=some (g,caps)) (l:List eB) (err:Nat→Int) (J:Nat→AL→Prop) (L0:AL) (h0:J 0 L0) (hw:∀i x L,l[i]?=some x→J i L→AC Tryz.prog g ([aP i,.agg (cC x)]++caps) L fun c L'=>c=aP (err i)∧(err i=0→J (i+1) L')):
  AC Tryz.prog 191 [.imm 4 (l.map cC),u] L0 fun r _=>r=cE (eg err l.length):=by
 refine aX Tryz.func191 rfl Tryz.ntmps191 rfl fun B=>?_
 refine cN 0 rfl rfl fun hlen=>?_
 rw [Jt] at hlen
 repeat' (first|refine go ?_|refine am ?_|refine IG a6 EV ?_)
 refine aO [1,9,10] (α:=Nat×AL) (fun i=>[(11,aP i.1)]) (fun i=>i.1≤l.length∧J i.1 i.2∧eg err l.length=ek err (l.length - i.1) i.1) (fun i=>i.2) (fun i=>l.length - i.1) (0,L0) rfl ⟨rfl,trivial⟩ ⟨Nat.zero_le _,h0,rfl⟩ (fun _ _ h=>h) ?_
 rintro ⟨i,L⟩ ⟨hi,hj,he⟩
 dsimp only at hi hj he ⊢
 try dsimp only [Jr,Jq,Jp,Jk]
 repeat' (first|refine go ?_|refine IG a6 EV ?_)
 refine au rfl (fun h=>?_) (fun h=>?_)
 ·have hil:i < l.length:=by have:=Jy h;simp at this;omega
  obtain ⟨z,hz⟩:∃z,l[i]?=some z:=⟨_,Jz hil⟩
  have hzg:=bA (c:=cC) hz
  repeat' (first|refine go ?_|refine am ?_|refine IG a6 EV ?_|(apply aV;first|refine aU a6 ?_|refine aN a6 ?_)|(apply aJ;first|refine II 7 a6 0 IF ?_|refine II 7 a6 1 IF ?_|refine II 7 a6 2 IF ?_|refine IH a6 0 IE ?_|refine IH a6 1 IE ?_|refine IH a6 2 IE ?_|refine IH a6 3 IE ?_|fail)|refine bc a6 fun _=>?_|fail)
  refine dx L [] (hw i z L hz hj) rfl hu rfl (ck rfl) rfl rfl fun c L1 ⟨hc,hj'⟩=>?_
  subst hc
  rw [List.append_nil]
  repeat' (first|refine go ?_|refine IG a6 EV ?_)
  refine au rfl (fun h2=>?_) (fun h2=>?_)
  ·have h2':=Jy h2
   repeat' (first|refine go ?_|refine IG a6 EV ?_)
   refine IU IB ?_
   rw [he,dz hil h2']
   rfl
  ·have h2':=Decidable.not_not.1 (Jx h2)
   repeat' (first|refine go ?_|refine IG a6 EV ?_|(apply aW;refine aT ?_)|fail)
   exact aB (i+1,L1) rfl ⟨by rw [Jv];rfl,trivial⟩ ⟨by dsimp only;omega,hj' h2',by rw [he];exact cW hil h2'⟩ (by dsimp only;omega) (fun _ _ h=>h)
 ·have hil:i=l.length:=by have:=Jx h;simp at this;omega
  subst hil
  repeat' (first|refine go ?_|refine IG a6 EV ?_)
  refine IU IB ?_
  rw [he,Nat.sub_self]
  rfl
theorem ED {g:FuncId} {caps:List AV} {u:AV} [bT Tryz.prog g] (hu:jV u=some (g,caps)) (l:List eB) (most:Int) (err:Nat→Int) (J:Nat→AL→Prop) (L0:AL) (h0:J 0 L0) (hw:(l.length:Int)≤most→∀i x L,l[i]?=some x→J i L→AC Tryz.prog g ([aP i,.agg (cC x)]++caps) L fun c L'=>c=aP (err i)∧(err i=0→J (i+1) L')):
  AC Tryz.prog 190 [.iptr [.imm 4 (l.map cC)],.iptr [aP most],.iptr [u]] L0 fun r _=>r=cE (dY most err l.length):=by
 refine aX Tryz.func190 rfl Tryz.ntmps190 rfl fun B=>?_
 repeat' (first|refine go ?_|refine IG a6 EV ?_)
 refine au rfl (fun h=>?_) (fun h=>?_)
 ·have h':=Jy h
  rw [Jt] at h'
  repeat' (first|refine go ?_|refine IG a6 EV ?_)
  refine IU IB ?_
  unfold dY
  rw [if_pos h']
  rfl
 ·have h':=Jx h
  rw [Jt] at h'
  repeat' (first|refine go ?_|refine IG a6 EV ?_)
  refine bn L0 [] (DH hu l err J L0 h0 (hw (by omega))) rfl (fQ hu) (ck rfl) rfl fun c L1 hc=>?_
  subst hc
  repeat' (first|refine go ?_|refine IG a6 EV ?_)
  refine IU IB ?_
  unfold dY
  rw [if_neg h']
  rfl
theorem Hl {g:FuncId} {caps:List AV} (l:List eB) (most:Int):bZ Tryz.prog 133 [.imm 4 (l.map cC),aP most,.fn g caps] (.fn 190 [.iptr [.imm 4 (l.map cC)],.iptr [aP most],.iptr [.fn g caps]]):=by
 refine aX Tryz.func133 rfl Tryz.ntmps133 rfl fun B=>?_
 repeat' (first|refine go ?_|refine IG a6 EV ?_|refine bD ?_|fail)
 exact IP IB
instance {g:FuncId} {caps:List AV} (l:List eB) (most:Int):AD Tryz.prog 133 [.imm 4 (l.map cC),aP most,.fn g caps] (.fn 190 [.iptr [.imm 4 (l.map cC)],.iptr [aP most],.iptr [.fn g caps]]):=⟨Hl l most⟩
theorem DI {g:FuncId} {caps:List AV} {u:AV} [bT Tryz.prog g] (hu:jV u=some (g,caps)) (l:List (List eo)) (err:Nat→Int) (J:Nat→AL→Prop) (L0:AL) (h0:J 0 L0) (hw:∀i x L,l[i]?=some x→J i L→AC Tryz.prog g ([aP i,.agg (bI x)]++caps) L fun c L'=>c=aP (err i)∧(err i=0→J (i+1) L')):
  AC Tryz.prog 193 [.imm 1 (l.map bI),u] L0 fun r _=>r=cE (eg err l.length):=by
 refine aX Tryz.func193 rfl Tryz.ntmps193 rfl fun B=>?_
 refine cN 0 rfl rfl fun hlen=>?_
 rw [Jt] at hlen
 repeat' (first|refine go ?_|refine am ?_|refine IG a6 EV ?_)
 refine aO [1,9,10] (α:=Nat×AL) (fun i=>[(11,aP i.1)]) (fun i=>i.1≤l.length∧J i.1 i.2∧eg err l.length=ek err (l.length - i.1) i.1) (fun i=>i.2) (fun i=>l.length - i.1) (0,L0) rfl ⟨rfl,trivial⟩ ⟨Nat.zero_le _,h0,rfl⟩ (fun _ _ h=>h) ?_
 rintro ⟨i,L⟩ ⟨hi,hj,he⟩
 dsimp only at hi hj he ⊢
 try dsimp only [Jr,Jq,Jp,Jk]
 repeat' (first|refine go ?_|refine IG a6 EV ?_)
 refine au rfl (fun h=>?_) (fun h=>?_)
 ·have hil:i < l.length:=by have:=Jy h;simp at this;omega
  obtain ⟨z,hz⟩:∃z,l[i]?=some z:=⟨_,Jz hil⟩
  have hzg:=bA (c:=bI) hz
  repeat' (first|refine go ?_|refine am ?_|refine IG a6 EV ?_|(apply aV;first|refine aU a6 ?_|refine aN a6 ?_)|(apply aJ;first|refine II 7 a6 0 IF ?_|refine II 7 a6 1 IF ?_|refine II 7 a6 2 IF ?_|refine IH a6 0 IE ?_|refine IH a6 1 IE ?_|refine IH a6 2 IE ?_|refine IH a6 3 IE ?_|fail)|refine bc a6 fun _=>?_|fail)
  refine dx L [] (hw i z L hz hj) rfl hu rfl (ck rfl) rfl rfl fun c L1 ⟨hc,hj'⟩=>?_
  subst hc
  rw [List.append_nil]
  repeat' (first|refine go ?_|refine IG a6 EV ?_)
  refine au rfl (fun h2=>?_) (fun h2=>?_)
  ·have h2':=Jy h2
   repeat' (first|refine go ?_|refine IG a6 EV ?_)
   refine IU IB ?_
   rw [he,dz hil h2']
   rfl
  ·have h2':=Decidable.not_not.1 (Jx h2)
   repeat' (first|refine go ?_|refine IG a6 EV ?_|(apply aW;refine aT ?_)|fail)
   exact aB (i+1,L1) rfl ⟨by rw [Jv];rfl,trivial⟩ ⟨by dsimp only;omega,hj' h2',by rw [he];exact cW hil h2'⟩ (by dsimp only;omega) (fun _ _ h=>h)
 ·have hil:i=l.length:=by have:=Jx h;simp at this;omega
  subst hil
  repeat' (first|refine go ?_|refine IG a6 EV ?_)
  refine IU IB ?_
  rw [he,Nat.sub_self]
  rfl
theorem EE {g:FuncId} {caps:List AV} {u:AV} [bT Tryz.prog g] (hu:jV u=some (g,caps)) (l:List (List eo)) (most:Int) (err:Nat→Int) (J:Nat→AL→Prop) (L0:AL) (h0:J 0 L0) (hw:(l.length:Int)≤most→∀i x L,l[i]?=some x→J i L→AC Tryz.prog g ([aP i,.agg (bI x)]++caps) L fun c L'=>c=aP (err i)∧(err i=0→J (i+1) L')):
  AC Tryz.prog 192 [.iptr [.imm 1 (l.map bI)],.iptr [aP most],.iptr [u]] L0 fun r _=>r=cE (dY most err l.length):=by
 refine aX Tryz.func192 rfl Tryz.ntmps192 rfl fun B=>?_
 repeat' (first|refine go ?_|refine IG a6 EV ?_)
 refine au rfl (fun h=>?_) (fun h=>?_)
 ·have h':=Jy h
  rw [Jt] at h'
  repeat' (first|refine go ?_|refine IG a6 EV ?_)
  refine IU IB ?_
  unfold dY
  rw [if_pos h']
  rfl
 ·have h':=Jx h
  rw [Jt] at h'
  repeat' (first|refine go ?_|refine IG a6 EV ?_)
  refine bn L0 [] (DI hu l err J L0 h0 (hw (by omega))) rfl (fQ hu) (ck rfl) rfl fun c L1 hc=>?_
  subst hc
  repeat' (first|refine go ?_|refine IG a6 EV ?_)
  refine IU IB ?_
  unfold dY
  rw [if_neg h']
  rfl
theorem Hm {g:FuncId} {caps:List AV} (l:List (List eo)) (most:Int):bZ Tryz.prog 136 [.imm 1 (l.map bI),aP most,.fn g caps] (.fn 192 [.iptr [.imm 1 (l.map bI)],.iptr [aP most],.iptr [.fn g caps]]):=by
 refine aX Tryz.func136 rfl Tryz.ntmps136 rfl fun B=>?_
 repeat' (first|refine go ?_|refine IG a6 EV ?_|refine bD ?_|fail)
 exact IP IB
instance {g:FuncId} {caps:List AV} (l:List (List eo)) (most:Int):AD Tryz.prog 136 [.imm 1 (l.map bI),aP most,.fn g caps] (.fn 192 [.iptr [.imm 1 (l.map bI)],.iptr [aP most],.iptr [.fn g caps]]):=⟨Hm l most⟩
theorem DJ {g:FuncId} {caps:List AV} {u:AV} [bT Tryz.prog g] (hu:jV u=some (g,caps)) (l:List eo) (err:Nat→Int) (J:Nat→AL→Prop) (L0:AL) (h0:J 0 L0) (hw:∀i x L,l[i]?=some x→J i L→AC Tryz.prog g ([aP i,.agg (fX x)]++caps) L fun c L'=>c=aP (err i)∧(err i=0→J (i+1) L')):
  AC Tryz.prog 194 [.imm 3 (l.map fX),u] L0 fun r _=>r=cE (eg err l.length):=by
 refine aX Tryz.func194 rfl Tryz.ntmps194 rfl fun B=>?_
 refine cN 0 rfl rfl fun hlen=>?_
 rw [Jt] at hlen
 repeat' (first|refine go ?_|refine am ?_|refine IG a6 EV ?_)
 refine aO [1,9,10] (α:=Nat×AL) (fun i=>[(11,aP i.1)]) (fun i=>i.1≤l.length∧J i.1 i.2∧eg err l.length=ek err (l.length - i.1) i.1) (fun i=>i.2) (fun i=>l.length - i.1) (0,L0) rfl ⟨rfl,trivial⟩ ⟨Nat.zero_le _,h0,rfl⟩ (fun _ _ h=>h) ?_
 rintro ⟨i,L⟩ ⟨hi,hj,he⟩
 dsimp only at hi hj he ⊢
 try dsimp only [Jr,Jq,Jp,Jk]
 repeat' (first|refine go ?_|refine IG a6 EV ?_)
 refine au rfl (fun h=>?_) (fun h=>?_)
 ·have hil:i < l.length:=by have:=Jy h;simp at this;omega
  obtain ⟨z,hz⟩:∃z,l[i]?=some z:=⟨_,Jz hil⟩
  have hzg:=bA (c:=fX) hz
  repeat' (first|refine go ?_|refine am ?_|refine IG a6 EV ?_|(apply aV;first|refine aU a6 ?_|refine aN a6 ?_)|(apply aJ;first|refine II 7 a6 0 IF ?_|refine II 7 a6 1 IF ?_|refine II 7 a6 2 IF ?_|refine IH a6 0 IE ?_|refine IH a6 1 IE ?_|refine IH a6 2 IE ?_|refine IH a6 3 IE ?_|fail)|refine bc a6 fun _=>?_|fail)
  refine dx L [] (hw i z L hz hj) rfl hu rfl (ck rfl) rfl rfl fun c L1 ⟨hc,hj'⟩=>?_
  subst hc
  rw [List.append_nil]
  repeat' (first|refine go ?_|refine IG a6 EV ?_)
  refine au rfl (fun h2=>?_) (fun h2=>?_)
  ·have h2':=Jy h2
   repeat' (first|refine go ?_|refine IG a6 EV ?_)
   refine IU IB ?_
   rw [he,dz hil h2']
   rfl
  ·have h2':=Decidable.not_not.1 (Jx h2)
   repeat' (first|refine go ?_|refine IG a6 EV ?_|(apply aW;refine aT ?_)|fail)
   exact aB (i+1,L1) rfl ⟨by rw [Jv];rfl,trivial⟩ ⟨by dsimp only;omega,hj' h2',by rw [he];exact cW hil h2'⟩ (by dsimp only;omega) (fun _ _ h=>h)
 ·have hil:i=l.length:=by have:=Jx h;simp at this;omega
  subst hil
  repeat' (first|refine go ?_|refine IG a6 EV ?_)
  refine IU IB ?_
  rw [he,Nat.sub_self]
  rfl
theorem DK {g:FuncId} {caps:List AV} {u:AV} [bT Tryz.prog g] (hu:jV u=some (g,caps)) (l:List (List ep)) (err:Nat→Int) (J:Nat→AL→Prop) (L0:AL) (h0:J 0 L0) (hw:∀i x L,l[i]?=some x→J i L→AC Tryz.prog g ([aP i,.imm 2 (x.map ea)]++caps) L fun c L'=>c=aP (err i)∧(err i=0→J (i+1) L')):
  AC Tryz.prog 197 [.imm 1 (l.map cL),u] L0 fun r _=>r=cE (eg err l.length):=by
 refine aX Tryz.func197 rfl Tryz.ntmps197 rfl fun B=>?_
 refine cN 0 rfl rfl fun hlen=>?_
 rw [Jt] at hlen
 repeat' (first|refine go ?_|refine am ?_|refine IG a6 EV ?_)
 refine aO [1,9,10] (α:=Nat×AL) (fun i=>[(11,aP i.1)]) (fun i=>i.1≤l.length∧J i.1 i.2∧eg err l.length=ek err (l.length - i.1) i.1) (fun i=>i.2) (fun i=>l.length - i.1) (0,L0) rfl ⟨rfl,trivial⟩ ⟨Nat.zero_le _,h0,rfl⟩ (fun _ _ h=>h) ?_
 rintro ⟨i,L⟩ ⟨hi,hj,he⟩
 dsimp only at hi hj he ⊢
 try dsimp only [Jr,Jq,Jp,Jk]
 repeat' (first|refine go ?_|refine IG a6 EV ?_)
 refine au rfl (fun h=>?_) (fun h=>?_)
 ·have hil:i < l.length:=by have:=Jy h;simp at this;omega
  obtain ⟨z,hz⟩:∃z,l[i]?=some z:=⟨_,Jz hil⟩
  have hzg:=bA (c:=cL) hz
  repeat' (first|refine go ?_|refine am ?_|refine IG a6 EV ?_|(apply aV;first|refine aU a6 ?_|refine aN a6 ?_)|fail)
  refine dx L [] (hw i z L hz hj) rfl hu rfl (ck rfl) rfl rfl fun c L1 ⟨hc,hj'⟩=>?_
  subst hc
  rw [List.append_nil]
  repeat' (first|refine go ?_|refine IG a6 EV ?_)
  refine au rfl (fun h2=>?_) (fun h2=>?_)
  ·have h2':=Jy h2
   repeat' (first|refine go ?_|refine IG a6 EV ?_)
   refine IU IB ?_
   rw [he,dz hil h2']
   rfl
  ·have h2':=Decidable.not_not.1 (Jx h2)
   repeat' (first|refine go ?_|refine IG a6 EV ?_|(apply aW;refine aT ?_)|fail)
   exact aB (i+1,L1) rfl ⟨by rw [Jv];rfl,trivial⟩ ⟨by dsimp only;omega,hj' h2',by rw [he];exact cW hil h2'⟩ (by dsimp only;omega) (fun _ _ h=>h)
 ·have hil:i=l.length:=by have:=Jx h;simp at this;omega
  subst hil
  repeat' (first|refine go ?_|refine IG a6 EV ?_)
  refine IU IB ?_
  rw [he,Nat.sub_self]
  rfl
theorem EF {g:FuncId} {caps:List AV} {u:AV} [bT Tryz.prog g] (hu:jV u=some (g,caps)) (l:List (List ep)) (most:Int) (err:Nat→Int) (J:Nat→AL→Prop) (L0:AL) (h0:J 0 L0) (hw:(l.length:Int)≤most→∀i x L,l[i]?=some x→J i L→AC Tryz.prog g ([aP i,.imm 2 (x.map ea)]++caps) L fun c L'=>c=aP (err i)∧(err i=0→J (i+1) L')):
  AC Tryz.prog 196 [.iptr [.imm 1 (l.map cL)],.iptr [aP most],.iptr [u]] L0 fun r _=>r=cE (dY most err l.length):=by
 refine aX Tryz.func196 rfl Tryz.ntmps196 rfl fun B=>?_
 repeat' (first|refine go ?_|refine IG a6 EV ?_)
 refine au rfl (fun h=>?_) (fun h=>?_)
 ·have h':=Jy h
  rw [Jt] at h'
  repeat' (first|refine go ?_|refine IG a6 EV ?_)
  refine IU IB ?_
  unfold dY
  rw [if_pos h']
  rfl
 ·have h':=Jx h
  rw [Jt] at h'
  repeat' (first|refine go ?_|refine IG a6 EV ?_)
  refine bn L0 [] (DK hu l err J L0 h0 (hw (by omega))) rfl (fQ hu) (ck rfl) rfl fun c L1 hc=>?_
  subst hc
  repeat' (first|refine go ?_|refine IG a6 EV ?_)
  refine IU IB ?_
  unfold dY
  rw [if_neg h']
  rfl
theorem Gc {g:FuncId} (l:List (List ep)) (most:Int):bZ Tryz.prog 139 [.imm 1 (l.map cL),aP most,.sc (.func (.func g) #[] #[])] (.fn 196 [.iptr [.imm 1 (l.map cL)],.iptr [aP most],.iptr [.sc (.func (.func g) #[] #[])]]):=by
 refine aX Tryz.func139 rfl Tryz.ntmps139 rfl fun B=>?_
 repeat' (first|refine go ?_|refine IG a6 EV ?_|refine bD ?_|fail)
 exact IP IB
instance {g:FuncId} (l:List (List ep)) (most:Int):AD Tryz.prog 139 [.imm 1 (l.map cL),aP most,.sc (.func (.func g) #[] #[])] (.fn 196 [.iptr [.imm 1 (l.map cL)],.iptr [aP most],.iptr [.sc (.func (.func g) #[] #[])]]):=⟨Gc l most⟩
theorem DL {g:FuncId} {caps:List AV} {u:AV} [bT Tryz.prog g] (hu:jV u=some (g,caps)) (l:List eU) (err:Nat→Int) (J:Nat→AL→Prop) (L0:AL) (h0:J 0 L0) (hw:∀i x L,l[i]?=some x→J i L→AC Tryz.prog g ([aP i,.agg (dC x)]++caps) L fun c L'=>c=aP (err i)∧(err i=0→J (i+1) L')):
  AC Tryz.prog 214 [.imm 3 (l.map dC),u] L0 fun r _=>r=cE (eg err l.length):=by
 refine aX Tryz.func214 rfl Tryz.ntmps214 rfl fun B=>?_
 refine cN 0 rfl rfl fun hlen=>?_
 rw [Jt] at hlen
 repeat' (first|refine go ?_|refine am ?_|refine IG a6 EV ?_)
 refine aO [1,9,10] (α:=Nat×AL) (fun i=>[(11,aP i.1)]) (fun i=>i.1≤l.length∧J i.1 i.2∧eg err l.length=ek err (l.length - i.1) i.1) (fun i=>i.2) (fun i=>l.length - i.1) (0,L0) rfl ⟨rfl,trivial⟩ ⟨Nat.zero_le _,h0,rfl⟩ (fun _ _ h=>h) ?_
 rintro ⟨i,L⟩ ⟨hi,hj,he⟩
 dsimp only at hi hj he ⊢
 try dsimp only [Jr,Jq,Jp,Jk]
 repeat' (first|refine go ?_|refine IG a6 EV ?_)
 refine au rfl (fun h=>?_) (fun h=>?_)
 ·have hil:i < l.length:=by have:=Jy h;simp at this;omega
  obtain ⟨z,hz⟩:∃z,l[i]?=some z:=⟨_,Jz hil⟩
  have hzg:=bA (c:=dC) hz
  repeat' (first|refine go ?_|refine am ?_|refine IG a6 EV ?_|(apply aV;first|refine aU a6 ?_|refine aN a6 ?_)|(apply aJ;first|refine II 7 a6 0 IF ?_|refine II 7 a6 1 IF ?_|refine II 7 a6 2 IF ?_|refine IH a6 0 IE ?_|refine IH a6 1 IE ?_|refine IH a6 2 IE ?_|refine IH a6 3 IE ?_|fail)|refine bc a6 fun _=>?_|fail)
  refine dx L [] (hw i z L hz hj) rfl hu rfl (ck rfl) rfl rfl fun c L1 ⟨hc,hj'⟩=>?_
  subst hc
  rw [List.append_nil]
  repeat' (first|refine go ?_|refine IG a6 EV ?_)
  refine au rfl (fun h2=>?_) (fun h2=>?_)
  ·have h2':=Jy h2
   repeat' (first|refine go ?_|refine IG a6 EV ?_)
   refine IU IB ?_
   rw [he,dz hil h2']
   rfl
  ·have h2':=Decidable.not_not.1 (Jx h2)
   repeat' (first|refine go ?_|refine IG a6 EV ?_|(apply aW;refine aT ?_)|fail)
   exact aB (i+1,L1) rfl ⟨by rw [Jv];rfl,trivial⟩ ⟨by dsimp only;omega,hj' h2',by rw [he];exact cW hil h2'⟩ (by dsimp only;omega) (fun _ _ h=>h)
 ·have hil:i=l.length:=by have:=Jx h;simp at this;omega
  subst hil
  repeat' (first|refine go ?_|refine IG a6 EV ?_)
  refine IU IB ?_
  rw [he,Nat.sub_self]
  rfl
theorem DN {g:FuncId} {caps:List AV} {u:AV} [bT Tryz.prog g] (hu:jV u=some (g,caps)) (l:List cD) (err:Nat→Int) (J:Nat→AL→Prop) (L0:AL) (h0:J 0 L0) (hw:∀i x L,l[i]?=some x→J i L→AC Tryz.prog g ([aP i,.agg (ct x)]++caps) L fun c L'=>c=aP (err i)∧(err i=0→J (i+1) L')):
  AC Tryz.prog 218 [.imm 3 (l.map ct),u] L0 fun r _=>r=cE (eg err l.length):=by
 refine aX Tryz.func218 rfl Tryz.ntmps218 rfl fun B=>?_
 refine cN 0 rfl rfl fun hlen=>?_
 rw [Jt] at hlen
 repeat' (first|refine go ?_|refine am ?_|refine IG a6 EV ?_)
 refine aO [1,9,10] (α:=Nat×AL) (fun i=>[(11,aP i.1)]) (fun i=>i.1≤l.length∧J i.1 i.2∧eg err l.length=ek err (l.length - i.1) i.1) (fun i=>i.2) (fun i=>l.length - i.1) (0,L0) rfl ⟨rfl,trivial⟩ ⟨Nat.zero_le _,h0,rfl⟩ (fun _ _ h=>h) ?_
 rintro ⟨i,L⟩ ⟨hi,hj,he⟩
 dsimp only at hi hj he ⊢
 try dsimp only [Jr,Jq,Jp,Jk]
 repeat' (first|refine go ?_|refine IG a6 EV ?_)
 refine au rfl (fun h=>?_) (fun h=>?_)
 ·have hil:i < l.length:=by have:=Jy h;simp at this;omega
  obtain ⟨z,hz⟩:∃z,l[i]?=some z:=⟨_,Jz hil⟩
  have hzg:=bA (c:=ct) hz
  repeat' (first|refine go ?_|refine am ?_|refine IG a6 EV ?_|(apply aV;first|refine aU a6 ?_|refine aN a6 ?_)|(apply aJ;first|refine II 7 a6 0 IF ?_|refine II 7 a6 1 IF ?_|refine II 7 a6 2 IF ?_|refine IH a6 0 IE ?_|refine IH a6 1 IE ?_|refine IH a6 2 IE ?_|refine IH a6 3 IE ?_|fail)|refine bc a6 fun _=>?_|fail)
  refine dx L [] (hw i z L hz hj) rfl hu rfl (ck rfl) rfl rfl fun c L1 ⟨hc,hj'⟩=>?_
  subst hc
  rw [List.append_nil]
  repeat' (first|refine go ?_|refine IG a6 EV ?_)
  refine au rfl (fun h2=>?_) (fun h2=>?_)
  ·have h2':=Jy h2
   repeat' (first|refine go ?_|refine IG a6 EV ?_)
   refine IU IB ?_
   rw [he,dz hil h2']
   rfl
  ·have h2':=Decidable.not_not.1 (Jx h2)
   repeat' (first|refine go ?_|refine IG a6 EV ?_|(apply aW;refine aT ?_)|fail)
   exact aB (i+1,L1) rfl ⟨by rw [Jv];rfl,trivial⟩ ⟨by dsimp only;omega,hj' h2',by rw [he];exact cW hil h2'⟩ (by dsimp only;omega) (fun _ _ h=>h)
 ·have hil:i=l.length:=by have:=Jx h;simp at this;omega
  subst hil
  repeat' (first|refine go ?_|refine IG a6 EV ?_)
  refine IU IB ?_
  rw [he,Nat.sub_self]
  rfl
theorem EH {g:FuncId} {caps:List AV} {u:AV} [bT Tryz.prog g] (hu:jV u=some (g,caps)) (l:List cD) (most:Int) (err:Nat→Int) (J:Nat→AL→Prop) (L0:AL) (h0:J 0 L0) (hw:(l.length:Int)≤most→∀i x L,l[i]?=some x→J i L→AC Tryz.prog g ([aP i,.agg (ct x)]++caps) L fun c L'=>c=aP (err i)∧(err i=0→J (i+1) L')):
  AC Tryz.prog 217 [.iptr [.imm 3 (l.map ct)],.iptr [aP most],.iptr [u]] L0 fun r _=>r=cE (dY most err l.length):=by
 refine aX Tryz.func217 rfl Tryz.ntmps217 rfl fun B=>?_
 repeat' (first|refine go ?_|refine IG a6 EV ?_)
 refine au rfl (fun h=>?_) (fun h=>?_)
 ·have h':=Jy h
  rw [Jt] at h'
  repeat' (first|refine go ?_|refine IG a6 EV ?_)
  refine IU IB ?_
  unfold dY
  rw [if_pos h']
  rfl
 ·have h':=Jx h
  rw [Jt] at h'
  repeat' (first|refine go ?_|refine IG a6 EV ?_)
  refine bn L0 [] (DN hu l err J L0 h0 (hw (by omega))) rfl (fQ hu) (ck rfl) rfl fun c L1 hc=>?_
  subst hc
  repeat' (first|refine go ?_|refine IG a6 EV ?_)
  refine IU IB ?_
  unfold dY
  rw [if_neg h']
  rfl
theorem Hn {g:FuncId} {caps:List AV} (l:List cD) (most:Int):bZ Tryz.prog 162 [.imm 3 (l.map ct),aP most,.fn g caps] (.fn 217 [.iptr [.imm 3 (l.map ct)],.iptr [aP most],.iptr [.fn g caps]]):=by
 refine aX Tryz.func162 rfl Tryz.ntmps162 rfl fun B=>?_
 repeat' (first|refine go ?_|refine IG a6 EV ?_|refine bD ?_|fail)
 exact IP IB
instance {g:FuncId} {caps:List AV} (l:List cD) (most:Int):AD Tryz.prog 162 [.imm 3 (l.map ct),aP most,.fn g caps] (.fn 217 [.iptr [.imm 3 (l.map ct)],.iptr [aP most],.iptr [.fn g caps]]):=⟨Hn l most⟩
theorem DO {g:FuncId} {caps:List AV} {u:AV} [bT Tryz.prog g] (hu:jV u=some (g,caps)) (l:List dv) (err:Nat→Int) (J:Nat→AL→Prop) (L0:AL) (h0:J 0 L0) (hw:∀i x L,l[i]?=some x→J i L→AC Tryz.prog g ([aP i,.agg (cB x)]++caps) L fun c L'=>c=aP (err i)∧(err i=0→J (i+1) L')):
  AC Tryz.prog 220 [.imm 4 (l.map cB),u] L0 fun r _=>r=cE (eg err l.length):=by
 refine aX Tryz.func220 rfl Tryz.ntmps220 rfl fun B=>?_
 refine cN 0 rfl rfl fun hlen=>?_
 rw [Jt] at hlen
 repeat' (first|refine go ?_|refine am ?_|refine IG a6 EV ?_)
 refine aO [1,9,10] (α:=Nat×AL) (fun i=>[(11,aP i.1)]) (fun i=>i.1≤l.length∧J i.1 i.2∧eg err l.length=ek err (l.length - i.1) i.1) (fun i=>i.2) (fun i=>l.length - i.1) (0,L0) rfl ⟨rfl,trivial⟩ ⟨Nat.zero_le _,h0,rfl⟩ (fun _ _ h=>h) ?_
 rintro ⟨i,L⟩ ⟨hi,hj,he⟩
 dsimp only at hi hj he ⊢
 try dsimp only [Jr,Jq,Jp,Jk]
 repeat' (first|refine go ?_|refine IG a6 EV ?_)
 refine au rfl (fun h=>?_) (fun h=>?_)
 ·have hil:i < l.length:=by have:=Jy h;simp at this;omega
  obtain ⟨z,hz⟩:∃z,l[i]?=some z:=⟨_,Jz hil⟩
  have hzg:=bA (c:=cB) hz
  repeat' (first|refine go ?_|refine am ?_|refine IG a6 EV ?_|(apply aV;first|refine aU a6 ?_|refine aN a6 ?_)|(apply aJ;first|refine II 7 a6 0 IF ?_|refine II 7 a6 1 IF ?_|refine II 7 a6 2 IF ?_|refine IH a6 0 IE ?_|refine IH a6 1 IE ?_|refine IH a6 2 IE ?_|refine IH a6 3 IE ?_|fail)|refine bc a6 fun _=>?_|fail)
  refine dx L [] (hw i z L hz hj) rfl hu rfl (ck rfl) rfl rfl fun c L1 ⟨hc,hj'⟩=>?_
  subst hc
  rw [List.append_nil]
  repeat' (first|refine go ?_|refine IG a6 EV ?_)
  refine au rfl (fun h2=>?_) (fun h2=>?_)
  ·have h2':=Jy h2
   repeat' (first|refine go ?_|refine IG a6 EV ?_)
   refine IU IB ?_
   rw [he,dz hil h2']
   rfl
  ·have h2':=Decidable.not_not.1 (Jx h2)
   repeat' (first|refine go ?_|refine IG a6 EV ?_|(apply aW;refine aT ?_)|fail)
   exact aB (i+1,L1) rfl ⟨by rw [Jv];rfl,trivial⟩ ⟨by dsimp only;omega,hj' h2',by rw [he];exact cW hil h2'⟩ (by dsimp only;omega) (fun _ _ h=>h)
 ·have hil:i=l.length:=by have:=Jx h;simp at this;omega
  subst hil
  repeat' (first|refine go ?_|refine IG a6 EV ?_)
  refine IU IB ?_
  rw [he,Nat.sub_self]
  rfl
theorem EI {g:FuncId} {caps:List AV} {u:AV} [bT Tryz.prog g] (hu:jV u=some (g,caps)) (l:List dv) (most:Int) (err:Nat→Int) (J:Nat→AL→Prop) (L0:AL) (h0:J 0 L0) (hw:(l.length:Int)≤most→∀i x L,l[i]?=some x→J i L→AC Tryz.prog g ([aP i,.agg (cB x)]++caps) L fun c L'=>c=aP (err i)∧(err i=0→J (i+1) L')):
  AC Tryz.prog 219 [.iptr [.imm 4 (l.map cB)],.iptr [aP most],.iptr [u]] L0 fun r _=>r=cE (dY most err l.length):=by
 refine aX Tryz.func219 rfl Tryz.ntmps219 rfl fun B=>?_
 repeat' (first|refine go ?_|refine IG a6 EV ?_)
 refine au rfl (fun h=>?_) (fun h=>?_)
 ·have h':=Jy h
  rw [Jt] at h'
  repeat' (first|refine go ?_|refine IG a6 EV ?_)
  refine IU IB ?_
  unfold dY
  rw [if_pos h']
  rfl
 ·have h':=Jx h
  rw [Jt] at h'
  repeat' (first|refine go ?_|refine IG a6 EV ?_)
  refine bn L0 [] (DO hu l err J L0 h0 (hw (by omega))) rfl (fQ hu) (ck rfl) rfl fun c L1 hc=>?_
  subst hc
  repeat' (first|refine go ?_|refine IG a6 EV ?_)
  refine IU IB ?_
  unfold dY
  rw [if_neg h']
  rfl
theorem Ho {g:FuncId} {caps:List AV} (l:List dv) (most:Int):bZ Tryz.prog 165 [.imm 4 (l.map cB),aP most,.fn g caps] (.fn 219 [.iptr [.imm 4 (l.map cB)],.iptr [aP most],.iptr [.fn g caps]]):=by
 refine aX Tryz.func165 rfl Tryz.ntmps165 rfl fun B=>?_
 repeat' (first|refine go ?_|refine IG a6 EV ?_|refine bD ?_|fail)
 exact IP IB
instance {g:FuncId} {caps:List AV} (l:List dv) (most:Int):AD Tryz.prog 165 [.imm 4 (l.map cB),aP most,.fn g caps] (.fn 219 [.iptr [.imm 4 (l.map cB)],.iptr [aP most],.iptr [.fn g caps]]):=⟨Ho l most⟩
theorem DP {g:FuncId} {caps:List AV} {u:AV} [bT Tryz.prog g] (hu:jV u=some (g,caps)) (l:List dK) (err:Nat→Int) (J:Nat→AL→Prop) (L0:AL) (h0:J 0 L0) (hw:∀i x L,l[i]?=some x→J i L→AC Tryz.prog g ([aP i,.agg (dm x)]++caps) L fun c L'=>c=aP (err i)∧(err i=0→J (i+1) L')):
  AC Tryz.prog 223 [.imm 4 (l.map dm),u] L0 fun r _=>r=cE (eg err l.length):=by
 refine aX Tryz.func223 rfl Tryz.ntmps223 rfl fun B=>?_
 refine cN 0 rfl rfl fun hlen=>?_
 rw [Jt] at hlen
 repeat' (first|refine go ?_|refine am ?_|refine IG a6 EV ?_)
 refine aO [1,9,10] (α:=Nat×AL) (fun i=>[(11,aP i.1)]) (fun i=>i.1≤l.length∧J i.1 i.2∧eg err l.length=ek err (l.length - i.1) i.1) (fun i=>i.2) (fun i=>l.length - i.1) (0,L0) rfl ⟨rfl,trivial⟩ ⟨Nat.zero_le _,h0,rfl⟩ (fun _ _ h=>h) ?_
 rintro ⟨i,L⟩ ⟨hi,hj,he⟩
 dsimp only at hi hj he ⊢
 try dsimp only [Jr,Jq,Jp,Jk]
 repeat' (first|refine go ?_|refine IG a6 EV ?_)
 refine au rfl (fun h=>?_) (fun h=>?_)
 ·have hil:i < l.length:=by have:=Jy h;simp at this;omega
  obtain ⟨z,hz⟩:∃z,l[i]?=some z:=⟨_,Jz hil⟩
  have hzg:=bA (c:=dm) hz
  repeat' (first|refine go ?_|refine am ?_|refine IG a6 EV ?_|(apply aV;first|refine aU a6 ?_|refine aN a6 ?_)|(apply aJ;first|refine II 7 a6 0 IF ?_|refine II 7 a6 1 IF ?_|refine II 7 a6 2 IF ?_|refine IH a6 0 IE ?_|refine IH a6 1 IE ?_|refine IH a6 2 IE ?_|refine IH a6 3 IE ?_|fail)|refine bc a6 fun _=>?_|fail)
  refine dx L [] (hw i z L hz hj) rfl hu rfl (ck rfl) rfl rfl fun c L1 ⟨hc,hj'⟩=>?_
  subst hc
  rw [List.append_nil]
  repeat' (first|refine go ?_|refine IG a6 EV ?_)
  refine au rfl (fun h2=>?_) (fun h2=>?_)
  ·have h2':=Jy h2
   repeat' (first|refine go ?_|refine IG a6 EV ?_)
   refine IU IB ?_
   rw [he,dz hil h2']
   rfl
  ·have h2':=Decidable.not_not.1 (Jx h2)
   repeat' (first|refine go ?_|refine IG a6 EV ?_|(apply aW;refine aT ?_)|fail)
   exact aB (i+1,L1) rfl ⟨by rw [Jv];rfl,trivial⟩ ⟨by dsimp only;omega,hj' h2',by rw [he];exact cW hil h2'⟩ (by dsimp only;omega) (fun _ _ h=>h)
 ·have hil:i=l.length:=by have:=Jx h;simp at this;omega
  subst hil
  repeat' (first|refine go ?_|refine IG a6 EV ?_)
  refine IU IB ?_
  rw [he,Nat.sub_self]
  rfl
theorem EJ {g:FuncId} {caps:List AV} {u:AV} [bT Tryz.prog g] (hu:jV u=some (g,caps)) (l:List dK) (most:Int) (err:Nat→Int) (J:Nat→AL→Prop) (L0:AL) (h0:J 0 L0) (hw:(l.length:Int)≤most→∀i x L,l[i]?=some x→J i L→AC Tryz.prog g ([aP i,.agg (dm x)]++caps) L fun c L'=>c=aP (err i)∧(err i=0→J (i+1) L')):
  AC Tryz.prog 222 [.iptr [.imm 4 (l.map dm)],.iptr [aP most],.iptr [u]] L0 fun r _=>r=cE (dY most err l.length):=by
 refine aX Tryz.func222 rfl Tryz.ntmps222 rfl fun B=>?_
 repeat' (first|refine go ?_|refine IG a6 EV ?_)
 refine au rfl (fun h=>?_) (fun h=>?_)
 ·have h':=Jy h
  rw [Jt] at h'
  repeat' (first|refine go ?_|refine IG a6 EV ?_)
  refine IU IB ?_
  unfold dY
  rw [if_pos h']
  rfl
 ·have h':=Jx h
  rw [Jt] at h'
  repeat' (first|refine go ?_|refine IG a6 EV ?_)
  refine bn L0 [] (DP hu l err J L0 h0 (hw (by omega))) rfl (fQ hu) (ck rfl) rfl fun c L1 hc=>?_
  subst hc
  repeat' (first|refine go ?_|refine IG a6 EV ?_)
  refine IU IB ?_
  unfold dY
  rw [if_neg h']
  rfl
theorem Hp {g:FuncId} {caps:List AV} (l:List dK) (most:Int):bZ Tryz.prog 167 [.imm 4 (l.map dm),aP most,.fn g caps] (.fn 222 [.iptr [.imm 4 (l.map dm)],.iptr [aP most],.iptr [.fn g caps]]):=by
 refine aX Tryz.func167 rfl Tryz.ntmps167 rfl fun B=>?_
 repeat' (first|refine go ?_|refine IG a6 EV ?_|refine bD ?_|fail)
 exact IP IB
instance {g:FuncId} {caps:List AV} (l:List dK) (most:Int):AD Tryz.prog 167 [.imm 4 (l.map dm),aP most,.fn g caps] (.fn 222 [.iptr [.imm 4 (l.map dm)],.iptr [aP most],.iptr [.fn g caps]]):=⟨Hp l most⟩
theorem DQ {g:FuncId} {caps:List AV} {u:AV} [bT Tryz.prog g] (hu:jV u=some (g,caps)) (l:List (List Int)) (err:Nat→Int) (J:Nat→AL→Prop) (L0:AL) (h0:J 0 L0) (hw:∀i x L,l[i]?=some x→J i L→AC Tryz.prog g ([aP i,.imm 1 (aS x)]++caps) L fun c L'=>c=aP (err i)∧(err i=0→J (i+1) L')):
  AC Tryz.prog 231 [.imm 1 (l.map mS),u] L0 fun r _=>r=cE (eg err l.length):=by
 refine aX Tryz.func231 rfl Tryz.ntmps231 rfl fun B=>?_
 refine cN 0 rfl rfl fun hlen=>?_
 rw [Jt] at hlen
 repeat' (first|refine go ?_|refine am ?_|refine IG a6 EV ?_)
 refine aO [1,9,10] (α:=Nat×AL) (fun i=>[(11,aP i.1)]) (fun i=>i.1≤l.length∧J i.1 i.2∧eg err l.length=ek err (l.length - i.1) i.1) (fun i=>i.2) (fun i=>l.length - i.1) (0,L0) rfl ⟨rfl,trivial⟩ ⟨Nat.zero_le _,h0,rfl⟩ (fun _ _ h=>h) ?_
 rintro ⟨i,L⟩ ⟨hi,hj,he⟩
 dsimp only at hi hj he ⊢
 try dsimp only [Jr,Jq,Jp,Jk]
 repeat' (first|refine go ?_|refine IG a6 EV ?_)
 refine au rfl (fun h=>?_) (fun h=>?_)
 ·have hil:i < l.length:=by have:=Jy h;simp at this;omega
  obtain ⟨z,hz⟩:∃z,l[i]?=some z:=⟨_,Jz hil⟩
  have hzg:=bA (c:=mS) hz
  repeat' (first|refine go ?_|refine am ?_|refine IG a6 EV ?_|(apply aV;first|refine aU a6 ?_|refine aN a6 ?_)|fail)
  refine dx L [] (hw i z L hz hj) rfl hu rfl (ck rfl) rfl rfl fun c L1 ⟨hc,hj'⟩=>?_
  subst hc
  rw [List.append_nil]
  repeat' (first|refine go ?_|refine IG a6 EV ?_)
  refine au rfl (fun h2=>?_) (fun h2=>?_)
  ·have h2':=Jy h2
   repeat' (first|refine go ?_|refine IG a6 EV ?_)
   refine IU IB ?_
   rw [he,dz hil h2']
   rfl
  ·have h2':=Decidable.not_not.1 (Jx h2)
   repeat' (first|refine go ?_|refine IG a6 EV ?_|(apply aW;refine aT ?_)|fail)
   exact aB (i+1,L1) rfl ⟨by rw [Jv];rfl,trivial⟩ ⟨by dsimp only;omega,hj' h2',by rw [he];exact cW hil h2'⟩ (by dsimp only;omega) (fun _ _ h=>h)
 ·have hil:i=l.length:=by have:=Jx h;simp at this;omega
  subst hil
  repeat' (first|refine go ?_|refine IG a6 EV ?_)
  refine IU IB ?_
  rw [he,Nat.sub_self]
  rfl
theorem DR {g:FuncId} {caps:List AV} {u:AV} [bT Tryz.prog g] (hu:jV u=some (g,caps)) (l:List ep) (err:Nat→Int) (J:Nat→AL→Prop) (L0:AL) (h0:J 0 L0) (hw:∀i x L,l[i]?=some x→J i L→AC Tryz.prog g ([aP i,.agg (ea x)]++caps) L fun c L'=>c=aP (err i)∧(err i=0→J (i+1) L')):
  AC Tryz.prog 243 [.imm 2 (l.map ea),u] L0 fun r _=>r=cE (eg err l.length):=by
 refine aX Tryz.func243 rfl Tryz.ntmps243 rfl fun B=>?_
 refine cN 0 rfl rfl fun hlen=>?_
 rw [Jt] at hlen
 repeat' (first|refine go ?_|refine am ?_|refine IG a6 EV ?_)
 refine aO [1,9,10] (α:=Nat×AL) (fun i=>[(11,aP i.1)]) (fun i=>i.1≤l.length∧J i.1 i.2∧eg err l.length=ek err (l.length - i.1) i.1) (fun i=>i.2) (fun i=>l.length - i.1) (0,L0) rfl ⟨rfl,trivial⟩ ⟨Nat.zero_le _,h0,rfl⟩ (fun _ _ h=>h) ?_
 rintro ⟨i,L⟩ ⟨hi,hj,he⟩
 dsimp only at hi hj he ⊢
 try dsimp only [Jr,Jq,Jp,Jk]
 repeat' (first|refine go ?_|refine IG a6 EV ?_)
 refine au rfl (fun h=>?_) (fun h=>?_)
 ·have hil:i < l.length:=by have:=Jy h;simp at this;omega
  obtain ⟨z,hz⟩:∃z,l[i]?=some z:=⟨_,Jz hil⟩
  have hzg:=bA (c:=ea) hz
  repeat' (first|refine go ?_|refine am ?_|refine IG a6 EV ?_|(apply aV;first|refine aU a6 ?_|refine aN a6 ?_)|(apply aJ;first|refine II 7 a6 0 IF ?_|refine II 7 a6 1 IF ?_|refine II 7 a6 2 IF ?_|refine IH a6 0 IE ?_|refine IH a6 1 IE ?_|refine IH a6 2 IE ?_|refine IH a6 3 IE ?_|fail)|refine bc a6 fun _=>?_|fail)
  refine dx L [] (hw i z L hz hj) rfl hu rfl (ck rfl) rfl rfl fun c L1 ⟨hc,hj'⟩=>?_
  subst hc
  rw [List.append_nil]
  repeat' (first|refine go ?_|refine IG a6 EV ?_)
  refine au rfl (fun h2=>?_) (fun h2=>?_)
  ·have h2':=Jy h2
   repeat' (first|refine go ?_|refine IG a6 EV ?_)
   refine IU IB ?_
   rw [he,dz hil h2']
   rfl
  ·have h2':=Decidable.not_not.1 (Jx h2)
   repeat' (first|refine go ?_|refine IG a6 EV ?_|(apply aW;refine aT ?_)|fail)
   exact aB (i+1,L1) rfl ⟨by rw [Jv];rfl,trivial⟩ ⟨by dsimp only;omega,hj' h2',by rw [he];exact cW hil h2'⟩ (by dsimp only;omega) (fun _ _ h=>h)
 ·have hil:i=l.length:=by have:=Jx h;simp at this;omega
  subst hil
  repeat' (first|refine go ?_|refine IG a6 EV ?_)
  refine IU IB ?_
  rw [he,Nat.sub_self]
  rfl
theorem EK {g:FuncId} {caps:List AV} {u:AV} [bT Tryz.prog g] (hu:jV u=some (g,caps)) (l:List ep) (most:Int) (err:Nat→Int) (J:Nat→AL→Prop) (L0:AL) (h0:J 0 L0) (hw:(l.length:Int)≤most→∀i x L,l[i]?=some x→J i L→AC Tryz.prog g ([aP i,.agg (ea x)]++caps) L fun c L'=>c=aP (err i)∧(err i=0→J (i+1) L')):
  AC Tryz.prog 242 [.iptr [.imm 2 (l.map ea)],.iptr [aP most],.iptr [u]] L0 fun r _=>r=cE (dY most err l.length):=by
 refine aX Tryz.func242 rfl Tryz.ntmps242 rfl fun B=>?_
 repeat' (first|refine go ?_|refine IG a6 EV ?_)
 refine au rfl (fun h=>?_) (fun h=>?_)
 ·have h':=Jy h
  rw [Jt] at h'
  repeat' (first|refine go ?_|refine IG a6 EV ?_)
  refine IU IB ?_
  unfold dY
  rw [if_pos h']
  rfl
 ·have h':=Jx h
  rw [Jt] at h'
  repeat' (first|refine go ?_|refine IG a6 EV ?_)
  refine bn L0 [] (DR hu l err J L0 h0 (hw (by omega))) rfl (fQ hu) (ck rfl) rfl fun c L1 hc=>?_
  subst hc
  repeat' (first|refine go ?_|refine IG a6 EV ?_)
  refine IU IB ?_
  unfold dY
  rw [if_neg h']
  rfl
theorem Gd {g:FuncId} (l:List ep) (most:Int):bZ Tryz.prog 198 [.imm 2 (l.map ea),aP most,.sc (.func (.func g) #[] #[])] (.fn 242 [.iptr [.imm 2 (l.map ea)],.iptr [aP most],.iptr [.sc (.func (.func g) #[] #[])]]):=by
 refine aX Tryz.func198 rfl Tryz.ntmps198 rfl fun B=>?_
 repeat' (first|refine go ?_|refine IG a6 EV ?_|refine bD ?_|fail)
 exact IP IB
instance {g:FuncId} (l:List ep) (most:Int):AD Tryz.prog 198 [.imm 2 (l.map ea),aP most,.sc (.func (.func g) #[] #[])] (.fn 242 [.iptr [.imm 2 (l.map ea)],.iptr [aP most],.iptr [.sc (.func (.func g) #[] #[])]]):=⟨Gd l most⟩
theorem DS {g:FuncId} {caps:List AV} {u:AV} [bT Tryz.prog g] (hu:jV u=some (g,caps)) (l:List gy) (err:Nat→Int) (J:Nat→AL→Prop) (L0:AL) (h0:J 0 L0) (hw:∀i x L,l[i]?=some x→J i L→AC Tryz.prog g ([aP i,.agg (dI x)]++caps) L fun c L'=>c=aP (err i)∧(err i=0→J (i+1) L')):
  AC Tryz.prog 259 [.imm 2 (l.map dI),u] L0 fun r _=>r=cE (eg err l.length):=by
 refine aX Tryz.func259 rfl Tryz.ntmps259 rfl fun B=>?_
 refine cN 0 rfl rfl fun hlen=>?_
 rw [Jt] at hlen
 repeat' (first|refine go ?_|refine am ?_|refine IG a6 EV ?_)
 refine aO [1,9,10] (α:=Nat×AL) (fun i=>[(11,aP i.1)]) (fun i=>i.1≤l.length∧J i.1 i.2∧eg err l.length=ek err (l.length - i.1) i.1) (fun i=>i.2) (fun i=>l.length - i.1) (0,L0) rfl ⟨rfl,trivial⟩ ⟨Nat.zero_le _,h0,rfl⟩ (fun _ _ h=>h) ?_
 rintro ⟨i,L⟩ ⟨hi,hj,he⟩
 dsimp only at hi hj he ⊢
 try dsimp only [Jr,Jq,Jp,Jk]
 repeat' (first|refine go ?_|refine IG a6 EV ?_)
 refine au rfl (fun h=>?_) (fun h=>?_)
 ·have hil:i < l.length:=by have:=Jy h;simp at this;omega
  obtain ⟨z,hz⟩:∃z,l[i]?=some z:=⟨_,Jz hil⟩
  have hzg:=bA (c:=dI) hz
  repeat' (first|refine go ?_|refine am ?_|refine IG a6 EV ?_|(apply aV;first|refine aU a6 ?_|refine aN a6 ?_)|(apply aJ;first|refine II 7 a6 0 IF ?_|refine II 7 a6 1 IF ?_|refine II 7 a6 2 IF ?_|refine IH a6 0 IE ?_|refine IH a6 1 IE ?_|refine IH a6 2 IE ?_|refine IH a6 3 IE ?_|fail)|refine bc a6 fun _=>?_|fail)
  refine dx L [] (hw i z L hz hj) rfl hu rfl (ck rfl) rfl rfl fun c L1 ⟨hc,hj'⟩=>?_
  subst hc
  rw [List.append_nil]
  repeat' (first|refine go ?_|refine IG a6 EV ?_)
  refine au rfl (fun h2=>?_) (fun h2=>?_)
  ·have h2':=Jy h2
   repeat' (first|refine go ?_|refine IG a6 EV ?_)
   refine IU IB ?_
   rw [he,dz hil h2']
   rfl
  ·have h2':=Decidable.not_not.1 (Jx h2)
   repeat' (first|refine go ?_|refine IG a6 EV ?_|(apply aW;refine aT ?_)|fail)
   exact aB (i+1,L1) rfl ⟨by rw [Jv];rfl,trivial⟩ ⟨by dsimp only;omega,hj' h2',by rw [he];exact cW hil h2'⟩ (by dsimp only;omega) (fun _ _ h=>h)
 ·have hil:i=l.length:=by have:=Jx h;simp at this;omega
  subst hil
  repeat' (first|refine go ?_|refine IG a6 EV ?_)
  refine IU IB ?_
  rw [he,Nat.sub_self]
  rfl
theorem mW {g:FuncId} {caps:List AV} {u:AV} [bT Tryz.prog g] (hu:jV u=some (g,caps)) (l:List Int) (err:Nat→Int) (J:Nat→AL→Prop) (L0:AL) (h0:J 0 L0) (hw:∀i x L,l[i]?=some x→J i L→AC Tryz.prog g ([aP i,aP x]++caps) L fun c L'=>c=aP (err i)∧(err i=0→J (i+1) L')):
  AC Tryz.prog 173 [.imm 1 (l.map gO),u] L0 fun r _=>r=cE (eg err l.length):=by
 refine aX Tryz.func173 rfl Tryz.ntmps173 rfl fun B=>?_
 refine cN 0 rfl rfl fun hlen=>?_
 rw [Jt] at hlen
 repeat' (first|refine go ?_|refine am ?_|refine IG a6 EV ?_)
 refine aO [1,9,10] (α:=Nat×AL) (fun i=>[(11,aP i.1)]) (fun i=>i.1≤l.length∧J i.1 i.2∧eg err l.length=ek err (l.length - i.1) i.1) (fun i=>i.2) (fun i=>l.length - i.1) (0,L0) rfl ⟨rfl,trivial⟩ ⟨Nat.zero_le _,h0,rfl⟩ (fun _ _ h=>h) ?_
 rintro ⟨i,L⟩ ⟨hi,hj,he⟩
 dsimp only at hi hj he ⊢
 try dsimp only [Jr,Jq,Jp,Jk]
 repeat' (first|refine go ?_|refine IG a6 EV ?_)
 refine au rfl (fun h=>?_) (fun h=>?_)
 ·have hil:i < l.length:=by have:=Jy h;simp at this;omega
  obtain ⟨z,hz⟩:∃z,l[i]?=some z:=⟨_,Jz hil⟩
  have hzg:=bA (c:=gO) hz
  repeat' (first|refine go ?_|refine am ?_|refine IG a6 EV ?_|(apply aV;first|refine aU a6 ?_|refine aN a6 ?_)|fail)
  refine dx L [] (hw i z L hz hj) rfl hu rfl (ck rfl) rfl rfl fun c L1 ⟨hc,hj'⟩=>?_
  subst hc
  rw [List.append_nil]
  repeat' (first|refine go ?_|refine IG a6 EV ?_)
  refine au rfl (fun h2=>?_) (fun h2=>?_)
  ·have h2':=Jy h2
   repeat' (first|refine go ?_|refine IG a6 EV ?_)
   refine IU IB ?_
   rw [he,dz hil h2']
   rfl
  ·have h2':=Decidable.not_not.1 (Jx h2)
   repeat' (first|refine go ?_|refine IG a6 EV ?_|(apply aW;refine aT ?_)|fail)
   exact aB (i+1,L1) rfl ⟨by rw [Jv];rfl,trivial⟩ ⟨by dsimp only;omega,hj' h2',by rw [he];exact cW hil h2'⟩ (by dsimp only;omega) (fun _ _ h=>h)
 ·have hil:i=l.length:=by have:=Jx h;simp at this;omega
  subst hil
  repeat' (first|refine go ?_|refine IG a6 EV ?_)
  refine IU IB ?_
  rw [he,Nat.sub_self]
  rfl
theorem EG {g:FuncId} {caps:List AV} {u:AV} [bT Tryz.prog g] (hu:jV u=some (g,caps)) (l:List Int) (most:Int) (err:Nat→Int) (J:Nat→AL→Prop) (L0:AL) (h0:J 0 L0) (hw:(l.length:Int)≤most→∀i x L,l[i]?=some x→J i L→AC Tryz.prog g ([aP i,aP x]++caps) L fun c L'=>c=aP (err i)∧(err i=0→J (i+1) L')):
  AC Tryz.prog 200 [.iptr [.imm 1 (l.map gO)],.iptr [aP most],.iptr [u]] L0 fun r _=>r=cE (dY most err l.length):=by
 refine aX Tryz.func200 rfl Tryz.ntmps200 rfl fun B=>?_
 repeat' (first|refine go ?_|refine IG a6 EV ?_)
 refine au rfl (fun h=>?_) (fun h=>?_)
 ·have h':=Jy h
  rw [Jt] at h'
  repeat' (first|refine go ?_|refine IG a6 EV ?_)
  refine IU IB ?_
  unfold dY
  rw [if_pos h']
  rfl
 ·have h':=Jx h
  rw [Jt] at h'
  repeat' (first|refine go ?_|refine IG a6 EV ?_)
  refine bn L0 [] (mW hu l err J L0 h0 (hw (by omega))) rfl (fQ hu) (ck rfl) rfl fun c L1 hc=>?_
  subst hc
  repeat' (first|refine go ?_|refine IG a6 EV ?_)
  refine IU IB ?_
  unfold dY
  rw [if_neg h']
  rfl
theorem BV {g:FuncId} (l:List Int) (most:Int):bZ Tryz.prog 142 [.imm 1 (l.map gO),aP most,.sc (.func (.func g) #[] #[])] (.fn 200 [.iptr [.imm 1 (l.map gO)],.iptr [aP most],.iptr [.sc (.func (.func g) #[] #[])]]):=by
 refine aX Tryz.func142 rfl Tryz.ntmps142 rfl fun B=>?_
 repeat' (first|refine go ?_|refine IG a6 EV ?_|refine bD ?_|fail)
 exact IP IB
end Go.Proofs.YtjjpkibjffmceaaGreat
