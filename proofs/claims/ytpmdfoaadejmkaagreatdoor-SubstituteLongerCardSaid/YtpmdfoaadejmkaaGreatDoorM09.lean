/-
  The program: looks at things, one by one.
-/
import Derived.Test.YtpmdfoaadejmkaaGreatDoorM06
import Derived.Test.YtpmdfoaadejmkaaGreatDoorM08
import Derived.Test.YtpmdfoaadejmkaaGreatDoorM05
namespace Go.Proofs.YtpmdfoaadejmkaaGreatDoor
open Go.RowKit
attribute [local irreducible] AT br AX AO Av Kt bb df DA cC
def cY (err:Nat→Int):Nat→Nat→Int×Int
 | 0,_=>(0,0)
 | k+1,i=>if err i=0 then cY err k (i+1) else (err i,i)
def d4 (err:Nat→Int) (n:Nat):Int×Int:=cY err n 0
def cV (most:Int) (err:Nat→Int) (n:Nat):Int×Int:=if (n:Int) > most then (2,0) else d4 err n
def ck (p:Int×Int):AV:= .tup [aF p.1,aF p.2]
theorem co {err:Nat→Int} {n i:Nat} (hi:i < n) (h:err i=0):cY err (n - i) i=cY err (n - (i+1)) (i+1):=by
 rw [show n - i=(n - (i+1))+1 by omega]
 simp only [cY,h,if_true]
theorem cF {err:Nat→Int} {n i:Nat} (hi:i < n) (h:err i≠0):cY err (n - i) i=(err i,(i:Int)):=by
 rw [show n - i=(n - (i+1))+1 by omega]
 simp only [cY,h,if_false]
theorem pw {err:Nat→Int}:∀(k i:Nat),(∀j,i≤j→j < i+k→err j=0)→cY err k i=(0,0)
 | 0,_,_=>rfl
 | k+1,i,h=>by
  simp only [cY]
  rw [if_pos (h i (Nat.le_refl _) (by omega))]
  exact pw k (i+1) fun j h1 h2=>h j (by omega) (by omega)
theorem qY {err:Nat→Int} {n:Nat} (h:∀i,i < n→err i=0):d4 err n=(0,0):=pw n 0 fun j _ hj=>h j (by omega)
theorem yT {most:Int} {err:Nat→Int} {n:Nat} (hm:(n:Int)≤most) (h:∀i,i < n→err i=0):cV most err n=(0,0):=by
 unfold cV
 rw [if_neg (by omega),qY h]
def Ge (q:List Int):List AV:=[.imm 1 (aT q)]
def xI (z:Int):List AV:=[aF z]
theorem fF {g:FuncId} {caps:List AV} {u:AV} (hu:k6 u=some (g,caps)) {s:Nat} {l:List (List AV)}:lh [.imm s l,u]=some [.imm s l,u]:=by
 unfold k6 at hu
 split at hu <;> first | rfl | cases hu
theorem c7 {L L':AL} (h:L=L'):L.Perm (L'++[]):=by rw [List.append_nil,h]
def HF (P:Program) (g:FuncId) (caps:List AV) (n:Nat) (arg:Nat→AV) (err:Nat→Int) (J:Nat→AL→Prop):Prop:=∀i L,i < n→J i L→AC P g ([aF i,arg i]++caps) L fun c L'=>c=aF (err i)∧(err i=0→J (i+1) L')
theorem CT {g:FuncId} {caps:List AV} {u:AV} [bB Tryz.prog g] (hu:k6 u=some (g,caps)) (l:List bj) (err:Nat→Int) (J:Nat→AL→Prop) (L0:AL) (h0:J 0 L0) (hw:∀i x L,l[i]?=some x→J i L→AC Tryz.prog g ([aF i,.agg (bL x)]++caps) L fun c L'=>c=aF (err i)∧(err i=0→J (i+1) L')):
  AC Tryz.prog 113 [.imm 9 (l.map bL),u] L0 fun r _=>r=ck (d4 err l.length):=by
 refine aN Tryz.func113 rfl Tryz.ntmps113 rfl fun B=>?_
 refine cK 0 rfl rfl fun hlen=>?_
 rw [Iu] at hlen
 repeat' (first|refine If ?_|refine ak ?_|refine IF a5 FN ?_)
 refine aO [1,9,10] (α:=Nat×AL) (fun i=>[(11,aF i.1)]) (fun i=>i.1≤l.length∧J i.1 i.2∧d4 err l.length=cY err (l.length - i.1) i.1) (fun i=>i.2) (fun i=>l.length - i.1) (0,L0) rfl ⟨rfl,trivial⟩ ⟨Nat.zero_le _,h0,rfl⟩ (fun _ _ h=>h) ?_
 rintro ⟨i,L⟩ ⟨hi,hj,he⟩
 dsimp only at hi hj he ⊢
 try dsimp only [Is,Ir,Iq,Ik]
 repeat' (first|refine If ?_|refine IF a5 FN ?_)
 refine aq rfl (fun h=>?_) (fun h=>?_)
 ·have hil:i < l.length:=by have:=Iy h;simp at this;omega
  obtain ⟨z,hz⟩:∃z,l[i]?=some z:=⟨_,Iz hil⟩
  have hzg:=cw (c:=bL) hz
  repeat' (first|refine If ?_|refine ak ?_|refine IF a5 FN ?_|(apply aS;first|refine aR a5 ?_|refine aH a5 ?_)|(apply aM;first|refine IH 7 a5 0 IE ?_|refine IH 7 a5 1 IE ?_|refine IH 7 a5 2 IE ?_|refine IG a5 0 ID ?_|refine IG a5 1 ID ?_|refine IG a5 2 ID ?_|refine IG a5 3 ID ?_|fail)|refine bh a5 fun _=>?_|fail)
  refine dh L [] (hw i z L hz hj) rfl hu rfl (c7 rfl) rfl rfl fun c L1 ⟨hc,hj'⟩=>?_
  subst hc
  rw [List.append_nil]
  repeat' (first|refine If ?_|refine IF a5 FN ?_)
  refine aq rfl (fun h2=>?_) (fun h2=>?_)
  ·have h2':=Iy h2
   repeat' (first|refine If ?_|refine IF a5 FN ?_)
   refine IS IA ?_
   rw [he,cF hil h2']
   rfl
  ·have h2':=Decidable.not_not.1 (Ix h2)
   repeat' (first|refine If ?_|refine IF a5 FN ?_|(apply aV;refine aU ?_)|fail)
   exact aD (i+1,L1) rfl ⟨by rw [Iv];rfl,trivial⟩ ⟨by dsimp only;omega,hj' h2',by rw [he];exact co hil h2'⟩ (by dsimp only;omega) (fun _ _ h=>h)
 ·have hil:i=l.length:=by have:=Ix h;simp at this;omega
  subst hil
  repeat' (first|refine If ?_|refine IF a5 FN ?_)
  refine IS IA ?_
  rw [he,Nat.sub_self]
  rfl
theorem DG {g:FuncId} {caps:List AV} {u:AV} [bB Tryz.prog g] (hu:k6 u=some (g,caps)) (l:List bj) (most:Int) (err:Nat→Int) (J:Nat→AL→Prop) (L0:AL) (h0:J 0 L0) (hw:(l.length:Int)≤most→∀i x L,l[i]?=some x→J i L→AC Tryz.prog g ([aF i,.agg (bL x)]++caps) L fun c L'=>c=aF (err i)∧(err i=0→J (i+1) L')):
  AC Tryz.prog 112 [.iptr [.imm 9 (l.map bL)],.iptr [aF most],.iptr [u]] L0 fun r _=>r=ck (cV most err l.length):=by
 refine aN Tryz.func112 rfl Tryz.ntmps112 rfl fun B=>?_
 repeat' (first|refine If ?_|refine IF a5 FN ?_)
 refine aq rfl (fun h=>?_) (fun h=>?_)
 ·have h':=Iy h
  rw [Iu] at h'
  repeat' (first|refine If ?_|refine IF a5 FN ?_)
  refine IS IA ?_
  unfold cV
  rw [if_pos h']
  rfl
 ·have h':=Ix h
  rw [Iu] at h'
  repeat' (first|refine If ?_|refine IF a5 FN ?_)
  refine b9 L0 [] (CT hu l err J L0 h0 (hw (by omega))) rfl (fF hu) (c7 rfl) rfl fun c L1 hc=>?_
  subst hc
  repeat' (first|refine If ?_|refine IF a5 FN ?_)
  refine IS IA ?_
  unfold cV
  rw [if_neg h']
  rfl
theorem Hh {g:FuncId} {caps:List AV} (l:List bj) (most:Int):bN Tryz.prog 50 [.imm 9 (l.map bL),aF most,.fn g caps] (.fn 112 [.iptr [.imm 9 (l.map bL)],.iptr [aF most],.iptr [.fn g caps]]):=by
 refine aN Tryz.func50 rfl Tryz.ntmps50 rfl fun B=>?_
 repeat' (first|refine If ?_|refine IF a5 FN ?_|refine bk ?_|fail)
 exact IM IA
instance {g:FuncId} {caps:List AV} (l:List bj) (most:Int):AD Tryz.prog 50 [.imm 9 (l.map bL),aF most,.fn g caps] (.fn 112 [.iptr [.imm 9 (l.map bL)],.iptr [aF most],.iptr [.fn g caps]]):=⟨Hh l most⟩
theorem CU {g:FuncId} {caps:List AV} {u:AV} [bB Tryz.prog g] (hu:k6 u=some (g,caps)) (l:List fV) (err:Nat→Int) (J:Nat→AL→Prop) (L0:AL) (h0:J 0 L0) (hw:∀i x L,l[i]?=some x→J i L→AC Tryz.prog g ([aF i,.agg (dQ x)]++caps) L fun c L'=>c=aF (err i)∧(err i=0→J (i+1) L')):
  AC Tryz.prog 133 [.imm 2 (l.map dQ),u] L0 fun r _=>r=ck (d4 err l.length):=by
 refine aN Tryz.func133 rfl Tryz.ntmps133 rfl fun B=>?_
 refine cK 0 rfl rfl fun hlen=>?_
 rw [Iu] at hlen
 repeat' (first|refine If ?_|refine ak ?_|refine IF a5 FN ?_)
 refine aO [1,9,10] (α:=Nat×AL) (fun i=>[(11,aF i.1)]) (fun i=>i.1≤l.length∧J i.1 i.2∧d4 err l.length=cY err (l.length - i.1) i.1) (fun i=>i.2) (fun i=>l.length - i.1) (0,L0) rfl ⟨rfl,trivial⟩ ⟨Nat.zero_le _,h0,rfl⟩ (fun _ _ h=>h) ?_
 rintro ⟨i,L⟩ ⟨hi,hj,he⟩
 dsimp only at hi hj he ⊢
 try dsimp only [Is,Ir,Iq,Ik]
 repeat' (first|refine If ?_|refine IF a5 FN ?_)
 refine aq rfl (fun h=>?_) (fun h=>?_)
 ·have hil:i < l.length:=by have:=Iy h;simp at this;omega
  obtain ⟨z,hz⟩:∃z,l[i]?=some z:=⟨_,Iz hil⟩
  have hzg:=cw (c:=dQ) hz
  repeat' (first|refine If ?_|refine ak ?_|refine IF a5 FN ?_|(apply aS;first|refine aR a5 ?_|refine aH a5 ?_)|(apply aM;first|refine IH 7 a5 0 IE ?_|refine IH 7 a5 1 IE ?_|refine IH 7 a5 2 IE ?_|refine IG a5 0 ID ?_|refine IG a5 1 ID ?_|refine IG a5 2 ID ?_|refine IG a5 3 ID ?_|fail)|refine bh a5 fun _=>?_|fail)
  refine dh L [] (hw i z L hz hj) rfl hu rfl (c7 rfl) rfl rfl fun c L1 ⟨hc,hj'⟩=>?_
  subst hc
  rw [List.append_nil]
  repeat' (first|refine If ?_|refine IF a5 FN ?_)
  refine aq rfl (fun h2=>?_) (fun h2=>?_)
  ·have h2':=Iy h2
   repeat' (first|refine If ?_|refine IF a5 FN ?_)
   refine IS IA ?_
   rw [he,cF hil h2']
   rfl
  ·have h2':=Decidable.not_not.1 (Ix h2)
   repeat' (first|refine If ?_|refine IF a5 FN ?_|(apply aV;refine aU ?_)|fail)
   exact aD (i+1,L1) rfl ⟨by rw [Iv];rfl,trivial⟩ ⟨by dsimp only;omega,hj' h2',by rw [he];exact co hil h2'⟩ (by dsimp only;omega) (fun _ _ h=>h)
 ·have hil:i=l.length:=by have:=Ix h;simp at this;omega
  subst hil
  repeat' (first|refine If ?_|refine IF a5 FN ?_)
  refine IS IA ?_
  rw [he,Nat.sub_self]
  rfl
theorem DH {g:FuncId} {caps:List AV} {u:AV} [bB Tryz.prog g] (hu:k6 u=some (g,caps)) (l:List fV) (most:Int) (err:Nat→Int) (J:Nat→AL→Prop) (L0:AL) (h0:J 0 L0) (hw:(l.length:Int)≤most→∀i x L,l[i]?=some x→J i L→AC Tryz.prog g ([aF i,.agg (dQ x)]++caps) L fun c L'=>c=aF (err i)∧(err i=0→J (i+1) L')):
  AC Tryz.prog 132 [.iptr [.imm 2 (l.map dQ)],.iptr [aF most],.iptr [u]] L0 fun r _=>r=ck (cV most err l.length):=by
 refine aN Tryz.func132 rfl Tryz.ntmps132 rfl fun B=>?_
 repeat' (first|refine If ?_|refine IF a5 FN ?_)
 refine aq rfl (fun h=>?_) (fun h=>?_)
 ·have h':=Iy h
  rw [Iu] at h'
  repeat' (first|refine If ?_|refine IF a5 FN ?_)
  refine IS IA ?_
  unfold cV
  rw [if_pos h']
  rfl
 ·have h':=Ix h
  rw [Iu] at h'
  repeat' (first|refine If ?_|refine IF a5 FN ?_)
  refine b9 L0 [] (CU hu l err J L0 h0 (hw (by omega))) rfl (fF hu) (c7 rfl) rfl fun c L1 hc=>?_
  subst hc
  repeat' (first|refine If ?_|refine IF a5 FN ?_)
  refine IS IA ?_
  unfold cV
  rw [if_neg h']
  rfl
theorem Hi {g:FuncId} {caps:List AV} (l:List fV) (most:Int):bN Tryz.prog 57 [.imm 2 (l.map dQ),aF most,.fn g caps] (.fn 132 [.iptr [.imm 2 (l.map dQ)],.iptr [aF most],.iptr [.fn g caps]]):=by
 refine aN Tryz.func57 rfl Tryz.ntmps57 rfl fun B=>?_
 repeat' (first|refine If ?_|refine IF a5 FN ?_|refine bk ?_|fail)
 exact IM IA
instance {g:FuncId} {caps:List AV} (l:List fV) (most:Int):AD Tryz.prog 57 [.imm 2 (l.map dQ),aF most,.fn g caps] (.fn 132 [.iptr [.imm 2 (l.map dQ)],.iptr [aF most],.iptr [.fn g caps]]):=⟨Hi l most⟩
theorem CV {g:FuncId} {caps:List AV} {u:AV} [bB Tryz.prog g] (hu:k6 u=some (g,caps)) (l:List aL) (err:Nat→Int) (J:Nat→AL→Prop) (L0:AL) (h0:J 0 L0) (hw:∀i x L,l[i]?=some x→J i L→AC Tryz.prog g ([aF i,.agg (bC x)]++caps) L fun c L'=>c=aF (err i)∧(err i=0→J (i+1) L')):
  AC Tryz.prog 135 [.imm 3 (l.map bC),u] L0 fun r _=>r=ck (d4 err l.length):=by
 refine aN Tryz.func135 rfl Tryz.ntmps135 rfl fun B=>?_
 refine cK 0 rfl rfl fun hlen=>?_
 rw [Iu] at hlen
 repeat' (first|refine If ?_|refine ak ?_|refine IF a5 FN ?_)
 refine aO [1,9,10] (α:=Nat×AL) (fun i=>[(11,aF i.1)]) (fun i=>i.1≤l.length∧J i.1 i.2∧d4 err l.length=cY err (l.length - i.1) i.1) (fun i=>i.2) (fun i=>l.length - i.1) (0,L0) rfl ⟨rfl,trivial⟩ ⟨Nat.zero_le _,h0,rfl⟩ (fun _ _ h=>h) ?_
 rintro ⟨i,L⟩ ⟨hi,hj,he⟩
 dsimp only at hi hj he ⊢
 try dsimp only [Is,Ir,Iq,Ik]
 repeat' (first|refine If ?_|refine IF a5 FN ?_)
 refine aq rfl (fun h=>?_) (fun h=>?_)
 ·have hil:i < l.length:=by have:=Iy h;simp at this;omega
  obtain ⟨z,hz⟩:∃z,l[i]?=some z:=⟨_,Iz hil⟩
  have hzg:=cw (c:=bC) hz
  repeat' (first|refine If ?_|refine ak ?_|refine IF a5 FN ?_|(apply aS;first|refine aR a5 ?_|refine aH a5 ?_)|(apply aM;first|refine IH 7 a5 0 IE ?_|refine IH 7 a5 1 IE ?_|refine IH 7 a5 2 IE ?_|refine IG a5 0 ID ?_|refine IG a5 1 ID ?_|refine IG a5 2 ID ?_|refine IG a5 3 ID ?_|fail)|refine bh a5 fun _=>?_|fail)
  refine dh L [] (hw i z L hz hj) rfl hu rfl (c7 rfl) rfl rfl fun c L1 ⟨hc,hj'⟩=>?_
  subst hc
  rw [List.append_nil]
  repeat' (first|refine If ?_|refine IF a5 FN ?_)
  refine aq rfl (fun h2=>?_) (fun h2=>?_)
  ·have h2':=Iy h2
   repeat' (first|refine If ?_|refine IF a5 FN ?_)
   refine IS IA ?_
   rw [he,cF hil h2']
   rfl
  ·have h2':=Decidable.not_not.1 (Ix h2)
   repeat' (first|refine If ?_|refine IF a5 FN ?_|(apply aV;refine aU ?_)|fail)
   exact aD (i+1,L1) rfl ⟨by rw [Iv];rfl,trivial⟩ ⟨by dsimp only;omega,hj' h2',by rw [he];exact co hil h2'⟩ (by dsimp only;omega) (fun _ _ h=>h)
 ·have hil:i=l.length:=by have:=Ix h;simp at this;omega
  subst hil
  repeat' (first|refine If ?_|refine IF a5 FN ?_)
  refine IS IA ?_
  rw [he,Nat.sub_self]
  rfl
theorem DI {g:FuncId} {caps:List AV} {u:AV} [bB Tryz.prog g] (hu:k6 u=some (g,caps)) (l:List aL) (most:Int) (err:Nat→Int) (J:Nat→AL→Prop) (L0:AL) (h0:J 0 L0) (hw:(l.length:Int)≤most→∀i x L,l[i]?=some x→J i L→AC Tryz.prog g ([aF i,.agg (bC x)]++caps) L fun c L'=>c=aF (err i)∧(err i=0→J (i+1) L')):
  AC Tryz.prog 134 [.iptr [.imm 3 (l.map bC)],.iptr [aF most],.iptr [u]] L0 fun r _=>r=ck (cV most err l.length):=by
 refine aN Tryz.func134 rfl Tryz.ntmps134 rfl fun B=>?_
 repeat' (first|refine If ?_|refine IF a5 FN ?_)
 refine aq rfl (fun h=>?_) (fun h=>?_)
 ·have h':=Iy h
  rw [Iu] at h'
  repeat' (first|refine If ?_|refine IF a5 FN ?_)
  refine IS IA ?_
  unfold cV
  rw [if_pos h']
  rfl
 ·have h':=Ix h
  rw [Iu] at h'
  repeat' (first|refine If ?_|refine IF a5 FN ?_)
  refine b9 L0 [] (CV hu l err J L0 h0 (hw (by omega))) rfl (fF hu) (c7 rfl) rfl fun c L1 hc=>?_
  subst hc
  repeat' (first|refine If ?_|refine IF a5 FN ?_)
  refine IS IA ?_
  unfold cV
  rw [if_neg h']
  rfl
theorem Hj {g:FuncId} {caps:List AV} (l:List aL) (most:Int):bN Tryz.prog 60 [.imm 3 (l.map bC),aF most,.fn g caps] (.fn 134 [.iptr [.imm 3 (l.map bC)],.iptr [aF most],.iptr [.fn g caps]]):=by
 refine aN Tryz.func60 rfl Tryz.ntmps60 rfl fun B=>?_
 repeat' (first|refine If ?_|refine IF a5 FN ?_|refine bk ?_|fail)
 exact IM IA
instance {g:FuncId} {caps:List AV} (l:List aL) (most:Int):AD Tryz.prog 60 [.imm 3 (l.map bC),aF most,.fn g caps] (.fn 134 [.iptr [.imm 3 (l.map bC)],.iptr [aF most],.iptr [.fn g caps]]):=⟨Hj l most⟩
theorem CW {g:FuncId} {caps:List AV} {u:AV} [bB Tryz.prog g] (hu:k6 u=some (g,caps)) (l:List b8) (err:Nat→Int) (J:Nat→AL→Prop) (L0:AL) (h0:J 0 L0) (hw:∀i x L,l[i]?=some x→J i L→AC Tryz.prog g ([aF i,.agg (bA x)]++caps) L fun c L'=>c=aF (err i)∧(err i=0→J (i+1) L')):
  AC Tryz.prog 139 [.imm 6 (l.map bA),u] L0 fun r _=>r=ck (d4 err l.length):=by
 refine aN Tryz.func139 rfl Tryz.ntmps139 rfl fun B=>?_
 refine cK 0 rfl rfl fun hlen=>?_
 rw [Iu] at hlen
 repeat' (first|refine If ?_|refine ak ?_|refine IF a5 FN ?_)
 refine aO [1,9,10] (α:=Nat×AL) (fun i=>[(11,aF i.1)]) (fun i=>i.1≤l.length∧J i.1 i.2∧d4 err l.length=cY err (l.length - i.1) i.1) (fun i=>i.2) (fun i=>l.length - i.1) (0,L0) rfl ⟨rfl,trivial⟩ ⟨Nat.zero_le _,h0,rfl⟩ (fun _ _ h=>h) ?_
 rintro ⟨i,L⟩ ⟨hi,hj,he⟩
 dsimp only at hi hj he ⊢
 try dsimp only [Is,Ir,Iq,Ik]
 repeat' (first|refine If ?_|refine IF a5 FN ?_)
 refine aq rfl (fun h=>?_) (fun h=>?_)
 ·have hil:i < l.length:=by have:=Iy h;simp at this;omega
  obtain ⟨z,hz⟩:∃z,l[i]?=some z:=⟨_,Iz hil⟩
  have hzg:=cw (c:=bA) hz
  repeat' (first|refine If ?_|refine ak ?_|refine IF a5 FN ?_|(apply aS;first|refine aR a5 ?_|refine aH a5 ?_)|(apply aM;first|refine IH 7 a5 0 IE ?_|refine IH 7 a5 1 IE ?_|refine IH 7 a5 2 IE ?_|refine IG a5 0 ID ?_|refine IG a5 1 ID ?_|refine IG a5 2 ID ?_|refine IG a5 3 ID ?_|fail)|refine bh a5 fun _=>?_|fail)
  refine dh L [] (hw i z L hz hj) rfl hu rfl (c7 rfl) rfl rfl fun c L1 ⟨hc,hj'⟩=>?_
  subst hc
  rw [List.append_nil]
  repeat' (first|refine If ?_|refine IF a5 FN ?_)
  refine aq rfl (fun h2=>?_) (fun h2=>?_)
  ·have h2':=Iy h2
   repeat' (first|refine If ?_|refine IF a5 FN ?_)
   refine IS IA ?_
   rw [he,cF hil h2']
   rfl
  ·have h2':=Decidable.not_not.1 (Ix h2)
   repeat' (first|refine If ?_|refine IF a5 FN ?_|(apply aV;refine aU ?_)|fail)
   exact aD (i+1,L1) rfl ⟨by rw [Iv];rfl,trivial⟩ ⟨by dsimp only;omega,hj' h2',by rw [he];exact co hil h2'⟩ (by dsimp only;omega) (fun _ _ h=>h)
 ·have hil:i=l.length:=by have:=Ix h;simp at this;omega
  subst hil
  repeat' (first|refine If ?_|refine IF a5 FN ?_)
  refine IS IA ?_
  rw [he,Nat.sub_self]
  rfl
theorem CX {g:FuncId} {caps:List AV} {u:AV} [bB Tryz.prog g] (hu:k6 u=some (g,caps)) (l:List bV) (err:Nat→Int) (J:Nat→AL→Prop) (L0:AL) (h0:J 0 L0) (hw:∀i x L,l[i]?=some x→J i L→AC Tryz.prog g ([aF i,.agg (ce x)]++caps) L fun c L'=>c=aF (err i)∧(err i=0→J (i+1) L')):
  AC Tryz.prog 143 [.imm 2 (l.map ce),u] L0 fun r _=>r=ck (d4 err l.length):=by
 refine aN Tryz.func143 rfl Tryz.ntmps143 rfl fun B=>?_
 refine cK 0 rfl rfl fun hlen=>?_
 rw [Iu] at hlen
 repeat' (first|refine If ?_|refine ak ?_|refine IF a5 FN ?_)
 refine aO [1,9,10] (α:=Nat×AL) (fun i=>[(11,aF i.1)]) (fun i=>i.1≤l.length∧J i.1 i.2∧d4 err l.length=cY err (l.length - i.1) i.1) (fun i=>i.2) (fun i=>l.length - i.1) (0,L0) rfl ⟨rfl,trivial⟩ ⟨Nat.zero_le _,h0,rfl⟩ (fun _ _ h=>h) ?_
 rintro ⟨i,L⟩ ⟨hi,hj,he⟩
 dsimp only at hi hj he ⊢
 try dsimp only [Is,Ir,Iq,Ik]
 repeat' (first|refine If ?_|refine IF a5 FN ?_)
 refine aq rfl (fun h=>?_) (fun h=>?_)
 ·have hil:i < l.length:=by have:=Iy h;simp at this;omega
  obtain ⟨z,hz⟩:∃z,l[i]?=some z:=⟨_,Iz hil⟩
  have hzg:=cw (c:=ce) hz
  repeat' (first|refine If ?_|refine ak ?_|refine IF a5 FN ?_|(apply aS;first|refine aR a5 ?_|refine aH a5 ?_)|(apply aM;first|refine IH 7 a5 0 IE ?_|refine IH 7 a5 1 IE ?_|refine IH 7 a5 2 IE ?_|refine IG a5 0 ID ?_|refine IG a5 1 ID ?_|refine IG a5 2 ID ?_|refine IG a5 3 ID ?_|fail)|refine bh a5 fun _=>?_|fail)
  refine dh L [] (hw i z L hz hj) rfl hu rfl (c7 rfl) rfl rfl fun c L1 ⟨hc,hj'⟩=>?_
  subst hc
  rw [List.append_nil]
  repeat' (first|refine If ?_|refine IF a5 FN ?_)
  refine aq rfl (fun h2=>?_) (fun h2=>?_)
  ·have h2':=Iy h2
   repeat' (first|refine If ?_|refine IF a5 FN ?_)
   refine IS IA ?_
   rw [he,cF hil h2']
   rfl
  ·have h2':=Decidable.not_not.1 (Ix h2)
   repeat' (first|refine If ?_|refine IF a5 FN ?_|(apply aV;refine aU ?_)|fail)
   exact aD (i+1,L1) rfl ⟨by rw [Iv];rfl,trivial⟩ ⟨by dsimp only;omega,hj' h2',by rw [he];exact co hil h2'⟩ (by dsimp only;omega) (fun _ _ h=>h)
 ·have hil:i=l.length:=by have:=Ix h;simp at this;omega
  subst hil
  repeat' (first|refine If ?_|refine IF a5 FN ?_)
  refine IS IA ?_
  rw [he,Nat.sub_self]
  rfl
theorem DJ {g:FuncId} {caps:List AV} {u:AV} [bB Tryz.prog g] (hu:k6 u=some (g,caps)) (l:List bV) (most:Int) (err:Nat→Int) (J:Nat→AL→Prop) (L0:AL) (h0:J 0 L0) (hw:(l.length:Int)≤most→∀i x L,l[i]?=some x→J i L→AC Tryz.prog g ([aF i,.agg (ce x)]++caps) L fun c L'=>c=aF (err i)∧(err i=0→J (i+1) L')):
  AC Tryz.prog 142 [.iptr [.imm 2 (l.map ce)],.iptr [aF most],.iptr [u]] L0 fun r _=>r=ck (cV most err l.length):=by
 refine aN Tryz.func142 rfl Tryz.ntmps142 rfl fun B=>?_
 repeat' (first|refine If ?_|refine IF a5 FN ?_)
 refine aq rfl (fun h=>?_) (fun h=>?_)
 ·have h':=Iy h
  rw [Iu] at h'
  repeat' (first|refine If ?_|refine IF a5 FN ?_)
  refine IS IA ?_
  unfold cV
  rw [if_pos h']
  rfl
 ·have h':=Ix h
  rw [Iu] at h'
  repeat' (first|refine If ?_|refine IF a5 FN ?_)
  refine b9 L0 [] (CX hu l err J L0 h0 (hw (by omega))) rfl (fF hu) (c7 rfl) rfl fun c L1 hc=>?_
  subst hc
  repeat' (first|refine If ?_|refine IF a5 FN ?_)
  refine IS IA ?_
  unfold cV
  rw [if_neg h']
  rfl
theorem Hk {g:FuncId} {caps:List AV} (l:List bV) (most:Int):bN Tryz.prog 63 [.imm 2 (l.map ce),aF most,.fn g caps] (.fn 142 [.iptr [.imm 2 (l.map ce)],.iptr [aF most],.iptr [.fn g caps]]):=by
 refine aN Tryz.func63 rfl Tryz.ntmps63 rfl fun B=>?_
 repeat' (first|refine If ?_|refine IF a5 FN ?_|refine bk ?_|fail)
 exact IM IA
instance {g:FuncId} {caps:List AV} (l:List bV) (most:Int):AD Tryz.prog 63 [.imm 2 (l.map ce),aF most,.fn g caps] (.fn 142 [.iptr [.imm 2 (l.map ce)],.iptr [aF most],.iptr [.fn g caps]]):=⟨Hk l most⟩
theorem CY {g:FuncId} {caps:List AV} {u:AV} [bB Tryz.prog g] (hu:k6 u=some (g,caps)) (l:List ee) (err:Nat→Int) (J:Nat→AL→Prop) (L0:AL) (h0:J 0 L0) (hw:∀i x L,l[i]?=some x→J i L→AC Tryz.prog g ([aF i,.agg (cE x)]++caps) L fun c L'=>c=aF (err i)∧(err i=0→J (i+1) L')):
  AC Tryz.prog 146 [.imm 4 (l.map cE),u] L0 fun r _=>r=ck (d4 err l.length):=by
 refine aN Tryz.func146 rfl Tryz.ntmps146 rfl fun B=>?_
 refine cK 0 rfl rfl fun hlen=>?_
 rw [Iu] at hlen
 repeat' (first|refine If ?_|refine ak ?_|refine IF a5 FN ?_)
 refine aO [1,9,10] (α:=Nat×AL) (fun i=>[(11,aF i.1)]) (fun i=>i.1≤l.length∧J i.1 i.2∧d4 err l.length=cY err (l.length - i.1) i.1) (fun i=>i.2) (fun i=>l.length - i.1) (0,L0) rfl ⟨rfl,trivial⟩ ⟨Nat.zero_le _,h0,rfl⟩ (fun _ _ h=>h) ?_
 rintro ⟨i,L⟩ ⟨hi,hj,he⟩
 dsimp only at hi hj he ⊢
 try dsimp only [Is,Ir,Iq,Ik]
 repeat' (first|refine If ?_|refine IF a5 FN ?_)
 refine aq rfl (fun h=>?_) (fun h=>?_)
 ·have hil:i < l.length:=by have:=Iy h;simp at this;omega
  obtain ⟨z,hz⟩:∃z,l[i]?=some z:=⟨_,Iz hil⟩
  have hzg:=cw (c:=cE) hz
  repeat' (first|refine If ?_|refine ak ?_|refine IF a5 FN ?_|(apply aS;first|refine aR a5 ?_|refine aH a5 ?_)|(apply aM;first|refine IH 7 a5 0 IE ?_|refine IH 7 a5 1 IE ?_|refine IH 7 a5 2 IE ?_|refine IG a5 0 ID ?_|refine IG a5 1 ID ?_|refine IG a5 2 ID ?_|refine IG a5 3 ID ?_|fail)|refine bh a5 fun _=>?_|fail)
  refine dh L [] (hw i z L hz hj) rfl hu rfl (c7 rfl) rfl rfl fun c L1 ⟨hc,hj'⟩=>?_
  subst hc
  rw [List.append_nil]
  repeat' (first|refine If ?_|refine IF a5 FN ?_)
  refine aq rfl (fun h2=>?_) (fun h2=>?_)
  ·have h2':=Iy h2
   repeat' (first|refine If ?_|refine IF a5 FN ?_)
   refine IS IA ?_
   rw [he,cF hil h2']
   rfl
  ·have h2':=Decidable.not_not.1 (Ix h2)
   repeat' (first|refine If ?_|refine IF a5 FN ?_|(apply aV;refine aU ?_)|fail)
   exact aD (i+1,L1) rfl ⟨by rw [Iv];rfl,trivial⟩ ⟨by dsimp only;omega,hj' h2',by rw [he];exact co hil h2'⟩ (by dsimp only;omega) (fun _ _ h=>h)
 ·have hil:i=l.length:=by have:=Ix h;simp at this;omega
  subst hil
  repeat' (first|refine If ?_|refine IF a5 FN ?_)
  refine IS IA ?_
  rw [he,Nat.sub_self]
  rfl
theorem DK {g:FuncId} {caps:List AV} {u:AV} [bB Tryz.prog g] (hu:k6 u=some (g,caps)) (l:List ee) (most:Int) (err:Nat→Int) (J:Nat→AL→Prop) (L0:AL) (h0:J 0 L0) (hw:(l.length:Int)≤most→∀i x L,l[i]?=some x→J i L→AC Tryz.prog g ([aF i,.agg (cE x)]++caps) L fun c L'=>c=aF (err i)∧(err i=0→J (i+1) L')):
  AC Tryz.prog 145 [.iptr [.imm 4 (l.map cE)],.iptr [aF most],.iptr [u]] L0 fun r _=>r=ck (cV most err l.length):=by
 refine aN Tryz.func145 rfl Tryz.ntmps145 rfl fun B=>?_
 repeat' (first|refine If ?_|refine IF a5 FN ?_)
 refine aq rfl (fun h=>?_) (fun h=>?_)
 ·have h':=Iy h
  rw [Iu] at h'
  repeat' (first|refine If ?_|refine IF a5 FN ?_)
  refine IS IA ?_
  unfold cV
  rw [if_pos h']
  rfl
 ·have h':=Ix h
  rw [Iu] at h'
  repeat' (first|refine If ?_|refine IF a5 FN ?_)
  refine b9 L0 [] (CY hu l err J L0 h0 (hw (by omega))) rfl (fF hu) (c7 rfl) rfl fun c L1 hc=>?_
  subst hc
  repeat' (first|refine If ?_|refine IF a5 FN ?_)
  refine IS IA ?_
  unfold cV
  rw [if_neg h']
  rfl
theorem Gu {g:FuncId} {caps:List AV} (l:List ee) (most:Int):bN Tryz.prog 67 [.imm 4 (l.map cE),aF most,.fn g caps] (.fn 145 [.iptr [.imm 4 (l.map cE)],.iptr [aF most],.iptr [.fn g caps]]):=by
 refine aN Tryz.func67 rfl Tryz.ntmps67 rfl fun B=>?_
 repeat' (first|refine If ?_|refine IF a5 FN ?_|refine bk ?_|fail)
 exact IM IA
instance {g:FuncId} {caps:List AV} (l:List ee) (most:Int):AD Tryz.prog 67 [.imm 4 (l.map cE),aF most,.fn g caps] (.fn 145 [.iptr [.imm 4 (l.map cE)],.iptr [aF most],.iptr [.fn g caps]]):=⟨Gu l most⟩
theorem D0 {g:FuncId} {caps:List AV} {u:AV} [bB Tryz.prog g] (hu:k6 u=some (g,caps)) (l:List (List eO)) (err:Nat→Int) (J:Nat→AL→Prop) (L0:AL) (h0:J 0 L0) (hw:∀i x L,l[i]?=some x→J i L→AC Tryz.prog g ([aF i,.agg (bH x)]++caps) L fun c L'=>c=aF (err i)∧(err i=0→J (i+1) L')):
  AC Tryz.prog 148 [.imm 1 (l.map bH),u] L0 fun r _=>r=ck (d4 err l.length):=by
 refine aN Tryz.func148 rfl Tryz.ntmps148 rfl fun B=>?_
 refine cK 0 rfl rfl fun hlen=>?_
 rw [Iu] at hlen
 repeat' (first|refine If ?_|refine ak ?_|refine IF a5 FN ?_)
 refine aO [1,9,10] (α:=Nat×AL) (fun i=>[(11,aF i.1)]) (fun i=>i.1≤l.length∧J i.1 i.2∧d4 err l.length=cY err (l.length - i.1) i.1) (fun i=>i.2) (fun i=>l.length - i.1) (0,L0) rfl ⟨rfl,trivial⟩ ⟨Nat.zero_le _,h0,rfl⟩ (fun _ _ h=>h) ?_
 rintro ⟨i,L⟩ ⟨hi,hj,he⟩
 dsimp only at hi hj he ⊢
 try dsimp only [Is,Ir,Iq,Ik]
 repeat' (first|refine If ?_|refine IF a5 FN ?_)
 refine aq rfl (fun h=>?_) (fun h=>?_)
 ·have hil:i < l.length:=by have:=Iy h;simp at this;omega
  obtain ⟨z,hz⟩:∃z,l[i]?=some z:=⟨_,Iz hil⟩
  have hzg:=cw (c:=bH) hz
  repeat' (first|refine If ?_|refine ak ?_|refine IF a5 FN ?_|(apply aS;first|refine aR a5 ?_|refine aH a5 ?_)|(apply aM;first|refine IH 7 a5 0 IE ?_|refine IH 7 a5 1 IE ?_|refine IH 7 a5 2 IE ?_|refine IG a5 0 ID ?_|refine IG a5 1 ID ?_|refine IG a5 2 ID ?_|refine IG a5 3 ID ?_|fail)|refine bh a5 fun _=>?_|fail)
  refine dh L [] (hw i z L hz hj) rfl hu rfl (c7 rfl) rfl rfl fun c L1 ⟨hc,hj'⟩=>?_
  subst hc
  rw [List.append_nil]
  repeat' (first|refine If ?_|refine IF a5 FN ?_)
  refine aq rfl (fun h2=>?_) (fun h2=>?_)
  ·have h2':=Iy h2
   repeat' (first|refine If ?_|refine IF a5 FN ?_)
   refine IS IA ?_
   rw [he,cF hil h2']
   rfl
  ·have h2':=Decidable.not_not.1 (Ix h2)
   repeat' (first|refine If ?_|refine IF a5 FN ?_|(apply aV;refine aU ?_)|fail)
   exact aD (i+1,L1) rfl ⟨by rw [Iv];rfl,trivial⟩ ⟨by dsimp only;omega,hj' h2',by rw [he];exact co hil h2'⟩ (by dsimp only;omega) (fun _ _ h=>h)
 ·have hil:i=l.length:=by have:=Ix h;simp at this;omega
  subst hil
  repeat' (first|refine If ?_|refine IF a5 FN ?_)
  refine IS IA ?_
  rw [he,Nat.sub_self]
  rfl
theorem DL {g:FuncId} {caps:List AV} {u:AV} [bB Tryz.prog g] (hu:k6 u=some (g,caps)) (l:List (List eO)) (most:Int) (err:Nat→Int) (J:Nat→AL→Prop) (L0:AL) (h0:J 0 L0) (hw:(l.length:Int)≤most→∀i x L,l[i]?=some x→J i L→AC Tryz.prog g ([aF i,.agg (bH x)]++caps) L fun c L'=>c=aF (err i)∧(err i=0→J (i+1) L')):
  AC Tryz.prog 147 [.iptr [.imm 1 (l.map bH)],.iptr [aF most],.iptr [u]] L0 fun r _=>r=ck (cV most err l.length):=by
 refine aN Tryz.func147 rfl Tryz.ntmps147 rfl fun B=>?_
 repeat' (first|refine If ?_|refine IF a5 FN ?_)
 refine aq rfl (fun h=>?_) (fun h=>?_)
 ·have h':=Iy h
  rw [Iu] at h'
  repeat' (first|refine If ?_|refine IF a5 FN ?_)
  refine IS IA ?_
  unfold cV
  rw [if_pos h']
  rfl
 ·have h':=Ix h
  rw [Iu] at h'
  repeat' (first|refine If ?_|refine IF a5 FN ?_)
  refine b9 L0 [] (D0 hu l err J L0 h0 (hw (by omega))) rfl (fF hu) (c7 rfl) rfl fun c L1 hc=>?_
  subst hc
  repeat' (first|refine If ?_|refine IF a5 FN ?_)
  refine IS IA ?_
  unfold cV
  rw [if_neg h']
  rfl
theorem Gv {g:FuncId} {caps:List AV} (l:List (List eO)) (most:Int):bN Tryz.prog 70 [.imm 1 (l.map bH),aF most,.fn g caps] (.fn 147 [.iptr [.imm 1 (l.map bH)],.iptr [aF most],.iptr [.fn g caps]]):=by
 refine aN Tryz.func70 rfl Tryz.ntmps70 rfl fun B=>?_
 repeat' (first|refine If ?_|refine IF a5 FN ?_|refine bk ?_|fail)
 exact IM IA
instance {g:FuncId} {caps:List AV} (l:List (List eO)) (most:Int):AD Tryz.prog 70 [.imm 1 (l.map bH),aF most,.fn g caps] (.fn 147 [.iptr [.imm 1 (l.map bH)],.iptr [aF most],.iptr [.fn g caps]]):=⟨Gv l most⟩
theorem D1 {g:FuncId} {caps:List AV} {u:AV} [bB Tryz.prog g] (hu:k6 u=some (g,caps)) (l:List eO) (err:Nat→Int) (J:Nat→AL→Prop) (L0:AL) (h0:J 0 L0) (hw:∀i x L,l[i]?=some x→J i L→AC Tryz.prog g ([aF i,.agg (jV x)]++caps) L fun c L'=>c=aF (err i)∧(err i=0→J (i+1) L')):
  AC Tryz.prog 149 [.imm 3 (l.map jV),u] L0 fun r _=>r=ck (d4 err l.length):=by
 refine aN Tryz.func149 rfl Tryz.ntmps149 rfl fun B=>?_
 refine cK 0 rfl rfl fun hlen=>?_
 rw [Iu] at hlen
 repeat' (first|refine If ?_|refine ak ?_|refine IF a5 FN ?_)
 refine aO [1,9,10] (α:=Nat×AL) (fun i=>[(11,aF i.1)]) (fun i=>i.1≤l.length∧J i.1 i.2∧d4 err l.length=cY err (l.length - i.1) i.1) (fun i=>i.2) (fun i=>l.length - i.1) (0,L0) rfl ⟨rfl,trivial⟩ ⟨Nat.zero_le _,h0,rfl⟩ (fun _ _ h=>h) ?_
 rintro ⟨i,L⟩ ⟨hi,hj,he⟩
 dsimp only at hi hj he ⊢
 try dsimp only [Is,Ir,Iq,Ik]
 repeat' (first|refine If ?_|refine IF a5 FN ?_)
 refine aq rfl (fun h=>?_) (fun h=>?_)
 ·have hil:i < l.length:=by have:=Iy h;simp at this;omega
  obtain ⟨z,hz⟩:∃z,l[i]?=some z:=⟨_,Iz hil⟩
  have hzg:=cw (c:=jV) hz
  repeat' (first|refine If ?_|refine ak ?_|refine IF a5 FN ?_|(apply aS;first|refine aR a5 ?_|refine aH a5 ?_)|(apply aM;first|refine IH 7 a5 0 IE ?_|refine IH 7 a5 1 IE ?_|refine IH 7 a5 2 IE ?_|refine IG a5 0 ID ?_|refine IG a5 1 ID ?_|refine IG a5 2 ID ?_|refine IG a5 3 ID ?_|fail)|refine bh a5 fun _=>?_|fail)
  refine dh L [] (hw i z L hz hj) rfl hu rfl (c7 rfl) rfl rfl fun c L1 ⟨hc,hj'⟩=>?_
  subst hc
  rw [List.append_nil]
  repeat' (first|refine If ?_|refine IF a5 FN ?_)
  refine aq rfl (fun h2=>?_) (fun h2=>?_)
  ·have h2':=Iy h2
   repeat' (first|refine If ?_|refine IF a5 FN ?_)
   refine IS IA ?_
   rw [he,cF hil h2']
   rfl
  ·have h2':=Decidable.not_not.1 (Ix h2)
   repeat' (first|refine If ?_|refine IF a5 FN ?_|(apply aV;refine aU ?_)|fail)
   exact aD (i+1,L1) rfl ⟨by rw [Iv];rfl,trivial⟩ ⟨by dsimp only;omega,hj' h2',by rw [he];exact co hil h2'⟩ (by dsimp only;omega) (fun _ _ h=>h)
 ·have hil:i=l.length:=by have:=Ix h;simp at this;omega
  subst hil
  repeat' (first|refine If ?_|refine IF a5 FN ?_)
  refine IS IA ?_
  rw [he,Nat.sub_self]
  rfl
theorem D2 {g:FuncId} {caps:List AV} {u:AV} [bB Tryz.prog g] (hu:k6 u=some (g,caps)) (l:List (List fS)) (err:Nat→Int) (J:Nat→AL→Prop) (L0:AL) (h0:J 0 L0) (hw:∀i x L,l[i]?=some x→J i L→AC Tryz.prog g ([aF i,.imm 2 (x.map eI)]++caps) L fun c L'=>c=aF (err i)∧(err i=0→J (i+1) L')):
  AC Tryz.prog 152 [.imm 1 (l.map du),u] L0 fun r _=>r=ck (d4 err l.length):=by
 refine aN Tryz.func152 rfl Tryz.ntmps152 rfl fun B=>?_
 refine cK 0 rfl rfl fun hlen=>?_
 rw [Iu] at hlen
 repeat' (first|refine If ?_|refine ak ?_|refine IF a5 FN ?_)
 refine aO [1,9,10] (α:=Nat×AL) (fun i=>[(11,aF i.1)]) (fun i=>i.1≤l.length∧J i.1 i.2∧d4 err l.length=cY err (l.length - i.1) i.1) (fun i=>i.2) (fun i=>l.length - i.1) (0,L0) rfl ⟨rfl,trivial⟩ ⟨Nat.zero_le _,h0,rfl⟩ (fun _ _ h=>h) ?_
 rintro ⟨i,L⟩ ⟨hi,hj,he⟩
 dsimp only at hi hj he ⊢
 try dsimp only [Is,Ir,Iq,Ik]
 repeat' (first|refine If ?_|refine IF a5 FN ?_)
 refine aq rfl (fun h=>?_) (fun h=>?_)
 ·have hil:i < l.length:=by have:=Iy h;simp at this;omega
  obtain ⟨z,hz⟩:∃z,l[i]?=some z:=⟨_,Iz hil⟩
  have hzg:=cw (c:=du) hz
  repeat' (first|refine If ?_|refine ak ?_|refine IF a5 FN ?_|(apply aS;first|refine aR a5 ?_|refine aH a5 ?_)|fail)
  refine dh L [] (hw i z L hz hj) rfl hu rfl (c7 rfl) rfl rfl fun c L1 ⟨hc,hj'⟩=>?_
  subst hc
  rw [List.append_nil]
  repeat' (first|refine If ?_|refine IF a5 FN ?_)
  refine aq rfl (fun h2=>?_) (fun h2=>?_)
  ·have h2':=Iy h2
   repeat' (first|refine If ?_|refine IF a5 FN ?_)
   refine IS IA ?_
   rw [he,cF hil h2']
   rfl
  ·have h2':=Decidable.not_not.1 (Ix h2)
   repeat' (first|refine If ?_|refine IF a5 FN ?_|(apply aV;refine aU ?_)|fail)
   exact aD (i+1,L1) rfl ⟨by rw [Iv];rfl,trivial⟩ ⟨by dsimp only;omega,hj' h2',by rw [he];exact co hil h2'⟩ (by dsimp only;omega) (fun _ _ h=>h)
 ·have hil:i=l.length:=by have:=Ix h;simp at this;omega
  subst hil
  repeat' (first|refine If ?_|refine IF a5 FN ?_)
  refine IS IA ?_
  rw [he,Nat.sub_self]
  rfl
theorem DN {g:FuncId} {caps:List AV} {u:AV} [bB Tryz.prog g] (hu:k6 u=some (g,caps)) (l:List (List fS)) (most:Int) (err:Nat→Int) (J:Nat→AL→Prop) (L0:AL) (h0:J 0 L0) (hw:(l.length:Int)≤most→∀i x L,l[i]?=some x→J i L→AC Tryz.prog g ([aF i,.imm 2 (x.map eI)]++caps) L fun c L'=>c=aF (err i)∧(err i=0→J (i+1) L')):
  AC Tryz.prog 151 [.iptr [.imm 1 (l.map du)],.iptr [aF most],.iptr [u]] L0 fun r _=>r=ck (cV most err l.length):=by
 refine aN Tryz.func151 rfl Tryz.ntmps151 rfl fun B=>?_
 repeat' (first|refine If ?_|refine IF a5 FN ?_)
 refine aq rfl (fun h=>?_) (fun h=>?_)
 ·have h':=Iy h
  rw [Iu] at h'
  repeat' (first|refine If ?_|refine IF a5 FN ?_)
  refine IS IA ?_
  unfold cV
  rw [if_pos h']
  rfl
 ·have h':=Ix h
  rw [Iu] at h'
  repeat' (first|refine If ?_|refine IF a5 FN ?_)
  refine b9 L0 [] (D2 hu l err J L0 h0 (hw (by omega))) rfl (fF hu) (c7 rfl) rfl fun c L1 hc=>?_
  subst hc
  repeat' (first|refine If ?_|refine IF a5 FN ?_)
  refine IS IA ?_
  unfold cV
  rw [if_neg h']
  rfl
theorem Fk {g:FuncId} (l:List (List fS)) (most:Int):bN Tryz.prog 73 [.imm 1 (l.map du),aF most,.sc (.func (.func g) #[] #[])] (.fn 151 [.iptr [.imm 1 (l.map du)],.iptr [aF most],.iptr [.sc (.func (.func g) #[] #[])]]):=by
 refine aN Tryz.func73 rfl Tryz.ntmps73 rfl fun B=>?_
 repeat' (first|refine If ?_|refine IF a5 FN ?_|refine bk ?_|fail)
 exact IM IA
instance {g:FuncId} (l:List (List fS)) (most:Int):AD Tryz.prog 73 [.imm 1 (l.map du),aF most,.sc (.func (.func g) #[] #[])] (.fn 151 [.iptr [.imm 1 (l.map du)],.iptr [aF most],.iptr [.sc (.func (.func g) #[] #[])]]):=⟨Fk l most⟩
theorem D3 {g:FuncId} {caps:List AV} {u:AV} [bB Tryz.prog g] (hu:k6 u=some (g,caps)) (l:List ep) (err:Nat→Int) (J:Nat→AL→Prop) (L0:AL) (h0:J 0 L0) (hw:∀i x L,l[i]?=some x→J i L→AC Tryz.prog g ([aF i,.agg (dm x)]++caps) L fun c L'=>c=aF (err i)∧(err i=0→J (i+1) L')):
  AC Tryz.prog 198 [.imm 3 (l.map dm),u] L0 fun r _=>r=ck (d4 err l.length):=by
 refine aN Tryz.func198 rfl Tryz.ntmps198 rfl fun B=>?_
 refine cK 0 rfl rfl fun hlen=>?_
 rw [Iu] at hlen
 repeat' (first|refine If ?_|refine ak ?_|refine IF a5 FN ?_)
 refine aO [1,9,10] (α:=Nat×AL) (fun i=>[(11,aF i.1)]) (fun i=>i.1≤l.length∧J i.1 i.2∧d4 err l.length=cY err (l.length - i.1) i.1) (fun i=>i.2) (fun i=>l.length - i.1) (0,L0) rfl ⟨rfl,trivial⟩ ⟨Nat.zero_le _,h0,rfl⟩ (fun _ _ h=>h) ?_
 rintro ⟨i,L⟩ ⟨hi,hj,he⟩
 dsimp only at hi hj he ⊢
 try dsimp only [Is,Ir,Iq,Ik]
 repeat' (first|refine If ?_|refine IF a5 FN ?_)
 refine aq rfl (fun h=>?_) (fun h=>?_)
 ·have hil:i < l.length:=by have:=Iy h;simp at this;omega
  obtain ⟨z,hz⟩:∃z,l[i]?=some z:=⟨_,Iz hil⟩
  have hzg:=cw (c:=dm) hz
  repeat' (first|refine If ?_|refine ak ?_|refine IF a5 FN ?_|(apply aS;first|refine aR a5 ?_|refine aH a5 ?_)|(apply aM;first|refine IH 7 a5 0 IE ?_|refine IH 7 a5 1 IE ?_|refine IH 7 a5 2 IE ?_|refine IG a5 0 ID ?_|refine IG a5 1 ID ?_|refine IG a5 2 ID ?_|refine IG a5 3 ID ?_|fail)|refine bh a5 fun _=>?_|fail)
  refine dh L [] (hw i z L hz hj) rfl hu rfl (c7 rfl) rfl rfl fun c L1 ⟨hc,hj'⟩=>?_
  subst hc
  rw [List.append_nil]
  repeat' (first|refine If ?_|refine IF a5 FN ?_)
  refine aq rfl (fun h2=>?_) (fun h2=>?_)
  ·have h2':=Iy h2
   repeat' (first|refine If ?_|refine IF a5 FN ?_)
   refine IS IA ?_
   rw [he,cF hil h2']
   rfl
  ·have h2':=Decidable.not_not.1 (Ix h2)
   repeat' (first|refine If ?_|refine IF a5 FN ?_|(apply aV;refine aU ?_)|fail)
   exact aD (i+1,L1) rfl ⟨by rw [Iv];rfl,trivial⟩ ⟨by dsimp only;omega,hj' h2',by rw [he];exact co hil h2'⟩ (by dsimp only;omega) (fun _ _ h=>h)
 ·have hil:i=l.length:=by have:=Ix h;simp at this;omega
  subst hil
  repeat' (first|refine If ?_|refine IF a5 FN ?_)
  refine IS IA ?_
  rw [he,Nat.sub_self]
  rfl
theorem D4 {g:FuncId} {caps:List AV} {u:AV} [bB Tryz.prog g] (hu:k6 u=some (g,caps)) (l:List dB) (err:Nat→Int) (J:Nat→AL→Prop) (L0:AL) (h0:J 0 L0) (hw:∀i x L,l[i]?=some x→J i L→AC Tryz.prog g ([aF i,.agg (eo x)]++caps) L fun c L'=>c=aF (err i)∧(err i=0→J (i+1) L')):
  AC Tryz.prog 202 [.imm 3 (l.map eo),u] L0 fun r _=>r=ck (d4 err l.length):=by
 refine aN Tryz.func202 rfl Tryz.ntmps202 rfl fun B=>?_
 refine cK 0 rfl rfl fun hlen=>?_
 rw [Iu] at hlen
 repeat' (first|refine If ?_|refine ak ?_|refine IF a5 FN ?_)
 refine aO [1,9,10] (α:=Nat×AL) (fun i=>[(11,aF i.1)]) (fun i=>i.1≤l.length∧J i.1 i.2∧d4 err l.length=cY err (l.length - i.1) i.1) (fun i=>i.2) (fun i=>l.length - i.1) (0,L0) rfl ⟨rfl,trivial⟩ ⟨Nat.zero_le _,h0,rfl⟩ (fun _ _ h=>h) ?_
 rintro ⟨i,L⟩ ⟨hi,hj,he⟩
 dsimp only at hi hj he ⊢
 try dsimp only [Is,Ir,Iq,Ik]
 repeat' (first|refine If ?_|refine IF a5 FN ?_)
 refine aq rfl (fun h=>?_) (fun h=>?_)
 ·have hil:i < l.length:=by have:=Iy h;simp at this;omega
  obtain ⟨z,hz⟩:∃z,l[i]?=some z:=⟨_,Iz hil⟩
  have hzg:=cw (c:=eo) hz
  repeat' (first|refine If ?_|refine ak ?_|refine IF a5 FN ?_|(apply aS;first|refine aR a5 ?_|refine aH a5 ?_)|(apply aM;first|refine IH 7 a5 0 IE ?_|refine IH 7 a5 1 IE ?_|refine IH 7 a5 2 IE ?_|refine IG a5 0 ID ?_|refine IG a5 1 ID ?_|refine IG a5 2 ID ?_|refine IG a5 3 ID ?_|fail)|refine bh a5 fun _=>?_|fail)
  refine dh L [] (hw i z L hz hj) rfl hu rfl (c7 rfl) rfl rfl fun c L1 ⟨hc,hj'⟩=>?_
  subst hc
  rw [List.append_nil]
  repeat' (first|refine If ?_|refine IF a5 FN ?_)
  refine aq rfl (fun h2=>?_) (fun h2=>?_)
  ·have h2':=Iy h2
   repeat' (first|refine If ?_|refine IF a5 FN ?_)
   refine IS IA ?_
   rw [he,cF hil h2']
   rfl
  ·have h2':=Decidable.not_not.1 (Ix h2)
   repeat' (first|refine If ?_|refine IF a5 FN ?_|(apply aV;refine aU ?_)|fail)
   exact aD (i+1,L1) rfl ⟨by rw [Iv];rfl,trivial⟩ ⟨by dsimp only;omega,hj' h2',by rw [he];exact co hil h2'⟩ (by dsimp only;omega) (fun _ _ h=>h)
 ·have hil:i=l.length:=by have:=Ix h;simp at this;omega
  subst hil
  repeat' (first|refine If ?_|refine IF a5 FN ?_)
  refine IS IA ?_
  rw [he,Nat.sub_self]
  rfl
theorem DP {g:FuncId} {caps:List AV} {u:AV} [bB Tryz.prog g] (hu:k6 u=some (g,caps)) (l:List dB) (most:Int) (err:Nat→Int) (J:Nat→AL→Prop) (L0:AL) (h0:J 0 L0) (hw:(l.length:Int)≤most→∀i x L,l[i]?=some x→J i L→AC Tryz.prog g ([aF i,.agg (eo x)]++caps) L fun c L'=>c=aF (err i)∧(err i=0→J (i+1) L')):
  AC Tryz.prog 201 [.iptr [.imm 3 (l.map eo)],.iptr [aF most],.iptr [u]] L0 fun r _=>r=ck (cV most err l.length):=by
 refine aN Tryz.func201 rfl Tryz.ntmps201 rfl fun B=>?_
 repeat' (first|refine If ?_|refine IF a5 FN ?_)
 refine aq rfl (fun h=>?_) (fun h=>?_)
 ·have h':=Iy h
  rw [Iu] at h'
  repeat' (first|refine If ?_|refine IF a5 FN ?_)
  refine IS IA ?_
  unfold cV
  rw [if_pos h']
  rfl
 ·have h':=Ix h
  rw [Iu] at h'
  repeat' (first|refine If ?_|refine IF a5 FN ?_)
  refine b9 L0 [] (D4 hu l err J L0 h0 (hw (by omega))) rfl (fF hu) (c7 rfl) rfl fun c L1 hc=>?_
  subst hc
  repeat' (first|refine If ?_|refine IF a5 FN ?_)
  refine IS IA ?_
  unfold cV
  rw [if_neg h']
  rfl
theorem Gw {g:FuncId} {caps:List AV} (l:List dB) (most:Int):bN Tryz.prog 117 [.imm 3 (l.map eo),aF most,.fn g caps] (.fn 201 [.iptr [.imm 3 (l.map eo)],.iptr [aF most],.iptr [.fn g caps]]):=by
 refine aN Tryz.func117 rfl Tryz.ntmps117 rfl fun B=>?_
 repeat' (first|refine If ?_|refine IF a5 FN ?_|refine bk ?_|fail)
 exact IM IA
instance {g:FuncId} {caps:List AV} (l:List dB) (most:Int):AD Tryz.prog 117 [.imm 3 (l.map eo),aF most,.fn g caps] (.fn 201 [.iptr [.imm 3 (l.map eo)],.iptr [aF most],.iptr [.fn g caps]]):=⟨Gw l most⟩
theorem D5 {g:FuncId} {caps:List AV} {u:AV} [bB Tryz.prog g] (hu:k6 u=some (g,caps)) (l:List dg) (err:Nat→Int) (J:Nat→AL→Prop) (L0:AL) (h0:J 0 L0) (hw:∀i x L,l[i]?=some x→J i L→AC Tryz.prog g ([aF i,.agg (cX x)]++caps) L fun c L'=>c=aF (err i)∧(err i=0→J (i+1) L')):
  AC Tryz.prog 204 [.imm 4 (l.map cX),u] L0 fun r _=>r=ck (d4 err l.length):=by
 refine aN Tryz.func204 rfl Tryz.ntmps204 rfl fun B=>?_
 refine cK 0 rfl rfl fun hlen=>?_
 rw [Iu] at hlen
 repeat' (first|refine If ?_|refine ak ?_|refine IF a5 FN ?_)
 refine aO [1,9,10] (α:=Nat×AL) (fun i=>[(11,aF i.1)]) (fun i=>i.1≤l.length∧J i.1 i.2∧d4 err l.length=cY err (l.length - i.1) i.1) (fun i=>i.2) (fun i=>l.length - i.1) (0,L0) rfl ⟨rfl,trivial⟩ ⟨Nat.zero_le _,h0,rfl⟩ (fun _ _ h=>h) ?_
 rintro ⟨i,L⟩ ⟨hi,hj,he⟩
 dsimp only at hi hj he ⊢
 try dsimp only [Is,Ir,Iq,Ik]
 repeat' (first|refine If ?_|refine IF a5 FN ?_)
 refine aq rfl (fun h=>?_) (fun h=>?_)
 ·have hil:i < l.length:=by have:=Iy h;simp at this;omega
  obtain ⟨z,hz⟩:∃z,l[i]?=some z:=⟨_,Iz hil⟩
  have hzg:=cw (c:=cX) hz
  repeat' (first|refine If ?_|refine ak ?_|refine IF a5 FN ?_|(apply aS;first|refine aR a5 ?_|refine aH a5 ?_)|(apply aM;first|refine IH 7 a5 0 IE ?_|refine IH 7 a5 1 IE ?_|refine IH 7 a5 2 IE ?_|refine IG a5 0 ID ?_|refine IG a5 1 ID ?_|refine IG a5 2 ID ?_|refine IG a5 3 ID ?_|fail)|refine bh a5 fun _=>?_|fail)
  refine dh L [] (hw i z L hz hj) rfl hu rfl (c7 rfl) rfl rfl fun c L1 ⟨hc,hj'⟩=>?_
  subst hc
  rw [List.append_nil]
  repeat' (first|refine If ?_|refine IF a5 FN ?_)
  refine aq rfl (fun h2=>?_) (fun h2=>?_)
  ·have h2':=Iy h2
   repeat' (first|refine If ?_|refine IF a5 FN ?_)
   refine IS IA ?_
   rw [he,cF hil h2']
   rfl
  ·have h2':=Decidable.not_not.1 (Ix h2)
   repeat' (first|refine If ?_|refine IF a5 FN ?_|(apply aV;refine aU ?_)|fail)
   exact aD (i+1,L1) rfl ⟨by rw [Iv];rfl,trivial⟩ ⟨by dsimp only;omega,hj' h2',by rw [he];exact co hil h2'⟩ (by dsimp only;omega) (fun _ _ h=>h)
 ·have hil:i=l.length:=by have:=Ix h;simp at this;omega
  subst hil
  repeat' (first|refine If ?_|refine IF a5 FN ?_)
  refine IS IA ?_
  rw [he,Nat.sub_self]
  rfl
theorem DQ {g:FuncId} {caps:List AV} {u:AV} [bB Tryz.prog g] (hu:k6 u=some (g,caps)) (l:List dg) (most:Int) (err:Nat→Int) (J:Nat→AL→Prop) (L0:AL) (h0:J 0 L0) (hw:(l.length:Int)≤most→∀i x L,l[i]?=some x→J i L→AC Tryz.prog g ([aF i,.agg (cX x)]++caps) L fun c L'=>c=aF (err i)∧(err i=0→J (i+1) L')):
  AC Tryz.prog 203 [.iptr [.imm 4 (l.map cX)],.iptr [aF most],.iptr [u]] L0 fun r _=>r=ck (cV most err l.length):=by
 refine aN Tryz.func203 rfl Tryz.ntmps203 rfl fun B=>?_
 repeat' (first|refine If ?_|refine IF a5 FN ?_)
 refine aq rfl (fun h=>?_) (fun h=>?_)
 ·have h':=Iy h
  rw [Iu] at h'
  repeat' (first|refine If ?_|refine IF a5 FN ?_)
  refine IS IA ?_
  unfold cV
  rw [if_pos h']
  rfl
 ·have h':=Ix h
  rw [Iu] at h'
  repeat' (first|refine If ?_|refine IF a5 FN ?_)
  refine b9 L0 [] (D5 hu l err J L0 h0 (hw (by omega))) rfl (fF hu) (c7 rfl) rfl fun c L1 hc=>?_
  subst hc
  repeat' (first|refine If ?_|refine IF a5 FN ?_)
  refine IS IA ?_
  unfold cV
  rw [if_neg h']
  rfl
theorem Gx {g:FuncId} {caps:List AV} (l:List dg) (most:Int):bN Tryz.prog 120 [.imm 4 (l.map cX),aF most,.fn g caps] (.fn 203 [.iptr [.imm 4 (l.map cX)],.iptr [aF most],.iptr [.fn g caps]]):=by
 refine aN Tryz.func120 rfl Tryz.ntmps120 rfl fun B=>?_
 repeat' (first|refine If ?_|refine IF a5 FN ?_|refine bk ?_|fail)
 exact IM IA
instance {g:FuncId} {caps:List AV} (l:List dg) (most:Int):AD Tryz.prog 120 [.imm 4 (l.map cX),aF most,.fn g caps] (.fn 203 [.iptr [.imm 4 (l.map cX)],.iptr [aF most],.iptr [.fn g caps]]):=⟨Gx l most⟩
theorem D6 {g:FuncId} {caps:List AV} {u:AV} [bB Tryz.prog g] (hu:k6 u=some (g,caps)) (l:List dw) (err:Nat→Int) (J:Nat→AL→Prop) (L0:AL) (h0:J 0 L0) (hw:∀i x L,l[i]?=some x→J i L→AC Tryz.prog g ([aF i,.agg (dM x)]++caps) L fun c L'=>c=aF (err i)∧(err i=0→J (i+1) L')):
  AC Tryz.prog 207 [.imm 4 (l.map dM),u] L0 fun r _=>r=ck (d4 err l.length):=by
 refine aN Tryz.func207 rfl Tryz.ntmps207 rfl fun B=>?_
 refine cK 0 rfl rfl fun hlen=>?_
 rw [Iu] at hlen
 repeat' (first|refine If ?_|refine ak ?_|refine IF a5 FN ?_)
 refine aO [1,9,10] (α:=Nat×AL) (fun i=>[(11,aF i.1)]) (fun i=>i.1≤l.length∧J i.1 i.2∧d4 err l.length=cY err (l.length - i.1) i.1) (fun i=>i.2) (fun i=>l.length - i.1) (0,L0) rfl ⟨rfl,trivial⟩ ⟨Nat.zero_le _,h0,rfl⟩ (fun _ _ h=>h) ?_
 rintro ⟨i,L⟩ ⟨hi,hj,he⟩
 dsimp only at hi hj he ⊢
 try dsimp only [Is,Ir,Iq,Ik]
 repeat' (first|refine If ?_|refine IF a5 FN ?_)
 refine aq rfl (fun h=>?_) (fun h=>?_)
 ·have hil:i < l.length:=by have:=Iy h;simp at this;omega
  obtain ⟨z,hz⟩:∃z,l[i]?=some z:=⟨_,Iz hil⟩
  have hzg:=cw (c:=dM) hz
  repeat' (first|refine If ?_|refine ak ?_|refine IF a5 FN ?_|(apply aS;first|refine aR a5 ?_|refine aH a5 ?_)|(apply aM;first|refine IH 7 a5 0 IE ?_|refine IH 7 a5 1 IE ?_|refine IH 7 a5 2 IE ?_|refine IG a5 0 ID ?_|refine IG a5 1 ID ?_|refine IG a5 2 ID ?_|refine IG a5 3 ID ?_|fail)|refine bh a5 fun _=>?_|fail)
  refine dh L [] (hw i z L hz hj) rfl hu rfl (c7 rfl) rfl rfl fun c L1 ⟨hc,hj'⟩=>?_
  subst hc
  rw [List.append_nil]
  repeat' (first|refine If ?_|refine IF a5 FN ?_)
  refine aq rfl (fun h2=>?_) (fun h2=>?_)
  ·have h2':=Iy h2
   repeat' (first|refine If ?_|refine IF a5 FN ?_)
   refine IS IA ?_
   rw [he,cF hil h2']
   rfl
  ·have h2':=Decidable.not_not.1 (Ix h2)
   repeat' (first|refine If ?_|refine IF a5 FN ?_|(apply aV;refine aU ?_)|fail)
   exact aD (i+1,L1) rfl ⟨by rw [Iv];rfl,trivial⟩ ⟨by dsimp only;omega,hj' h2',by rw [he];exact co hil h2'⟩ (by dsimp only;omega) (fun _ _ h=>h)
 ·have hil:i=l.length:=by have:=Ix h;simp at this;omega
  subst hil
  repeat' (first|refine If ?_|refine IF a5 FN ?_)
  refine IS IA ?_
  rw [he,Nat.sub_self]
  rfl
theorem DR {g:FuncId} {caps:List AV} {u:AV} [bB Tryz.prog g] (hu:k6 u=some (g,caps)) (l:List dw) (most:Int) (err:Nat→Int) (J:Nat→AL→Prop) (L0:AL) (h0:J 0 L0) (hw:(l.length:Int)≤most→∀i x L,l[i]?=some x→J i L→AC Tryz.prog g ([aF i,.agg (dM x)]++caps) L fun c L'=>c=aF (err i)∧(err i=0→J (i+1) L')):
  AC Tryz.prog 206 [.iptr [.imm 4 (l.map dM)],.iptr [aF most],.iptr [u]] L0 fun r _=>r=ck (cV most err l.length):=by
 refine aN Tryz.func206 rfl Tryz.ntmps206 rfl fun B=>?_
 repeat' (first|refine If ?_|refine IF a5 FN ?_)
 refine aq rfl (fun h=>?_) (fun h=>?_)
 ·have h':=Iy h
  rw [Iu] at h'
  repeat' (first|refine If ?_|refine IF a5 FN ?_)
  refine IS IA ?_
  unfold cV
  rw [if_pos h']
  rfl
 ·have h':=Ix h
  rw [Iu] at h'
  repeat' (first|refine If ?_|refine IF a5 FN ?_)
  refine b9 L0 [] (D6 hu l err J L0 h0 (hw (by omega))) rfl (fF hu) (c7 rfl) rfl fun c L1 hc=>?_
  subst hc
  repeat' (first|refine If ?_|refine IF a5 FN ?_)
  refine IS IA ?_
  unfold cV
  rw [if_neg h']
  rfl
theorem Gy {g:FuncId} {caps:List AV} (l:List dw) (most:Int):bN Tryz.prog 122 [.imm 4 (l.map dM),aF most,.fn g caps] (.fn 206 [.iptr [.imm 4 (l.map dM)],.iptr [aF most],.iptr [.fn g caps]]):=by
 refine aN Tryz.func122 rfl Tryz.ntmps122 rfl fun B=>?_
 repeat' (first|refine If ?_|refine IF a5 FN ?_|refine bk ?_|fail)
 exact IM IA
instance {g:FuncId} {caps:List AV} (l:List dw) (most:Int):AD Tryz.prog 122 [.imm 4 (l.map dM),aF most,.fn g caps] (.fn 206 [.iptr [.imm 4 (l.map dM)],.iptr [aF most],.iptr [.fn g caps]]):=⟨Gy l most⟩
theorem D7 {g:FuncId} {caps:List AV} {u:AV} [bB Tryz.prog g] (hu:k6 u=some (g,caps)) (l:List (List Int)) (err:Nat→Int) (J:Nat→AL→Prop) (L0:AL) (h0:J 0 L0) (hw:∀i x L,l[i]?=some x→J i L→AC Tryz.prog g ([aF i,.imm 1 (aT x)]++caps) L fun c L'=>c=aF (err i)∧(err i=0→J (i+1) L')):
  AC Tryz.prog 215 [.imm 1 (l.map Ge),u] L0 fun r _=>r=ck (d4 err l.length):=by
 refine aN Tryz.func215 rfl Tryz.ntmps215 rfl fun B=>?_
 refine cK 0 rfl rfl fun hlen=>?_
 rw [Iu] at hlen
 repeat' (first|refine If ?_|refine ak ?_|refine IF a5 FN ?_)
 refine aO [1,9,10] (α:=Nat×AL) (fun i=>[(11,aF i.1)]) (fun i=>i.1≤l.length∧J i.1 i.2∧d4 err l.length=cY err (l.length - i.1) i.1) (fun i=>i.2) (fun i=>l.length - i.1) (0,L0) rfl ⟨rfl,trivial⟩ ⟨Nat.zero_le _,h0,rfl⟩ (fun _ _ h=>h) ?_
 rintro ⟨i,L⟩ ⟨hi,hj,he⟩
 dsimp only at hi hj he ⊢
 try dsimp only [Is,Ir,Iq,Ik]
 repeat' (first|refine If ?_|refine IF a5 FN ?_)
 refine aq rfl (fun h=>?_) (fun h=>?_)
 ·have hil:i < l.length:=by have:=Iy h;simp at this;omega
  obtain ⟨z,hz⟩:∃z,l[i]?=some z:=⟨_,Iz hil⟩
  have hzg:=cw (c:=Ge) hz
  repeat' (first|refine If ?_|refine ak ?_|refine IF a5 FN ?_|(apply aS;first|refine aR a5 ?_|refine aH a5 ?_)|fail)
  refine dh L [] (hw i z L hz hj) rfl hu rfl (c7 rfl) rfl rfl fun c L1 ⟨hc,hj'⟩=>?_
  subst hc
  rw [List.append_nil]
  repeat' (first|refine If ?_|refine IF a5 FN ?_)
  refine aq rfl (fun h2=>?_) (fun h2=>?_)
  ·have h2':=Iy h2
   repeat' (first|refine If ?_|refine IF a5 FN ?_)
   refine IS IA ?_
   rw [he,cF hil h2']
   rfl
  ·have h2':=Decidable.not_not.1 (Ix h2)
   repeat' (first|refine If ?_|refine IF a5 FN ?_|(apply aV;refine aU ?_)|fail)
   exact aD (i+1,L1) rfl ⟨by rw [Iv];rfl,trivial⟩ ⟨by dsimp only;omega,hj' h2',by rw [he];exact co hil h2'⟩ (by dsimp only;omega) (fun _ _ h=>h)
 ·have hil:i=l.length:=by have:=Ix h;simp at this;omega
  subst hil
  repeat' (first|refine If ?_|refine IF a5 FN ?_)
  refine IS IA ?_
  rw [he,Nat.sub_self]
  rfl
theorem D8 {g:FuncId} {caps:List AV} {u:AV} [bB Tryz.prog g] (hu:k6 u=some (g,caps)) (l:List fS) (err:Nat→Int) (J:Nat→AL→Prop) (L0:AL) (h0:J 0 L0) (hw:∀i x L,l[i]?=some x→J i L→AC Tryz.prog g ([aF i,.agg (eI x)]++caps) L fun c L'=>c=aF (err i)∧(err i=0→J (i+1) L')):
  AC Tryz.prog 228 [.imm 2 (l.map eI),u] L0 fun r _=>r=ck (d4 err l.length):=by
 refine aN Tryz.func228 rfl Tryz.ntmps228 rfl fun B=>?_
 refine cK 0 rfl rfl fun hlen=>?_
 rw [Iu] at hlen
 repeat' (first|refine If ?_|refine ak ?_|refine IF a5 FN ?_)
 refine aO [1,9,10] (α:=Nat×AL) (fun i=>[(11,aF i.1)]) (fun i=>i.1≤l.length∧J i.1 i.2∧d4 err l.length=cY err (l.length - i.1) i.1) (fun i=>i.2) (fun i=>l.length - i.1) (0,L0) rfl ⟨rfl,trivial⟩ ⟨Nat.zero_le _,h0,rfl⟩ (fun _ _ h=>h) ?_
 rintro ⟨i,L⟩ ⟨hi,hj,he⟩
 dsimp only at hi hj he ⊢
 try dsimp only [Is,Ir,Iq,Ik]
 repeat' (first|refine If ?_|refine IF a5 FN ?_)
 refine aq rfl (fun h=>?_) (fun h=>?_)
 ·have hil:i < l.length:=by have:=Iy h;simp at this;omega
  obtain ⟨z,hz⟩:∃z,l[i]?=some z:=⟨_,Iz hil⟩
  have hzg:=cw (c:=eI) hz
  repeat' (first|refine If ?_|refine ak ?_|refine IF a5 FN ?_|(apply aS;first|refine aR a5 ?_|refine aH a5 ?_)|(apply aM;first|refine IH 7 a5 0 IE ?_|refine IH 7 a5 1 IE ?_|refine IH 7 a5 2 IE ?_|refine IG a5 0 ID ?_|refine IG a5 1 ID ?_|refine IG a5 2 ID ?_|refine IG a5 3 ID ?_|fail)|refine bh a5 fun _=>?_|fail)
  refine dh L [] (hw i z L hz hj) rfl hu rfl (c7 rfl) rfl rfl fun c L1 ⟨hc,hj'⟩=>?_
  subst hc
  rw [List.append_nil]
  repeat' (first|refine If ?_|refine IF a5 FN ?_)
  refine aq rfl (fun h2=>?_) (fun h2=>?_)
  ·have h2':=Iy h2
   repeat' (first|refine If ?_|refine IF a5 FN ?_)
   refine IS IA ?_
   rw [he,cF hil h2']
   rfl
  ·have h2':=Decidable.not_not.1 (Ix h2)
   repeat' (first|refine If ?_|refine IF a5 FN ?_|(apply aV;refine aU ?_)|fail)
   exact aD (i+1,L1) rfl ⟨by rw [Iv];rfl,trivial⟩ ⟨by dsimp only;omega,hj' h2',by rw [he];exact co hil h2'⟩ (by dsimp only;omega) (fun _ _ h=>h)
 ·have hil:i=l.length:=by have:=Ix h;simp at this;omega
  subst hil
  repeat' (first|refine If ?_|refine IF a5 FN ?_)
  refine IS IA ?_
  rw [he,Nat.sub_self]
  rfl
theorem DS {g:FuncId} {caps:List AV} {u:AV} [bB Tryz.prog g] (hu:k6 u=some (g,caps)) (l:List fS) (most:Int) (err:Nat→Int) (J:Nat→AL→Prop) (L0:AL) (h0:J 0 L0) (hw:(l.length:Int)≤most→∀i x L,l[i]?=some x→J i L→AC Tryz.prog g ([aF i,.agg (eI x)]++caps) L fun c L'=>c=aF (err i)∧(err i=0→J (i+1) L')):
  AC Tryz.prog 227 [.iptr [.imm 2 (l.map eI)],.iptr [aF most],.iptr [u]] L0 fun r _=>r=ck (cV most err l.length):=by
 refine aN Tryz.func227 rfl Tryz.ntmps227 rfl fun B=>?_
 repeat' (first|refine If ?_|refine IF a5 FN ?_)
 refine aq rfl (fun h=>?_) (fun h=>?_)
 ·have h':=Iy h
  rw [Iu] at h'
  repeat' (first|refine If ?_|refine IF a5 FN ?_)
  refine IS IA ?_
  unfold cV
  rw [if_pos h']
  rfl
 ·have h':=Ix h
  rw [Iu] at h'
  repeat' (first|refine If ?_|refine IF a5 FN ?_)
  refine b9 L0 [] (D8 hu l err J L0 h0 (hw (by omega))) rfl (fF hu) (c7 rfl) rfl fun c L1 hc=>?_
  subst hc
  repeat' (first|refine If ?_|refine IF a5 FN ?_)
  refine IS IA ?_
  unfold cV
  rw [if_neg h']
  rfl
theorem Fm {g:FuncId} (l:List fS) (most:Int):bN Tryz.prog 153 [.imm 2 (l.map eI),aF most,.sc (.func (.func g) #[] #[])] (.fn 227 [.iptr [.imm 2 (l.map eI)],.iptr [aF most],.iptr [.sc (.func (.func g) #[] #[])]]):=by
 refine aN Tryz.func153 rfl Tryz.ntmps153 rfl fun B=>?_
 repeat' (first|refine If ?_|refine IF a5 FN ?_|refine bk ?_|fail)
 exact IM IA
instance {g:FuncId} (l:List fS) (most:Int):AD Tryz.prog 153 [.imm 2 (l.map eI),aF most,.sc (.func (.func g) #[] #[])] (.fn 227 [.iptr [.imm 2 (l.map eI)],.iptr [aF most],.iptr [.sc (.func (.func g) #[] #[])]]):=⟨Fm l most⟩
theorem D9 {g:FuncId} {caps:List AV} {u:AV} [bB Tryz.prog g] (hu:k6 u=some (g,caps)) (l:List gD) (err:Nat→Int) (J:Nat→AL→Prop) (L0:AL) (h0:J 0 L0) (hw:∀i x L,l[i]?=some x→J i L→AC Tryz.prog g ([aF i,.agg (eS x)]++caps) L fun c L'=>c=aF (err i)∧(err i=0→J (i+1) L')):
  AC Tryz.prog 272 [.imm 2 (l.map eS),u] L0 fun r _=>r=ck (d4 err l.length):=by
 refine aN Tryz.func272 rfl Tryz.ntmps272 rfl fun B=>?_
 refine cK 0 rfl rfl fun hlen=>?_
 rw [Iu] at hlen
 repeat' (first|refine If ?_|refine ak ?_|refine IF a5 FN ?_)
 refine aO [1,9,10] (α:=Nat×AL) (fun i=>[(11,aF i.1)]) (fun i=>i.1≤l.length∧J i.1 i.2∧d4 err l.length=cY err (l.length - i.1) i.1) (fun i=>i.2) (fun i=>l.length - i.1) (0,L0) rfl ⟨rfl,trivial⟩ ⟨Nat.zero_le _,h0,rfl⟩ (fun _ _ h=>h) ?_
 rintro ⟨i,L⟩ ⟨hi,hj,he⟩
 dsimp only at hi hj he ⊢
 try dsimp only [Is,Ir,Iq,Ik]
 repeat' (first|refine If ?_|refine IF a5 FN ?_)
 refine aq rfl (fun h=>?_) (fun h=>?_)
 ·have hil:i < l.length:=by have:=Iy h;simp at this;omega
  obtain ⟨z,hz⟩:∃z,l[i]?=some z:=⟨_,Iz hil⟩
  have hzg:=cw (c:=eS) hz
  repeat' (first|refine If ?_|refine ak ?_|refine IF a5 FN ?_|(apply aS;first|refine aR a5 ?_|refine aH a5 ?_)|(apply aM;first|refine IH 7 a5 0 IE ?_|refine IH 7 a5 1 IE ?_|refine IH 7 a5 2 IE ?_|refine IG a5 0 ID ?_|refine IG a5 1 ID ?_|refine IG a5 2 ID ?_|refine IG a5 3 ID ?_|fail)|refine bh a5 fun _=>?_|fail)
  refine dh L [] (hw i z L hz hj) rfl hu rfl (c7 rfl) rfl rfl fun c L1 ⟨hc,hj'⟩=>?_
  subst hc
  rw [List.append_nil]
  repeat' (first|refine If ?_|refine IF a5 FN ?_)
  refine aq rfl (fun h2=>?_) (fun h2=>?_)
  ·have h2':=Iy h2
   repeat' (first|refine If ?_|refine IF a5 FN ?_)
   refine IS IA ?_
   rw [he,cF hil h2']
   rfl
  ·have h2':=Decidable.not_not.1 (Ix h2)
   repeat' (first|refine If ?_|refine IF a5 FN ?_|(apply aV;refine aU ?_)|fail)
   exact aD (i+1,L1) rfl ⟨by rw [Iv];rfl,trivial⟩ ⟨by dsimp only;omega,hj' h2',by rw [he];exact co hil h2'⟩ (by dsimp only;omega) (fun _ _ h=>h)
 ·have hil:i=l.length:=by have:=Ix h;simp at this;omega
  subst hil
  repeat' (first|refine If ?_|refine IF a5 FN ?_)
  refine IS IA ?_
  rw [he,Nat.sub_self]
  rfl
theorem mf {g:FuncId} {caps:List AV} {u:AV} [bB Tryz.prog g] (hu:k6 u=some (g,caps)) (l:List Int) (err:Nat→Int) (J:Nat→AL→Prop) (L0:AL) (h0:J 0 L0) (hw:∀i x L,l[i]?=some x→J i L→AC Tryz.prog g ([aF i,aF x]++caps) L fun c L'=>c=aF (err i)∧(err i=0→J (i+1) L')):
  AC Tryz.prog 128 [.imm 1 (l.map xI),u] L0 fun r _=>r=ck (d4 err l.length):=by
 refine aN Tryz.func128 rfl Tryz.ntmps128 rfl fun B=>?_
 refine cK 0 rfl rfl fun hlen=>?_
 rw [Iu] at hlen
 repeat' (first|refine If ?_|refine ak ?_|refine IF a5 FN ?_)
 refine aO [1,9,10] (α:=Nat×AL) (fun i=>[(11,aF i.1)]) (fun i=>i.1≤l.length∧J i.1 i.2∧d4 err l.length=cY err (l.length - i.1) i.1) (fun i=>i.2) (fun i=>l.length - i.1) (0,L0) rfl ⟨rfl,trivial⟩ ⟨Nat.zero_le _,h0,rfl⟩ (fun _ _ h=>h) ?_
 rintro ⟨i,L⟩ ⟨hi,hj,he⟩
 dsimp only at hi hj he ⊢
 try dsimp only [Is,Ir,Iq,Ik]
 repeat' (first|refine If ?_|refine IF a5 FN ?_)
 refine aq rfl (fun h=>?_) (fun h=>?_)
 ·have hil:i < l.length:=by have:=Iy h;simp at this;omega
  obtain ⟨z,hz⟩:∃z,l[i]?=some z:=⟨_,Iz hil⟩
  have hzg:=cw (c:=xI) hz
  repeat' (first|refine If ?_|refine ak ?_|refine IF a5 FN ?_|(apply aS;first|refine aR a5 ?_|refine aH a5 ?_)|fail)
  refine dh L [] (hw i z L hz hj) rfl hu rfl (c7 rfl) rfl rfl fun c L1 ⟨hc,hj'⟩=>?_
  subst hc
  rw [List.append_nil]
  repeat' (first|refine If ?_|refine IF a5 FN ?_)
  refine aq rfl (fun h2=>?_) (fun h2=>?_)
  ·have h2':=Iy h2
   repeat' (first|refine If ?_|refine IF a5 FN ?_)
   refine IS IA ?_
   rw [he,cF hil h2']
   rfl
  ·have h2':=Decidable.not_not.1 (Ix h2)
   repeat' (first|refine If ?_|refine IF a5 FN ?_|(apply aV;refine aU ?_)|fail)
   exact aD (i+1,L1) rfl ⟨by rw [Iv];rfl,trivial⟩ ⟨by dsimp only;omega,hj' h2',by rw [he];exact co hil h2'⟩ (by dsimp only;omega) (fun _ _ h=>h)
 ·have hil:i=l.length:=by have:=Ix h;simp at this;omega
  subst hil
  repeat' (first|refine If ?_|refine IF a5 FN ?_)
  refine IS IA ?_
  rw [he,Nat.sub_self]
  rfl
theorem DO {g:FuncId} {caps:List AV} {u:AV} [bB Tryz.prog g] (hu:k6 u=some (g,caps)) (l:List Int) (most:Int) (err:Nat→Int) (J:Nat→AL→Prop) (L0:AL) (h0:J 0 L0) (hw:(l.length:Int)≤most→∀i x L,l[i]?=some x→J i L→AC Tryz.prog g ([aF i,aF x]++caps) L fun c L'=>c=aF (err i)∧(err i=0→J (i+1) L')):
  AC Tryz.prog 155 [.iptr [.imm 1 (l.map xI)],.iptr [aF most],.iptr [u]] L0 fun r _=>r=ck (cV most err l.length):=by
 refine aN Tryz.func155 rfl Tryz.ntmps155 rfl fun B=>?_
 repeat' (first|refine If ?_|refine IF a5 FN ?_)
 refine aq rfl (fun h=>?_) (fun h=>?_)
 ·have h':=Iy h
  rw [Iu] at h'
  repeat' (first|refine If ?_|refine IF a5 FN ?_)
  refine IS IA ?_
  unfold cV
  rw [if_pos h']
  rfl
 ·have h':=Ix h
  rw [Iu] at h'
  repeat' (first|refine If ?_|refine IF a5 FN ?_)
  refine b9 L0 [] (mf hu l err J L0 h0 (hw (by omega))) rfl (fF hu) (c7 rfl) rfl fun c L1 hc=>?_
  subst hc
  repeat' (first|refine If ?_|refine IF a5 FN ?_)
  refine IS IA ?_
  unfold cV
  rw [if_neg h']
  rfl
theorem Fl {g:FuncId} (l:List Int) (most:Int):bN Tryz.prog 76 [.imm 1 (l.map xI),aF most,.sc (.func (.func g) #[] #[])] (.fn 155 [.iptr [.imm 1 (l.map xI)],.iptr [aF most],.iptr [.sc (.func (.func g) #[] #[])]]):=by
 refine aN Tryz.func76 rfl Tryz.ntmps76 rfl fun B=>?_
 repeat' (first|refine If ?_|refine IF a5 FN ?_|refine bk ?_|fail)
 exact IM IA
end Go.Proofs.YtpmdfoaadejmkaaGreatDoor
