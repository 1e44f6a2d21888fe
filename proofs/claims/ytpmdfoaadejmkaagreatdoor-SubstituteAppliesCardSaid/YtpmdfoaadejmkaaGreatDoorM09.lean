/-
  The program: looks at things, one by one.
-/
import Derived.Test.YtpmdfoaadejmkaaGreatDoorM06
import Derived.Test.YtpmdfoaadejmkaaGreatDoorM08
import Derived.Test.YtpmdfoaadejmkaaGreatDoorM05
namespace Go.Proofs.YtpmdfoaadejmkaaGreatDoor
open Go.RowKit
attribute [local irreducible] AT bI AX AO Av Kt bi dx DA cK
def d9 (err:Nat→Int):Nat→Nat→Int×Int
 | 0,_=>(0,0)
 | k+1,i=>if err i=0 then d9 err k (i+1) else (err i,i)
def dc (err:Nat→Int) (n:Nat):Int×Int:=d9 err n 0
def d5 (most:Int) (err:Nat→Int) (n:Nat):Int×Int:=if (n:Int) > most then (2,0) else dc err n
def cu (p:Int×Int):AV:= .tup [aF p.1,aF p.2]
theorem cz {err:Nat→Int} {n i:Nat} (hi:i < n) (h:err i=0):d9 err (n - i) i=d9 err (n - (i+1)) (i+1):=by
 rw [show n - i=(n - (i+1))+1 by omega]
 simp only [d9,h,if_true]
theorem cM {err:Nat→Int} {n i:Nat} (hi:i < n) (h:err i≠0):d9 err (n - i) i=(err i,(i:Int)):=by
 rw [show n - i=(n - (i+1))+1 by omega]
 simp only [d9,h,if_false]
theorem qi {err:Nat→Int}:∀(k i:Nat),(∀j,i≤j→j < i+k→err j=0)→d9 err k i=(0,0)
 | 0,_,_=>rfl
 | k+1,i,h=>by
  simp only [d9]
  rw [if_pos (h i (Nat.le_refl _) (by omega))]
  exact qi k (i+1) fun j h1 h2=>h j (by omega) (by omega)
theorem s5 {err:Nat→Int} {n:Nat} (h:∀i,i < n→err i=0):dc err n=(0,0):=qi n 0 fun j _ hj=>h j (by omega)
theorem Ad {most:Int} {err:Nat→Int} {n:Nat} (hm:(n:Int)≤most) (h:∀i,i < n→err i=0):d5 most err n=(0,0):=by
 unfold d5
 rw [if_neg (by omega),s5 h]
def Hv (q:List Int):List AV:=[.imm 1 (aX q)]
def yU (z:Int):List AV:=[aF z]
theorem fI {g:FuncId} {caps:List AV} {u:AV} (hu:kI u=some (g,caps)) {s:Nat} {l:List (List AV)}:lS [.imm s l,u]=some [.imm s l,u]:=by
 unfold kI at hu
 split at hu <;> first | rfl | cases hu
theorem ci {L L':AL} (h:L=L'):L.Perm (L'++[]):=by rw [List.append_nil,h]
def IS (P:Program) (g:FuncId) (caps:List AV) (n:Nat) (arg:Nat→AV) (err:Nat→Int) (J:Nat→AL→Prop):Prop:=∀i L,i < n→J i L→AC P g ([aF i,arg i]++caps) L fun c L'=>c=aF (err i)∧(err i=0→J (i+1) L')
theorem E9 {g:FuncId} {caps:List AV} {u:AV} [bL Tryz.prog g] (hu:kI u=some (g,caps)) (l:List bv) (err:Nat→Int) (J:Nat→AL→Prop) (L0:AL) (h0:J 0 L0) (hw:∀i x L,l[i]?=some x→J i L→AC Tryz.prog g ([aF i,.agg (bO x)]++caps) L fun c L'=>c=aF (err i)∧(err i=0→J (i+1) L')):
  AC Tryz.prog 113 [.imm 9 (l.map bO),u] L0 fun r _=>r=cu (dc err l.length):=by
 refine aM Tryz.func113 rfl Tryz.ntmps113 rfl fun B=>?_
 refine cI 0 rfl rfl fun hlen=>?_
 rw [Ju] at hlen
 repeat' (first|refine Ji ?_|refine am ?_|refine JF a5 H6 ?_)
 refine aP [1,9,10] (α:=Nat×AL) (fun i=>[(11,aF i.1)]) (fun i=>i.1≤l.length∧J i.1 i.2∧dc err l.length=d9 err (l.length - i.1) i.1) (fun i=>i.2) (fun i=>l.length - i.1) (0,L0) rfl ⟨rfl,trivial⟩ ⟨Nat.zero_le _,h0,rfl⟩ (fun _ _ h=>h) ?_
 rintro ⟨i,L⟩ ⟨hi,hj,he⟩
 dsimp only at hi hj he ⊢
 try dsimp only [Js,Jr,Jq,Jl]
 repeat' (first|refine Ji ?_|refine JF a5 H6 ?_)
 refine ar rfl (fun h=>?_) (fun h=>?_)
 ·have hil:i < l.length:=by have:=Jy h;simp at this;omega
  obtain ⟨z,hz⟩:∃z,l[i]?=some z:=⟨_,Jz hil⟩
  have hzg:=bG (c:=bO) hz
  repeat' (first|refine Ji ?_|refine am ?_|refine JF a5 H6 ?_|(apply aO;first|refine aN a5 ?_|refine aG a5 ?_)|(apply aK;first|refine JH 7 a5 0 JE ?_|refine JH 7 a5 1 JE ?_|refine JH 7 a5 2 JE ?_|refine JG a5 0 JD ?_|refine JG a5 1 JD ?_|refine JG a5 2 JD ?_|refine JG a5 3 JD ?_|fail)|refine bj a5 fun _=>?_|fail)
  refine dw L [] (hw i z L hz hj) rfl hu rfl (ci rfl) rfl rfl fun c L1 ⟨hc,hj'⟩=>?_
  subst hc
  rw [List.append_nil]
  repeat' (first|refine Ji ?_|refine JF a5 H6 ?_)
  refine ar rfl (fun h2=>?_) (fun h2=>?_)
  ·have h2':=Jy h2
   repeat' (first|refine Ji ?_|refine JF a5 H6 ?_)
   refine JP JA ?_
   rw [he,cM hil h2']
   rfl
  ·have h2':=Decidable.not_not.1 (Jx h2)
   repeat' (first|refine Ji ?_|refine JF a5 H6 ?_|(apply aS;refine aR ?_)|fail)
   exact aC (i+1,L1) rfl ⟨by rw [Jv];rfl,trivial⟩ ⟨by dsimp only;omega,hj' h2',by rw [he];exact cz hil h2'⟩ (by dsimp only;omega) (fun _ _ h=>h)
 ·have hil:i=l.length:=by have:=Jx h;simp at this;omega
  subst hil
  repeat' (first|refine Ji ?_|refine JF a5 H6 ?_)
  refine JP JA ?_
  rw [he,Nat.sub_self]
  rfl
theorem EY {g:FuncId} {caps:List AV} {u:AV} [bL Tryz.prog g] (hu:kI u=some (g,caps)) (l:List bv) (most:Int) (err:Nat→Int) (J:Nat→AL→Prop) (L0:AL) (h0:J 0 L0) (hw:(l.length:Int)≤most→∀i x L,l[i]?=some x→J i L→AC Tryz.prog g ([aF i,.agg (bO x)]++caps) L fun c L'=>c=aF (err i)∧(err i=0→J (i+1) L')):
  AC Tryz.prog 112 [.iptr [.imm 9 (l.map bO)],.iptr [aF most],.iptr [u]] L0 fun r _=>r=cu (d5 most err l.length):=by
 refine aM Tryz.func112 rfl Tryz.ntmps112 rfl fun B=>?_
 repeat' (first|refine Ji ?_|refine JF a5 H6 ?_)
 refine ar rfl (fun h=>?_) (fun h=>?_)
 ·have h':=Jy h
  rw [Ju] at h'
  repeat' (first|refine Ji ?_|refine JF a5 H6 ?_)
  refine JP JA ?_
  unfold d5
  rw [if_pos h']
  rfl
 ·have h':=Jx h
  rw [Ju] at h'
  repeat' (first|refine Ji ?_|refine JF a5 H6 ?_)
  refine b8 L0 [] (E9 hu l err J L0 h0 (hw (by omega))) rfl (fI hu) (ci rfl) rfl fun c L1 hc=>?_
  subst hc
  repeat' (first|refine Ji ?_|refine JF a5 H6 ?_)
  refine JP JA ?_
  unfold d5
  rw [if_neg h']
  rfl
theorem Iy {g:FuncId} {caps:List AV} (l:List bv) (most:Int):bJ Tryz.prog 50 [.imm 9 (l.map bO),aF most,.fn g caps] (.fn 112 [.iptr [.imm 9 (l.map bO)],.iptr [aF most],.iptr [.fn g caps]]):=by
 refine aM Tryz.func50 rfl Tryz.ntmps50 rfl fun B=>?_
 repeat' (first|refine Ji ?_|refine JF a5 H6 ?_|refine bf ?_|fail)
 exact JM JA
instance {g:FuncId} {caps:List AV} (l:List bv) (most:Int):AD Tryz.prog 50 [.imm 9 (l.map bO),aF most,.fn g caps] (.fn 112 [.iptr [.imm 9 (l.map bO)],.iptr [aF most],.iptr [.fn g caps]]):=⟨Iy l most⟩
theorem Ea {g:FuncId} {caps:List AV} {u:AV} [bL Tryz.prog g] (hu:kI u=some (g,caps)) (l:List ga) (err:Nat→Int) (J:Nat→AL→Prop) (L0:AL) (h0:J 0 L0) (hw:∀i x L,l[i]?=some x→J i L→AC Tryz.prog g ([aF i,.agg (eh x)]++caps) L fun c L'=>c=aF (err i)∧(err i=0→J (i+1) L')):
  AC Tryz.prog 133 [.imm 2 (l.map eh),u] L0 fun r _=>r=cu (dc err l.length):=by
 refine aM Tryz.func133 rfl Tryz.ntmps133 rfl fun B=>?_
 refine cI 0 rfl rfl fun hlen=>?_
 rw [Ju] at hlen
 repeat' (first|refine Ji ?_|refine am ?_|refine JF a5 H6 ?_)
 refine aP [1,9,10] (α:=Nat×AL) (fun i=>[(11,aF i.1)]) (fun i=>i.1≤l.length∧J i.1 i.2∧dc err l.length=d9 err (l.length - i.1) i.1) (fun i=>i.2) (fun i=>l.length - i.1) (0,L0) rfl ⟨rfl,trivial⟩ ⟨Nat.zero_le _,h0,rfl⟩ (fun _ _ h=>h) ?_
 rintro ⟨i,L⟩ ⟨hi,hj,he⟩
 dsimp only at hi hj he ⊢
 try dsimp only [Js,Jr,Jq,Jl]
 repeat' (first|refine Ji ?_|refine JF a5 H6 ?_)
 refine ar rfl (fun h=>?_) (fun h=>?_)
 ·have hil:i < l.length:=by have:=Jy h;simp at this;omega
  obtain ⟨z,hz⟩:∃z,l[i]?=some z:=⟨_,Jz hil⟩
  have hzg:=bG (c:=eh) hz
  repeat' (first|refine Ji ?_|refine am ?_|refine JF a5 H6 ?_|(apply aO;first|refine aN a5 ?_|refine aG a5 ?_)|(apply aK;first|refine JH 7 a5 0 JE ?_|refine JH 7 a5 1 JE ?_|refine JH 7 a5 2 JE ?_|refine JG a5 0 JD ?_|refine JG a5 1 JD ?_|refine JG a5 2 JD ?_|refine JG a5 3 JD ?_|fail)|refine bj a5 fun _=>?_|fail)
  refine dw L [] (hw i z L hz hj) rfl hu rfl (ci rfl) rfl rfl fun c L1 ⟨hc,hj'⟩=>?_
  subst hc
  rw [List.append_nil]
  repeat' (first|refine Ji ?_|refine JF a5 H6 ?_)
  refine ar rfl (fun h2=>?_) (fun h2=>?_)
  ·have h2':=Jy h2
   repeat' (first|refine Ji ?_|refine JF a5 H6 ?_)
   refine JP JA ?_
   rw [he,cM hil h2']
   rfl
  ·have h2':=Decidable.not_not.1 (Jx h2)
   repeat' (first|refine Ji ?_|refine JF a5 H6 ?_|(apply aS;refine aR ?_)|fail)
   exact aC (i+1,L1) rfl ⟨by rw [Jv];rfl,trivial⟩ ⟨by dsimp only;omega,hj' h2',by rw [he];exact cz hil h2'⟩ (by dsimp only;omega) (fun _ _ h=>h)
 ·have hil:i=l.length:=by have:=Jx h;simp at this;omega
  subst hil
  repeat' (first|refine Ji ?_|refine JF a5 H6 ?_)
  refine JP JA ?_
  rw [he,Nat.sub_self]
  rfl
theorem EZ {g:FuncId} {caps:List AV} {u:AV} [bL Tryz.prog g] (hu:kI u=some (g,caps)) (l:List ga) (most:Int) (err:Nat→Int) (J:Nat→AL→Prop) (L0:AL) (h0:J 0 L0) (hw:(l.length:Int)≤most→∀i x L,l[i]?=some x→J i L→AC Tryz.prog g ([aF i,.agg (eh x)]++caps) L fun c L'=>c=aF (err i)∧(err i=0→J (i+1) L')):
  AC Tryz.prog 132 [.iptr [.imm 2 (l.map eh)],.iptr [aF most],.iptr [u]] L0 fun r _=>r=cu (d5 most err l.length):=by
 refine aM Tryz.func132 rfl Tryz.ntmps132 rfl fun B=>?_
 repeat' (first|refine Ji ?_|refine JF a5 H6 ?_)
 refine ar rfl (fun h=>?_) (fun h=>?_)
 ·have h':=Jy h
  rw [Ju] at h'
  repeat' (first|refine Ji ?_|refine JF a5 H6 ?_)
  refine JP JA ?_
  unfold d5
  rw [if_pos h']
  rfl
 ·have h':=Jx h
  rw [Ju] at h'
  repeat' (first|refine Ji ?_|refine JF a5 H6 ?_)
  refine b8 L0 [] (Ea hu l err J L0 h0 (hw (by omega))) rfl (fI hu) (ci rfl) rfl fun c L1 hc=>?_
  subst hc
  repeat' (first|refine Ji ?_|refine JF a5 H6 ?_)
  refine JP JA ?_
  unfold d5
  rw [if_neg h']
  rfl
theorem Iz {g:FuncId} {caps:List AV} (l:List ga) (most:Int):bJ Tryz.prog 57 [.imm 2 (l.map eh),aF most,.fn g caps] (.fn 132 [.iptr [.imm 2 (l.map eh)],.iptr [aF most],.iptr [.fn g caps]]):=by
 refine aM Tryz.func57 rfl Tryz.ntmps57 rfl fun B=>?_
 repeat' (first|refine Ji ?_|refine JF a5 H6 ?_|refine bf ?_|fail)
 exact JM JA
instance {g:FuncId} {caps:List AV} (l:List ga) (most:Int):AD Tryz.prog 57 [.imm 2 (l.map eh),aF most,.fn g caps] (.fn 132 [.iptr [.imm 2 (l.map eh)],.iptr [aF most],.iptr [.fn g caps]]):=⟨Iz l most⟩
theorem Eb {g:FuncId} {caps:List AV} {u:AV} [bL Tryz.prog g] (hu:kI u=some (g,caps)) (l:List aL) (err:Nat→Int) (J:Nat→AL→Prop) (L0:AL) (h0:J 0 L0) (hw:∀i x L,l[i]?=some x→J i L→AC Tryz.prog g ([aF i,.agg (bh x)]++caps) L fun c L'=>c=aF (err i)∧(err i=0→J (i+1) L')):
  AC Tryz.prog 135 [.imm 3 (l.map bh),u] L0 fun r _=>r=cu (dc err l.length):=by
 refine aM Tryz.func135 rfl Tryz.ntmps135 rfl fun B=>?_
 refine cI 0 rfl rfl fun hlen=>?_
 rw [Ju] at hlen
 repeat' (first|refine Ji ?_|refine am ?_|refine JF a5 H6 ?_)
 refine aP [1,9,10] (α:=Nat×AL) (fun i=>[(11,aF i.1)]) (fun i=>i.1≤l.length∧J i.1 i.2∧dc err l.length=d9 err (l.length - i.1) i.1) (fun i=>i.2) (fun i=>l.length - i.1) (0,L0) rfl ⟨rfl,trivial⟩ ⟨Nat.zero_le _,h0,rfl⟩ (fun _ _ h=>h) ?_
 rintro ⟨i,L⟩ ⟨hi,hj,he⟩
 dsimp only at hi hj he ⊢
 try dsimp only [Js,Jr,Jq,Jl]
 repeat' (first|refine Ji ?_|refine JF a5 H6 ?_)
 refine ar rfl (fun h=>?_) (fun h=>?_)
 ·have hil:i < l.length:=by have:=Jy h;simp at this;omega
  obtain ⟨z,hz⟩:∃z,l[i]?=some z:=⟨_,Jz hil⟩
  have hzg:=bG (c:=bh) hz
  repeat' (first|refine Ji ?_|refine am ?_|refine JF a5 H6 ?_|(apply aO;first|refine aN a5 ?_|refine aG a5 ?_)|(apply aK;first|refine JH 7 a5 0 JE ?_|refine JH 7 a5 1 JE ?_|refine JH 7 a5 2 JE ?_|refine JG a5 0 JD ?_|refine JG a5 1 JD ?_|refine JG a5 2 JD ?_|refine JG a5 3 JD ?_|fail)|refine bj a5 fun _=>?_|fail)
  refine dw L [] (hw i z L hz hj) rfl hu rfl (ci rfl) rfl rfl fun c L1 ⟨hc,hj'⟩=>?_
  subst hc
  rw [List.append_nil]
  repeat' (first|refine Ji ?_|refine JF a5 H6 ?_)
  refine ar rfl (fun h2=>?_) (fun h2=>?_)
  ·have h2':=Jy h2
   repeat' (first|refine Ji ?_|refine JF a5 H6 ?_)
   refine JP JA ?_
   rw [he,cM hil h2']
   rfl
  ·have h2':=Decidable.not_not.1 (Jx h2)
   repeat' (first|refine Ji ?_|refine JF a5 H6 ?_|(apply aS;refine aR ?_)|fail)
   exact aC (i+1,L1) rfl ⟨by rw [Jv];rfl,trivial⟩ ⟨by dsimp only;omega,hj' h2',by rw [he];exact cz hil h2'⟩ (by dsimp only;omega) (fun _ _ h=>h)
 ·have hil:i=l.length:=by have:=Jx h;simp at this;omega
  subst hil
  repeat' (first|refine Ji ?_|refine JF a5 H6 ?_)
  refine JP JA ?_
  rw [he,Nat.sub_self]
  rfl
theorem F0 {g:FuncId} {caps:List AV} {u:AV} [bL Tryz.prog g] (hu:kI u=some (g,caps)) (l:List aL) (most:Int) (err:Nat→Int) (J:Nat→AL→Prop) (L0:AL) (h0:J 0 L0) (hw:(l.length:Int)≤most→∀i x L,l[i]?=some x→J i L→AC Tryz.prog g ([aF i,.agg (bh x)]++caps) L fun c L'=>c=aF (err i)∧(err i=0→J (i+1) L')):
  AC Tryz.prog 134 [.iptr [.imm 3 (l.map bh)],.iptr [aF most],.iptr [u]] L0 fun r _=>r=cu (d5 most err l.length):=by
 refine aM Tryz.func134 rfl Tryz.ntmps134 rfl fun B=>?_
 repeat' (first|refine Ji ?_|refine JF a5 H6 ?_)
 refine ar rfl (fun h=>?_) (fun h=>?_)
 ·have h':=Jy h
  rw [Ju] at h'
  repeat' (first|refine Ji ?_|refine JF a5 H6 ?_)
  refine JP JA ?_
  unfold d5
  rw [if_pos h']
  rfl
 ·have h':=Jx h
  rw [Ju] at h'
  repeat' (first|refine Ji ?_|refine JF a5 H6 ?_)
  refine b8 L0 [] (Eb hu l err J L0 h0 (hw (by omega))) rfl (fI hu) (ci rfl) rfl fun c L1 hc=>?_
  subst hc
  repeat' (first|refine Ji ?_|refine JF a5 H6 ?_)
  refine JP JA ?_
  unfold d5
  rw [if_neg h']
  rfl
theorem IA {g:FuncId} {caps:List AV} (l:List aL) (most:Int):bJ Tryz.prog 60 [.imm 3 (l.map bh),aF most,.fn g caps] (.fn 134 [.iptr [.imm 3 (l.map bh)],.iptr [aF most],.iptr [.fn g caps]]):=by
 refine aM Tryz.func60 rfl Tryz.ntmps60 rfl fun B=>?_
 repeat' (first|refine Ji ?_|refine JF a5 H6 ?_|refine bf ?_|fail)
 exact JM JA
instance {g:FuncId} {caps:List AV} (l:List aL) (most:Int):AD Tryz.prog 60 [.imm 3 (l.map bh),aF most,.fn g caps] (.fn 134 [.iptr [.imm 3 (l.map bh)],.iptr [aF most],.iptr [.fn g caps]]):=⟨IA l most⟩
theorem Ec {g:FuncId} {caps:List AV} {u:AV} [bL Tryz.prog g] (hu:kI u=some (g,caps)) (l:List bc) (err:Nat→Int) (J:Nat→AL→Prop) (L0:AL) (h0:J 0 L0) (hw:∀i x L,l[i]?=some x→J i L→AC Tryz.prog g ([aF i,.agg (bB x)]++caps) L fun c L'=>c=aF (err i)∧(err i=0→J (i+1) L')):
  AC Tryz.prog 139 [.imm 6 (l.map bB),u] L0 fun r _=>r=cu (dc err l.length):=by
 refine aM Tryz.func139 rfl Tryz.ntmps139 rfl fun B=>?_
 refine cI 0 rfl rfl fun hlen=>?_
 rw [Ju] at hlen
 repeat' (first|refine Ji ?_|refine am ?_|refine JF a5 H6 ?_)
 refine aP [1,9,10] (α:=Nat×AL) (fun i=>[(11,aF i.1)]) (fun i=>i.1≤l.length∧J i.1 i.2∧dc err l.length=d9 err (l.length - i.1) i.1) (fun i=>i.2) (fun i=>l.length - i.1) (0,L0) rfl ⟨rfl,trivial⟩ ⟨Nat.zero_le _,h0,rfl⟩ (fun _ _ h=>h) ?_
 rintro ⟨i,L⟩ ⟨hi,hj,he⟩
 dsimp only at hi hj he ⊢
 try dsimp only [Js,Jr,Jq,Jl]
 repeat' (first|refine Ji ?_|refine JF a5 H6 ?_)
 refine ar rfl (fun h=>?_) (fun h=>?_)
 ·have hil:i < l.length:=by have:=Jy h;simp at this;omega
  obtain ⟨z,hz⟩:∃z,l[i]?=some z:=⟨_,Jz hil⟩
  have hzg:=bG (c:=bB) hz
  repeat' (first|refine Ji ?_|refine am ?_|refine JF a5 H6 ?_|(apply aO;first|refine aN a5 ?_|refine aG a5 ?_)|(apply aK;first|refine JH 7 a5 0 JE ?_|refine JH 7 a5 1 JE ?_|refine JH 7 a5 2 JE ?_|refine JG a5 0 JD ?_|refine JG a5 1 JD ?_|refine JG a5 2 JD ?_|refine JG a5 3 JD ?_|fail)|refine bj a5 fun _=>?_|fail)
  refine dw L [] (hw i z L hz hj) rfl hu rfl (ci rfl) rfl rfl fun c L1 ⟨hc,hj'⟩=>?_
  subst hc
  rw [List.append_nil]
  repeat' (first|refine Ji ?_|refine JF a5 H6 ?_)
  refine ar rfl (fun h2=>?_) (fun h2=>?_)
  ·have h2':=Jy h2
   repeat' (first|refine Ji ?_|refine JF a5 H6 ?_)
   refine JP JA ?_
   rw [he,cM hil h2']
   rfl
  ·have h2':=Decidable.not_not.1 (Jx h2)
   repeat' (first|refine Ji ?_|refine JF a5 H6 ?_|(apply aS;refine aR ?_)|fail)
   exact aC (i+1,L1) rfl ⟨by rw [Jv];rfl,trivial⟩ ⟨by dsimp only;omega,hj' h2',by rw [he];exact cz hil h2'⟩ (by dsimp only;omega) (fun _ _ h=>h)
 ·have hil:i=l.length:=by have:=Jx h;simp at this;omega
  subst hil
  repeat' (first|refine Ji ?_|refine JF a5 H6 ?_)
  refine JP JA ?_
  rw [he,Nat.sub_self]
  rfl
theorem Ed {g:FuncId} {caps:List AV} {u:AV} [bL Tryz.prog g] (hu:kI u=some (g,caps)) (l:List c6) (err:Nat→Int) (J:Nat→AL→Prop) (L0:AL) (h0:J 0 L0) (hw:∀i x L,l[i]?=some x→J i L→AC Tryz.prog g ([aF i,.agg (cm x)]++caps) L fun c L'=>c=aF (err i)∧(err i=0→J (i+1) L')):
  AC Tryz.prog 143 [.imm 2 (l.map cm),u] L0 fun r _=>r=cu (dc err l.length):=by
 refine aM Tryz.func143 rfl Tryz.ntmps143 rfl fun B=>?_
 refine cI 0 rfl rfl fun hlen=>?_
 rw [Ju] at hlen
 repeat' (first|refine Ji ?_|refine am ?_|refine JF a5 H6 ?_)
 refine aP [1,9,10] (α:=Nat×AL) (fun i=>[(11,aF i.1)]) (fun i=>i.1≤l.length∧J i.1 i.2∧dc err l.length=d9 err (l.length - i.1) i.1) (fun i=>i.2) (fun i=>l.length - i.1) (0,L0) rfl ⟨rfl,trivial⟩ ⟨Nat.zero_le _,h0,rfl⟩ (fun _ _ h=>h) ?_
 rintro ⟨i,L⟩ ⟨hi,hj,he⟩
 dsimp only at hi hj he ⊢
 try dsimp only [Js,Jr,Jq,Jl]
 repeat' (first|refine Ji ?_|refine JF a5 H6 ?_)
 refine ar rfl (fun h=>?_) (fun h=>?_)
 ·have hil:i < l.length:=by have:=Jy h;simp at this;omega
  obtain ⟨z,hz⟩:∃z,l[i]?=some z:=⟨_,Jz hil⟩
  have hzg:=bG (c:=cm) hz
  repeat' (first|refine Ji ?_|refine am ?_|refine JF a5 H6 ?_|(apply aO;first|refine aN a5 ?_|refine aG a5 ?_)|(apply aK;first|refine JH 7 a5 0 JE ?_|refine JH 7 a5 1 JE ?_|refine JH 7 a5 2 JE ?_|refine JG a5 0 JD ?_|refine JG a5 1 JD ?_|refine JG a5 2 JD ?_|refine JG a5 3 JD ?_|fail)|refine bj a5 fun _=>?_|fail)
  refine dw L [] (hw i z L hz hj) rfl hu rfl (ci rfl) rfl rfl fun c L1 ⟨hc,hj'⟩=>?_
  subst hc
  rw [List.append_nil]
  repeat' (first|refine Ji ?_|refine JF a5 H6 ?_)
  refine ar rfl (fun h2=>?_) (fun h2=>?_)
  ·have h2':=Jy h2
   repeat' (first|refine Ji ?_|refine JF a5 H6 ?_)
   refine JP JA ?_
   rw [he,cM hil h2']
   rfl
  ·have h2':=Decidable.not_not.1 (Jx h2)
   repeat' (first|refine Ji ?_|refine JF a5 H6 ?_|(apply aS;refine aR ?_)|fail)
   exact aC (i+1,L1) rfl ⟨by rw [Jv];rfl,trivial⟩ ⟨by dsimp only;omega,hj' h2',by rw [he];exact cz hil h2'⟩ (by dsimp only;omega) (fun _ _ h=>h)
 ·have hil:i=l.length:=by have:=Jx h;simp at this;omega
  subst hil
  repeat' (first|refine Ji ?_|refine JF a5 H6 ?_)
  refine JP JA ?_
  rw [he,Nat.sub_self]
  rfl
theorem F1 {g:FuncId} {caps:List AV} {u:AV} [bL Tryz.prog g] (hu:kI u=some (g,caps)) (l:List c6) (most:Int) (err:Nat→Int) (J:Nat→AL→Prop) (L0:AL) (h0:J 0 L0) (hw:(l.length:Int)≤most→∀i x L,l[i]?=some x→J i L→AC Tryz.prog g ([aF i,.agg (cm x)]++caps) L fun c L'=>c=aF (err i)∧(err i=0→J (i+1) L')):
  AC Tryz.prog 142 [.iptr [.imm 2 (l.map cm)],.iptr [aF most],.iptr [u]] L0 fun r _=>r=cu (d5 most err l.length):=by
 refine aM Tryz.func142 rfl Tryz.ntmps142 rfl fun B=>?_
 repeat' (first|refine Ji ?_|refine JF a5 H6 ?_)
 refine ar rfl (fun h=>?_) (fun h=>?_)
 ·have h':=Jy h
  rw [Ju] at h'
  repeat' (first|refine Ji ?_|refine JF a5 H6 ?_)
  refine JP JA ?_
  unfold d5
  rw [if_pos h']
  rfl
 ·have h':=Jx h
  rw [Ju] at h'
  repeat' (first|refine Ji ?_|refine JF a5 H6 ?_)
  refine b8 L0 [] (Ed hu l err J L0 h0 (hw (by omega))) rfl (fI hu) (ci rfl) rfl fun c L1 hc=>?_
  subst hc
  repeat' (first|refine Ji ?_|refine JF a5 H6 ?_)
  refine JP JA ?_
  unfold d5
  rw [if_neg h']
  rfl
theorem IB {g:FuncId} {caps:List AV} (l:List c6) (most:Int):bJ Tryz.prog 63 [.imm 2 (l.map cm),aF most,.fn g caps] (.fn 142 [.iptr [.imm 2 (l.map cm)],.iptr [aF most],.iptr [.fn g caps]]):=by
 refine aM Tryz.func63 rfl Tryz.ntmps63 rfl fun B=>?_
 repeat' (first|refine Ji ?_|refine JF a5 H6 ?_|refine bf ?_|fail)
 exact JM JA
instance {g:FuncId} {caps:List AV} (l:List c6) (most:Int):AD Tryz.prog 63 [.imm 2 (l.map cm),aF most,.fn g caps] (.fn 142 [.iptr [.imm 2 (l.map cm)],.iptr [aF most],.iptr [.fn g caps]]):=⟨IB l most⟩
theorem Ee {g:FuncId} {caps:List AV} {u:AV} [bL Tryz.prog g] (hu:kI u=some (g,caps)) (l:List ez) (err:Nat→Int) (J:Nat→AL→Prop) (L0:AL) (h0:J 0 L0) (hw:∀i x L,l[i]?=some x→J i L→AC Tryz.prog g ([aF i,.agg (cL x)]++caps) L fun c L'=>c=aF (err i)∧(err i=0→J (i+1) L')):
  AC Tryz.prog 146 [.imm 4 (l.map cL),u] L0 fun r _=>r=cu (dc err l.length):=by
 refine aM Tryz.func146 rfl Tryz.ntmps146 rfl fun B=>?_
 refine cI 0 rfl rfl fun hlen=>?_
 rw [Ju] at hlen
 repeat' (first|refine Ji ?_|refine am ?_|refine JF a5 H6 ?_)
 refine aP [1,9,10] (α:=Nat×AL) (fun i=>[(11,aF i.1)]) (fun i=>i.1≤l.length∧J i.1 i.2∧dc err l.length=d9 err (l.length - i.1) i.1) (fun i=>i.2) (fun i=>l.length - i.1) (0,L0) rfl ⟨rfl,trivial⟩ ⟨Nat.zero_le _,h0,rfl⟩ (fun _ _ h=>h) ?_
 rintro ⟨i,L⟩ ⟨hi,hj,he⟩
 dsimp only at hi hj he ⊢
 try dsimp only [Js,Jr,Jq,Jl]
 repeat' (first|refine Ji ?_|refine JF a5 H6 ?_)
 refine ar rfl (fun h=>?_) (fun h=>?_)
 ·have hil:i < l.length:=by have:=Jy h;simp at this;omega
  obtain ⟨z,hz⟩:∃z,l[i]?=some z:=⟨_,Jz hil⟩
  have hzg:=bG (c:=cL) hz
  repeat' (first|refine Ji ?_|refine am ?_|refine JF a5 H6 ?_|(apply aO;first|refine aN a5 ?_|refine aG a5 ?_)|(apply aK;first|refine JH 7 a5 0 JE ?_|refine JH 7 a5 1 JE ?_|refine JH 7 a5 2 JE ?_|refine JG a5 0 JD ?_|refine JG a5 1 JD ?_|refine JG a5 2 JD ?_|refine JG a5 3 JD ?_|fail)|refine bj a5 fun _=>?_|fail)
  refine dw L [] (hw i z L hz hj) rfl hu rfl (ci rfl) rfl rfl fun c L1 ⟨hc,hj'⟩=>?_
  subst hc
  rw [List.append_nil]
  repeat' (first|refine Ji ?_|refine JF a5 H6 ?_)
  refine ar rfl (fun h2=>?_) (fun h2=>?_)
  ·have h2':=Jy h2
   repeat' (first|refine Ji ?_|refine JF a5 H6 ?_)
   refine JP JA ?_
   rw [he,cM hil h2']
   rfl
  ·have h2':=Decidable.not_not.1 (Jx h2)
   repeat' (first|refine Ji ?_|refine JF a5 H6 ?_|(apply aS;refine aR ?_)|fail)
   exact aC (i+1,L1) rfl ⟨by rw [Jv];rfl,trivial⟩ ⟨by dsimp only;omega,hj' h2',by rw [he];exact cz hil h2'⟩ (by dsimp only;omega) (fun _ _ h=>h)
 ·have hil:i=l.length:=by have:=Jx h;simp at this;omega
  subst hil
  repeat' (first|refine Ji ?_|refine JF a5 H6 ?_)
  refine JP JA ?_
  rw [he,Nat.sub_self]
  rfl
theorem F2 {g:FuncId} {caps:List AV} {u:AV} [bL Tryz.prog g] (hu:kI u=some (g,caps)) (l:List ez) (most:Int) (err:Nat→Int) (J:Nat→AL→Prop) (L0:AL) (h0:J 0 L0) (hw:(l.length:Int)≤most→∀i x L,l[i]?=some x→J i L→AC Tryz.prog g ([aF i,.agg (cL x)]++caps) L fun c L'=>c=aF (err i)∧(err i=0→J (i+1) L')):
  AC Tryz.prog 145 [.iptr [.imm 4 (l.map cL)],.iptr [aF most],.iptr [u]] L0 fun r _=>r=cu (d5 most err l.length):=by
 refine aM Tryz.func145 rfl Tryz.ntmps145 rfl fun B=>?_
 repeat' (first|refine Ji ?_|refine JF a5 H6 ?_)
 refine ar rfl (fun h=>?_) (fun h=>?_)
 ·have h':=Jy h
  rw [Ju] at h'
  repeat' (first|refine Ji ?_|refine JF a5 H6 ?_)
  refine JP JA ?_
  unfold d5
  rw [if_pos h']
  rfl
 ·have h':=Jx h
  rw [Ju] at h'
  repeat' (first|refine Ji ?_|refine JF a5 H6 ?_)
  refine b8 L0 [] (Ee hu l err J L0 h0 (hw (by omega))) rfl (fI hu) (ci rfl) rfl fun c L1 hc=>?_
  subst hc
  repeat' (first|refine Ji ?_|refine JF a5 H6 ?_)
  refine JP JA ?_
  unfold d5
  rw [if_neg h']
  rfl
theorem HM {g:FuncId} {caps:List AV} (l:List ez) (most:Int):bJ Tryz.prog 67 [.imm 4 (l.map cL),aF most,.fn g caps] (.fn 145 [.iptr [.imm 4 (l.map cL)],.iptr [aF most],.iptr [.fn g caps]]):=by
 refine aM Tryz.func67 rfl Tryz.ntmps67 rfl fun B=>?_
 repeat' (first|refine Ji ?_|refine JF a5 H6 ?_|refine bf ?_|fail)
 exact JM JA
instance {g:FuncId} {caps:List AV} (l:List ez) (most:Int):AD Tryz.prog 67 [.imm 4 (l.map cL),aF most,.fn g caps] (.fn 145 [.iptr [.imm 4 (l.map cL)],.iptr [aF most],.iptr [.fn g caps]]):=⟨HM l most⟩
theorem Ef {g:FuncId} {caps:List AV} {u:AV} [bL Tryz.prog g] (hu:kI u=some (g,caps)) (l:List (List eZ)) (err:Nat→Int) (J:Nat→AL→Prop) (L0:AL) (h0:J 0 L0) (hw:∀i x L,l[i]?=some x→J i L→AC Tryz.prog g ([aF i,.agg (bT x)]++caps) L fun c L'=>c=aF (err i)∧(err i=0→J (i+1) L')):
  AC Tryz.prog 148 [.imm 1 (l.map bT),u] L0 fun r _=>r=cu (dc err l.length):=by
 refine aM Tryz.func148 rfl Tryz.ntmps148 rfl fun B=>?_
 refine cI 0 rfl rfl fun hlen=>?_
 rw [Ju] at hlen
 repeat' (first|refine Ji ?_|refine am ?_|refine JF a5 H6 ?_)
 refine aP [1,9,10] (α:=Nat×AL) (fun i=>[(11,aF i.1)]) (fun i=>i.1≤l.length∧J i.1 i.2∧dc err l.length=d9 err (l.length - i.1) i.1) (fun i=>i.2) (fun i=>l.length - i.1) (0,L0) rfl ⟨rfl,trivial⟩ ⟨Nat.zero_le _,h0,rfl⟩ (fun _ _ h=>h) ?_
 rintro ⟨i,L⟩ ⟨hi,hj,he⟩
 dsimp only at hi hj he ⊢
 try dsimp only [Js,Jr,Jq,Jl]
 repeat' (first|refine Ji ?_|refine JF a5 H6 ?_)
 refine ar rfl (fun h=>?_) (fun h=>?_)
 ·have hil:i < l.length:=by have:=Jy h;simp at this;omega
  obtain ⟨z,hz⟩:∃z,l[i]?=some z:=⟨_,Jz hil⟩
  have hzg:=bG (c:=bT) hz
  repeat' (first|refine Ji ?_|refine am ?_|refine JF a5 H6 ?_|(apply aO;first|refine aN a5 ?_|refine aG a5 ?_)|(apply aK;first|refine JH 7 a5 0 JE ?_|refine JH 7 a5 1 JE ?_|refine JH 7 a5 2 JE ?_|refine JG a5 0 JD ?_|refine JG a5 1 JD ?_|refine JG a5 2 JD ?_|refine JG a5 3 JD ?_|fail)|refine bj a5 fun _=>?_|fail)
  refine dw L [] (hw i z L hz hj) rfl hu rfl (ci rfl) rfl rfl fun c L1 ⟨hc,hj'⟩=>?_
  subst hc
  rw [List.append_nil]
  repeat' (first|refine Ji ?_|refine JF a5 H6 ?_)
  refine ar rfl (fun h2=>?_) (fun h2=>?_)
  ·have h2':=Jy h2
   repeat' (first|refine Ji ?_|refine JF a5 H6 ?_)
   refine JP JA ?_
   rw [he,cM hil h2']
   rfl
  ·have h2':=Decidable.not_not.1 (Jx h2)
   repeat' (first|refine Ji ?_|refine JF a5 H6 ?_|(apply aS;refine aR ?_)|fail)
   exact aC (i+1,L1) rfl ⟨by rw [Jv];rfl,trivial⟩ ⟨by dsimp only;omega,hj' h2',by rw [he];exact cz hil h2'⟩ (by dsimp only;omega) (fun _ _ h=>h)
 ·have hil:i=l.length:=by have:=Jx h;simp at this;omega
  subst hil
  repeat' (first|refine Ji ?_|refine JF a5 H6 ?_)
  refine JP JA ?_
  rw [he,Nat.sub_self]
  rfl
theorem F3 {g:FuncId} {caps:List AV} {u:AV} [bL Tryz.prog g] (hu:kI u=some (g,caps)) (l:List (List eZ)) (most:Int) (err:Nat→Int) (J:Nat→AL→Prop) (L0:AL) (h0:J 0 L0) (hw:(l.length:Int)≤most→∀i x L,l[i]?=some x→J i L→AC Tryz.prog g ([aF i,.agg (bT x)]++caps) L fun c L'=>c=aF (err i)∧(err i=0→J (i+1) L')):
  AC Tryz.prog 147 [.iptr [.imm 1 (l.map bT)],.iptr [aF most],.iptr [u]] L0 fun r _=>r=cu (d5 most err l.length):=by
 refine aM Tryz.func147 rfl Tryz.ntmps147 rfl fun B=>?_
 repeat' (first|refine Ji ?_|refine JF a5 H6 ?_)
 refine ar rfl (fun h=>?_) (fun h=>?_)
 ·have h':=Jy h
  rw [Ju] at h'
  repeat' (first|refine Ji ?_|refine JF a5 H6 ?_)
  refine JP JA ?_
  unfold d5
  rw [if_pos h']
  rfl
 ·have h':=Jx h
  rw [Ju] at h'
  repeat' (first|refine Ji ?_|refine JF a5 H6 ?_)
  refine b8 L0 [] (Ef hu l err J L0 h0 (hw (by omega))) rfl (fI hu) (ci rfl) rfl fun c L1 hc=>?_
  subst hc
  repeat' (first|refine Ji ?_|refine JF a5 H6 ?_)
  refine JP JA ?_
  unfold d5
  rw [if_neg h']
  rfl
theorem HN {g:FuncId} {caps:List AV} (l:List (List eZ)) (most:Int):bJ Tryz.prog 70 [.imm 1 (l.map bT),aF most,.fn g caps] (.fn 147 [.iptr [.imm 1 (l.map bT)],.iptr [aF most],.iptr [.fn g caps]]):=by
 refine aM Tryz.func70 rfl Tryz.ntmps70 rfl fun B=>?_
 repeat' (first|refine Ji ?_|refine JF a5 H6 ?_|refine bf ?_|fail)
 exact JM JA
instance {g:FuncId} {caps:List AV} (l:List (List eZ)) (most:Int):AD Tryz.prog 70 [.imm 1 (l.map bT),aF most,.fn g caps] (.fn 147 [.iptr [.imm 1 (l.map bT)],.iptr [aF most],.iptr [.fn g caps]]):=⟨HN l most⟩
theorem Eg {g:FuncId} {caps:List AV} {u:AV} [bL Tryz.prog g] (hu:kI u=some (g,caps)) (l:List eZ) (err:Nat→Int) (J:Nat→AL→Prop) (L0:AL) (h0:J 0 L0) (hw:∀i x L,l[i]?=some x→J i L→AC Tryz.prog g ([aF i,.agg (kz x)]++caps) L fun c L'=>c=aF (err i)∧(err i=0→J (i+1) L')):
  AC Tryz.prog 149 [.imm 3 (l.map kz),u] L0 fun r _=>r=cu (dc err l.length):=by
 refine aM Tryz.func149 rfl Tryz.ntmps149 rfl fun B=>?_
 refine cI 0 rfl rfl fun hlen=>?_
 rw [Ju] at hlen
 repeat' (first|refine Ji ?_|refine am ?_|refine JF a5 H6 ?_)
 refine aP [1,9,10] (α:=Nat×AL) (fun i=>[(11,aF i.1)]) (fun i=>i.1≤l.length∧J i.1 i.2∧dc err l.length=d9 err (l.length - i.1) i.1) (fun i=>i.2) (fun i=>l.length - i.1) (0,L0) rfl ⟨rfl,trivial⟩ ⟨Nat.zero_le _,h0,rfl⟩ (fun _ _ h=>h) ?_
 rintro ⟨i,L⟩ ⟨hi,hj,he⟩
 dsimp only at hi hj he ⊢
 try dsimp only [Js,Jr,Jq,Jl]
 repeat' (first|refine Ji ?_|refine JF a5 H6 ?_)
 refine ar rfl (fun h=>?_) (fun h=>?_)
 ·have hil:i < l.length:=by have:=Jy h;simp at this;omega
  obtain ⟨z,hz⟩:∃z,l[i]?=some z:=⟨_,Jz hil⟩
  have hzg:=bG (c:=kz) hz
  repeat' (first|refine Ji ?_|refine am ?_|refine JF a5 H6 ?_|(apply aO;first|refine aN a5 ?_|refine aG a5 ?_)|(apply aK;first|refine JH 7 a5 0 JE ?_|refine JH 7 a5 1 JE ?_|refine JH 7 a5 2 JE ?_|refine JG a5 0 JD ?_|refine JG a5 1 JD ?_|refine JG a5 2 JD ?_|refine JG a5 3 JD ?_|fail)|refine bj a5 fun _=>?_|fail)
  refine dw L [] (hw i z L hz hj) rfl hu rfl (ci rfl) rfl rfl fun c L1 ⟨hc,hj'⟩=>?_
  subst hc
  rw [List.append_nil]
  repeat' (first|refine Ji ?_|refine JF a5 H6 ?_)
  refine ar rfl (fun h2=>?_) (fun h2=>?_)
  ·have h2':=Jy h2
   repeat' (first|refine Ji ?_|refine JF a5 H6 ?_)
   refine JP JA ?_
   rw [he,cM hil h2']
   rfl
  ·have h2':=Decidable.not_not.1 (Jx h2)
   repeat' (first|refine Ji ?_|refine JF a5 H6 ?_|(apply aS;refine aR ?_)|fail)
   exact aC (i+1,L1) rfl ⟨by rw [Jv];rfl,trivial⟩ ⟨by dsimp only;omega,hj' h2',by rw [he];exact cz hil h2'⟩ (by dsimp only;omega) (fun _ _ h=>h)
 ·have hil:i=l.length:=by have:=Jx h;simp at this;omega
  subst hil
  repeat' (first|refine Ji ?_|refine JF a5 H6 ?_)
  refine JP JA ?_
  rw [he,Nat.sub_self]
  rfl
theorem Eh {g:FuncId} {caps:List AV} {u:AV} [bL Tryz.prog g] (hu:kI u=some (g,caps)) (l:List (List g7)) (err:Nat→Int) (J:Nat→AL→Prop) (L0:AL) (h0:J 0 L0) (hw:∀i x L,l[i]?=some x→J i L→AC Tryz.prog g ([aF i,.imm 2 (x.map eT)]++caps) L fun c L'=>c=aF (err i)∧(err i=0→J (i+1) L')):
  AC Tryz.prog 152 [.imm 1 (l.map dD),u] L0 fun r _=>r=cu (dc err l.length):=by
 refine aM Tryz.func152 rfl Tryz.ntmps152 rfl fun B=>?_
 refine cI 0 rfl rfl fun hlen=>?_
 rw [Ju] at hlen
 repeat' (first|refine Ji ?_|refine am ?_|refine JF a5 H6 ?_)
 refine aP [1,9,10] (α:=Nat×AL) (fun i=>[(11,aF i.1)]) (fun i=>i.1≤l.length∧J i.1 i.2∧dc err l.length=d9 err (l.length - i.1) i.1) (fun i=>i.2) (fun i=>l.length - i.1) (0,L0) rfl ⟨rfl,trivial⟩ ⟨Nat.zero_le _,h0,rfl⟩ (fun _ _ h=>h) ?_
 rintro ⟨i,L⟩ ⟨hi,hj,he⟩
 dsimp only at hi hj he ⊢
 try dsimp only [Js,Jr,Jq,Jl]
 repeat' (first|refine Ji ?_|refine JF a5 H6 ?_)
 refine ar rfl (fun h=>?_) (fun h=>?_)
 ·have hil:i < l.length:=by have:=Jy h;simp at this;omega
  obtain ⟨z,hz⟩:∃z,l[i]?=some z:=⟨_,Jz hil⟩
  have hzg:=bG (c:=dD) hz
  repeat' (first|refine Ji ?_|refine am ?_|refine JF a5 H6 ?_|(apply aO;first|refine aN a5 ?_|refine aG a5 ?_)|fail)
  refine dw L [] (hw i z L hz hj) rfl hu rfl (ci rfl) rfl rfl fun c L1 ⟨hc,hj'⟩=>?_
  subst hc
  rw [List.append_nil]
  repeat' (first|refine Ji ?_|refine JF a5 H6 ?_)
  refine ar rfl (fun h2=>?_) (fun h2=>?_)
  ·have h2':=Jy h2
   repeat' (first|refine Ji ?_|refine JF a5 H6 ?_)
   refine JP JA ?_
   rw [he,cM hil h2']
   rfl
  ·have h2':=Decidable.not_not.1 (Jx h2)
   repeat' (first|refine Ji ?_|refine JF a5 H6 ?_|(apply aS;refine aR ?_)|fail)
   exact aC (i+1,L1) rfl ⟨by rw [Jv];rfl,trivial⟩ ⟨by dsimp only;omega,hj' h2',by rw [he];exact cz hil h2'⟩ (by dsimp only;omega) (fun _ _ h=>h)
 ·have hil:i=l.length:=by have:=Jx h;simp at this;omega
  subst hil
  repeat' (first|refine Ji ?_|refine JF a5 H6 ?_)
  refine JP JA ?_
  rw [he,Nat.sub_self]
  rfl
theorem F4 {g:FuncId} {caps:List AV} {u:AV} [bL Tryz.prog g] (hu:kI u=some (g,caps)) (l:List (List g7)) (most:Int) (err:Nat→Int) (J:Nat→AL→Prop) (L0:AL) (h0:J 0 L0) (hw:(l.length:Int)≤most→∀i x L,l[i]?=some x→J i L→AC Tryz.prog g ([aF i,.imm 2 (x.map eT)]++caps) L fun c L'=>c=aF (err i)∧(err i=0→J (i+1) L')):
  AC Tryz.prog 151 [.iptr [.imm 1 (l.map dD)],.iptr [aF most],.iptr [u]] L0 fun r _=>r=cu (d5 most err l.length):=by
 refine aM Tryz.func151 rfl Tryz.ntmps151 rfl fun B=>?_
 repeat' (first|refine Ji ?_|refine JF a5 H6 ?_)
 refine ar rfl (fun h=>?_) (fun h=>?_)
 ·have h':=Jy h
  rw [Ju] at h'
  repeat' (first|refine Ji ?_|refine JF a5 H6 ?_)
  refine JP JA ?_
  unfold d5
  rw [if_pos h']
  rfl
 ·have h':=Jx h
  rw [Ju] at h'
  repeat' (first|refine Ji ?_|refine JF a5 H6 ?_)
  refine b8 L0 [] (Eh hu l err J L0 h0 (hw (by omega))) rfl (fI hu) (ci rfl) rfl fun c L1 hc=>?_
  subst hc
  repeat' (first|refine Ji ?_|refine JF a5 H6 ?_)
  refine JP JA ?_
  unfold d5
  rw [if_neg h']
  rfl
theorem GJ {g:FuncId} (l:List (List g7)) (most:Int):bJ Tryz.prog 73 [.imm 1 (l.map dD),aF most,.sc (.func (.func g) #[] #[])] (.fn 151 [.iptr [.imm 1 (l.map dD)],.iptr [aF most],.iptr [.sc (.func (.func g) #[] #[])]]):=by
 refine aM Tryz.func73 rfl Tryz.ntmps73 rfl fun B=>?_
 repeat' (first|refine Ji ?_|refine JF a5 H6 ?_|refine bf ?_|fail)
 exact JM JA
instance {g:FuncId} (l:List (List g7)) (most:Int):AD Tryz.prog 73 [.imm 1 (l.map dD),aF most,.sc (.func (.func g) #[] #[])] (.fn 151 [.iptr [.imm 1 (l.map dD)],.iptr [aF most],.iptr [.sc (.func (.func g) #[] #[])]]):=⟨GJ l most⟩
theorem Ei {g:FuncId} {caps:List AV} {u:AV} [bL Tryz.prog g] (hu:kI u=some (g,caps)) (l:List eE) (err:Nat→Int) (J:Nat→AL→Prop) (L0:AL) (h0:J 0 L0) (hw:∀i x L,l[i]?=some x→J i L→AC Tryz.prog g ([aF i,.agg (dA x)]++caps) L fun c L'=>c=aF (err i)∧(err i=0→J (i+1) L')):
  AC Tryz.prog 198 [.imm 3 (l.map dA),u] L0 fun r _=>r=cu (dc err l.length):=by
 refine aM Tryz.func198 rfl Tryz.ntmps198 rfl fun B=>?_
 refine cI 0 rfl rfl fun hlen=>?_
 rw [Ju] at hlen
 repeat' (first|refine Ji ?_|refine am ?_|refine JF a5 H6 ?_)
 refine aP [1,9,10] (α:=Nat×AL) (fun i=>[(11,aF i.1)]) (fun i=>i.1≤l.length∧J i.1 i.2∧dc err l.length=d9 err (l.length - i.1) i.1) (fun i=>i.2) (fun i=>l.length - i.1) (0,L0) rfl ⟨rfl,trivial⟩ ⟨Nat.zero_le _,h0,rfl⟩ (fun _ _ h=>h) ?_
 rintro ⟨i,L⟩ ⟨hi,hj,he⟩
 dsimp only at hi hj he ⊢
 try dsimp only [Js,Jr,Jq,Jl]
 repeat' (first|refine Ji ?_|refine JF a5 H6 ?_)
 refine ar rfl (fun h=>?_) (fun h=>?_)
 ·have hil:i < l.length:=by have:=Jy h;simp at this;omega
  obtain ⟨z,hz⟩:∃z,l[i]?=some z:=⟨_,Jz hil⟩
  have hzg:=bG (c:=dA) hz
  repeat' (first|refine Ji ?_|refine am ?_|refine JF a5 H6 ?_|(apply aO;first|refine aN a5 ?_|refine aG a5 ?_)|(apply aK;first|refine JH 7 a5 0 JE ?_|refine JH 7 a5 1 JE ?_|refine JH 7 a5 2 JE ?_|refine JG a5 0 JD ?_|refine JG a5 1 JD ?_|refine JG a5 2 JD ?_|refine JG a5 3 JD ?_|fail)|refine bj a5 fun _=>?_|fail)
  refine dw L [] (hw i z L hz hj) rfl hu rfl (ci rfl) rfl rfl fun c L1 ⟨hc,hj'⟩=>?_
  subst hc
  rw [List.append_nil]
  repeat' (first|refine Ji ?_|refine JF a5 H6 ?_)
  refine ar rfl (fun h2=>?_) (fun h2=>?_)
  ·have h2':=Jy h2
   repeat' (first|refine Ji ?_|refine JF a5 H6 ?_)
   refine JP JA ?_
   rw [he,cM hil h2']
   rfl
  ·have h2':=Decidable.not_not.1 (Jx h2)
   repeat' (first|refine Ji ?_|refine JF a5 H6 ?_|(apply aS;refine aR ?_)|fail)
   exact aC (i+1,L1) rfl ⟨by rw [Jv];rfl,trivial⟩ ⟨by dsimp only;omega,hj' h2',by rw [he];exact cz hil h2'⟩ (by dsimp only;omega) (fun _ _ h=>h)
 ·have hil:i=l.length:=by have:=Jx h;simp at this;omega
  subst hil
  repeat' (first|refine Ji ?_|refine JF a5 H6 ?_)
  refine JP JA ?_
  rw [he,Nat.sub_self]
  rfl
theorem Ej {g:FuncId} {caps:List AV} {u:AV} [bL Tryz.prog g] (hu:kI u=some (g,caps)) (l:List dL) (err:Nat→Int) (J:Nat→AL→Prop) (L0:AL) (h0:J 0 L0) (hw:∀i x L,l[i]?=some x→J i L→AC Tryz.prog g ([aF i,.agg (eD x)]++caps) L fun c L'=>c=aF (err i)∧(err i=0→J (i+1) L')):
  AC Tryz.prog 202 [.imm 3 (l.map eD),u] L0 fun r _=>r=cu (dc err l.length):=by
 refine aM Tryz.func202 rfl Tryz.ntmps202 rfl fun B=>?_
 refine cI 0 rfl rfl fun hlen=>?_
 rw [Ju] at hlen
 repeat' (first|refine Ji ?_|refine am ?_|refine JF a5 H6 ?_)
 refine aP [1,9,10] (α:=Nat×AL) (fun i=>[(11,aF i.1)]) (fun i=>i.1≤l.length∧J i.1 i.2∧dc err l.length=d9 err (l.length - i.1) i.1) (fun i=>i.2) (fun i=>l.length - i.1) (0,L0) rfl ⟨rfl,trivial⟩ ⟨Nat.zero_le _,h0,rfl⟩ (fun _ _ h=>h) ?_
 rintro ⟨i,L⟩ ⟨hi,hj,he⟩
 dsimp only at hi hj he ⊢
 try dsimp only [Js,Jr,Jq,Jl]
 repeat' (first|refine Ji ?_|refine JF a5 H6 ?_)
 refine ar rfl (fun h=>?_) (fun h=>?_)
 ·have hil:i < l.length:=by have:=Jy h;simp at this;omega
  obtain ⟨z,hz⟩:∃z,l[i]?=some z:=⟨_,Jz hil⟩
  have hzg:=bG (c:=eD) hz
  repeat' (first|refine Ji ?_|refine am ?_|refine JF a5 H6 ?_|(apply aO;first|refine aN a5 ?_|refine aG a5 ?_)|(apply aK;first|refine JH 7 a5 0 JE ?_|refine JH 7 a5 1 JE ?_|refine JH 7 a5 2 JE ?_|refine JG a5 0 JD ?_|refine JG a5 1 JD ?_|refine JG a5 2 JD ?_|refine JG a5 3 JD ?_|fail)|refine bj a5 fun _=>?_|fail)
  refine dw L [] (hw i z L hz hj) rfl hu rfl (ci rfl) rfl rfl fun c L1 ⟨hc,hj'⟩=>?_
  subst hc
  rw [List.append_nil]
  repeat' (first|refine Ji ?_|refine JF a5 H6 ?_)
  refine ar rfl (fun h2=>?_) (fun h2=>?_)
  ·have h2':=Jy h2
   repeat' (first|refine Ji ?_|refine JF a5 H6 ?_)
   refine JP JA ?_
   rw [he,cM hil h2']
   rfl
  ·have h2':=Decidable.not_not.1 (Jx h2)
   repeat' (first|refine Ji ?_|refine JF a5 H6 ?_|(apply aS;refine aR ?_)|fail)
   exact aC (i+1,L1) rfl ⟨by rw [Jv];rfl,trivial⟩ ⟨by dsimp only;omega,hj' h2',by rw [he];exact cz hil h2'⟩ (by dsimp only;omega) (fun _ _ h=>h)
 ·have hil:i=l.length:=by have:=Jx h;simp at this;omega
  subst hil
  repeat' (first|refine Ji ?_|refine JF a5 H6 ?_)
  refine JP JA ?_
  rw [he,Nat.sub_self]
  rfl
theorem F6 {g:FuncId} {caps:List AV} {u:AV} [bL Tryz.prog g] (hu:kI u=some (g,caps)) (l:List dL) (most:Int) (err:Nat→Int) (J:Nat→AL→Prop) (L0:AL) (h0:J 0 L0) (hw:(l.length:Int)≤most→∀i x L,l[i]?=some x→J i L→AC Tryz.prog g ([aF i,.agg (eD x)]++caps) L fun c L'=>c=aF (err i)∧(err i=0→J (i+1) L')):
  AC Tryz.prog 201 [.iptr [.imm 3 (l.map eD)],.iptr [aF most],.iptr [u]] L0 fun r _=>r=cu (d5 most err l.length):=by
 refine aM Tryz.func201 rfl Tryz.ntmps201 rfl fun B=>?_
 repeat' (first|refine Ji ?_|refine JF a5 H6 ?_)
 refine ar rfl (fun h=>?_) (fun h=>?_)
 ·have h':=Jy h
  rw [Ju] at h'
  repeat' (first|refine Ji ?_|refine JF a5 H6 ?_)
  refine JP JA ?_
  unfold d5
  rw [if_pos h']
  rfl
 ·have h':=Jx h
  rw [Ju] at h'
  repeat' (first|refine Ji ?_|refine JF a5 H6 ?_)
  refine b8 L0 [] (Ej hu l err J L0 h0 (hw (by omega))) rfl (fI hu) (ci rfl) rfl fun c L1 hc=>?_
  subst hc
  repeat' (first|refine Ji ?_|refine JF a5 H6 ?_)
  refine JP JA ?_
  unfold d5
  rw [if_neg h']
  rfl
theorem HO {g:FuncId} {caps:List AV} (l:List dL) (most:Int):bJ Tryz.prog 117 [.imm 3 (l.map eD),aF most,.fn g caps] (.fn 201 [.iptr [.imm 3 (l.map eD)],.iptr [aF most],.iptr [.fn g caps]]):=by
 refine aM Tryz.func117 rfl Tryz.ntmps117 rfl fun B=>?_
 repeat' (first|refine Ji ?_|refine JF a5 H6 ?_|refine bf ?_|fail)
 exact JM JA
instance {g:FuncId} {caps:List AV} (l:List dL) (most:Int):AD Tryz.prog 117 [.imm 3 (l.map eD),aF most,.fn g caps] (.fn 201 [.iptr [.imm 3 (l.map eD)],.iptr [aF most],.iptr [.fn g caps]]):=⟨HO l most⟩
theorem Ek {g:FuncId} {caps:List AV} {u:AV} [bL Tryz.prog g] (hu:kI u=some (g,caps)) (l:List dv) (err:Nat→Int) (J:Nat→AL→Prop) (L0:AL) (h0:J 0 L0) (hw:∀i x L,l[i]?=some x→J i L→AC Tryz.prog g ([aF i,.agg (d8 x)]++caps) L fun c L'=>c=aF (err i)∧(err i=0→J (i+1) L')):
  AC Tryz.prog 204 [.imm 4 (l.map d8),u] L0 fun r _=>r=cu (dc err l.length):=by
 refine aM Tryz.func204 rfl Tryz.ntmps204 rfl fun B=>?_
 refine cI 0 rfl rfl fun hlen=>?_
 rw [Ju] at hlen
 repeat' (first|refine Ji ?_|refine am ?_|refine JF a5 H6 ?_)
 refine aP [1,9,10] (α:=Nat×AL) (fun i=>[(11,aF i.1)]) (fun i=>i.1≤l.length∧J i.1 i.2∧dc err l.length=d9 err (l.length - i.1) i.1) (fun i=>i.2) (fun i=>l.length - i.1) (0,L0) rfl ⟨rfl,trivial⟩ ⟨Nat.zero_le _,h0,rfl⟩ (fun _ _ h=>h) ?_
 rintro ⟨i,L⟩ ⟨hi,hj,he⟩
 dsimp only at hi hj he ⊢
 try dsimp only [Js,Jr,Jq,Jl]
 repeat' (first|refine Ji ?_|refine JF a5 H6 ?_)
 refine ar rfl (fun h=>?_) (fun h=>?_)
 ·have hil:i < l.length:=by have:=Jy h;simp at this;omega
  obtain ⟨z,hz⟩:∃z,l[i]?=some z:=⟨_,Jz hil⟩
  have hzg:=bG (c:=d8) hz
  repeat' (first|refine Ji ?_|refine am ?_|refine JF a5 H6 ?_|(apply aO;first|refine aN a5 ?_|refine aG a5 ?_)|(apply aK;first|refine JH 7 a5 0 JE ?_|refine JH 7 a5 1 JE ?_|refine JH 7 a5 2 JE ?_|refine JG a5 0 JD ?_|refine JG a5 1 JD ?_|refine JG a5 2 JD ?_|refine JG a5 3 JD ?_|fail)|refine bj a5 fun _=>?_|fail)
  refine dw L [] (hw i z L hz hj) rfl hu rfl (ci rfl) rfl rfl fun c L1 ⟨hc,hj'⟩=>?_
  subst hc
  rw [List.append_nil]
  repeat' (first|refine Ji ?_|refine JF a5 H6 ?_)
  refine ar rfl (fun h2=>?_) (fun h2=>?_)
  ·have h2':=Jy h2
   repeat' (first|refine Ji ?_|refine JF a5 H6 ?_)
   refine JP JA ?_
   rw [he,cM hil h2']
   rfl
  ·have h2':=Decidable.not_not.1 (Jx h2)
   repeat' (first|refine Ji ?_|refine JF a5 H6 ?_|(apply aS;refine aR ?_)|fail)
   exact aC (i+1,L1) rfl ⟨by rw [Jv];rfl,trivial⟩ ⟨by dsimp only;omega,hj' h2',by rw [he];exact cz hil h2'⟩ (by dsimp only;omega) (fun _ _ h=>h)
 ·have hil:i=l.length:=by have:=Jx h;simp at this;omega
  subst hil
  repeat' (first|refine Ji ?_|refine JF a5 H6 ?_)
  refine JP JA ?_
  rw [he,Nat.sub_self]
  rfl
theorem F7 {g:FuncId} {caps:List AV} {u:AV} [bL Tryz.prog g] (hu:kI u=some (g,caps)) (l:List dv) (most:Int) (err:Nat→Int) (J:Nat→AL→Prop) (L0:AL) (h0:J 0 L0) (hw:(l.length:Int)≤most→∀i x L,l[i]?=some x→J i L→AC Tryz.prog g ([aF i,.agg (d8 x)]++caps) L fun c L'=>c=aF (err i)∧(err i=0→J (i+1) L')):
  AC Tryz.prog 203 [.iptr [.imm 4 (l.map d8)],.iptr [aF most],.iptr [u]] L0 fun r _=>r=cu (d5 most err l.length):=by
 refine aM Tryz.func203 rfl Tryz.ntmps203 rfl fun B=>?_
 repeat' (first|refine Ji ?_|refine JF a5 H6 ?_)
 refine ar rfl (fun h=>?_) (fun h=>?_)
 ·have h':=Jy h
  rw [Ju] at h'
  repeat' (first|refine Ji ?_|refine JF a5 H6 ?_)
  refine JP JA ?_
  unfold d5
  rw [if_pos h']
  rfl
 ·have h':=Jx h
  rw [Ju] at h'
  repeat' (first|refine Ji ?_|refine JF a5 H6 ?_)
  refine b8 L0 [] (Ek hu l err J L0 h0 (hw (by omega))) rfl (fI hu) (ci rfl) rfl fun c L1 hc=>?_
  subst hc
  repeat' (first|refine Ji ?_|refine JF a5 H6 ?_)
  refine JP JA ?_
  unfold d5
  rw [if_neg h']
  rfl
theorem HP {g:FuncId} {caps:List AV} (l:List dv) (most:Int):bJ Tryz.prog 120 [.imm 4 (l.map d8),aF most,.fn g caps] (.fn 203 [.iptr [.imm 4 (l.map d8)],.iptr [aF most],.iptr [.fn g caps]]):=by
 refine aM Tryz.func120 rfl Tryz.ntmps120 rfl fun B=>?_
 repeat' (first|refine Ji ?_|refine JF a5 H6 ?_|refine bf ?_|fail)
 exact JM JA
instance {g:FuncId} {caps:List AV} (l:List dv) (most:Int):AD Tryz.prog 120 [.imm 4 (l.map d8),aF most,.fn g caps] (.fn 203 [.iptr [.imm 4 (l.map d8)],.iptr [aF most],.iptr [.fn g caps]]):=⟨HP l most⟩
theorem El {g:FuncId} {caps:List AV} {u:AV} [bL Tryz.prog g] (hu:kI u=some (g,caps)) (l:List dH) (err:Nat→Int) (J:Nat→AL→Prop) (L0:AL) (h0:J 0 L0) (hw:∀i x L,l[i]?=some x→J i L→AC Tryz.prog g ([aF i,.agg (dZ x)]++caps) L fun c L'=>c=aF (err i)∧(err i=0→J (i+1) L')):
  AC Tryz.prog 207 [.imm 4 (l.map dZ),u] L0 fun r _=>r=cu (dc err l.length):=by
 refine aM Tryz.func207 rfl Tryz.ntmps207 rfl fun B=>?_
 refine cI 0 rfl rfl fun hlen=>?_
 rw [Ju] at hlen
 repeat' (first|refine Ji ?_|refine am ?_|refine JF a5 H6 ?_)
 refine aP [1,9,10] (α:=Nat×AL) (fun i=>[(11,aF i.1)]) (fun i=>i.1≤l.length∧J i.1 i.2∧dc err l.length=d9 err (l.length - i.1) i.1) (fun i=>i.2) (fun i=>l.length - i.1) (0,L0) rfl ⟨rfl,trivial⟩ ⟨Nat.zero_le _,h0,rfl⟩ (fun _ _ h=>h) ?_
 rintro ⟨i,L⟩ ⟨hi,hj,he⟩
 dsimp only at hi hj he ⊢
 try dsimp only [Js,Jr,Jq,Jl]
 repeat' (first|refine Ji ?_|refine JF a5 H6 ?_)
 refine ar rfl (fun h=>?_) (fun h=>?_)
 ·have hil:i < l.length:=by have:=Jy h;simp at this;omega
  obtain ⟨z,hz⟩:∃z,l[i]?=some z:=⟨_,Jz hil⟩
  have hzg:=bG (c:=dZ) hz
  repeat' (first|refine Ji ?_|refine am ?_|refine JF a5 H6 ?_|(apply aO;first|refine aN a5 ?_|refine aG a5 ?_)|(apply aK;first|refine JH 7 a5 0 JE ?_|refine JH 7 a5 1 JE ?_|refine JH 7 a5 2 JE ?_|refine JG a5 0 JD ?_|refine JG a5 1 JD ?_|refine JG a5 2 JD ?_|refine JG a5 3 JD ?_|fail)|refine bj a5 fun _=>?_|fail)
  refine dw L [] (hw i z L hz hj) rfl hu rfl (ci rfl) rfl rfl fun c L1 ⟨hc,hj'⟩=>?_
  subst hc
  rw [List.append_nil]
  repeat' (first|refine Ji ?_|refine JF a5 H6 ?_)
  refine ar rfl (fun h2=>?_) (fun h2=>?_)
  ·have h2':=Jy h2
   repeat' (first|refine Ji ?_|refine JF a5 H6 ?_)
   refine JP JA ?_
   rw [he,cM hil h2']
   rfl
  ·have h2':=Decidable.not_not.1 (Jx h2)
   repeat' (first|refine Ji ?_|refine JF a5 H6 ?_|(apply aS;refine aR ?_)|fail)
   exact aC (i+1,L1) rfl ⟨by rw [Jv];rfl,trivial⟩ ⟨by dsimp only;omega,hj' h2',by rw [he];exact cz hil h2'⟩ (by dsimp only;omega) (fun _ _ h=>h)
 ·have hil:i=l.length:=by have:=Jx h;simp at this;omega
  subst hil
  repeat' (first|refine Ji ?_|refine JF a5 H6 ?_)
  refine JP JA ?_
  rw [he,Nat.sub_self]
  rfl
theorem F8 {g:FuncId} {caps:List AV} {u:AV} [bL Tryz.prog g] (hu:kI u=some (g,caps)) (l:List dH) (most:Int) (err:Nat→Int) (J:Nat→AL→Prop) (L0:AL) (h0:J 0 L0) (hw:(l.length:Int)≤most→∀i x L,l[i]?=some x→J i L→AC Tryz.prog g ([aF i,.agg (dZ x)]++caps) L fun c L'=>c=aF (err i)∧(err i=0→J (i+1) L')):
  AC Tryz.prog 206 [.iptr [.imm 4 (l.map dZ)],.iptr [aF most],.iptr [u]] L0 fun r _=>r=cu (d5 most err l.length):=by
 refine aM Tryz.func206 rfl Tryz.ntmps206 rfl fun B=>?_
 repeat' (first|refine Ji ?_|refine JF a5 H6 ?_)
 refine ar rfl (fun h=>?_) (fun h=>?_)
 ·have h':=Jy h
  rw [Ju] at h'
  repeat' (first|refine Ji ?_|refine JF a5 H6 ?_)
  refine JP JA ?_
  unfold d5
  rw [if_pos h']
  rfl
 ·have h':=Jx h
  rw [Ju] at h'
  repeat' (first|refine Ji ?_|refine JF a5 H6 ?_)
  refine b8 L0 [] (El hu l err J L0 h0 (hw (by omega))) rfl (fI hu) (ci rfl) rfl fun c L1 hc=>?_
  subst hc
  repeat' (first|refine Ji ?_|refine JF a5 H6 ?_)
  refine JP JA ?_
  unfold d5
  rw [if_neg h']
  rfl
theorem HQ {g:FuncId} {caps:List AV} (l:List dH) (most:Int):bJ Tryz.prog 122 [.imm 4 (l.map dZ),aF most,.fn g caps] (.fn 206 [.iptr [.imm 4 (l.map dZ)],.iptr [aF most],.iptr [.fn g caps]]):=by
 refine aM Tryz.func122 rfl Tryz.ntmps122 rfl fun B=>?_
 repeat' (first|refine Ji ?_|refine JF a5 H6 ?_|refine bf ?_|fail)
 exact JM JA
instance {g:FuncId} {caps:List AV} (l:List dH) (most:Int):AD Tryz.prog 122 [.imm 4 (l.map dZ),aF most,.fn g caps] (.fn 206 [.iptr [.imm 4 (l.map dZ)],.iptr [aF most],.iptr [.fn g caps]]):=⟨HQ l most⟩
theorem Em {g:FuncId} {caps:List AV} {u:AV} [bL Tryz.prog g] (hu:kI u=some (g,caps)) (l:List (List Int)) (err:Nat→Int) (J:Nat→AL→Prop) (L0:AL) (h0:J 0 L0) (hw:∀i x L,l[i]?=some x→J i L→AC Tryz.prog g ([aF i,.imm 1 (aX x)]++caps) L fun c L'=>c=aF (err i)∧(err i=0→J (i+1) L')):
  AC Tryz.prog 215 [.imm 1 (l.map Hv),u] L0 fun r _=>r=cu (dc err l.length):=by
 refine aM Tryz.func215 rfl Tryz.ntmps215 rfl fun B=>?_
 refine cI 0 rfl rfl fun hlen=>?_
 rw [Ju] at hlen
 repeat' (first|refine Ji ?_|refine am ?_|refine JF a5 H6 ?_)
 refine aP [1,9,10] (α:=Nat×AL) (fun i=>[(11,aF i.1)]) (fun i=>i.1≤l.length∧J i.1 i.2∧dc err l.length=d9 err (l.length - i.1) i.1) (fun i=>i.2) (fun i=>l.length - i.1) (0,L0) rfl ⟨rfl,trivial⟩ ⟨Nat.zero_le _,h0,rfl⟩ (fun _ _ h=>h) ?_
 rintro ⟨i,L⟩ ⟨hi,hj,he⟩
 dsimp only at hi hj he ⊢
 try dsimp only [Js,Jr,Jq,Jl]
 repeat' (first|refine Ji ?_|refine JF a5 H6 ?_)
 refine ar rfl (fun h=>?_) (fun h=>?_)
 ·have hil:i < l.length:=by have:=Jy h;simp at this;omega
  obtain ⟨z,hz⟩:∃z,l[i]?=some z:=⟨_,Jz hil⟩
  have hzg:=bG (c:=Hv) hz
  repeat' (first|refine Ji ?_|refine am ?_|refine JF a5 H6 ?_|(apply aO;first|refine aN a5 ?_|refine aG a5 ?_)|fail)
  refine dw L [] (hw i z L hz hj) rfl hu rfl (ci rfl) rfl rfl fun c L1 ⟨hc,hj'⟩=>?_
  subst hc
  rw [List.append_nil]
  repeat' (first|refine Ji ?_|refine JF a5 H6 ?_)
  refine ar rfl (fun h2=>?_) (fun h2=>?_)
  ·have h2':=Jy h2
   repeat' (first|refine Ji ?_|refine JF a5 H6 ?_)
   refine JP JA ?_
   rw [he,cM hil h2']
   rfl
  ·have h2':=Decidable.not_not.1 (Jx h2)
   repeat' (first|refine Ji ?_|refine JF a5 H6 ?_|(apply aS;refine aR ?_)|fail)
   exact aC (i+1,L1) rfl ⟨by rw [Jv];rfl,trivial⟩ ⟨by dsimp only;omega,hj' h2',by rw [he];exact cz hil h2'⟩ (by dsimp only;omega) (fun _ _ h=>h)
 ·have hil:i=l.length:=by have:=Jx h;simp at this;omega
  subst hil
  repeat' (first|refine Ji ?_|refine JF a5 H6 ?_)
  refine JP JA ?_
  rw [he,Nat.sub_self]
  rfl
theorem En {g:FuncId} {caps:List AV} {u:AV} [bL Tryz.prog g] (hu:kI u=some (g,caps)) (l:List g7) (err:Nat→Int) (J:Nat→AL→Prop) (L0:AL) (h0:J 0 L0) (hw:∀i x L,l[i]?=some x→J i L→AC Tryz.prog g ([aF i,.agg (eT x)]++caps) L fun c L'=>c=aF (err i)∧(err i=0→J (i+1) L')):
  AC Tryz.prog 228 [.imm 2 (l.map eT),u] L0 fun r _=>r=cu (dc err l.length):=by
 refine aM Tryz.func228 rfl Tryz.ntmps228 rfl fun B=>?_
 refine cI 0 rfl rfl fun hlen=>?_
 rw [Ju] at hlen
 repeat' (first|refine Ji ?_|refine am ?_|refine JF a5 H6 ?_)
 refine aP [1,9,10] (α:=Nat×AL) (fun i=>[(11,aF i.1)]) (fun i=>i.1≤l.length∧J i.1 i.2∧dc err l.length=d9 err (l.length - i.1) i.1) (fun i=>i.2) (fun i=>l.length - i.1) (0,L0) rfl ⟨rfl,trivial⟩ ⟨Nat.zero_le _,h0,rfl⟩ (fun _ _ h=>h) ?_
 rintro ⟨i,L⟩ ⟨hi,hj,he⟩
 dsimp only at hi hj he ⊢
 try dsimp only [Js,Jr,Jq,Jl]
 repeat' (first|refine Ji ?_|refine JF a5 H6 ?_)
 refine ar rfl (fun h=>?_) (fun h=>?_)
 ·have hil:i < l.length:=by have:=Jy h;simp at this;omega
  obtain ⟨z,hz⟩:∃z,l[i]?=some z:=⟨_,Jz hil⟩
  have hzg:=bG (c:=eT) hz
  repeat' (first|refine Ji ?_|refine am ?_|refine JF a5 H6 ?_|(apply aO;first|refine aN a5 ?_|refine aG a5 ?_)|(apply aK;first|refine JH 7 a5 0 JE ?_|refine JH 7 a5 1 JE ?_|refine JH 7 a5 2 JE ?_|refine JG a5 0 JD ?_|refine JG a5 1 JD ?_|refine JG a5 2 JD ?_|refine JG a5 3 JD ?_|fail)|refine bj a5 fun _=>?_|fail)
  refine dw L [] (hw i z L hz hj) rfl hu rfl (ci rfl) rfl rfl fun c L1 ⟨hc,hj'⟩=>?_
  subst hc
  rw [List.append_nil]
  repeat' (first|refine Ji ?_|refine JF a5 H6 ?_)
  refine ar rfl (fun h2=>?_) (fun h2=>?_)
  ·have h2':=Jy h2
   repeat' (first|refine Ji ?_|refine JF a5 H6 ?_)
   refine JP JA ?_
   rw [he,cM hil h2']
   rfl
  ·have h2':=Decidable.not_not.1 (Jx h2)
   repeat' (first|refine Ji ?_|refine JF a5 H6 ?_|(apply aS;refine aR ?_)|fail)
   exact aC (i+1,L1) rfl ⟨by rw [Jv];rfl,trivial⟩ ⟨by dsimp only;omega,hj' h2',by rw [he];exact cz hil h2'⟩ (by dsimp only;omega) (fun _ _ h=>h)
 ·have hil:i=l.length:=by have:=Jx h;simp at this;omega
  subst hil
  repeat' (first|refine Ji ?_|refine JF a5 H6 ?_)
  refine JP JA ?_
  rw [he,Nat.sub_self]
  rfl
theorem F9 {g:FuncId} {caps:List AV} {u:AV} [bL Tryz.prog g] (hu:kI u=some (g,caps)) (l:List g7) (most:Int) (err:Nat→Int) (J:Nat→AL→Prop) (L0:AL) (h0:J 0 L0) (hw:(l.length:Int)≤most→∀i x L,l[i]?=some x→J i L→AC Tryz.prog g ([aF i,.agg (eT x)]++caps) L fun c L'=>c=aF (err i)∧(err i=0→J (i+1) L')):
  AC Tryz.prog 227 [.iptr [.imm 2 (l.map eT)],.iptr [aF most],.iptr [u]] L0 fun r _=>r=cu (d5 most err l.length):=by
 refine aM Tryz.func227 rfl Tryz.ntmps227 rfl fun B=>?_
 repeat' (first|refine Ji ?_|refine JF a5 H6 ?_)
 refine ar rfl (fun h=>?_) (fun h=>?_)
 ·have h':=Jy h
  rw [Ju] at h'
  repeat' (first|refine Ji ?_|refine JF a5 H6 ?_)
  refine JP JA ?_
  unfold d5
  rw [if_pos h']
  rfl
 ·have h':=Jx h
  rw [Ju] at h'
  repeat' (first|refine Ji ?_|refine JF a5 H6 ?_)
  refine b8 L0 [] (En hu l err J L0 h0 (hw (by omega))) rfl (fI hu) (ci rfl) rfl fun c L1 hc=>?_
  subst hc
  repeat' (first|refine Ji ?_|refine JF a5 H6 ?_)
  refine JP JA ?_
  unfold d5
  rw [if_neg h']
  rfl
theorem GL {g:FuncId} (l:List g7) (most:Int):bJ Tryz.prog 153 [.imm 2 (l.map eT),aF most,.sc (.func (.func g) #[] #[])] (.fn 227 [.iptr [.imm 2 (l.map eT)],.iptr [aF most],.iptr [.sc (.func (.func g) #[] #[])]]):=by
 refine aM Tryz.func153 rfl Tryz.ntmps153 rfl fun B=>?_
 repeat' (first|refine Ji ?_|refine JF a5 H6 ?_|refine bf ?_|fail)
 exact JM JA
instance {g:FuncId} (l:List g7) (most:Int):AD Tryz.prog 153 [.imm 2 (l.map eT),aF most,.sc (.func (.func g) #[] #[])] (.fn 227 [.iptr [.imm 2 (l.map eT)],.iptr [aF most],.iptr [.sc (.func (.func g) #[] #[])]]):=⟨GL l most⟩
theorem Eo {g:FuncId} {caps:List AV} {u:AV} [bL Tryz.prog g] (hu:kI u=some (g,caps)) (l:List gR) (err:Nat→Int) (J:Nat→AL→Prop) (L0:AL) (h0:J 0 L0) (hw:∀i x L,l[i]?=some x→J i L→AC Tryz.prog g ([aF i,.agg (eM x)]++caps) L fun c L'=>c=aF (err i)∧(err i=0→J (i+1) L')):
  AC Tryz.prog 272 [.imm 2 (l.map eM),u] L0 fun r _=>r=cu (dc err l.length):=by
 refine aM Tryz.func272 rfl Tryz.ntmps272 rfl fun B=>?_
 refine cI 0 rfl rfl fun hlen=>?_
 rw [Ju] at hlen
 repeat' (first|refine Ji ?_|refine am ?_|refine JF a5 H6 ?_)
 refine aP [1,9,10] (α:=Nat×AL) (fun i=>[(11,aF i.1)]) (fun i=>i.1≤l.length∧J i.1 i.2∧dc err l.length=d9 err (l.length - i.1) i.1) (fun i=>i.2) (fun i=>l.length - i.1) (0,L0) rfl ⟨rfl,trivial⟩ ⟨Nat.zero_le _,h0,rfl⟩ (fun _ _ h=>h) ?_
 rintro ⟨i,L⟩ ⟨hi,hj,he⟩
 dsimp only at hi hj he ⊢
 try dsimp only [Js,Jr,Jq,Jl]
 repeat' (first|refine Ji ?_|refine JF a5 H6 ?_)
 refine ar rfl (fun h=>?_) (fun h=>?_)
 ·have hil:i < l.length:=by have:=Jy h;simp at this;omega
  obtain ⟨z,hz⟩:∃z,l[i]?=some z:=⟨_,Jz hil⟩
  have hzg:=bG (c:=eM) hz
  repeat' (first|refine Ji ?_|refine am ?_|refine JF a5 H6 ?_|(apply aO;first|refine aN a5 ?_|refine aG a5 ?_)|(apply aK;first|refine JH 7 a5 0 JE ?_|refine JH 7 a5 1 JE ?_|refine JH 7 a5 2 JE ?_|refine JG a5 0 JD ?_|refine JG a5 1 JD ?_|refine JG a5 2 JD ?_|refine JG a5 3 JD ?_|fail)|refine bj a5 fun _=>?_|fail)
  refine dw L [] (hw i z L hz hj) rfl hu rfl (ci rfl) rfl rfl fun c L1 ⟨hc,hj'⟩=>?_
  subst hc
  rw [List.append_nil]
  repeat' (first|refine Ji ?_|refine JF a5 H6 ?_)
  refine ar rfl (fun h2=>?_) (fun h2=>?_)
  ·have h2':=Jy h2
   repeat' (first|refine Ji ?_|refine JF a5 H6 ?_)
   refine JP JA ?_
   rw [he,cM hil h2']
   rfl
  ·have h2':=Decidable.not_not.1 (Jx h2)
   repeat' (first|refine Ji ?_|refine JF a5 H6 ?_|(apply aS;refine aR ?_)|fail)
   exact aC (i+1,L1) rfl ⟨by rw [Jv];rfl,trivial⟩ ⟨by dsimp only;omega,hj' h2',by rw [he];exact cz hil h2'⟩ (by dsimp only;omega) (fun _ _ h=>h)
 ·have hil:i=l.length:=by have:=Jx h;simp at this;omega
  subst hil
  repeat' (first|refine Ji ?_|refine JF a5 H6 ?_)
  refine JP JA ?_
  rw [he,Nat.sub_self]
  rfl
theorem mU {g:FuncId} {caps:List AV} {u:AV} [bL Tryz.prog g] (hu:kI u=some (g,caps)) (l:List Int) (err:Nat→Int) (J:Nat→AL→Prop) (L0:AL) (h0:J 0 L0) (hw:∀i x L,l[i]?=some x→J i L→AC Tryz.prog g ([aF i,aF x]++caps) L fun c L'=>c=aF (err i)∧(err i=0→J (i+1) L')):
  AC Tryz.prog 128 [.imm 1 (l.map yU),u] L0 fun r _=>r=cu (dc err l.length):=by
 refine aM Tryz.func128 rfl Tryz.ntmps128 rfl fun B=>?_
 refine cI 0 rfl rfl fun hlen=>?_
 rw [Ju] at hlen
 repeat' (first|refine Ji ?_|refine am ?_|refine JF a5 H6 ?_)
 refine aP [1,9,10] (α:=Nat×AL) (fun i=>[(11,aF i.1)]) (fun i=>i.1≤l.length∧J i.1 i.2∧dc err l.length=d9 err (l.length - i.1) i.1) (fun i=>i.2) (fun i=>l.length - i.1) (0,L0) rfl ⟨rfl,trivial⟩ ⟨Nat.zero_le _,h0,rfl⟩ (fun _ _ h=>h) ?_
 rintro ⟨i,L⟩ ⟨hi,hj,he⟩
 dsimp only at hi hj he ⊢
 try dsimp only [Js,Jr,Jq,Jl]
 repeat' (first|refine Ji ?_|refine JF a5 H6 ?_)
 refine ar rfl (fun h=>?_) (fun h=>?_)
 ·have hil:i < l.length:=by have:=Jy h;simp at this;omega
  obtain ⟨z,hz⟩:∃z,l[i]?=some z:=⟨_,Jz hil⟩
  have hzg:=bG (c:=yU) hz
  repeat' (first|refine Ji ?_|refine am ?_|refine JF a5 H6 ?_|(apply aO;first|refine aN a5 ?_|refine aG a5 ?_)|fail)
  refine dw L [] (hw i z L hz hj) rfl hu rfl (ci rfl) rfl rfl fun c L1 ⟨hc,hj'⟩=>?_
  subst hc
  rw [List.append_nil]
  repeat' (first|refine Ji ?_|refine JF a5 H6 ?_)
  refine ar rfl (fun h2=>?_) (fun h2=>?_)
  ·have h2':=Jy h2
   repeat' (first|refine Ji ?_|refine JF a5 H6 ?_)
   refine JP JA ?_
   rw [he,cM hil h2']
   rfl
  ·have h2':=Decidable.not_not.1 (Jx h2)
   repeat' (first|refine Ji ?_|refine JF a5 H6 ?_|(apply aS;refine aR ?_)|fail)
   exact aC (i+1,L1) rfl ⟨by rw [Jv];rfl,trivial⟩ ⟨by dsimp only;omega,hj' h2',by rw [he];exact cz hil h2'⟩ (by dsimp only;omega) (fun _ _ h=>h)
 ·have hil:i=l.length:=by have:=Jx h;simp at this;omega
  subst hil
  repeat' (first|refine Ji ?_|refine JF a5 H6 ?_)
  refine JP JA ?_
  rw [he,Nat.sub_self]
  rfl
theorem F5 {g:FuncId} {caps:List AV} {u:AV} [bL Tryz.prog g] (hu:kI u=some (g,caps)) (l:List Int) (most:Int) (err:Nat→Int) (J:Nat→AL→Prop) (L0:AL) (h0:J 0 L0) (hw:(l.length:Int)≤most→∀i x L,l[i]?=some x→J i L→AC Tryz.prog g ([aF i,aF x]++caps) L fun c L'=>c=aF (err i)∧(err i=0→J (i+1) L')):
  AC Tryz.prog 155 [.iptr [.imm 1 (l.map yU)],.iptr [aF most],.iptr [u]] L0 fun r _=>r=cu (d5 most err l.length):=by
 refine aM Tryz.func155 rfl Tryz.ntmps155 rfl fun B=>?_
 repeat' (first|refine Ji ?_|refine JF a5 H6 ?_)
 refine ar rfl (fun h=>?_) (fun h=>?_)
 ·have h':=Jy h
  rw [Ju] at h'
  repeat' (first|refine Ji ?_|refine JF a5 H6 ?_)
  refine JP JA ?_
  unfold d5
  rw [if_pos h']
  rfl
 ·have h':=Jx h
  rw [Ju] at h'
  repeat' (first|refine Ji ?_|refine JF a5 H6 ?_)
  refine b8 L0 [] (mU hu l err J L0 h0 (hw (by omega))) rfl (fI hu) (ci rfl) rfl fun c L1 hc=>?_
  subst hc
  repeat' (first|refine Ji ?_|refine JF a5 H6 ?_)
  refine JP JA ?_
  unfold d5
  rw [if_neg h']
  rfl
theorem GK {g:FuncId} (l:List Int) (most:Int):bJ Tryz.prog 76 [.imm 1 (l.map yU),aF most,.sc (.func (.func g) #[] #[])] (.fn 155 [.iptr [.imm 1 (l.map yU)],.iptr [aF most],.iptr [.sc (.func (.func g) #[] #[])]]):=by
 refine aM Tryz.func76 rfl Tryz.ntmps76 rfl fun B=>?_
 repeat' (first|refine Ji ?_|refine JF a5 H6 ?_|refine bf ?_|fail)
 exact JM JA
end Go.Proofs.YtpmdfoaadejmkaaGreatDoor
