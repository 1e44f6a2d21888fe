/-
  The program: looks at things, one by one.
-/
import Derived.Test.YtpmdfoaadejmkaaGreatDoorM06
import Derived.Test.YtpmdfoaadejmkaaGreatDoorM08
import Derived.Test.YtpmdfoaadejmkaaGreatDoorM05
namespace Go.Proofs.YtpmdfoaadejmkaaGreatDoor
open Go.RowKit
attribute [local irreducible] AT bK AX AO Av Kt bh dw DA cK
def d9 (err:Nat→Int):Nat→Nat→Int×Int
 | 0,_=>(0,0)
 | k+1,i=>if err i=0 then d9 err k (i+1) else (err i,i)
def dc (err:Nat→Int) (n:Nat):Int×Int:=d9 err n 0
def d6 (most:Int) (err:Nat→Int) (n:Nat):Int×Int:=if (n:Int) > most then (2,0) else dc err n
def cu (p:Int×Int):AV:= .tup [aF p.1,aF p.2]
theorem cz {err:Nat→Int} {n i:Nat} (hi:i < n) (h:err i=0):d9 err (n - i) i=d9 err (n - (i+1)) (i+1):=by
 rw [show n - i=(n - (i+1))+1 by omega]
 simp only [d9,h,if_true]
theorem cM {err:Nat→Int} {n i:Nat} (hi:i < n) (h:err i≠0):d9 err (n - i) i=(err i,(i:Int)):=by
 rw [show n - i=(n - (i+1))+1 by omega]
 simp only [d9,h,if_false]
theorem qf {err:Nat→Int}:∀(k i:Nat),(∀j,i≤j→j < i+k→err j=0)→d9 err k i=(0,0)
 | 0,_,_=>rfl
 | k+1,i,h=>by
  simp only [d9]
  rw [if_pos (h i (Nat.le_refl _) (by omega))]
  exact qf k (i+1) fun j h1 h2=>h j (by omega) (by omega)
theorem s3 {err:Nat→Int} {n:Nat} (h:∀i,i < n→err i=0):dc err n=(0,0):=qf n 0 fun j _ hj=>h j (by omega)
theorem Am {most:Int} {err:Nat→Int} {n:Nat} (hm:(n:Int)≤most) (h:∀i,i < n→err i=0):d6 most err n=(0,0):=by
 unfold d6
 rw [if_neg (by omega),s3 h]
def HA (q:List Int):List AV:=[.imm 1 (aW q)]
def yZ (z:Int):List AV:=[aF z]
theorem fJ {g:FuncId} {caps:List AV} {u:AV} (hu:kH u=some (g,caps)) {s:Nat} {l:List (List AV)}:lQ [.imm s l,u]=some [.imm s l,u]:=by
 unfold kH at hu
 split at hu <;> first | rfl | cases hu
theorem ck {L L':AL} (h:L=L'):L.Perm (L'++[]):=by rw [List.append_nil,h]
def IX (P:Program) (g:FuncId) (caps:List AV) (n:Nat) (arg:Nat→AV) (err:Nat→Int) (J:Nat→AL→Prop):Prop:=∀i L,i < n→J i L→AC P g ([aF i,arg i]++caps) L fun c L'=>c=aF (err i)∧(err i=0→J (i+1) L')
theorem Ef {g:FuncId} {caps:List AV} {u:AV} [bM Tryz.prog g] (hu:kH u=some (g,caps)) (l:List bz) (err:Nat→Int) (J:Nat→AL→Prop) (L0:AL) (h0:J 0 L0) (hw:∀i x L,l[i]?=some x→J i L→AC Tryz.prog g ([aF i,.agg (bR x)]++caps) L fun c L'=>c=aF (err i)∧(err i=0→J (i+1) L')):
  AC Tryz.prog 113 [.imm 9 (l.map bR),u] L0 fun r _=>r=cu (dc err l.length):=by
 refine aN Tryz.func113 rfl Tryz.ntmps113 rfl fun B=>?_
 refine cB 0 rfl rfl fun hlen=>?_
 rw [Jv] at hlen
 repeat' (first|refine JU ?_|refine am ?_|refine JG a5 JA ?_)
 refine aP [1,9,10] (α:=Nat×AL) (fun i=>[(11,aF i.1)]) (fun i=>i.1≤l.length∧J i.1 i.2∧dc err l.length=d9 err (l.length - i.1) i.1) (fun i=>i.2) (fun i=>l.length - i.1) (0,L0) rfl ⟨rfl,trivial⟩ ⟨Nat.zero_le _,h0,rfl⟩ (fun _ _ h=>h) ?_
 rintro ⟨i,L⟩ ⟨hi,hj,he⟩
 dsimp only at hi hj he ⊢
 try dsimp only [Jt,Js,Jr,Kz]
 repeat' (first|refine JU ?_|refine JG a5 JA ?_)
 refine ar rfl (fun h=>?_) (fun h=>?_)
 ·have hil:i < l.length:=by have:=Jz h;simp at this;omega
  obtain ⟨z,hz⟩:∃z,l[i]?=some z:=⟨_,Hb hil⟩
  have hzg:=bH (c:=bR) hz
  repeat' (first|refine JU ?_|refine am ?_|refine JG a5 JA ?_|(apply aL;first|refine aK a5 ?_|refine aG a5 ?_)|(apply aM;first|refine JI 7 a5 0 JF ?_|refine JI 7 a5 1 JF ?_|refine JI 7 a5 2 JF ?_|refine JH a5 0 JE ?_|refine JH a5 1 JE ?_|refine JH a5 2 JE ?_|refine JH a5 3 JE ?_|fail)|refine bj a5 fun _=>?_|fail)
  refine dx L [] (hw i z L hz hj) rfl hu rfl (ck rfl) rfl rfl fun c L1 ⟨hc,hj'⟩=>?_
  subst hc
  rw [List.append_nil]
  repeat' (first|refine JU ?_|refine JG a5 JA ?_)
  refine ar rfl (fun h2=>?_) (fun h2=>?_)
  ·have h2':=Jz h2
   repeat' (first|refine JU ?_|refine JG a5 JA ?_)
   refine JR JB ?_
   rw [he,cM hil h2']
   rfl
  ·have h2':=Decidable.not_not.1 (Jy h2)
   repeat' (first|refine JU ?_|refine JG a5 JA ?_|(apply aS;refine aQ ?_)|fail)
   exact aC (i+1,L1) rfl ⟨by rw [Jw];rfl,trivial⟩ ⟨by dsimp only;omega,hj' h2',by rw [he];exact cz hil h2'⟩ (by dsimp only;omega) (fun _ _ h=>h)
 ·have hil:i=l.length:=by have:=Jy h;simp at this;omega
  subst hil
  repeat' (first|refine JU ?_|refine JG a5 JA ?_)
  refine JR JB ?_
  rw [he,Nat.sub_self]
  rfl
theorem F3 {g:FuncId} {caps:List AV} {u:AV} [bM Tryz.prog g] (hu:kH u=some (g,caps)) (l:List bz) (most:Int) (err:Nat→Int) (J:Nat→AL→Prop) (L0:AL) (h0:J 0 L0) (hw:(l.length:Int)≤most→∀i x L,l[i]?=some x→J i L→AC Tryz.prog g ([aF i,.agg (bR x)]++caps) L fun c L'=>c=aF (err i)∧(err i=0→J (i+1) L')):
  AC Tryz.prog 112 [.iptr [.imm 9 (l.map bR)],.iptr [aF most],.iptr [u]] L0 fun r _=>r=cu (d6 most err l.length):=by
 refine aN Tryz.func112 rfl Tryz.ntmps112 rfl fun B=>?_
 repeat' (first|refine JU ?_|refine JG a5 JA ?_)
 refine ar rfl (fun h=>?_) (fun h=>?_)
 ·have h':=Jz h
  rw [Jv] at h'
  repeat' (first|refine JU ?_|refine JG a5 JA ?_)
  refine JR JB ?_
  unfold d6
  rw [if_pos h']
  rfl
 ·have h':=Jy h
  rw [Jv] at h'
  repeat' (first|refine JU ?_|refine JG a5 JA ?_)
  refine b9 L0 [] (Ef hu l err J L0 h0 (hw (by omega))) rfl (fJ hu) (ck rfl) rfl fun c L1 hc=>?_
  subst hc
  repeat' (first|refine JU ?_|refine JG a5 JA ?_)
  refine JR JB ?_
  unfold d6
  rw [if_neg h']
  rfl
theorem ID {g:FuncId} {caps:List AV} (l:List bz) (most:Int):bJ Tryz.prog 50 [.imm 9 (l.map bR),aF most,.fn g caps] (.fn 112 [.iptr [.imm 9 (l.map bR)],.iptr [aF most],.iptr [.fn g caps]]):=by
 refine aN Tryz.func50 rfl Tryz.ntmps50 rfl fun B=>?_
 repeat' (first|refine JU ?_|refine JG a5 JA ?_|refine bf ?_|fail)
 exact JN JB
instance {g:FuncId} {caps:List AV} (l:List bz) (most:Int):AD Tryz.prog 50 [.imm 9 (l.map bR),aF most,.fn g caps] (.fn 112 [.iptr [.imm 9 (l.map bR)],.iptr [aF most],.iptr [.fn g caps]]):=⟨ID l most⟩
theorem Eg {g:FuncId} {caps:List AV} {u:AV} [bM Tryz.prog g] (hu:kH u=some (g,caps)) (l:List gc) (err:Nat→Int) (J:Nat→AL→Prop) (L0:AL) (h0:J 0 L0) (hw:∀i x L,l[i]?=some x→J i L→AC Tryz.prog g ([aF i,.agg (eh x)]++caps) L fun c L'=>c=aF (err i)∧(err i=0→J (i+1) L')):
  AC Tryz.prog 133 [.imm 2 (l.map eh),u] L0 fun r _=>r=cu (dc err l.length):=by
 refine aN Tryz.func133 rfl Tryz.ntmps133 rfl fun B=>?_
 refine cB 0 rfl rfl fun hlen=>?_
 rw [Jv] at hlen
 repeat' (first|refine JU ?_|refine am ?_|refine JG a5 JA ?_)
 refine aP [1,9,10] (α:=Nat×AL) (fun i=>[(11,aF i.1)]) (fun i=>i.1≤l.length∧J i.1 i.2∧dc err l.length=d9 err (l.length - i.1) i.1) (fun i=>i.2) (fun i=>l.length - i.1) (0,L0) rfl ⟨rfl,trivial⟩ ⟨Nat.zero_le _,h0,rfl⟩ (fun _ _ h=>h) ?_
 rintro ⟨i,L⟩ ⟨hi,hj,he⟩
 dsimp only at hi hj he ⊢
 try dsimp only [Jt,Js,Jr,Kz]
 repeat' (first|refine JU ?_|refine JG a5 JA ?_)
 refine ar rfl (fun h=>?_) (fun h=>?_)
 ·have hil:i < l.length:=by have:=Jz h;simp at this;omega
  obtain ⟨z,hz⟩:∃z,l[i]?=some z:=⟨_,Hb hil⟩
  have hzg:=bH (c:=eh) hz
  repeat' (first|refine JU ?_|refine am ?_|refine JG a5 JA ?_|(apply aL;first|refine aK a5 ?_|refine aG a5 ?_)|(apply aM;first|refine JI 7 a5 0 JF ?_|refine JI 7 a5 1 JF ?_|refine JI 7 a5 2 JF ?_|refine JH a5 0 JE ?_|refine JH a5 1 JE ?_|refine JH a5 2 JE ?_|refine JH a5 3 JE ?_|fail)|refine bj a5 fun _=>?_|fail)
  refine dx L [] (hw i z L hz hj) rfl hu rfl (ck rfl) rfl rfl fun c L1 ⟨hc,hj'⟩=>?_
  subst hc
  rw [List.append_nil]
  repeat' (first|refine JU ?_|refine JG a5 JA ?_)
  refine ar rfl (fun h2=>?_) (fun h2=>?_)
  ·have h2':=Jz h2
   repeat' (first|refine JU ?_|refine JG a5 JA ?_)
   refine JR JB ?_
   rw [he,cM hil h2']
   rfl
  ·have h2':=Decidable.not_not.1 (Jy h2)
   repeat' (first|refine JU ?_|refine JG a5 JA ?_|(apply aS;refine aQ ?_)|fail)
   exact aC (i+1,L1) rfl ⟨by rw [Jw];rfl,trivial⟩ ⟨by dsimp only;omega,hj' h2',by rw [he];exact cz hil h2'⟩ (by dsimp only;omega) (fun _ _ h=>h)
 ·have hil:i=l.length:=by have:=Jy h;simp at this;omega
  subst hil
  repeat' (first|refine JU ?_|refine JG a5 JA ?_)
  refine JR JB ?_
  rw [he,Nat.sub_self]
  rfl
theorem F4 {g:FuncId} {caps:List AV} {u:AV} [bM Tryz.prog g] (hu:kH u=some (g,caps)) (l:List gc) (most:Int) (err:Nat→Int) (J:Nat→AL→Prop) (L0:AL) (h0:J 0 L0) (hw:(l.length:Int)≤most→∀i x L,l[i]?=some x→J i L→AC Tryz.prog g ([aF i,.agg (eh x)]++caps) L fun c L'=>c=aF (err i)∧(err i=0→J (i+1) L')):
  AC Tryz.prog 132 [.iptr [.imm 2 (l.map eh)],.iptr [aF most],.iptr [u]] L0 fun r _=>r=cu (d6 most err l.length):=by
 refine aN Tryz.func132 rfl Tryz.ntmps132 rfl fun B=>?_
 repeat' (first|refine JU ?_|refine JG a5 JA ?_)
 refine ar rfl (fun h=>?_) (fun h=>?_)
 ·have h':=Jz h
  rw [Jv] at h'
  repeat' (first|refine JU ?_|refine JG a5 JA ?_)
  refine JR JB ?_
  unfold d6
  rw [if_pos h']
  rfl
 ·have h':=Jy h
  rw [Jv] at h'
  repeat' (first|refine JU ?_|refine JG a5 JA ?_)
  refine b9 L0 [] (Eg hu l err J L0 h0 (hw (by omega))) rfl (fJ hu) (ck rfl) rfl fun c L1 hc=>?_
  subst hc
  repeat' (first|refine JU ?_|refine JG a5 JA ?_)
  refine JR JB ?_
  unfold d6
  rw [if_neg h']
  rfl
theorem IE {g:FuncId} {caps:List AV} (l:List gc) (most:Int):bJ Tryz.prog 57 [.imm 2 (l.map eh),aF most,.fn g caps] (.fn 132 [.iptr [.imm 2 (l.map eh)],.iptr [aF most],.iptr [.fn g caps]]):=by
 refine aN Tryz.func57 rfl Tryz.ntmps57 rfl fun B=>?_
 repeat' (first|refine JU ?_|refine JG a5 JA ?_|refine bf ?_|fail)
 exact JN JB
instance {g:FuncId} {caps:List AV} (l:List gc) (most:Int):AD Tryz.prog 57 [.imm 2 (l.map eh),aF most,.fn g caps] (.fn 132 [.iptr [.imm 2 (l.map eh)],.iptr [aF most],.iptr [.fn g caps]]):=⟨IE l most⟩
theorem Eh {g:FuncId} {caps:List AV} {u:AV} [bM Tryz.prog g] (hu:kH u=some (g,caps)) (l:List aO) (err:Nat→Int) (J:Nat→AL→Prop) (L0:AL) (h0:J 0 L0) (hw:∀i x L,l[i]?=some x→J i L→AC Tryz.prog g ([aF i,.agg (bi x)]++caps) L fun c L'=>c=aF (err i)∧(err i=0→J (i+1) L')):
  AC Tryz.prog 135 [.imm 3 (l.map bi),u] L0 fun r _=>r=cu (dc err l.length):=by
 refine aN Tryz.func135 rfl Tryz.ntmps135 rfl fun B=>?_
 refine cB 0 rfl rfl fun hlen=>?_
 rw [Jv] at hlen
 repeat' (first|refine JU ?_|refine am ?_|refine JG a5 JA ?_)
 refine aP [1,9,10] (α:=Nat×AL) (fun i=>[(11,aF i.1)]) (fun i=>i.1≤l.length∧J i.1 i.2∧dc err l.length=d9 err (l.length - i.1) i.1) (fun i=>i.2) (fun i=>l.length - i.1) (0,L0) rfl ⟨rfl,trivial⟩ ⟨Nat.zero_le _,h0,rfl⟩ (fun _ _ h=>h) ?_
 rintro ⟨i,L⟩ ⟨hi,hj,he⟩
 dsimp only at hi hj he ⊢
 try dsimp only [Jt,Js,Jr,Kz]
 repeat' (first|refine JU ?_|refine JG a5 JA ?_)
 refine ar rfl (fun h=>?_) (fun h=>?_)
 ·have hil:i < l.length:=by have:=Jz h;simp at this;omega
  obtain ⟨z,hz⟩:∃z,l[i]?=some z:=⟨_,Hb hil⟩
  have hzg:=bH (c:=bi) hz
  repeat' (first|refine JU ?_|refine am ?_|refine JG a5 JA ?_|(apply aL;first|refine aK a5 ?_|refine aG a5 ?_)|(apply aM;first|refine JI 7 a5 0 JF ?_|refine JI 7 a5 1 JF ?_|refine JI 7 a5 2 JF ?_|refine JH a5 0 JE ?_|refine JH a5 1 JE ?_|refine JH a5 2 JE ?_|refine JH a5 3 JE ?_|fail)|refine bj a5 fun _=>?_|fail)
  refine dx L [] (hw i z L hz hj) rfl hu rfl (ck rfl) rfl rfl fun c L1 ⟨hc,hj'⟩=>?_
  subst hc
  rw [List.append_nil]
  repeat' (first|refine JU ?_|refine JG a5 JA ?_)
  refine ar rfl (fun h2=>?_) (fun h2=>?_)
  ·have h2':=Jz h2
   repeat' (first|refine JU ?_|refine JG a5 JA ?_)
   refine JR JB ?_
   rw [he,cM hil h2']
   rfl
  ·have h2':=Decidable.not_not.1 (Jy h2)
   repeat' (first|refine JU ?_|refine JG a5 JA ?_|(apply aS;refine aQ ?_)|fail)
   exact aC (i+1,L1) rfl ⟨by rw [Jw];rfl,trivial⟩ ⟨by dsimp only;omega,hj' h2',by rw [he];exact cz hil h2'⟩ (by dsimp only;omega) (fun _ _ h=>h)
 ·have hil:i=l.length:=by have:=Jy h;simp at this;omega
  subst hil
  repeat' (first|refine JU ?_|refine JG a5 JA ?_)
  refine JR JB ?_
  rw [he,Nat.sub_self]
  rfl
theorem F5 {g:FuncId} {caps:List AV} {u:AV} [bM Tryz.prog g] (hu:kH u=some (g,caps)) (l:List aO) (most:Int) (err:Nat→Int) (J:Nat→AL→Prop) (L0:AL) (h0:J 0 L0) (hw:(l.length:Int)≤most→∀i x L,l[i]?=some x→J i L→AC Tryz.prog g ([aF i,.agg (bi x)]++caps) L fun c L'=>c=aF (err i)∧(err i=0→J (i+1) L')):
  AC Tryz.prog 134 [.iptr [.imm 3 (l.map bi)],.iptr [aF most],.iptr [u]] L0 fun r _=>r=cu (d6 most err l.length):=by
 refine aN Tryz.func134 rfl Tryz.ntmps134 rfl fun B=>?_
 repeat' (first|refine JU ?_|refine JG a5 JA ?_)
 refine ar rfl (fun h=>?_) (fun h=>?_)
 ·have h':=Jz h
  rw [Jv] at h'
  repeat' (first|refine JU ?_|refine JG a5 JA ?_)
  refine JR JB ?_
  unfold d6
  rw [if_pos h']
  rfl
 ·have h':=Jy h
  rw [Jv] at h'
  repeat' (first|refine JU ?_|refine JG a5 JA ?_)
  refine b9 L0 [] (Eh hu l err J L0 h0 (hw (by omega))) rfl (fJ hu) (ck rfl) rfl fun c L1 hc=>?_
  subst hc
  repeat' (first|refine JU ?_|refine JG a5 JA ?_)
  refine JR JB ?_
  unfold d6
  rw [if_neg h']
  rfl
theorem IF {g:FuncId} {caps:List AV} (l:List aO) (most:Int):bJ Tryz.prog 60 [.imm 3 (l.map bi),aF most,.fn g caps] (.fn 134 [.iptr [.imm 3 (l.map bi)],.iptr [aF most],.iptr [.fn g caps]]):=by
 refine aN Tryz.func60 rfl Tryz.ntmps60 rfl fun B=>?_
 repeat' (first|refine JU ?_|refine JG a5 JA ?_|refine bf ?_|fail)
 exact JN JB
instance {g:FuncId} {caps:List AV} (l:List aO) (most:Int):AD Tryz.prog 60 [.imm 3 (l.map bi),aF most,.fn g caps] (.fn 134 [.iptr [.imm 3 (l.map bi)],.iptr [aF most],.iptr [.fn g caps]]):=⟨IF l most⟩
theorem Ei {g:FuncId} {caps:List AV} {u:AV} [bM Tryz.prog g] (hu:kH u=some (g,caps)) (l:List bc) (err:Nat→Int) (J:Nat→AL→Prop) (L0:AL) (h0:J 0 L0) (hw:∀i x L,l[i]?=some x→J i L→AC Tryz.prog g ([aF i,.agg (bB x)]++caps) L fun c L'=>c=aF (err i)∧(err i=0→J (i+1) L')):
  AC Tryz.prog 139 [.imm 6 (l.map bB),u] L0 fun r _=>r=cu (dc err l.length):=by
 refine aN Tryz.func139 rfl Tryz.ntmps139 rfl fun B=>?_
 refine cB 0 rfl rfl fun hlen=>?_
 rw [Jv] at hlen
 repeat' (first|refine JU ?_|refine am ?_|refine JG a5 JA ?_)
 refine aP [1,9,10] (α:=Nat×AL) (fun i=>[(11,aF i.1)]) (fun i=>i.1≤l.length∧J i.1 i.2∧dc err l.length=d9 err (l.length - i.1) i.1) (fun i=>i.2) (fun i=>l.length - i.1) (0,L0) rfl ⟨rfl,trivial⟩ ⟨Nat.zero_le _,h0,rfl⟩ (fun _ _ h=>h) ?_
 rintro ⟨i,L⟩ ⟨hi,hj,he⟩
 dsimp only at hi hj he ⊢
 try dsimp only [Jt,Js,Jr,Kz]
 repeat' (first|refine JU ?_|refine JG a5 JA ?_)
 refine ar rfl (fun h=>?_) (fun h=>?_)
 ·have hil:i < l.length:=by have:=Jz h;simp at this;omega
  obtain ⟨z,hz⟩:∃z,l[i]?=some z:=⟨_,Hb hil⟩
  have hzg:=bH (c:=bB) hz
  repeat' (first|refine JU ?_|refine am ?_|refine JG a5 JA ?_|(apply aL;first|refine aK a5 ?_|refine aG a5 ?_)|(apply aM;first|refine JI 7 a5 0 JF ?_|refine JI 7 a5 1 JF ?_|refine JI 7 a5 2 JF ?_|refine JH a5 0 JE ?_|refine JH a5 1 JE ?_|refine JH a5 2 JE ?_|refine JH a5 3 JE ?_|fail)|refine bj a5 fun _=>?_|fail)
  refine dx L [] (hw i z L hz hj) rfl hu rfl (ck rfl) rfl rfl fun c L1 ⟨hc,hj'⟩=>?_
  subst hc
  rw [List.append_nil]
  repeat' (first|refine JU ?_|refine JG a5 JA ?_)
  refine ar rfl (fun h2=>?_) (fun h2=>?_)
  ·have h2':=Jz h2
   repeat' (first|refine JU ?_|refine JG a5 JA ?_)
   refine JR JB ?_
   rw [he,cM hil h2']
   rfl
  ·have h2':=Decidable.not_not.1 (Jy h2)
   repeat' (first|refine JU ?_|refine JG a5 JA ?_|(apply aS;refine aQ ?_)|fail)
   exact aC (i+1,L1) rfl ⟨by rw [Jw];rfl,trivial⟩ ⟨by dsimp only;omega,hj' h2',by rw [he];exact cz hil h2'⟩ (by dsimp only;omega) (fun _ _ h=>h)
 ·have hil:i=l.length:=by have:=Jy h;simp at this;omega
  subst hil
  repeat' (first|refine JU ?_|refine JG a5 JA ?_)
  refine JR JB ?_
  rw [he,Nat.sub_self]
  rfl
theorem Ej {g:FuncId} {caps:List AV} {u:AV} [bM Tryz.prog g] (hu:kH u=some (g,caps)) (l:List c7) (err:Nat→Int) (J:Nat→AL→Prop) (L0:AL) (h0:J 0 L0) (hw:∀i x L,l[i]?=some x→J i L→AC Tryz.prog g ([aF i,.agg (co x)]++caps) L fun c L'=>c=aF (err i)∧(err i=0→J (i+1) L')):
  AC Tryz.prog 143 [.imm 2 (l.map co),u] L0 fun r _=>r=cu (dc err l.length):=by
 refine aN Tryz.func143 rfl Tryz.ntmps143 rfl fun B=>?_
 refine cB 0 rfl rfl fun hlen=>?_
 rw [Jv] at hlen
 repeat' (first|refine JU ?_|refine am ?_|refine JG a5 JA ?_)
 refine aP [1,9,10] (α:=Nat×AL) (fun i=>[(11,aF i.1)]) (fun i=>i.1≤l.length∧J i.1 i.2∧dc err l.length=d9 err (l.length - i.1) i.1) (fun i=>i.2) (fun i=>l.length - i.1) (0,L0) rfl ⟨rfl,trivial⟩ ⟨Nat.zero_le _,h0,rfl⟩ (fun _ _ h=>h) ?_
 rintro ⟨i,L⟩ ⟨hi,hj,he⟩
 dsimp only at hi hj he ⊢
 try dsimp only [Jt,Js,Jr,Kz]
 repeat' (first|refine JU ?_|refine JG a5 JA ?_)
 refine ar rfl (fun h=>?_) (fun h=>?_)
 ·have hil:i < l.length:=by have:=Jz h;simp at this;omega
  obtain ⟨z,hz⟩:∃z,l[i]?=some z:=⟨_,Hb hil⟩
  have hzg:=bH (c:=co) hz
  repeat' (first|refine JU ?_|refine am ?_|refine JG a5 JA ?_|(apply aL;first|refine aK a5 ?_|refine aG a5 ?_)|(apply aM;first|refine JI 7 a5 0 JF ?_|refine JI 7 a5 1 JF ?_|refine JI 7 a5 2 JF ?_|refine JH a5 0 JE ?_|refine JH a5 1 JE ?_|refine JH a5 2 JE ?_|refine JH a5 3 JE ?_|fail)|refine bj a5 fun _=>?_|fail)
  refine dx L [] (hw i z L hz hj) rfl hu rfl (ck rfl) rfl rfl fun c L1 ⟨hc,hj'⟩=>?_
  subst hc
  rw [List.append_nil]
  repeat' (first|refine JU ?_|refine JG a5 JA ?_)
  refine ar rfl (fun h2=>?_) (fun h2=>?_)
  ·have h2':=Jz h2
   repeat' (first|refine JU ?_|refine JG a5 JA ?_)
   refine JR JB ?_
   rw [he,cM hil h2']
   rfl
  ·have h2':=Decidable.not_not.1 (Jy h2)
   repeat' (first|refine JU ?_|refine JG a5 JA ?_|(apply aS;refine aQ ?_)|fail)
   exact aC (i+1,L1) rfl ⟨by rw [Jw];rfl,trivial⟩ ⟨by dsimp only;omega,hj' h2',by rw [he];exact cz hil h2'⟩ (by dsimp only;omega) (fun _ _ h=>h)
 ·have hil:i=l.length:=by have:=Jy h;simp at this;omega
  subst hil
  repeat' (first|refine JU ?_|refine JG a5 JA ?_)
  refine JR JB ?_
  rw [he,Nat.sub_self]
  rfl
theorem F6 {g:FuncId} {caps:List AV} {u:AV} [bM Tryz.prog g] (hu:kH u=some (g,caps)) (l:List c7) (most:Int) (err:Nat→Int) (J:Nat→AL→Prop) (L0:AL) (h0:J 0 L0) (hw:(l.length:Int)≤most→∀i x L,l[i]?=some x→J i L→AC Tryz.prog g ([aF i,.agg (co x)]++caps) L fun c L'=>c=aF (err i)∧(err i=0→J (i+1) L')):
  AC Tryz.prog 142 [.iptr [.imm 2 (l.map co)],.iptr [aF most],.iptr [u]] L0 fun r _=>r=cu (d6 most err l.length):=by
 refine aN Tryz.func142 rfl Tryz.ntmps142 rfl fun B=>?_
 repeat' (first|refine JU ?_|refine JG a5 JA ?_)
 refine ar rfl (fun h=>?_) (fun h=>?_)
 ·have h':=Jz h
  rw [Jv] at h'
  repeat' (first|refine JU ?_|refine JG a5 JA ?_)
  refine JR JB ?_
  unfold d6
  rw [if_pos h']
  rfl
 ·have h':=Jy h
  rw [Jv] at h'
  repeat' (first|refine JU ?_|refine JG a5 JA ?_)
  refine b9 L0 [] (Ej hu l err J L0 h0 (hw (by omega))) rfl (fJ hu) (ck rfl) rfl fun c L1 hc=>?_
  subst hc
  repeat' (first|refine JU ?_|refine JG a5 JA ?_)
  refine JR JB ?_
  unfold d6
  rw [if_neg h']
  rfl
theorem IG {g:FuncId} {caps:List AV} (l:List c7) (most:Int):bJ Tryz.prog 63 [.imm 2 (l.map co),aF most,.fn g caps] (.fn 142 [.iptr [.imm 2 (l.map co)],.iptr [aF most],.iptr [.fn g caps]]):=by
 refine aN Tryz.func63 rfl Tryz.ntmps63 rfl fun B=>?_
 repeat' (first|refine JU ?_|refine JG a5 JA ?_|refine bf ?_|fail)
 exact JN JB
instance {g:FuncId} {caps:List AV} (l:List c7) (most:Int):AD Tryz.prog 63 [.imm 2 (l.map co),aF most,.fn g caps] (.fn 142 [.iptr [.imm 2 (l.map co)],.iptr [aF most],.iptr [.fn g caps]]):=⟨IG l most⟩
theorem Ek {g:FuncId} {caps:List AV} {u:AV} [bM Tryz.prog g] (hu:kH u=some (g,caps)) (l:List ez) (err:Nat→Int) (J:Nat→AL→Prop) (L0:AL) (h0:J 0 L0) (hw:∀i x L,l[i]?=some x→J i L→AC Tryz.prog g ([aF i,.agg (cL x)]++caps) L fun c L'=>c=aF (err i)∧(err i=0→J (i+1) L')):
  AC Tryz.prog 146 [.imm 4 (l.map cL),u] L0 fun r _=>r=cu (dc err l.length):=by
 refine aN Tryz.func146 rfl Tryz.ntmps146 rfl fun B=>?_
 refine cB 0 rfl rfl fun hlen=>?_
 rw [Jv] at hlen
 repeat' (first|refine JU ?_|refine am ?_|refine JG a5 JA ?_)
 refine aP [1,9,10] (α:=Nat×AL) (fun i=>[(11,aF i.1)]) (fun i=>i.1≤l.length∧J i.1 i.2∧dc err l.length=d9 err (l.length - i.1) i.1) (fun i=>i.2) (fun i=>l.length - i.1) (0,L0) rfl ⟨rfl,trivial⟩ ⟨Nat.zero_le _,h0,rfl⟩ (fun _ _ h=>h) ?_
 rintro ⟨i,L⟩ ⟨hi,hj,he⟩
 dsimp only at hi hj he ⊢
 try dsimp only [Jt,Js,Jr,Kz]
 repeat' (first|refine JU ?_|refine JG a5 JA ?_)
 refine ar rfl (fun h=>?_) (fun h=>?_)
 ·have hil:i < l.length:=by have:=Jz h;simp at this;omega
  obtain ⟨z,hz⟩:∃z,l[i]?=some z:=⟨_,Hb hil⟩
  have hzg:=bH (c:=cL) hz
  repeat' (first|refine JU ?_|refine am ?_|refine JG a5 JA ?_|(apply aL;first|refine aK a5 ?_|refine aG a5 ?_)|(apply aM;first|refine JI 7 a5 0 JF ?_|refine JI 7 a5 1 JF ?_|refine JI 7 a5 2 JF ?_|refine JH a5 0 JE ?_|refine JH a5 1 JE ?_|refine JH a5 2 JE ?_|refine JH a5 3 JE ?_|fail)|refine bj a5 fun _=>?_|fail)
  refine dx L [] (hw i z L hz hj) rfl hu rfl (ck rfl) rfl rfl fun c L1 ⟨hc,hj'⟩=>?_
  subst hc
  rw [List.append_nil]
  repeat' (first|refine JU ?_|refine JG a5 JA ?_)
  refine ar rfl (fun h2=>?_) (fun h2=>?_)
  ·have h2':=Jz h2
   repeat' (first|refine JU ?_|refine JG a5 JA ?_)
   refine JR JB ?_
   rw [he,cM hil h2']
   rfl
  ·have h2':=Decidable.not_not.1 (Jy h2)
   repeat' (first|refine JU ?_|refine JG a5 JA ?_|(apply aS;refine aQ ?_)|fail)
   exact aC (i+1,L1) rfl ⟨by rw [Jw];rfl,trivial⟩ ⟨by dsimp only;omega,hj' h2',by rw [he];exact cz hil h2'⟩ (by dsimp only;omega) (fun _ _ h=>h)
 ·have hil:i=l.length:=by have:=Jy h;simp at this;omega
  subst hil
  repeat' (first|refine JU ?_|refine JG a5 JA ?_)
  refine JR JB ?_
  rw [he,Nat.sub_self]
  rfl
theorem F7 {g:FuncId} {caps:List AV} {u:AV} [bM Tryz.prog g] (hu:kH u=some (g,caps)) (l:List ez) (most:Int) (err:Nat→Int) (J:Nat→AL→Prop) (L0:AL) (h0:J 0 L0) (hw:(l.length:Int)≤most→∀i x L,l[i]?=some x→J i L→AC Tryz.prog g ([aF i,.agg (cL x)]++caps) L fun c L'=>c=aF (err i)∧(err i=0→J (i+1) L')):
  AC Tryz.prog 145 [.iptr [.imm 4 (l.map cL)],.iptr [aF most],.iptr [u]] L0 fun r _=>r=cu (d6 most err l.length):=by
 refine aN Tryz.func145 rfl Tryz.ntmps145 rfl fun B=>?_
 repeat' (first|refine JU ?_|refine JG a5 JA ?_)
 refine ar rfl (fun h=>?_) (fun h=>?_)
 ·have h':=Jz h
  rw [Jv] at h'
  repeat' (first|refine JU ?_|refine JG a5 JA ?_)
  refine JR JB ?_
  unfold d6
  rw [if_pos h']
  rfl
 ·have h':=Jy h
  rw [Jv] at h'
  repeat' (first|refine JU ?_|refine JG a5 JA ?_)
  refine b9 L0 [] (Ek hu l err J L0 h0 (hw (by omega))) rfl (fJ hu) (ck rfl) rfl fun c L1 hc=>?_
  subst hc
  repeat' (first|refine JU ?_|refine JG a5 JA ?_)
  refine JR JB ?_
  unfold d6
  rw [if_neg h']
  rfl
theorem HR {g:FuncId} {caps:List AV} (l:List ez) (most:Int):bJ Tryz.prog 67 [.imm 4 (l.map cL),aF most,.fn g caps] (.fn 145 [.iptr [.imm 4 (l.map cL)],.iptr [aF most],.iptr [.fn g caps]]):=by
 refine aN Tryz.func67 rfl Tryz.ntmps67 rfl fun B=>?_
 repeat' (first|refine JU ?_|refine JG a5 JA ?_|refine bf ?_|fail)
 exact JN JB
instance {g:FuncId} {caps:List AV} (l:List ez) (most:Int):AD Tryz.prog 67 [.imm 4 (l.map cL),aF most,.fn g caps] (.fn 145 [.iptr [.imm 4 (l.map cL)],.iptr [aF most],.iptr [.fn g caps]]):=⟨HR l most⟩
theorem El {g:FuncId} {caps:List AV} {u:AV} [bM Tryz.prog g] (hu:kH u=some (g,caps)) (l:List (List f0)) (err:Nat→Int) (J:Nat→AL→Prop) (L0:AL) (h0:J 0 L0) (hw:∀i x L,l[i]?=some x→J i L→AC Tryz.prog g ([aF i,.agg (bU x)]++caps) L fun c L'=>c=aF (err i)∧(err i=0→J (i+1) L')):
  AC Tryz.prog 148 [.imm 1 (l.map bU),u] L0 fun r _=>r=cu (dc err l.length):=by
 refine aN Tryz.func148 rfl Tryz.ntmps148 rfl fun B=>?_
 refine cB 0 rfl rfl fun hlen=>?_
 rw [Jv] at hlen
 repeat' (first|refine JU ?_|refine am ?_|refine JG a5 JA ?_)
 refine aP [1,9,10] (α:=Nat×AL) (fun i=>[(11,aF i.1)]) (fun i=>i.1≤l.length∧J i.1 i.2∧dc err l.length=d9 err (l.length - i.1) i.1) (fun i=>i.2) (fun i=>l.length - i.1) (0,L0) rfl ⟨rfl,trivial⟩ ⟨Nat.zero_le _,h0,rfl⟩ (fun _ _ h=>h) ?_
 rintro ⟨i,L⟩ ⟨hi,hj,he⟩
 dsimp only at hi hj he ⊢
 try dsimp only [Jt,Js,Jr,Kz]
 repeat' (first|refine JU ?_|refine JG a5 JA ?_)
 refine ar rfl (fun h=>?_) (fun h=>?_)
 ·have hil:i < l.length:=by have:=Jz h;simp at this;omega
  obtain ⟨z,hz⟩:∃z,l[i]?=some z:=⟨_,Hb hil⟩
  have hzg:=bH (c:=bU) hz
  repeat' (first|refine JU ?_|refine am ?_|refine JG a5 JA ?_|(apply aL;first|refine aK a5 ?_|refine aG a5 ?_)|(apply aM;first|refine JI 7 a5 0 JF ?_|refine JI 7 a5 1 JF ?_|refine JI 7 a5 2 JF ?_|refine JH a5 0 JE ?_|refine JH a5 1 JE ?_|refine JH a5 2 JE ?_|refine JH a5 3 JE ?_|fail)|refine bj a5 fun _=>?_|fail)
  refine dx L [] (hw i z L hz hj) rfl hu rfl (ck rfl) rfl rfl fun c L1 ⟨hc,hj'⟩=>?_
  subst hc
  rw [List.append_nil]
  repeat' (first|refine JU ?_|refine JG a5 JA ?_)
  refine ar rfl (fun h2=>?_) (fun h2=>?_)
  ·have h2':=Jz h2
   repeat' (first|refine JU ?_|refine JG a5 JA ?_)
   refine JR JB ?_
   rw [he,cM hil h2']
   rfl
  ·have h2':=Decidable.not_not.1 (Jy h2)
   repeat' (first|refine JU ?_|refine JG a5 JA ?_|(apply aS;refine aQ ?_)|fail)
   exact aC (i+1,L1) rfl ⟨by rw [Jw];rfl,trivial⟩ ⟨by dsimp only;omega,hj' h2',by rw [he];exact cz hil h2'⟩ (by dsimp only;omega) (fun _ _ h=>h)
 ·have hil:i=l.length:=by have:=Jy h;simp at this;omega
  subst hil
  repeat' (first|refine JU ?_|refine JG a5 JA ?_)
  refine JR JB ?_
  rw [he,Nat.sub_self]
  rfl
theorem F8 {g:FuncId} {caps:List AV} {u:AV} [bM Tryz.prog g] (hu:kH u=some (g,caps)) (l:List (List f0)) (most:Int) (err:Nat→Int) (J:Nat→AL→Prop) (L0:AL) (h0:J 0 L0) (hw:(l.length:Int)≤most→∀i x L,l[i]?=some x→J i L→AC Tryz.prog g ([aF i,.agg (bU x)]++caps) L fun c L'=>c=aF (err i)∧(err i=0→J (i+1) L')):
  AC Tryz.prog 147 [.iptr [.imm 1 (l.map bU)],.iptr [aF most],.iptr [u]] L0 fun r _=>r=cu (d6 most err l.length):=by
 refine aN Tryz.func147 rfl Tryz.ntmps147 rfl fun B=>?_
 repeat' (first|refine JU ?_|refine JG a5 JA ?_)
 refine ar rfl (fun h=>?_) (fun h=>?_)
 ·have h':=Jz h
  rw [Jv] at h'
  repeat' (first|refine JU ?_|refine JG a5 JA ?_)
  refine JR JB ?_
  unfold d6
  rw [if_pos h']
  rfl
 ·have h':=Jy h
  rw [Jv] at h'
  repeat' (first|refine JU ?_|refine JG a5 JA ?_)
  refine b9 L0 [] (El hu l err J L0 h0 (hw (by omega))) rfl (fJ hu) (ck rfl) rfl fun c L1 hc=>?_
  subst hc
  repeat' (first|refine JU ?_|refine JG a5 JA ?_)
  refine JR JB ?_
  unfold d6
  rw [if_neg h']
  rfl
theorem HS {g:FuncId} {caps:List AV} (l:List (List f0)) (most:Int):bJ Tryz.prog 70 [.imm 1 (l.map bU),aF most,.fn g caps] (.fn 147 [.iptr [.imm 1 (l.map bU)],.iptr [aF most],.iptr [.fn g caps]]):=by
 refine aN Tryz.func70 rfl Tryz.ntmps70 rfl fun B=>?_
 repeat' (first|refine JU ?_|refine JG a5 JA ?_|refine bf ?_|fail)
 exact JN JB
instance {g:FuncId} {caps:List AV} (l:List (List f0)) (most:Int):AD Tryz.prog 70 [.imm 1 (l.map bU),aF most,.fn g caps] (.fn 147 [.iptr [.imm 1 (l.map bU)],.iptr [aF most],.iptr [.fn g caps]]):=⟨HS l most⟩
theorem Em {g:FuncId} {caps:List AV} {u:AV} [bM Tryz.prog g] (hu:kH u=some (g,caps)) (l:List f0) (err:Nat→Int) (J:Nat→AL→Prop) (L0:AL) (h0:J 0 L0) (hw:∀i x L,l[i]?=some x→J i L→AC Tryz.prog g ([aF i,.agg (ky x)]++caps) L fun c L'=>c=aF (err i)∧(err i=0→J (i+1) L')):
  AC Tryz.prog 149 [.imm 3 (l.map ky),u] L0 fun r _=>r=cu (dc err l.length):=by
 refine aN Tryz.func149 rfl Tryz.ntmps149 rfl fun B=>?_
 refine cB 0 rfl rfl fun hlen=>?_
 rw [Jv] at hlen
 repeat' (first|refine JU ?_|refine am ?_|refine JG a5 JA ?_)
 refine aP [1,9,10] (α:=Nat×AL) (fun i=>[(11,aF i.1)]) (fun i=>i.1≤l.length∧J i.1 i.2∧dc err l.length=d9 err (l.length - i.1) i.1) (fun i=>i.2) (fun i=>l.length - i.1) (0,L0) rfl ⟨rfl,trivial⟩ ⟨Nat.zero_le _,h0,rfl⟩ (fun _ _ h=>h) ?_
 rintro ⟨i,L⟩ ⟨hi,hj,he⟩
 dsimp only at hi hj he ⊢
 try dsimp only [Jt,Js,Jr,Kz]
 repeat' (first|refine JU ?_|refine JG a5 JA ?_)
 refine ar rfl (fun h=>?_) (fun h=>?_)
 ·have hil:i < l.length:=by have:=Jz h;simp at this;omega
  obtain ⟨z,hz⟩:∃z,l[i]?=some z:=⟨_,Hb hil⟩
  have hzg:=bH (c:=ky) hz
  repeat' (first|refine JU ?_|refine am ?_|refine JG a5 JA ?_|(apply aL;first|refine aK a5 ?_|refine aG a5 ?_)|(apply aM;first|refine JI 7 a5 0 JF ?_|refine JI 7 a5 1 JF ?_|refine JI 7 a5 2 JF ?_|refine JH a5 0 JE ?_|refine JH a5 1 JE ?_|refine JH a5 2 JE ?_|refine JH a5 3 JE ?_|fail)|refine bj a5 fun _=>?_|fail)
  refine dx L [] (hw i z L hz hj) rfl hu rfl (ck rfl) rfl rfl fun c L1 ⟨hc,hj'⟩=>?_
  subst hc
  rw [List.append_nil]
  repeat' (first|refine JU ?_|refine JG a5 JA ?_)
  refine ar rfl (fun h2=>?_) (fun h2=>?_)
  ·have h2':=Jz h2
   repeat' (first|refine JU ?_|refine JG a5 JA ?_)
   refine JR JB ?_
   rw [he,cM hil h2']
   rfl
  ·have h2':=Decidable.not_not.1 (Jy h2)
   repeat' (first|refine JU ?_|refine JG a5 JA ?_|(apply aS;refine aQ ?_)|fail)
   exact aC (i+1,L1) rfl ⟨by rw [Jw];rfl,trivial⟩ ⟨by dsimp only;omega,hj' h2',by rw [he];exact cz hil h2'⟩ (by dsimp only;omega) (fun _ _ h=>h)
 ·have hil:i=l.length:=by have:=Jy h;simp at this;omega
  subst hil
  repeat' (first|refine JU ?_|refine JG a5 JA ?_)
  refine JR JB ?_
  rw [he,Nat.sub_self]
  rfl
theorem En {g:FuncId} {caps:List AV} {u:AV} [bM Tryz.prog g] (hu:kH u=some (g,caps)) (l:List (List g8)) (err:Nat→Int) (J:Nat→AL→Prop) (L0:AL) (h0:J 0 L0) (hw:∀i x L,l[i]?=some x→J i L→AC Tryz.prog g ([aF i,.imm 2 (x.map eU)]++caps) L fun c L'=>c=aF (err i)∧(err i=0→J (i+1) L')):
  AC Tryz.prog 152 [.imm 1 (l.map dD),u] L0 fun r _=>r=cu (dc err l.length):=by
 refine aN Tryz.func152 rfl Tryz.ntmps152 rfl fun B=>?_
 refine cB 0 rfl rfl fun hlen=>?_
 rw [Jv] at hlen
 repeat' (first|refine JU ?_|refine am ?_|refine JG a5 JA ?_)
 refine aP [1,9,10] (α:=Nat×AL) (fun i=>[(11,aF i.1)]) (fun i=>i.1≤l.length∧J i.1 i.2∧dc err l.length=d9 err (l.length - i.1) i.1) (fun i=>i.2) (fun i=>l.length - i.1) (0,L0) rfl ⟨rfl,trivial⟩ ⟨Nat.zero_le _,h0,rfl⟩ (fun _ _ h=>h) ?_
 rintro ⟨i,L⟩ ⟨hi,hj,he⟩
 dsimp only at hi hj he ⊢
 try dsimp only [Jt,Js,Jr,Kz]
 repeat' (first|refine JU ?_|refine JG a5 JA ?_)
 refine ar rfl (fun h=>?_) (fun h=>?_)
 ·have hil:i < l.length:=by have:=Jz h;simp at this;omega
  obtain ⟨z,hz⟩:∃z,l[i]?=some z:=⟨_,Hb hil⟩
  have hzg:=bH (c:=dD) hz
  repeat' (first|refine JU ?_|refine am ?_|refine JG a5 JA ?_|(apply aL;first|refine aK a5 ?_|refine aG a5 ?_)|fail)
  refine dx L [] (hw i z L hz hj) rfl hu rfl (ck rfl) rfl rfl fun c L1 ⟨hc,hj'⟩=>?_
  subst hc
  rw [List.append_nil]
  repeat' (first|refine JU ?_|refine JG a5 JA ?_)
  refine ar rfl (fun h2=>?_) (fun h2=>?_)
  ·have h2':=Jz h2
   repeat' (first|refine JU ?_|refine JG a5 JA ?_)
   refine JR JB ?_
   rw [he,cM hil h2']
   rfl
  ·have h2':=Decidable.not_not.1 (Jy h2)
   repeat' (first|refine JU ?_|refine JG a5 JA ?_|(apply aS;refine aQ ?_)|fail)
   exact aC (i+1,L1) rfl ⟨by rw [Jw];rfl,trivial⟩ ⟨by dsimp only;omega,hj' h2',by rw [he];exact cz hil h2'⟩ (by dsimp only;omega) (fun _ _ h=>h)
 ·have hil:i=l.length:=by have:=Jy h;simp at this;omega
  subst hil
  repeat' (first|refine JU ?_|refine JG a5 JA ?_)
  refine JR JB ?_
  rw [he,Nat.sub_self]
  rfl
theorem F9 {g:FuncId} {caps:List AV} {u:AV} [bM Tryz.prog g] (hu:kH u=some (g,caps)) (l:List (List g8)) (most:Int) (err:Nat→Int) (J:Nat→AL→Prop) (L0:AL) (h0:J 0 L0) (hw:(l.length:Int)≤most→∀i x L,l[i]?=some x→J i L→AC Tryz.prog g ([aF i,.imm 2 (x.map eU)]++caps) L fun c L'=>c=aF (err i)∧(err i=0→J (i+1) L')):
  AC Tryz.prog 151 [.iptr [.imm 1 (l.map dD)],.iptr [aF most],.iptr [u]] L0 fun r _=>r=cu (d6 most err l.length):=by
 refine aN Tryz.func151 rfl Tryz.ntmps151 rfl fun B=>?_
 repeat' (first|refine JU ?_|refine JG a5 JA ?_)
 refine ar rfl (fun h=>?_) (fun h=>?_)
 ·have h':=Jz h
  rw [Jv] at h'
  repeat' (first|refine JU ?_|refine JG a5 JA ?_)
  refine JR JB ?_
  unfold d6
  rw [if_pos h']
  rfl
 ·have h':=Jy h
  rw [Jv] at h'
  repeat' (first|refine JU ?_|refine JG a5 JA ?_)
  refine b9 L0 [] (En hu l err J L0 h0 (hw (by omega))) rfl (fJ hu) (ck rfl) rfl fun c L1 hc=>?_
  subst hc
  repeat' (first|refine JU ?_|refine JG a5 JA ?_)
  refine JR JB ?_
  unfold d6
  rw [if_neg h']
  rfl
theorem GO {g:FuncId} (l:List (List g8)) (most:Int):bJ Tryz.prog 73 [.imm 1 (l.map dD),aF most,.sc (.func (.func g) #[] #[])] (.fn 151 [.iptr [.imm 1 (l.map dD)],.iptr [aF most],.iptr [.sc (.func (.func g) #[] #[])]]):=by
 refine aN Tryz.func73 rfl Tryz.ntmps73 rfl fun B=>?_
 repeat' (first|refine JU ?_|refine JG a5 JA ?_|refine bf ?_|fail)
 exact JN JB
instance {g:FuncId} (l:List (List g8)) (most:Int):AD Tryz.prog 73 [.imm 1 (l.map dD),aF most,.sc (.func (.func g) #[] #[])] (.fn 151 [.iptr [.imm 1 (l.map dD)],.iptr [aF most],.iptr [.sc (.func (.func g) #[] #[])]]):=⟨GO l most⟩
theorem Eo {g:FuncId} {caps:List AV} {u:AV} [bM Tryz.prog g] (hu:kH u=some (g,caps)) (l:List eE) (err:Nat→Int) (J:Nat→AL→Prop) (L0:AL) (h0:J 0 L0) (hw:∀i x L,l[i]?=some x→J i L→AC Tryz.prog g ([aF i,.agg (dA x)]++caps) L fun c L'=>c=aF (err i)∧(err i=0→J (i+1) L')):
  AC Tryz.prog 198 [.imm 3 (l.map dA),u] L0 fun r _=>r=cu (dc err l.length):=by
 refine aN Tryz.func198 rfl Tryz.ntmps198 rfl fun B=>?_
 refine cB 0 rfl rfl fun hlen=>?_
 rw [Jv] at hlen
 repeat' (first|refine JU ?_|refine am ?_|refine JG a5 JA ?_)
 refine aP [1,9,10] (α:=Nat×AL) (fun i=>[(11,aF i.1)]) (fun i=>i.1≤l.length∧J i.1 i.2∧dc err l.length=d9 err (l.length - i.1) i.1) (fun i=>i.2) (fun i=>l.length - i.1) (0,L0) rfl ⟨rfl,trivial⟩ ⟨Nat.zero_le _,h0,rfl⟩ (fun _ _ h=>h) ?_
 rintro ⟨i,L⟩ ⟨hi,hj,he⟩
 dsimp only at hi hj he ⊢
 try dsimp only [Jt,Js,Jr,Kz]
 repeat' (first|refine JU ?_|refine JG a5 JA ?_)
 refine ar rfl (fun h=>?_) (fun h=>?_)
 ·have hil:i < l.length:=by have:=Jz h;simp at this;omega
  obtain ⟨z,hz⟩:∃z,l[i]?=some z:=⟨_,Hb hil⟩
  have hzg:=bH (c:=dA) hz
  repeat' (first|refine JU ?_|refine am ?_|refine JG a5 JA ?_|(apply aL;first|refine aK a5 ?_|refine aG a5 ?_)|(apply aM;first|refine JI 7 a5 0 JF ?_|refine JI 7 a5 1 JF ?_|refine JI 7 a5 2 JF ?_|refine JH a5 0 JE ?_|refine JH a5 1 JE ?_|refine JH a5 2 JE ?_|refine JH a5 3 JE ?_|fail)|refine bj a5 fun _=>?_|fail)
  refine dx L [] (hw i z L hz hj) rfl hu rfl (ck rfl) rfl rfl fun c L1 ⟨hc,hj'⟩=>?_
  subst hc
  rw [List.append_nil]
  repeat' (first|refine JU ?_|refine JG a5 JA ?_)
  refine ar rfl (fun h2=>?_) (fun h2=>?_)
  ·have h2':=Jz h2
   repeat' (first|refine JU ?_|refine JG a5 JA ?_)
   refine JR JB ?_
   rw [he,cM hil h2']
   rfl
  ·have h2':=Decidable.not_not.1 (Jy h2)
   repeat' (first|refine JU ?_|refine JG a5 JA ?_|(apply aS;refine aQ ?_)|fail)
   exact aC (i+1,L1) rfl ⟨by rw [Jw];rfl,trivial⟩ ⟨by dsimp only;omega,hj' h2',by rw [he];exact cz hil h2'⟩ (by dsimp only;omega) (fun _ _ h=>h)
 ·have hil:i=l.length:=by have:=Jy h;simp at this;omega
  subst hil
  repeat' (first|refine JU ?_|refine JG a5 JA ?_)
  refine JR JB ?_
  rw [he,Nat.sub_self]
  rfl
theorem Ep {g:FuncId} {caps:List AV} {u:AV} [bM Tryz.prog g] (hu:kH u=some (g,caps)) (l:List dM) (err:Nat→Int) (J:Nat→AL→Prop) (L0:AL) (h0:J 0 L0) (hw:∀i x L,l[i]?=some x→J i L→AC Tryz.prog g ([aF i,.agg (eD x)]++caps) L fun c L'=>c=aF (err i)∧(err i=0→J (i+1) L')):
  AC Tryz.prog 202 [.imm 3 (l.map eD),u] L0 fun r _=>r=cu (dc err l.length):=by
 refine aN Tryz.func202 rfl Tryz.ntmps202 rfl fun B=>?_
 refine cB 0 rfl rfl fun hlen=>?_
 rw [Jv] at hlen
 repeat' (first|refine JU ?_|refine am ?_|refine JG a5 JA ?_)
 refine aP [1,9,10] (α:=Nat×AL) (fun i=>[(11,aF i.1)]) (fun i=>i.1≤l.length∧J i.1 i.2∧dc err l.length=d9 err (l.length - i.1) i.1) (fun i=>i.2) (fun i=>l.length - i.1) (0,L0) rfl ⟨rfl,trivial⟩ ⟨Nat.zero_le _,h0,rfl⟩ (fun _ _ h=>h) ?_
 rintro ⟨i,L⟩ ⟨hi,hj,he⟩
 dsimp only at hi hj he ⊢
 try dsimp only [Jt,Js,Jr,Kz]
 repeat' (first|refine JU ?_|refine JG a5 JA ?_)
 refine ar rfl (fun h=>?_) (fun h=>?_)
 ·have hil:i < l.length:=by have:=Jz h;simp at this;omega
  obtain ⟨z,hz⟩:∃z,l[i]?=some z:=⟨_,Hb hil⟩
  have hzg:=bH (c:=eD) hz
  repeat' (first|refine JU ?_|refine am ?_|refine JG a5 JA ?_|(apply aL;first|refine aK a5 ?_|refine aG a5 ?_)|(apply aM;first|refine JI 7 a5 0 JF ?_|refine JI 7 a5 1 JF ?_|refine JI 7 a5 2 JF ?_|refine JH a5 0 JE ?_|refine JH a5 1 JE ?_|refine JH a5 2 JE ?_|refine JH a5 3 JE ?_|fail)|refine bj a5 fun _=>?_|fail)
  refine dx L [] (hw i z L hz hj) rfl hu rfl (ck rfl) rfl rfl fun c L1 ⟨hc,hj'⟩=>?_
  subst hc
  rw [List.append_nil]
  repeat' (first|refine JU ?_|refine JG a5 JA ?_)
  refine ar rfl (fun h2=>?_) (fun h2=>?_)
  ·have h2':=Jz h2
   repeat' (first|refine JU ?_|refine JG a5 JA ?_)
   refine JR JB ?_
   rw [he,cM hil h2']
   rfl
  ·have h2':=Decidable.not_not.1 (Jy h2)
   repeat' (first|refine JU ?_|refine JG a5 JA ?_|(apply aS;refine aQ ?_)|fail)
   exact aC (i+1,L1) rfl ⟨by rw [Jw];rfl,trivial⟩ ⟨by dsimp only;omega,hj' h2',by rw [he];exact cz hil h2'⟩ (by dsimp only;omega) (fun _ _ h=>h)
 ·have hil:i=l.length:=by have:=Jy h;simp at this;omega
  subst hil
  repeat' (first|refine JU ?_|refine JG a5 JA ?_)
  refine JR JB ?_
  rw [he,Nat.sub_self]
  rfl
theorem Fb {g:FuncId} {caps:List AV} {u:AV} [bM Tryz.prog g] (hu:kH u=some (g,caps)) (l:List dM) (most:Int) (err:Nat→Int) (J:Nat→AL→Prop) (L0:AL) (h0:J 0 L0) (hw:(l.length:Int)≤most→∀i x L,l[i]?=some x→J i L→AC Tryz.prog g ([aF i,.agg (eD x)]++caps) L fun c L'=>c=aF (err i)∧(err i=0→J (i+1) L')):
  AC Tryz.prog 201 [.iptr [.imm 3 (l.map eD)],.iptr [aF most],.iptr [u]] L0 fun r _=>r=cu (d6 most err l.length):=by
 refine aN Tryz.func201 rfl Tryz.ntmps201 rfl fun B=>?_
 repeat' (first|refine JU ?_|refine JG a5 JA ?_)
 refine ar rfl (fun h=>?_) (fun h=>?_)
 ·have h':=Jz h
  rw [Jv] at h'
  repeat' (first|refine JU ?_|refine JG a5 JA ?_)
  refine JR JB ?_
  unfold d6
  rw [if_pos h']
  rfl
 ·have h':=Jy h
  rw [Jv] at h'
  repeat' (first|refine JU ?_|refine JG a5 JA ?_)
  refine b9 L0 [] (Ep hu l err J L0 h0 (hw (by omega))) rfl (fJ hu) (ck rfl) rfl fun c L1 hc=>?_
  subst hc
  repeat' (first|refine JU ?_|refine JG a5 JA ?_)
  refine JR JB ?_
  unfold d6
  rw [if_neg h']
  rfl
theorem HT {g:FuncId} {caps:List AV} (l:List dM) (most:Int):bJ Tryz.prog 117 [.imm 3 (l.map eD),aF most,.fn g caps] (.fn 201 [.iptr [.imm 3 (l.map eD)],.iptr [aF most],.iptr [.fn g caps]]):=by
 refine aN Tryz.func117 rfl Tryz.ntmps117 rfl fun B=>?_
 repeat' (first|refine JU ?_|refine JG a5 JA ?_|refine bf ?_|fail)
 exact JN JB
instance {g:FuncId} {caps:List AV} (l:List dM) (most:Int):AD Tryz.prog 117 [.imm 3 (l.map eD),aF most,.fn g caps] (.fn 201 [.iptr [.imm 3 (l.map eD)],.iptr [aF most],.iptr [.fn g caps]]):=⟨HT l most⟩
theorem Er {g:FuncId} {caps:List AV} {u:AV} [bM Tryz.prog g] (hu:kH u=some (g,caps)) (l:List dv) (err:Nat→Int) (J:Nat→AL→Prop) (L0:AL) (h0:J 0 L0) (hw:∀i x L,l[i]?=some x→J i L→AC Tryz.prog g ([aF i,.agg (d8 x)]++caps) L fun c L'=>c=aF (err i)∧(err i=0→J (i+1) L')):
  AC Tryz.prog 204 [.imm 4 (l.map d8),u] L0 fun r _=>r=cu (dc err l.length):=by
 refine aN Tryz.func204 rfl Tryz.ntmps204 rfl fun B=>?_
 refine cB 0 rfl rfl fun hlen=>?_
 rw [Jv] at hlen
 repeat' (first|refine JU ?_|refine am ?_|refine JG a5 JA ?_)
 refine aP [1,9,10] (α:=Nat×AL) (fun i=>[(11,aF i.1)]) (fun i=>i.1≤l.length∧J i.1 i.2∧dc err l.length=d9 err (l.length - i.1) i.1) (fun i=>i.2) (fun i=>l.length - i.1) (0,L0) rfl ⟨rfl,trivial⟩ ⟨Nat.zero_le _,h0,rfl⟩ (fun _ _ h=>h) ?_
 rintro ⟨i,L⟩ ⟨hi,hj,he⟩
 dsimp only at hi hj he ⊢
 try dsimp only [Jt,Js,Jr,Kz]
 repeat' (first|refine JU ?_|refine JG a5 JA ?_)
 refine ar rfl (fun h=>?_) (fun h=>?_)
 ·have hil:i < l.length:=by have:=Jz h;simp at this;omega
  obtain ⟨z,hz⟩:∃z,l[i]?=some z:=⟨_,Hb hil⟩
  have hzg:=bH (c:=d8) hz
  repeat' (first|refine JU ?_|refine am ?_|refine JG a5 JA ?_|(apply aL;first|refine aK a5 ?_|refine aG a5 ?_)|(apply aM;first|refine JI 7 a5 0 JF ?_|refine JI 7 a5 1 JF ?_|refine JI 7 a5 2 JF ?_|refine JH a5 0 JE ?_|refine JH a5 1 JE ?_|refine JH a5 2 JE ?_|refine JH a5 3 JE ?_|fail)|refine bj a5 fun _=>?_|fail)
  refine dx L [] (hw i z L hz hj) rfl hu rfl (ck rfl) rfl rfl fun c L1 ⟨hc,hj'⟩=>?_
  subst hc
  rw [List.append_nil]
  repeat' (first|refine JU ?_|refine JG a5 JA ?_)
  refine ar rfl (fun h2=>?_) (fun h2=>?_)
  ·have h2':=Jz h2
   repeat' (first|refine JU ?_|refine JG a5 JA ?_)
   refine JR JB ?_
   rw [he,cM hil h2']
   rfl
  ·have h2':=Decidable.not_not.1 (Jy h2)
   repeat' (first|refine JU ?_|refine JG a5 JA ?_|(apply aS;refine aQ ?_)|fail)
   exact aC (i+1,L1) rfl ⟨by rw [Jw];rfl,trivial⟩ ⟨by dsimp only;omega,hj' h2',by rw [he];exact cz hil h2'⟩ (by dsimp only;omega) (fun _ _ h=>h)
 ·have hil:i=l.length:=by have:=Jy h;simp at this;omega
  subst hil
  repeat' (first|refine JU ?_|refine JG a5 JA ?_)
  refine JR JB ?_
  rw [he,Nat.sub_self]
  rfl
theorem Fc {g:FuncId} {caps:List AV} {u:AV} [bM Tryz.prog g] (hu:kH u=some (g,caps)) (l:List dv) (most:Int) (err:Nat→Int) (J:Nat→AL→Prop) (L0:AL) (h0:J 0 L0) (hw:(l.length:Int)≤most→∀i x L,l[i]?=some x→J i L→AC Tryz.prog g ([aF i,.agg (d8 x)]++caps) L fun c L'=>c=aF (err i)∧(err i=0→J (i+1) L')):
  AC Tryz.prog 203 [.iptr [.imm 4 (l.map d8)],.iptr [aF most],.iptr [u]] L0 fun r _=>r=cu (d6 most err l.length):=by
 refine aN Tryz.func203 rfl Tryz.ntmps203 rfl fun B=>?_
 repeat' (first|refine JU ?_|refine JG a5 JA ?_)
 refine ar rfl (fun h=>?_) (fun h=>?_)
 ·have h':=Jz h
  rw [Jv] at h'
  repeat' (first|refine JU ?_|refine JG a5 JA ?_)
  refine JR JB ?_
  unfold d6
  rw [if_pos h']
  rfl
 ·have h':=Jy h
  rw [Jv] at h'
  repeat' (first|refine JU ?_|refine JG a5 JA ?_)
  refine b9 L0 [] (Er hu l err J L0 h0 (hw (by omega))) rfl (fJ hu) (ck rfl) rfl fun c L1 hc=>?_
  subst hc
  repeat' (first|refine JU ?_|refine JG a5 JA ?_)
  refine JR JB ?_
  unfold d6
  rw [if_neg h']
  rfl
theorem HU {g:FuncId} {caps:List AV} (l:List dv) (most:Int):bJ Tryz.prog 120 [.imm 4 (l.map d8),aF most,.fn g caps] (.fn 203 [.iptr [.imm 4 (l.map d8)],.iptr [aF most],.iptr [.fn g caps]]):=by
 refine aN Tryz.func120 rfl Tryz.ntmps120 rfl fun B=>?_
 repeat' (first|refine JU ?_|refine JG a5 JA ?_|refine bf ?_|fail)
 exact JN JB
instance {g:FuncId} {caps:List AV} (l:List dv) (most:Int):AD Tryz.prog 120 [.imm 4 (l.map d8),aF most,.fn g caps] (.fn 203 [.iptr [.imm 4 (l.map d8)],.iptr [aF most],.iptr [.fn g caps]]):=⟨HU l most⟩
theorem Es {g:FuncId} {caps:List AV} {u:AV} [bM Tryz.prog g] (hu:kH u=some (g,caps)) (l:List dH) (err:Nat→Int) (J:Nat→AL→Prop) (L0:AL) (h0:J 0 L0) (hw:∀i x L,l[i]?=some x→J i L→AC Tryz.prog g ([aF i,.agg (dZ x)]++caps) L fun c L'=>c=aF (err i)∧(err i=0→J (i+1) L')):
  AC Tryz.prog 207 [.imm 4 (l.map dZ),u] L0 fun r _=>r=cu (dc err l.length):=by
 refine aN Tryz.func207 rfl Tryz.ntmps207 rfl fun B=>?_
 refine cB 0 rfl rfl fun hlen=>?_
 rw [Jv] at hlen
 repeat' (first|refine JU ?_|refine am ?_|refine JG a5 JA ?_)
 refine aP [1,9,10] (α:=Nat×AL) (fun i=>[(11,aF i.1)]) (fun i=>i.1≤l.length∧J i.1 i.2∧dc err l.length=d9 err (l.length - i.1) i.1) (fun i=>i.2) (fun i=>l.length - i.1) (0,L0) rfl ⟨rfl,trivial⟩ ⟨Nat.zero_le _,h0,rfl⟩ (fun _ _ h=>h) ?_
 rintro ⟨i,L⟩ ⟨hi,hj,he⟩
 dsimp only at hi hj he ⊢
 try dsimp only [Jt,Js,Jr,Kz]
 repeat' (first|refine JU ?_|refine JG a5 JA ?_)
 refine ar rfl (fun h=>?_) (fun h=>?_)
 ·have hil:i < l.length:=by have:=Jz h;simp at this;omega
  obtain ⟨z,hz⟩:∃z,l[i]?=some z:=⟨_,Hb hil⟩
  have hzg:=bH (c:=dZ) hz
  repeat' (first|refine JU ?_|refine am ?_|refine JG a5 JA ?_|(apply aL;first|refine aK a5 ?_|refine aG a5 ?_)|(apply aM;first|refine JI 7 a5 0 JF ?_|refine JI 7 a5 1 JF ?_|refine JI 7 a5 2 JF ?_|refine JH a5 0 JE ?_|refine JH a5 1 JE ?_|refine JH a5 2 JE ?_|refine JH a5 3 JE ?_|fail)|refine bj a5 fun _=>?_|fail)
  refine dx L [] (hw i z L hz hj) rfl hu rfl (ck rfl) rfl rfl fun c L1 ⟨hc,hj'⟩=>?_
  subst hc
  rw [List.append_nil]
  repeat' (first|refine JU ?_|refine JG a5 JA ?_)
  refine ar rfl (fun h2=>?_) (fun h2=>?_)
  ·have h2':=Jz h2
   repeat' (first|refine JU ?_|refine JG a5 JA ?_)
   refine JR JB ?_
   rw [he,cM hil h2']
   rfl
  ·have h2':=Decidable.not_not.1 (Jy h2)
   repeat' (first|refine JU ?_|refine JG a5 JA ?_|(apply aS;refine aQ ?_)|fail)
   exact aC (i+1,L1) rfl ⟨by rw [Jw];rfl,trivial⟩ ⟨by dsimp only;omega,hj' h2',by rw [he];exact cz hil h2'⟩ (by dsimp only;omega) (fun _ _ h=>h)
 ·have hil:i=l.length:=by have:=Jy h;simp at this;omega
  subst hil
  repeat' (first|refine JU ?_|refine JG a5 JA ?_)
  refine JR JB ?_
  rw [he,Nat.sub_self]
  rfl
theorem Fd {g:FuncId} {caps:List AV} {u:AV} [bM Tryz.prog g] (hu:kH u=some (g,caps)) (l:List dH) (most:Int) (err:Nat→Int) (J:Nat→AL→Prop) (L0:AL) (h0:J 0 L0) (hw:(l.length:Int)≤most→∀i x L,l[i]?=some x→J i L→AC Tryz.prog g ([aF i,.agg (dZ x)]++caps) L fun c L'=>c=aF (err i)∧(err i=0→J (i+1) L')):
  AC Tryz.prog 206 [.iptr [.imm 4 (l.map dZ)],.iptr [aF most],.iptr [u]] L0 fun r _=>r=cu (d6 most err l.length):=by
 refine aN Tryz.func206 rfl Tryz.ntmps206 rfl fun B=>?_
 repeat' (first|refine JU ?_|refine JG a5 JA ?_)
 refine ar rfl (fun h=>?_) (fun h=>?_)
 ·have h':=Jz h
  rw [Jv] at h'
  repeat' (first|refine JU ?_|refine JG a5 JA ?_)
  refine JR JB ?_
  unfold d6
  rw [if_pos h']
  rfl
 ·have h':=Jy h
  rw [Jv] at h'
  repeat' (first|refine JU ?_|refine JG a5 JA ?_)
  refine b9 L0 [] (Es hu l err J L0 h0 (hw (by omega))) rfl (fJ hu) (ck rfl) rfl fun c L1 hc=>?_
  subst hc
  repeat' (first|refine JU ?_|refine JG a5 JA ?_)
  refine JR JB ?_
  unfold d6
  rw [if_neg h']
  rfl
theorem HV {g:FuncId} {caps:List AV} (l:List dH) (most:Int):bJ Tryz.prog 122 [.imm 4 (l.map dZ),aF most,.fn g caps] (.fn 206 [.iptr [.imm 4 (l.map dZ)],.iptr [aF most],.iptr [.fn g caps]]):=by
 refine aN Tryz.func122 rfl Tryz.ntmps122 rfl fun B=>?_
 repeat' (first|refine JU ?_|refine JG a5 JA ?_|refine bf ?_|fail)
 exact JN JB
instance {g:FuncId} {caps:List AV} (l:List dH) (most:Int):AD Tryz.prog 122 [.imm 4 (l.map dZ),aF most,.fn g caps] (.fn 206 [.iptr [.imm 4 (l.map dZ)],.iptr [aF most],.iptr [.fn g caps]]):=⟨HV l most⟩
theorem Et {g:FuncId} {caps:List AV} {u:AV} [bM Tryz.prog g] (hu:kH u=some (g,caps)) (l:List (List Int)) (err:Nat→Int) (J:Nat→AL→Prop) (L0:AL) (h0:J 0 L0) (hw:∀i x L,l[i]?=some x→J i L→AC Tryz.prog g ([aF i,.imm 1 (aW x)]++caps) L fun c L'=>c=aF (err i)∧(err i=0→J (i+1) L')):
  AC Tryz.prog 215 [.imm 1 (l.map HA),u] L0 fun r _=>r=cu (dc err l.length):=by
 refine aN Tryz.func215 rfl Tryz.ntmps215 rfl fun B=>?_
 refine cB 0 rfl rfl fun hlen=>?_
 rw [Jv] at hlen
 repeat' (first|refine JU ?_|refine am ?_|refine JG a5 JA ?_)
 refine aP [1,9,10] (α:=Nat×AL) (fun i=>[(11,aF i.1)]) (fun i=>i.1≤l.length∧J i.1 i.2∧dc err l.length=d9 err (l.length - i.1) i.1) (fun i=>i.2) (fun i=>l.length - i.1) (0,L0) rfl ⟨rfl,trivial⟩ ⟨Nat.zero_le _,h0,rfl⟩ (fun _ _ h=>h) ?_
 rintro ⟨i,L⟩ ⟨hi,hj,he⟩
 dsimp only at hi hj he ⊢
 try dsimp only [Jt,Js,Jr,Kz]
 repeat' (first|refine JU ?_|refine JG a5 JA ?_)
 refine ar rfl (fun h=>?_) (fun h=>?_)
 ·have hil:i < l.length:=by have:=Jz h;simp at this;omega
  obtain ⟨z,hz⟩:∃z,l[i]?=some z:=⟨_,Hb hil⟩
  have hzg:=bH (c:=HA) hz
  repeat' (first|refine JU ?_|refine am ?_|refine JG a5 JA ?_|(apply aL;first|refine aK a5 ?_|refine aG a5 ?_)|fail)
  refine dx L [] (hw i z L hz hj) rfl hu rfl (ck rfl) rfl rfl fun c L1 ⟨hc,hj'⟩=>?_
  subst hc
  rw [List.append_nil]
  repeat' (first|refine JU ?_|refine JG a5 JA ?_)
  refine ar rfl (fun h2=>?_) (fun h2=>?_)
  ·have h2':=Jz h2
   repeat' (first|refine JU ?_|refine JG a5 JA ?_)
   refine JR JB ?_
   rw [he,cM hil h2']
   rfl
  ·have h2':=Decidable.not_not.1 (Jy h2)
   repeat' (first|refine JU ?_|refine JG a5 JA ?_|(apply aS;refine aQ ?_)|fail)
   exact aC (i+1,L1) rfl ⟨by rw [Jw];rfl,trivial⟩ ⟨by dsimp only;omega,hj' h2',by rw [he];exact cz hil h2'⟩ (by dsimp only;omega) (fun _ _ h=>h)
 ·have hil:i=l.length:=by have:=Jy h;simp at this;omega
  subst hil
  repeat' (first|refine JU ?_|refine JG a5 JA ?_)
  refine JR JB ?_
  rw [he,Nat.sub_self]
  rfl
theorem Eu {g:FuncId} {caps:List AV} {u:AV} [bM Tryz.prog g] (hu:kH u=some (g,caps)) (l:List g8) (err:Nat→Int) (J:Nat→AL→Prop) (L0:AL) (h0:J 0 L0) (hw:∀i x L,l[i]?=some x→J i L→AC Tryz.prog g ([aF i,.agg (eU x)]++caps) L fun c L'=>c=aF (err i)∧(err i=0→J (i+1) L')):
  AC Tryz.prog 228 [.imm 2 (l.map eU),u] L0 fun r _=>r=cu (dc err l.length):=by
 refine aN Tryz.func228 rfl Tryz.ntmps228 rfl fun B=>?_
 refine cB 0 rfl rfl fun hlen=>?_
 rw [Jv] at hlen
 repeat' (first|refine JU ?_|refine am ?_|refine JG a5 JA ?_)
 refine aP [1,9,10] (α:=Nat×AL) (fun i=>[(11,aF i.1)]) (fun i=>i.1≤l.length∧J i.1 i.2∧dc err l.length=d9 err (l.length - i.1) i.1) (fun i=>i.2) (fun i=>l.length - i.1) (0,L0) rfl ⟨rfl,trivial⟩ ⟨Nat.zero_le _,h0,rfl⟩ (fun _ _ h=>h) ?_
 rintro ⟨i,L⟩ ⟨hi,hj,he⟩
 dsimp only at hi hj he ⊢
 try dsimp only [Jt,Js,Jr,Kz]
 repeat' (first|refine JU ?_|refine JG a5 JA ?_)
 refine ar rfl (fun h=>?_) (fun h=>?_)
 ·have hil:i < l.length:=by have:=Jz h;simp at this;omega
  obtain ⟨z,hz⟩:∃z,l[i]?=some z:=⟨_,Hb hil⟩
  have hzg:=bH (c:=eU) hz
  repeat' (first|refine JU ?_|refine am ?_|refine JG a5 JA ?_|(apply aL;first|refine aK a5 ?_|refine aG a5 ?_)|(apply aM;first|refine JI 7 a5 0 JF ?_|refine JI 7 a5 1 JF ?_|refine JI 7 a5 2 JF ?_|refine JH a5 0 JE ?_|refine JH a5 1 JE ?_|refine JH a5 2 JE ?_|refine JH a5 3 JE ?_|fail)|refine bj a5 fun _=>?_|fail)
  refine dx L [] (hw i z L hz hj) rfl hu rfl (ck rfl) rfl rfl fun c L1 ⟨hc,hj'⟩=>?_
  subst hc
  rw [List.append_nil]
  repeat' (first|refine JU ?_|refine JG a5 JA ?_)
  refine ar rfl (fun h2=>?_) (fun h2=>?_)
  ·have h2':=Jz h2
   repeat' (first|refine JU ?_|refine JG a5 JA ?_)
   refine JR JB ?_
   rw [he,cM hil h2']
   rfl
  ·have h2':=Decidable.not_not.1 (Jy h2)
   repeat' (first|refine JU ?_|refine JG a5 JA ?_|(apply aS;refine aQ ?_)|fail)
   exact aC (i+1,L1) rfl ⟨by rw [Jw];rfl,trivial⟩ ⟨by dsimp only;omega,hj' h2',by rw [he];exact cz hil h2'⟩ (by dsimp only;omega) (fun _ _ h=>h)
 ·have hil:i=l.length:=by have:=Jy h;simp at this;omega
  subst hil
  repeat' (first|refine JU ?_|refine JG a5 JA ?_)
  refine JR JB ?_
  rw [he,Nat.sub_self]
  rfl
theorem Fe {g:FuncId} {caps:List AV} {u:AV} [bM Tryz.prog g] (hu:kH u=some (g,caps)) (l:List g8) (most:Int) (err:Nat→Int) (J:Nat→AL→Prop) (L0:AL) (h0:J 0 L0) (hw:(l.length:Int)≤most→∀i x L,l[i]?=some x→J i L→AC Tryz.prog g ([aF i,.agg (eU x)]++caps) L fun c L'=>c=aF (err i)∧(err i=0→J (i+1) L')):
  AC Tryz.prog 227 [.iptr [.imm 2 (l.map eU)],.iptr [aF most],.iptr [u]] L0 fun r _=>r=cu (d6 most err l.length):=by
 refine aN Tryz.func227 rfl Tryz.ntmps227 rfl fun B=>?_
 repeat' (first|refine JU ?_|refine JG a5 JA ?_)
 refine ar rfl (fun h=>?_) (fun h=>?_)
 ·have h':=Jz h
  rw [Jv] at h'
  repeat' (first|refine JU ?_|refine JG a5 JA ?_)
  refine JR JB ?_
  unfold d6
  rw [if_pos h']
  rfl
 ·have h':=Jy h
  rw [Jv] at h'
  repeat' (first|refine JU ?_|refine JG a5 JA ?_)
  refine b9 L0 [] (Eu hu l err J L0 h0 (hw (by omega))) rfl (fJ hu) (ck rfl) rfl fun c L1 hc=>?_
  subst hc
  repeat' (first|refine JU ?_|refine JG a5 JA ?_)
  refine JR JB ?_
  unfold d6
  rw [if_neg h']
  rfl
theorem GQ {g:FuncId} (l:List g8) (most:Int):bJ Tryz.prog 153 [.imm 2 (l.map eU),aF most,.sc (.func (.func g) #[] #[])] (.fn 227 [.iptr [.imm 2 (l.map eU)],.iptr [aF most],.iptr [.sc (.func (.func g) #[] #[])]]):=by
 refine aN Tryz.func153 rfl Tryz.ntmps153 rfl fun B=>?_
 repeat' (first|refine JU ?_|refine JG a5 JA ?_|refine bf ?_|fail)
 exact JN JB
instance {g:FuncId} (l:List g8) (most:Int):AD Tryz.prog 153 [.imm 2 (l.map eU),aF most,.sc (.func (.func g) #[] #[])] (.fn 227 [.iptr [.imm 2 (l.map eU)],.iptr [aF most],.iptr [.sc (.func (.func g) #[] #[])]]):=⟨GQ l most⟩
theorem Ev {g:FuncId} {caps:List AV} {u:AV} [bM Tryz.prog g] (hu:kH u=some (g,caps)) (l:List gQ) (err:Nat→Int) (J:Nat→AL→Prop) (L0:AL) (h0:J 0 L0) (hw:∀i x L,l[i]?=some x→J i L→AC Tryz.prog g ([aF i,.agg (eM x)]++caps) L fun c L'=>c=aF (err i)∧(err i=0→J (i+1) L')):
  AC Tryz.prog 272 [.imm 2 (l.map eM),u] L0 fun r _=>r=cu (dc err l.length):=by
 refine aN Tryz.func272 rfl Tryz.ntmps272 rfl fun B=>?_
 refine cB 0 rfl rfl fun hlen=>?_
 rw [Jv] at hlen
 repeat' (first|refine JU ?_|refine am ?_|refine JG a5 JA ?_)
 refine aP [1,9,10] (α:=Nat×AL) (fun i=>[(11,aF i.1)]) (fun i=>i.1≤l.length∧J i.1 i.2∧dc err l.length=d9 err (l.length - i.1) i.1) (fun i=>i.2) (fun i=>l.length - i.1) (0,L0) rfl ⟨rfl,trivial⟩ ⟨Nat.zero_le _,h0,rfl⟩ (fun _ _ h=>h) ?_
 rintro ⟨i,L⟩ ⟨hi,hj,he⟩
 dsimp only at hi hj he ⊢
 try dsimp only [Jt,Js,Jr,Kz]
 repeat' (first|refine JU ?_|refine JG a5 JA ?_)
 refine ar rfl (fun h=>?_) (fun h=>?_)
 ·have hil:i < l.length:=by have:=Jz h;simp at this;omega
  obtain ⟨z,hz⟩:∃z,l[i]?=some z:=⟨_,Hb hil⟩
  have hzg:=bH (c:=eM) hz
  repeat' (first|refine JU ?_|refine am ?_|refine JG a5 JA ?_|(apply aL;first|refine aK a5 ?_|refine aG a5 ?_)|(apply aM;first|refine JI 7 a5 0 JF ?_|refine JI 7 a5 1 JF ?_|refine JI 7 a5 2 JF ?_|refine JH a5 0 JE ?_|refine JH a5 1 JE ?_|refine JH a5 2 JE ?_|refine JH a5 3 JE ?_|fail)|refine bj a5 fun _=>?_|fail)
  refine dx L [] (hw i z L hz hj) rfl hu rfl (ck rfl) rfl rfl fun c L1 ⟨hc,hj'⟩=>?_
  subst hc
  rw [List.append_nil]
  repeat' (first|refine JU ?_|refine JG a5 JA ?_)
  refine ar rfl (fun h2=>?_) (fun h2=>?_)
  ·have h2':=Jz h2
   repeat' (first|refine JU ?_|refine JG a5 JA ?_)
   refine JR JB ?_
   rw [he,cM hil h2']
   rfl
  ·have h2':=Decidable.not_not.1 (Jy h2)
   repeat' (first|refine JU ?_|refine JG a5 JA ?_|(apply aS;refine aQ ?_)|fail)
   exact aC (i+1,L1) rfl ⟨by rw [Jw];rfl,trivial⟩ ⟨by dsimp only;omega,hj' h2',by rw [he];exact cz hil h2'⟩ (by dsimp only;omega) (fun _ _ h=>h)
 ·have hil:i=l.length:=by have:=Jy h;simp at this;omega
  subst hil
  repeat' (first|refine JU ?_|refine JG a5 JA ?_)
  refine JR JB ?_
  rw [he,Nat.sub_self]
  rfl
theorem mS {g:FuncId} {caps:List AV} {u:AV} [bM Tryz.prog g] (hu:kH u=some (g,caps)) (l:List Int) (err:Nat→Int) (J:Nat→AL→Prop) (L0:AL) (h0:J 0 L0) (hw:∀i x L,l[i]?=some x→J i L→AC Tryz.prog g ([aF i,aF x]++caps) L fun c L'=>c=aF (err i)∧(err i=0→J (i+1) L')):
  AC Tryz.prog 128 [.imm 1 (l.map yZ),u] L0 fun r _=>r=cu (dc err l.length):=by
 refine aN Tryz.func128 rfl Tryz.ntmps128 rfl fun B=>?_
 refine cB 0 rfl rfl fun hlen=>?_
 rw [Jv] at hlen
 repeat' (first|refine JU ?_|refine am ?_|refine JG a5 JA ?_)
 refine aP [1,9,10] (α:=Nat×AL) (fun i=>[(11,aF i.1)]) (fun i=>i.1≤l.length∧J i.1 i.2∧dc err l.length=d9 err (l.length - i.1) i.1) (fun i=>i.2) (fun i=>l.length - i.1) (0,L0) rfl ⟨rfl,trivial⟩ ⟨Nat.zero_le _,h0,rfl⟩ (fun _ _ h=>h) ?_
 rintro ⟨i,L⟩ ⟨hi,hj,he⟩
 dsimp only at hi hj he ⊢
 try dsimp only [Jt,Js,Jr,Kz]
 repeat' (first|refine JU ?_|refine JG a5 JA ?_)
 refine ar rfl (fun h=>?_) (fun h=>?_)
 ·have hil:i < l.length:=by have:=Jz h;simp at this;omega
  obtain ⟨z,hz⟩:∃z,l[i]?=some z:=⟨_,Hb hil⟩
  have hzg:=bH (c:=yZ) hz
  repeat' (first|refine JU ?_|refine am ?_|refine JG a5 JA ?_|(apply aL;first|refine aK a5 ?_|refine aG a5 ?_)|fail)
  refine dx L [] (hw i z L hz hj) rfl hu rfl (ck rfl) rfl rfl fun c L1 ⟨hc,hj'⟩=>?_
  subst hc
  rw [List.append_nil]
  repeat' (first|refine JU ?_|refine JG a5 JA ?_)
  refine ar rfl (fun h2=>?_) (fun h2=>?_)
  ·have h2':=Jz h2
   repeat' (first|refine JU ?_|refine JG a5 JA ?_)
   refine JR JB ?_
   rw [he,cM hil h2']
   rfl
  ·have h2':=Decidable.not_not.1 (Jy h2)
   repeat' (first|refine JU ?_|refine JG a5 JA ?_|(apply aS;refine aQ ?_)|fail)
   exact aC (i+1,L1) rfl ⟨by rw [Jw];rfl,trivial⟩ ⟨by dsimp only;omega,hj' h2',by rw [he];exact cz hil h2'⟩ (by dsimp only;omega) (fun _ _ h=>h)
 ·have hil:i=l.length:=by have:=Jy h;simp at this;omega
  subst hil
  repeat' (first|refine JU ?_|refine JG a5 JA ?_)
  refine JR JB ?_
  rw [he,Nat.sub_self]
  rfl
theorem Fa {g:FuncId} {caps:List AV} {u:AV} [bM Tryz.prog g] (hu:kH u=some (g,caps)) (l:List Int) (most:Int) (err:Nat→Int) (J:Nat→AL→Prop) (L0:AL) (h0:J 0 L0) (hw:(l.length:Int)≤most→∀i x L,l[i]?=some x→J i L→AC Tryz.prog g ([aF i,aF x]++caps) L fun c L'=>c=aF (err i)∧(err i=0→J (i+1) L')):
  AC Tryz.prog 155 [.iptr [.imm 1 (l.map yZ)],.iptr [aF most],.iptr [u]] L0 fun r _=>r=cu (d6 most err l.length):=by
 refine aN Tryz.func155 rfl Tryz.ntmps155 rfl fun B=>?_
 repeat' (first|refine JU ?_|refine JG a5 JA ?_)
 refine ar rfl (fun h=>?_) (fun h=>?_)
 ·have h':=Jz h
  rw [Jv] at h'
  repeat' (first|refine JU ?_|refine JG a5 JA ?_)
  refine JR JB ?_
  unfold d6
  rw [if_pos h']
  rfl
 ·have h':=Jy h
  rw [Jv] at h'
  repeat' (first|refine JU ?_|refine JG a5 JA ?_)
  refine b9 L0 [] (mS hu l err J L0 h0 (hw (by omega))) rfl (fJ hu) (ck rfl) rfl fun c L1 hc=>?_
  subst hc
  repeat' (first|refine JU ?_|refine JG a5 JA ?_)
  refine JR JB ?_
  unfold d6
  rw [if_neg h']
  rfl
theorem GP {g:FuncId} (l:List Int) (most:Int):bJ Tryz.prog 76 [.imm 1 (l.map yZ),aF most,.sc (.func (.func g) #[] #[])] (.fn 155 [.iptr [.imm 1 (l.map yZ)],.iptr [aF most],.iptr [.sc (.func (.func g) #[] #[])]]):=by
 refine aN Tryz.func76 rfl Tryz.ntmps76 rfl fun B=>?_
 repeat' (first|refine JU ?_|refine JG a5 JA ?_|refine bf ?_|fail)
 exact JN JB
end Go.Proofs.YtpmdfoaadejmkaaGreatDoor
