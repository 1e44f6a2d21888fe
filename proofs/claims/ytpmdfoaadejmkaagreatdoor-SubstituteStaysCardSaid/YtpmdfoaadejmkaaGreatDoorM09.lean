/-
  The program: looks at things, one by one.
-/
import Derived.Test.YtpmdfoaadejmkaaGreatDoorM06
import Derived.Test.YtpmdfoaadejmkaaGreatDoorM08
import Derived.Test.YtpmdfoaadejmkaaGreatDoorM05
namespace Go.Proofs.YtpmdfoaadejmkaaGreatDoor
open Go.RowKit
attribute [local irreducible] AT bv AX AO Av Kt b9 dh DA cE
def cZ (err:Nat→Int):Nat→Nat→Int×Int
 | 0,_=>(0,0)
 | k+1,i=>if err i=0 then cZ err k (i+1) else (err i,i)
def d5 (err:Nat→Int) (n:Nat):Int×Int:=cZ err n 0
def cW (most:Int) (err:Nat→Int) (n:Nat):Int×Int:=if (n:Int) > most then (2,0) else d5 err n
def ck (p:Int×Int):AV:= .tup [aF p.1,aF p.2]
theorem cq {err:Nat→Int} {n i:Nat} (hi:i < n) (h:err i=0):cZ err (n - i) i=cZ err (n - (i+1)) (i+1):=by
 rw [show n - i=(n - (i+1))+1 by omega]
 simp only [cZ,h,if_true]
theorem cG {err:Nat→Int} {n i:Nat} (hi:i < n) (h:err i≠0):cZ err (n - i) i=(err i,(i:Int)):=by
 rw [show n - i=(n - (i+1))+1 by omega]
 simp only [cZ,h,if_false]
theorem pz {err:Nat→Int}:∀(k i:Nat),(∀j,i≤j→j < i+k→err j=0)→cZ err k i=(0,0)
 | 0,_,_=>rfl
 | k+1,i,h=>by
  simp only [cZ]
  rw [if_pos (h i (Nat.le_refl _) (by omega))]
  exact pz k (i+1) fun j h1 h2=>h j (by omega) (by omega)
theorem re {err:Nat→Int} {n:Nat} (h:∀i,i < n→err i=0):d5 err n=(0,0):=pz n 0 fun j _ hj=>h j (by omega)
theorem zb {most:Int} {err:Nat→Int} {n:Nat} (hm:(n:Int)≤most) (h:∀i,i < n→err i=0):cW most err n=(0,0):=by
 unfold cW
 rw [if_neg (by omega),re h]
def GB (q:List Int):List AV:=[.imm 1 (aT q)]
def xX (z:Int):List AV:=[aF z]
theorem fz {g:FuncId} {caps:List AV} {u:AV} (hu:k8 u=some (g,caps)) {s:Nat} {l:List (List AV)}:lh [.imm s l,u]=some [.imm s l,u]:=by
 unfold k8 at hu
 split at hu <;> first | rfl | cases hu
theorem c8 {L L':AL} (h:L=L'):L.Perm (L'++[]):=by rw [List.append_nil,h]
def HZ (P:Program) (g:FuncId) (caps:List AV) (n:Nat) (arg:Nat→AV) (err:Nat→Int) (J:Nat→AL→Prop):Prop:=∀i L,i < n→J i L→AC P g ([aF i,arg i]++caps) L fun c L'=>c=aF (err i)∧(err i=0→J (i+1) L')
theorem Dg {g:FuncId} {caps:List AV} {u:AV} [bD Tryz.prog g] (hu:k8 u=some (g,caps)) (l:List bn) (err:Nat→Int) (J:Nat→AL→Prop) (L0:AL) (h0:J 0 L0) (hw:∀i x L,l[i]?=some x→J i L→AC Tryz.prog g ([aF i,.agg (bG x)]++caps) L fun c L'=>c=aF (err i)∧(err i=0→J (i+1) L')):
  AC Tryz.prog 113 [.imm 9 (l.map bG),u] L0 fun r _=>r=ck (d5 err l.length):=by
 refine aL Tryz.func113 rfl Tryz.ntmps113 rfl fun B=>?_
 refine cJ 0 rfl rfl fun hlen=>?_
 rw [Jz] at hlen
 repeat' (first|refine IT ?_|refine am ?_|refine IF a5 G9 ?_)
 refine aO [1,9,10] (α:=Nat×AL) (fun i=>[(11,aF i.1)]) (fun i=>i.1≤l.length∧J i.1 i.2∧d5 err l.length=cZ err (l.length - i.1) i.1) (fun i=>i.2) (fun i=>l.length - i.1) (0,L0) rfl ⟨rfl,trivial⟩ ⟨Nat.zero_le _,h0,rfl⟩ (fun _ _ h=>h) ?_
 rintro ⟨i,L⟩ ⟨hi,hj,he⟩
 dsimp only at hi hj he ⊢
 try dsimp only [Jx,Jw,Jv,Jq]
 repeat' (first|refine IT ?_|refine IF a5 G9 ?_)
 refine ar rfl (fun h=>?_) (fun h=>?_)
 ·have hil:i < l.length:=by have:=Iy h;simp at this;omega
  obtain ⟨z,hz⟩:∃z,l[i]?=some z:=⟨_,Iz hil⟩
  have hzg:=cC (c:=bG) hz
  repeat' (first|refine IT ?_|refine am ?_|refine IF a5 G9 ?_|(apply aS;first|refine aQ a5 ?_|refine aG a5 ?_)|(apply aK;first|refine IH 7 a5 0 IE ?_|refine IH 7 a5 1 IE ?_|refine IH 7 a5 2 IE ?_|refine IG a5 0 ID ?_|refine IG a5 1 ID ?_|refine IG a5 2 ID ?_|refine IG a5 3 ID ?_|fail)|refine bi a5 fun _=>?_|fail)
  refine dk L [] (hw i z L hz hj) rfl hu rfl (c8 rfl) rfl rfl fun c L1 ⟨hc,hj'⟩=>?_
  subst hc
  rw [List.append_nil]
  repeat' (first|refine IT ?_|refine IF a5 G9 ?_)
  refine ar rfl (fun h2=>?_) (fun h2=>?_)
  ·have h2':=Iy h2
   repeat' (first|refine IT ?_|refine IF a5 G9 ?_)
   refine IS IA ?_
   rw [he,cG hil h2']
   rfl
  ·have h2':=Decidable.not_not.1 (Ix h2)
   repeat' (first|refine IT ?_|refine IF a5 G9 ?_|(apply aV;refine aU ?_)|fail)
   exact aC (i+1,L1) rfl ⟨by rw [Iv];rfl,trivial⟩ ⟨by dsimp only;omega,hj' h2',by rw [he];exact cq hil h2'⟩ (by dsimp only;omega) (fun _ _ h=>h)
 ·have hil:i=l.length:=by have:=Ix h;simp at this;omega
  subst hil
  repeat' (first|refine IT ?_|refine IF a5 G9 ?_)
  refine IS IA ?_
  rw [he,Nat.sub_self]
  rfl
theorem E4 {g:FuncId} {caps:List AV} {u:AV} [bD Tryz.prog g] (hu:k8 u=some (g,caps)) (l:List bn) (most:Int) (err:Nat→Int) (J:Nat→AL→Prop) (L0:AL) (h0:J 0 L0) (hw:(l.length:Int)≤most→∀i x L,l[i]?=some x→J i L→AC Tryz.prog g ([aF i,.agg (bG x)]++caps) L fun c L'=>c=aF (err i)∧(err i=0→J (i+1) L')):
  AC Tryz.prog 112 [.iptr [.imm 9 (l.map bG)],.iptr [aF most],.iptr [u]] L0 fun r _=>r=ck (cW most err l.length):=by
 refine aL Tryz.func112 rfl Tryz.ntmps112 rfl fun B=>?_
 repeat' (first|refine IT ?_|refine IF a5 G9 ?_)
 refine ar rfl (fun h=>?_) (fun h=>?_)
 ·have h':=Iy h
  rw [Jz] at h'
  repeat' (first|refine IT ?_|refine IF a5 G9 ?_)
  refine IS IA ?_
  unfold cW
  rw [if_pos h']
  rfl
 ·have h':=Ix h
  rw [Jz] at h'
  repeat' (first|refine IT ?_|refine IF a5 G9 ?_)
  refine aX L0 [] (Dg hu l err J L0 h0 (hw (by omega))) rfl (fz hu) (c8 rfl) rfl fun c L1 hc=>?_
  subst hc
  repeat' (first|refine IT ?_|refine IF a5 G9 ?_)
  refine IS IA ?_
  unfold cW
  rw [if_neg h']
  rfl
theorem HB {g:FuncId} {caps:List AV} (l:List bn) (most:Int):bN Tryz.prog 50 [.imm 9 (l.map bG),aF most,.fn g caps] (.fn 112 [.iptr [.imm 9 (l.map bG)],.iptr [aF most],.iptr [.fn g caps]]):=by
 refine aL Tryz.func50 rfl Tryz.ntmps50 rfl fun B=>?_
 repeat' (first|refine IT ?_|refine IF a5 G9 ?_|refine bo ?_|fail)
 exact IN IA
instance {g:FuncId} {caps:List AV} (l:List bn) (most:Int):AD Tryz.prog 50 [.imm 9 (l.map bG),aF most,.fn g caps] (.fn 112 [.iptr [.imm 9 (l.map bG)],.iptr [aF most],.iptr [.fn g caps]]):=⟨HB l most⟩
theorem Dh {g:FuncId} {caps:List AV} {u:AV} [bD Tryz.prog g] (hu:k8 u=some (g,caps)) (l:List fS) (err:Nat→Int) (J:Nat→AL→Prop) (L0:AL) (h0:J 0 L0) (hw:∀i x L,l[i]?=some x→J i L→AC Tryz.prog g ([aF i,.agg (dQ x)]++caps) L fun c L'=>c=aF (err i)∧(err i=0→J (i+1) L')):
  AC Tryz.prog 133 [.imm 2 (l.map dQ),u] L0 fun r _=>r=ck (d5 err l.length):=by
 refine aL Tryz.func133 rfl Tryz.ntmps133 rfl fun B=>?_
 refine cJ 0 rfl rfl fun hlen=>?_
 rw [Jz] at hlen
 repeat' (first|refine IT ?_|refine am ?_|refine IF a5 G9 ?_)
 refine aO [1,9,10] (α:=Nat×AL) (fun i=>[(11,aF i.1)]) (fun i=>i.1≤l.length∧J i.1 i.2∧d5 err l.length=cZ err (l.length - i.1) i.1) (fun i=>i.2) (fun i=>l.length - i.1) (0,L0) rfl ⟨rfl,trivial⟩ ⟨Nat.zero_le _,h0,rfl⟩ (fun _ _ h=>h) ?_
 rintro ⟨i,L⟩ ⟨hi,hj,he⟩
 dsimp only at hi hj he ⊢
 try dsimp only [Jx,Jw,Jv,Jq]
 repeat' (first|refine IT ?_|refine IF a5 G9 ?_)
 refine ar rfl (fun h=>?_) (fun h=>?_)
 ·have hil:i < l.length:=by have:=Iy h;simp at this;omega
  obtain ⟨z,hz⟩:∃z,l[i]?=some z:=⟨_,Iz hil⟩
  have hzg:=cC (c:=dQ) hz
  repeat' (first|refine IT ?_|refine am ?_|refine IF a5 G9 ?_|(apply aS;first|refine aQ a5 ?_|refine aG a5 ?_)|(apply aK;first|refine IH 7 a5 0 IE ?_|refine IH 7 a5 1 IE ?_|refine IH 7 a5 2 IE ?_|refine IG a5 0 ID ?_|refine IG a5 1 ID ?_|refine IG a5 2 ID ?_|refine IG a5 3 ID ?_|fail)|refine bi a5 fun _=>?_|fail)
  refine dk L [] (hw i z L hz hj) rfl hu rfl (c8 rfl) rfl rfl fun c L1 ⟨hc,hj'⟩=>?_
  subst hc
  rw [List.append_nil]
  repeat' (first|refine IT ?_|refine IF a5 G9 ?_)
  refine ar rfl (fun h2=>?_) (fun h2=>?_)
  ·have h2':=Iy h2
   repeat' (first|refine IT ?_|refine IF a5 G9 ?_)
   refine IS IA ?_
   rw [he,cG hil h2']
   rfl
  ·have h2':=Decidable.not_not.1 (Ix h2)
   repeat' (first|refine IT ?_|refine IF a5 G9 ?_|(apply aV;refine aU ?_)|fail)
   exact aC (i+1,L1) rfl ⟨by rw [Iv];rfl,trivial⟩ ⟨by dsimp only;omega,hj' h2',by rw [he];exact cq hil h2'⟩ (by dsimp only;omega) (fun _ _ h=>h)
 ·have hil:i=l.length:=by have:=Ix h;simp at this;omega
  subst hil
  repeat' (first|refine IT ?_|refine IF a5 G9 ?_)
  refine IS IA ?_
  rw [he,Nat.sub_self]
  rfl
theorem E5 {g:FuncId} {caps:List AV} {u:AV} [bD Tryz.prog g] (hu:k8 u=some (g,caps)) (l:List fS) (most:Int) (err:Nat→Int) (J:Nat→AL→Prop) (L0:AL) (h0:J 0 L0) (hw:(l.length:Int)≤most→∀i x L,l[i]?=some x→J i L→AC Tryz.prog g ([aF i,.agg (dQ x)]++caps) L fun c L'=>c=aF (err i)∧(err i=0→J (i+1) L')):
  AC Tryz.prog 132 [.iptr [.imm 2 (l.map dQ)],.iptr [aF most],.iptr [u]] L0 fun r _=>r=ck (cW most err l.length):=by
 refine aL Tryz.func132 rfl Tryz.ntmps132 rfl fun B=>?_
 repeat' (first|refine IT ?_|refine IF a5 G9 ?_)
 refine ar rfl (fun h=>?_) (fun h=>?_)
 ·have h':=Iy h
  rw [Jz] at h'
  repeat' (first|refine IT ?_|refine IF a5 G9 ?_)
  refine IS IA ?_
  unfold cW
  rw [if_pos h']
  rfl
 ·have h':=Ix h
  rw [Jz] at h'
  repeat' (first|refine IT ?_|refine IF a5 G9 ?_)
  refine aX L0 [] (Dh hu l err J L0 h0 (hw (by omega))) rfl (fz hu) (c8 rfl) rfl fun c L1 hc=>?_
  subst hc
  repeat' (first|refine IT ?_|refine IF a5 G9 ?_)
  refine IS IA ?_
  unfold cW
  rw [if_neg h']
  rfl
theorem HC {g:FuncId} {caps:List AV} (l:List fS) (most:Int):bN Tryz.prog 57 [.imm 2 (l.map dQ),aF most,.fn g caps] (.fn 132 [.iptr [.imm 2 (l.map dQ)],.iptr [aF most],.iptr [.fn g caps]]):=by
 refine aL Tryz.func57 rfl Tryz.ntmps57 rfl fun B=>?_
 repeat' (first|refine IT ?_|refine IF a5 G9 ?_|refine bo ?_|fail)
 exact IN IA
instance {g:FuncId} {caps:List AV} (l:List fS) (most:Int):AD Tryz.prog 57 [.imm 2 (l.map dQ),aF most,.fn g caps] (.fn 132 [.iptr [.imm 2 (l.map dQ)],.iptr [aF most],.iptr [.fn g caps]]):=⟨HC l most⟩
theorem Di {g:FuncId} {caps:List AV} {u:AV} [bD Tryz.prog g] (hu:k8 u=some (g,caps)) (l:List aN) (err:Nat→Int) (J:Nat→AL→Prop) (L0:AL) (h0:J 0 L0) (hw:∀i x L,l[i]?=some x→J i L→AC Tryz.prog g ([aF i,.agg (bC x)]++caps) L fun c L'=>c=aF (err i)∧(err i=0→J (i+1) L')):
  AC Tryz.prog 135 [.imm 3 (l.map bC),u] L0 fun r _=>r=ck (d5 err l.length):=by
 refine aL Tryz.func135 rfl Tryz.ntmps135 rfl fun B=>?_
 refine cJ 0 rfl rfl fun hlen=>?_
 rw [Jz] at hlen
 repeat' (first|refine IT ?_|refine am ?_|refine IF a5 G9 ?_)
 refine aO [1,9,10] (α:=Nat×AL) (fun i=>[(11,aF i.1)]) (fun i=>i.1≤l.length∧J i.1 i.2∧d5 err l.length=cZ err (l.length - i.1) i.1) (fun i=>i.2) (fun i=>l.length - i.1) (0,L0) rfl ⟨rfl,trivial⟩ ⟨Nat.zero_le _,h0,rfl⟩ (fun _ _ h=>h) ?_
 rintro ⟨i,L⟩ ⟨hi,hj,he⟩
 dsimp only at hi hj he ⊢
 try dsimp only [Jx,Jw,Jv,Jq]
 repeat' (first|refine IT ?_|refine IF a5 G9 ?_)
 refine ar rfl (fun h=>?_) (fun h=>?_)
 ·have hil:i < l.length:=by have:=Iy h;simp at this;omega
  obtain ⟨z,hz⟩:∃z,l[i]?=some z:=⟨_,Iz hil⟩
  have hzg:=cC (c:=bC) hz
  repeat' (first|refine IT ?_|refine am ?_|refine IF a5 G9 ?_|(apply aS;first|refine aQ a5 ?_|refine aG a5 ?_)|(apply aK;first|refine IH 7 a5 0 IE ?_|refine IH 7 a5 1 IE ?_|refine IH 7 a5 2 IE ?_|refine IG a5 0 ID ?_|refine IG a5 1 ID ?_|refine IG a5 2 ID ?_|refine IG a5 3 ID ?_|fail)|refine bi a5 fun _=>?_|fail)
  refine dk L [] (hw i z L hz hj) rfl hu rfl (c8 rfl) rfl rfl fun c L1 ⟨hc,hj'⟩=>?_
  subst hc
  rw [List.append_nil]
  repeat' (first|refine IT ?_|refine IF a5 G9 ?_)
  refine ar rfl (fun h2=>?_) (fun h2=>?_)
  ·have h2':=Iy h2
   repeat' (first|refine IT ?_|refine IF a5 G9 ?_)
   refine IS IA ?_
   rw [he,cG hil h2']
   rfl
  ·have h2':=Decidable.not_not.1 (Ix h2)
   repeat' (first|refine IT ?_|refine IF a5 G9 ?_|(apply aV;refine aU ?_)|fail)
   exact aC (i+1,L1) rfl ⟨by rw [Iv];rfl,trivial⟩ ⟨by dsimp only;omega,hj' h2',by rw [he];exact cq hil h2'⟩ (by dsimp only;omega) (fun _ _ h=>h)
 ·have hil:i=l.length:=by have:=Ix h;simp at this;omega
  subst hil
  repeat' (first|refine IT ?_|refine IF a5 G9 ?_)
  refine IS IA ?_
  rw [he,Nat.sub_self]
  rfl
theorem E6 {g:FuncId} {caps:List AV} {u:AV} [bD Tryz.prog g] (hu:k8 u=some (g,caps)) (l:List aN) (most:Int) (err:Nat→Int) (J:Nat→AL→Prop) (L0:AL) (h0:J 0 L0) (hw:(l.length:Int)≤most→∀i x L,l[i]?=some x→J i L→AC Tryz.prog g ([aF i,.agg (bC x)]++caps) L fun c L'=>c=aF (err i)∧(err i=0→J (i+1) L')):
  AC Tryz.prog 134 [.iptr [.imm 3 (l.map bC)],.iptr [aF most],.iptr [u]] L0 fun r _=>r=ck (cW most err l.length):=by
 refine aL Tryz.func134 rfl Tryz.ntmps134 rfl fun B=>?_
 repeat' (first|refine IT ?_|refine IF a5 G9 ?_)
 refine ar rfl (fun h=>?_) (fun h=>?_)
 ·have h':=Iy h
  rw [Jz] at h'
  repeat' (first|refine IT ?_|refine IF a5 G9 ?_)
  refine IS IA ?_
  unfold cW
  rw [if_pos h']
  rfl
 ·have h':=Ix h
  rw [Jz] at h'
  repeat' (first|refine IT ?_|refine IF a5 G9 ?_)
  refine aX L0 [] (Di hu l err J L0 h0 (hw (by omega))) rfl (fz hu) (c8 rfl) rfl fun c L1 hc=>?_
  subst hc
  repeat' (first|refine IT ?_|refine IF a5 G9 ?_)
  refine IS IA ?_
  unfold cW
  rw [if_neg h']
  rfl
theorem HD {g:FuncId} {caps:List AV} (l:List aN) (most:Int):bN Tryz.prog 60 [.imm 3 (l.map bC),aF most,.fn g caps] (.fn 134 [.iptr [.imm 3 (l.map bC)],.iptr [aF most],.iptr [.fn g caps]]):=by
 refine aL Tryz.func60 rfl Tryz.ntmps60 rfl fun B=>?_
 repeat' (first|refine IT ?_|refine IF a5 G9 ?_|refine bo ?_|fail)
 exact IN IA
instance {g:FuncId} {caps:List AV} (l:List aN) (most:Int):AD Tryz.prog 60 [.imm 3 (l.map bC),aF most,.fn g caps] (.fn 134 [.iptr [.imm 3 (l.map bC)],.iptr [aF most],.iptr [.fn g caps]]):=⟨HD l most⟩
theorem Dj {g:FuncId} {caps:List AV} {u:AV} [bD Tryz.prog g] (hu:k8 u=some (g,caps)) (l:List bb) (err:Nat→Int) (J:Nat→AL→Prop) (L0:AL) (h0:J 0 L0) (hw:∀i x L,l[i]?=some x→J i L→AC Tryz.prog g ([aF i,.agg (bB x)]++caps) L fun c L'=>c=aF (err i)∧(err i=0→J (i+1) L')):
  AC Tryz.prog 139 [.imm 6 (l.map bB),u] L0 fun r _=>r=ck (d5 err l.length):=by
 refine aL Tryz.func139 rfl Tryz.ntmps139 rfl fun B=>?_
 refine cJ 0 rfl rfl fun hlen=>?_
 rw [Jz] at hlen
 repeat' (first|refine IT ?_|refine am ?_|refine IF a5 G9 ?_)
 refine aO [1,9,10] (α:=Nat×AL) (fun i=>[(11,aF i.1)]) (fun i=>i.1≤l.length∧J i.1 i.2∧d5 err l.length=cZ err (l.length - i.1) i.1) (fun i=>i.2) (fun i=>l.length - i.1) (0,L0) rfl ⟨rfl,trivial⟩ ⟨Nat.zero_le _,h0,rfl⟩ (fun _ _ h=>h) ?_
 rintro ⟨i,L⟩ ⟨hi,hj,he⟩
 dsimp only at hi hj he ⊢
 try dsimp only [Jx,Jw,Jv,Jq]
 repeat' (first|refine IT ?_|refine IF a5 G9 ?_)
 refine ar rfl (fun h=>?_) (fun h=>?_)
 ·have hil:i < l.length:=by have:=Iy h;simp at this;omega
  obtain ⟨z,hz⟩:∃z,l[i]?=some z:=⟨_,Iz hil⟩
  have hzg:=cC (c:=bB) hz
  repeat' (first|refine IT ?_|refine am ?_|refine IF a5 G9 ?_|(apply aS;first|refine aQ a5 ?_|refine aG a5 ?_)|(apply aK;first|refine IH 7 a5 0 IE ?_|refine IH 7 a5 1 IE ?_|refine IH 7 a5 2 IE ?_|refine IG a5 0 ID ?_|refine IG a5 1 ID ?_|refine IG a5 2 ID ?_|refine IG a5 3 ID ?_|fail)|refine bi a5 fun _=>?_|fail)
  refine dk L [] (hw i z L hz hj) rfl hu rfl (c8 rfl) rfl rfl fun c L1 ⟨hc,hj'⟩=>?_
  subst hc
  rw [List.append_nil]
  repeat' (first|refine IT ?_|refine IF a5 G9 ?_)
  refine ar rfl (fun h2=>?_) (fun h2=>?_)
  ·have h2':=Iy h2
   repeat' (first|refine IT ?_|refine IF a5 G9 ?_)
   refine IS IA ?_
   rw [he,cG hil h2']
   rfl
  ·have h2':=Decidable.not_not.1 (Ix h2)
   repeat' (first|refine IT ?_|refine IF a5 G9 ?_|(apply aV;refine aU ?_)|fail)
   exact aC (i+1,L1) rfl ⟨by rw [Iv];rfl,trivial⟩ ⟨by dsimp only;omega,hj' h2',by rw [he];exact cq hil h2'⟩ (by dsimp only;omega) (fun _ _ h=>h)
 ·have hil:i=l.length:=by have:=Ix h;simp at this;omega
  subst hil
  repeat' (first|refine IT ?_|refine IF a5 G9 ?_)
  refine IS IA ?_
  rw [he,Nat.sub_self]
  rfl
theorem Dk {g:FuncId} {caps:List AV} {u:AV} [bD Tryz.prog g] (hu:k8 u=some (g,caps)) (l:List bV) (err:Nat→Int) (J:Nat→AL→Prop) (L0:AL) (h0:J 0 L0) (hw:∀i x L,l[i]?=some x→J i L→AC Tryz.prog g ([aF i,.agg (cf x)]++caps) L fun c L'=>c=aF (err i)∧(err i=0→J (i+1) L')):
  AC Tryz.prog 143 [.imm 2 (l.map cf),u] L0 fun r _=>r=ck (d5 err l.length):=by
 refine aL Tryz.func143 rfl Tryz.ntmps143 rfl fun B=>?_
 refine cJ 0 rfl rfl fun hlen=>?_
 rw [Jz] at hlen
 repeat' (first|refine IT ?_|refine am ?_|refine IF a5 G9 ?_)
 refine aO [1,9,10] (α:=Nat×AL) (fun i=>[(11,aF i.1)]) (fun i=>i.1≤l.length∧J i.1 i.2∧d5 err l.length=cZ err (l.length - i.1) i.1) (fun i=>i.2) (fun i=>l.length - i.1) (0,L0) rfl ⟨rfl,trivial⟩ ⟨Nat.zero_le _,h0,rfl⟩ (fun _ _ h=>h) ?_
 rintro ⟨i,L⟩ ⟨hi,hj,he⟩
 dsimp only at hi hj he ⊢
 try dsimp only [Jx,Jw,Jv,Jq]
 repeat' (first|refine IT ?_|refine IF a5 G9 ?_)
 refine ar rfl (fun h=>?_) (fun h=>?_)
 ·have hil:i < l.length:=by have:=Iy h;simp at this;omega
  obtain ⟨z,hz⟩:∃z,l[i]?=some z:=⟨_,Iz hil⟩
  have hzg:=cC (c:=cf) hz
  repeat' (first|refine IT ?_|refine am ?_|refine IF a5 G9 ?_|(apply aS;first|refine aQ a5 ?_|refine aG a5 ?_)|(apply aK;first|refine IH 7 a5 0 IE ?_|refine IH 7 a5 1 IE ?_|refine IH 7 a5 2 IE ?_|refine IG a5 0 ID ?_|refine IG a5 1 ID ?_|refine IG a5 2 ID ?_|refine IG a5 3 ID ?_|fail)|refine bi a5 fun _=>?_|fail)
  refine dk L [] (hw i z L hz hj) rfl hu rfl (c8 rfl) rfl rfl fun c L1 ⟨hc,hj'⟩=>?_
  subst hc
  rw [List.append_nil]
  repeat' (first|refine IT ?_|refine IF a5 G9 ?_)
  refine ar rfl (fun h2=>?_) (fun h2=>?_)
  ·have h2':=Iy h2
   repeat' (first|refine IT ?_|refine IF a5 G9 ?_)
   refine IS IA ?_
   rw [he,cG hil h2']
   rfl
  ·have h2':=Decidable.not_not.1 (Ix h2)
   repeat' (first|refine IT ?_|refine IF a5 G9 ?_|(apply aV;refine aU ?_)|fail)
   exact aC (i+1,L1) rfl ⟨by rw [Iv];rfl,trivial⟩ ⟨by dsimp only;omega,hj' h2',by rw [he];exact cq hil h2'⟩ (by dsimp only;omega) (fun _ _ h=>h)
 ·have hil:i=l.length:=by have:=Ix h;simp at this;omega
  subst hil
  repeat' (first|refine IT ?_|refine IF a5 G9 ?_)
  refine IS IA ?_
  rw [he,Nat.sub_self]
  rfl
theorem E7 {g:FuncId} {caps:List AV} {u:AV} [bD Tryz.prog g] (hu:k8 u=some (g,caps)) (l:List bV) (most:Int) (err:Nat→Int) (J:Nat→AL→Prop) (L0:AL) (h0:J 0 L0) (hw:(l.length:Int)≤most→∀i x L,l[i]?=some x→J i L→AC Tryz.prog g ([aF i,.agg (cf x)]++caps) L fun c L'=>c=aF (err i)∧(err i=0→J (i+1) L')):
  AC Tryz.prog 142 [.iptr [.imm 2 (l.map cf)],.iptr [aF most],.iptr [u]] L0 fun r _=>r=ck (cW most err l.length):=by
 refine aL Tryz.func142 rfl Tryz.ntmps142 rfl fun B=>?_
 repeat' (first|refine IT ?_|refine IF a5 G9 ?_)
 refine ar rfl (fun h=>?_) (fun h=>?_)
 ·have h':=Iy h
  rw [Jz] at h'
  repeat' (first|refine IT ?_|refine IF a5 G9 ?_)
  refine IS IA ?_
  unfold cW
  rw [if_pos h']
  rfl
 ·have h':=Ix h
  rw [Jz] at h'
  repeat' (first|refine IT ?_|refine IF a5 G9 ?_)
  refine aX L0 [] (Dk hu l err J L0 h0 (hw (by omega))) rfl (fz hu) (c8 rfl) rfl fun c L1 hc=>?_
  subst hc
  repeat' (first|refine IT ?_|refine IF a5 G9 ?_)
  refine IS IA ?_
  unfold cW
  rw [if_neg h']
  rfl
theorem HE {g:FuncId} {caps:List AV} (l:List bV) (most:Int):bN Tryz.prog 63 [.imm 2 (l.map cf),aF most,.fn g caps] (.fn 142 [.iptr [.imm 2 (l.map cf)],.iptr [aF most],.iptr [.fn g caps]]):=by
 refine aL Tryz.func63 rfl Tryz.ntmps63 rfl fun B=>?_
 repeat' (first|refine IT ?_|refine IF a5 G9 ?_|refine bo ?_|fail)
 exact IN IA
instance {g:FuncId} {caps:List AV} (l:List bV) (most:Int):AD Tryz.prog 63 [.imm 2 (l.map cf),aF most,.fn g caps] (.fn 142 [.iptr [.imm 2 (l.map cf)],.iptr [aF most],.iptr [.fn g caps]]):=⟨HE l most⟩
theorem Dl {g:FuncId} {caps:List AV} {u:AV} [bD Tryz.prog g] (hu:k8 u=some (g,caps)) (l:List eh) (err:Nat→Int) (J:Nat→AL→Prop) (L0:AL) (h0:J 0 L0) (hw:∀i x L,l[i]?=some x→J i L→AC Tryz.prog g ([aF i,.agg (cF x)]++caps) L fun c L'=>c=aF (err i)∧(err i=0→J (i+1) L')):
  AC Tryz.prog 146 [.imm 4 (l.map cF),u] L0 fun r _=>r=ck (d5 err l.length):=by
 refine aL Tryz.func146 rfl Tryz.ntmps146 rfl fun B=>?_
 refine cJ 0 rfl rfl fun hlen=>?_
 rw [Jz] at hlen
 repeat' (first|refine IT ?_|refine am ?_|refine IF a5 G9 ?_)
 refine aO [1,9,10] (α:=Nat×AL) (fun i=>[(11,aF i.1)]) (fun i=>i.1≤l.length∧J i.1 i.2∧d5 err l.length=cZ err (l.length - i.1) i.1) (fun i=>i.2) (fun i=>l.length - i.1) (0,L0) rfl ⟨rfl,trivial⟩ ⟨Nat.zero_le _,h0,rfl⟩ (fun _ _ h=>h) ?_
 rintro ⟨i,L⟩ ⟨hi,hj,he⟩
 dsimp only at hi hj he ⊢
 try dsimp only [Jx,Jw,Jv,Jq]
 repeat' (first|refine IT ?_|refine IF a5 G9 ?_)
 refine ar rfl (fun h=>?_) (fun h=>?_)
 ·have hil:i < l.length:=by have:=Iy h;simp at this;omega
  obtain ⟨z,hz⟩:∃z,l[i]?=some z:=⟨_,Iz hil⟩
  have hzg:=cC (c:=cF) hz
  repeat' (first|refine IT ?_|refine am ?_|refine IF a5 G9 ?_|(apply aS;first|refine aQ a5 ?_|refine aG a5 ?_)|(apply aK;first|refine IH 7 a5 0 IE ?_|refine IH 7 a5 1 IE ?_|refine IH 7 a5 2 IE ?_|refine IG a5 0 ID ?_|refine IG a5 1 ID ?_|refine IG a5 2 ID ?_|refine IG a5 3 ID ?_|fail)|refine bi a5 fun _=>?_|fail)
  refine dk L [] (hw i z L hz hj) rfl hu rfl (c8 rfl) rfl rfl fun c L1 ⟨hc,hj'⟩=>?_
  subst hc
  rw [List.append_nil]
  repeat' (first|refine IT ?_|refine IF a5 G9 ?_)
  refine ar rfl (fun h2=>?_) (fun h2=>?_)
  ·have h2':=Iy h2
   repeat' (first|refine IT ?_|refine IF a5 G9 ?_)
   refine IS IA ?_
   rw [he,cG hil h2']
   rfl
  ·have h2':=Decidable.not_not.1 (Ix h2)
   repeat' (first|refine IT ?_|refine IF a5 G9 ?_|(apply aV;refine aU ?_)|fail)
   exact aC (i+1,L1) rfl ⟨by rw [Iv];rfl,trivial⟩ ⟨by dsimp only;omega,hj' h2',by rw [he];exact cq hil h2'⟩ (by dsimp only;omega) (fun _ _ h=>h)
 ·have hil:i=l.length:=by have:=Ix h;simp at this;omega
  subst hil
  repeat' (first|refine IT ?_|refine IF a5 G9 ?_)
  refine IS IA ?_
  rw [he,Nat.sub_self]
  rfl
theorem E8 {g:FuncId} {caps:List AV} {u:AV} [bD Tryz.prog g] (hu:k8 u=some (g,caps)) (l:List eh) (most:Int) (err:Nat→Int) (J:Nat→AL→Prop) (L0:AL) (h0:J 0 L0) (hw:(l.length:Int)≤most→∀i x L,l[i]?=some x→J i L→AC Tryz.prog g ([aF i,.agg (cF x)]++caps) L fun c L'=>c=aF (err i)∧(err i=0→J (i+1) L')):
  AC Tryz.prog 145 [.iptr [.imm 4 (l.map cF)],.iptr [aF most],.iptr [u]] L0 fun r _=>r=ck (cW most err l.length):=by
 refine aL Tryz.func145 rfl Tryz.ntmps145 rfl fun B=>?_
 repeat' (first|refine IT ?_|refine IF a5 G9 ?_)
 refine ar rfl (fun h=>?_) (fun h=>?_)
 ·have h':=Iy h
  rw [Jz] at h'
  repeat' (first|refine IT ?_|refine IF a5 G9 ?_)
  refine IS IA ?_
  unfold cW
  rw [if_pos h']
  rfl
 ·have h':=Ix h
  rw [Jz] at h'
  repeat' (first|refine IT ?_|refine IF a5 G9 ?_)
  refine aX L0 [] (Dl hu l err J L0 h0 (hw (by omega))) rfl (fz hu) (c8 rfl) rfl fun c L1 hc=>?_
  subst hc
  repeat' (first|refine IT ?_|refine IF a5 G9 ?_)
  refine IS IA ?_
  unfold cW
  rw [if_neg h']
  rfl
theorem GP {g:FuncId} {caps:List AV} (l:List eh) (most:Int):bN Tryz.prog 67 [.imm 4 (l.map cF),aF most,.fn g caps] (.fn 145 [.iptr [.imm 4 (l.map cF)],.iptr [aF most],.iptr [.fn g caps]]):=by
 refine aL Tryz.func67 rfl Tryz.ntmps67 rfl fun B=>?_
 repeat' (first|refine IT ?_|refine IF a5 G9 ?_|refine bo ?_|fail)
 exact IN IA
instance {g:FuncId} {caps:List AV} (l:List eh) (most:Int):AD Tryz.prog 67 [.imm 4 (l.map cF),aF most,.fn g caps] (.fn 145 [.iptr [.imm 4 (l.map cF)],.iptr [aF most],.iptr [.fn g caps]]):=⟨GP l most⟩
theorem Dm {g:FuncId} {caps:List AV} {u:AV} [bD Tryz.prog g] (hu:k8 u=some (g,caps)) (l:List (List eO)) (err:Nat→Int) (J:Nat→AL→Prop) (L0:AL) (h0:J 0 L0) (hw:∀i x L,l[i]?=some x→J i L→AC Tryz.prog g ([aF i,.agg (bJ x)]++caps) L fun c L'=>c=aF (err i)∧(err i=0→J (i+1) L')):
  AC Tryz.prog 148 [.imm 1 (l.map bJ),u] L0 fun r _=>r=ck (d5 err l.length):=by
 refine aL Tryz.func148 rfl Tryz.ntmps148 rfl fun B=>?_
 refine cJ 0 rfl rfl fun hlen=>?_
 rw [Jz] at hlen
 repeat' (first|refine IT ?_|refine am ?_|refine IF a5 G9 ?_)
 refine aO [1,9,10] (α:=Nat×AL) (fun i=>[(11,aF i.1)]) (fun i=>i.1≤l.length∧J i.1 i.2∧d5 err l.length=cZ err (l.length - i.1) i.1) (fun i=>i.2) (fun i=>l.length - i.1) (0,L0) rfl ⟨rfl,trivial⟩ ⟨Nat.zero_le _,h0,rfl⟩ (fun _ _ h=>h) ?_
 rintro ⟨i,L⟩ ⟨hi,hj,he⟩
 dsimp only at hi hj he ⊢
 try dsimp only [Jx,Jw,Jv,Jq]
 repeat' (first|refine IT ?_|refine IF a5 G9 ?_)
 refine ar rfl (fun h=>?_) (fun h=>?_)
 ·have hil:i < l.length:=by have:=Iy h;simp at this;omega
  obtain ⟨z,hz⟩:∃z,l[i]?=some z:=⟨_,Iz hil⟩
  have hzg:=cC (c:=bJ) hz
  repeat' (first|refine IT ?_|refine am ?_|refine IF a5 G9 ?_|(apply aS;first|refine aQ a5 ?_|refine aG a5 ?_)|(apply aK;first|refine IH 7 a5 0 IE ?_|refine IH 7 a5 1 IE ?_|refine IH 7 a5 2 IE ?_|refine IG a5 0 ID ?_|refine IG a5 1 ID ?_|refine IG a5 2 ID ?_|refine IG a5 3 ID ?_|fail)|refine bi a5 fun _=>?_|fail)
  refine dk L [] (hw i z L hz hj) rfl hu rfl (c8 rfl) rfl rfl fun c L1 ⟨hc,hj'⟩=>?_
  subst hc
  rw [List.append_nil]
  repeat' (first|refine IT ?_|refine IF a5 G9 ?_)
  refine ar rfl (fun h2=>?_) (fun h2=>?_)
  ·have h2':=Iy h2
   repeat' (first|refine IT ?_|refine IF a5 G9 ?_)
   refine IS IA ?_
   rw [he,cG hil h2']
   rfl
  ·have h2':=Decidable.not_not.1 (Ix h2)
   repeat' (first|refine IT ?_|refine IF a5 G9 ?_|(apply aV;refine aU ?_)|fail)
   exact aC (i+1,L1) rfl ⟨by rw [Iv];rfl,trivial⟩ ⟨by dsimp only;omega,hj' h2',by rw [he];exact cq hil h2'⟩ (by dsimp only;omega) (fun _ _ h=>h)
 ·have hil:i=l.length:=by have:=Ix h;simp at this;omega
  subst hil
  repeat' (first|refine IT ?_|refine IF a5 G9 ?_)
  refine IS IA ?_
  rw [he,Nat.sub_self]
  rfl
theorem E9 {g:FuncId} {caps:List AV} {u:AV} [bD Tryz.prog g] (hu:k8 u=some (g,caps)) (l:List (List eO)) (most:Int) (err:Nat→Int) (J:Nat→AL→Prop) (L0:AL) (h0:J 0 L0) (hw:(l.length:Int)≤most→∀i x L,l[i]?=some x→J i L→AC Tryz.prog g ([aF i,.agg (bJ x)]++caps) L fun c L'=>c=aF (err i)∧(err i=0→J (i+1) L')):
  AC Tryz.prog 147 [.iptr [.imm 1 (l.map bJ)],.iptr [aF most],.iptr [u]] L0 fun r _=>r=ck (cW most err l.length):=by
 refine aL Tryz.func147 rfl Tryz.ntmps147 rfl fun B=>?_
 repeat' (first|refine IT ?_|refine IF a5 G9 ?_)
 refine ar rfl (fun h=>?_) (fun h=>?_)
 ·have h':=Iy h
  rw [Jz] at h'
  repeat' (first|refine IT ?_|refine IF a5 G9 ?_)
  refine IS IA ?_
  unfold cW
  rw [if_pos h']
  rfl
 ·have h':=Ix h
  rw [Jz] at h'
  repeat' (first|refine IT ?_|refine IF a5 G9 ?_)
  refine aX L0 [] (Dm hu l err J L0 h0 (hw (by omega))) rfl (fz hu) (c8 rfl) rfl fun c L1 hc=>?_
  subst hc
  repeat' (first|refine IT ?_|refine IF a5 G9 ?_)
  refine IS IA ?_
  unfold cW
  rw [if_neg h']
  rfl
theorem GQ {g:FuncId} {caps:List AV} (l:List (List eO)) (most:Int):bN Tryz.prog 70 [.imm 1 (l.map bJ),aF most,.fn g caps] (.fn 147 [.iptr [.imm 1 (l.map bJ)],.iptr [aF most],.iptr [.fn g caps]]):=by
 refine aL Tryz.func70 rfl Tryz.ntmps70 rfl fun B=>?_
 repeat' (first|refine IT ?_|refine IF a5 G9 ?_|refine bo ?_|fail)
 exact IN IA
instance {g:FuncId} {caps:List AV} (l:List (List eO)) (most:Int):AD Tryz.prog 70 [.imm 1 (l.map bJ),aF most,.fn g caps] (.fn 147 [.iptr [.imm 1 (l.map bJ)],.iptr [aF most],.iptr [.fn g caps]]):=⟨GQ l most⟩
theorem Dn {g:FuncId} {caps:List AV} {u:AV} [bD Tryz.prog g] (hu:k8 u=some (g,caps)) (l:List eO) (err:Nat→Int) (J:Nat→AL→Prop) (L0:AL) (h0:J 0 L0) (hw:∀i x L,l[i]?=some x→J i L→AC Tryz.prog g ([aF i,.agg (jX x)]++caps) L fun c L'=>c=aF (err i)∧(err i=0→J (i+1) L')):
  AC Tryz.prog 149 [.imm 3 (l.map jX),u] L0 fun r _=>r=ck (d5 err l.length):=by
 refine aL Tryz.func149 rfl Tryz.ntmps149 rfl fun B=>?_
 refine cJ 0 rfl rfl fun hlen=>?_
 rw [Jz] at hlen
 repeat' (first|refine IT ?_|refine am ?_|refine IF a5 G9 ?_)
 refine aO [1,9,10] (α:=Nat×AL) (fun i=>[(11,aF i.1)]) (fun i=>i.1≤l.length∧J i.1 i.2∧d5 err l.length=cZ err (l.length - i.1) i.1) (fun i=>i.2) (fun i=>l.length - i.1) (0,L0) rfl ⟨rfl,trivial⟩ ⟨Nat.zero_le _,h0,rfl⟩ (fun _ _ h=>h) ?_
 rintro ⟨i,L⟩ ⟨hi,hj,he⟩
 dsimp only at hi hj he ⊢
 try dsimp only [Jx,Jw,Jv,Jq]
 repeat' (first|refine IT ?_|refine IF a5 G9 ?_)
 refine ar rfl (fun h=>?_) (fun h=>?_)
 ·have hil:i < l.length:=by have:=Iy h;simp at this;omega
  obtain ⟨z,hz⟩:∃z,l[i]?=some z:=⟨_,Iz hil⟩
  have hzg:=cC (c:=jX) hz
  repeat' (first|refine IT ?_|refine am ?_|refine IF a5 G9 ?_|(apply aS;first|refine aQ a5 ?_|refine aG a5 ?_)|(apply aK;first|refine IH 7 a5 0 IE ?_|refine IH 7 a5 1 IE ?_|refine IH 7 a5 2 IE ?_|refine IG a5 0 ID ?_|refine IG a5 1 ID ?_|refine IG a5 2 ID ?_|refine IG a5 3 ID ?_|fail)|refine bi a5 fun _=>?_|fail)
  refine dk L [] (hw i z L hz hj) rfl hu rfl (c8 rfl) rfl rfl fun c L1 ⟨hc,hj'⟩=>?_
  subst hc
  rw [List.append_nil]
  repeat' (first|refine IT ?_|refine IF a5 G9 ?_)
  refine ar rfl (fun h2=>?_) (fun h2=>?_)
  ·have h2':=Iy h2
   repeat' (first|refine IT ?_|refine IF a5 G9 ?_)
   refine IS IA ?_
   rw [he,cG hil h2']
   rfl
  ·have h2':=Decidable.not_not.1 (Ix h2)
   repeat' (first|refine IT ?_|refine IF a5 G9 ?_|(apply aV;refine aU ?_)|fail)
   exact aC (i+1,L1) rfl ⟨by rw [Iv];rfl,trivial⟩ ⟨by dsimp only;omega,hj' h2',by rw [he];exact cq hil h2'⟩ (by dsimp only;omega) (fun _ _ h=>h)
 ·have hil:i=l.length:=by have:=Ix h;simp at this;omega
  subst hil
  repeat' (first|refine IT ?_|refine IF a5 G9 ?_)
  refine IS IA ?_
  rw [he,Nat.sub_self]
  rfl
theorem Do {g:FuncId} {caps:List AV} {u:AV} [bD Tryz.prog g] (hu:k8 u=some (g,caps)) (l:List (List fP)) (err:Nat→Int) (J:Nat→AL→Prop) (L0:AL) (h0:J 0 L0) (hw:∀i x L,l[i]?=some x→J i L→AC Tryz.prog g ([aF i,.imm 2 (x.map eK)]++caps) L fun c L'=>c=aF (err i)∧(err i=0→J (i+1) L')):
  AC Tryz.prog 152 [.imm 1 (l.map dv),u] L0 fun r _=>r=ck (d5 err l.length):=by
 refine aL Tryz.func152 rfl Tryz.ntmps152 rfl fun B=>?_
 refine cJ 0 rfl rfl fun hlen=>?_
 rw [Jz] at hlen
 repeat' (first|refine IT ?_|refine am ?_|refine IF a5 G9 ?_)
 refine aO [1,9,10] (α:=Nat×AL) (fun i=>[(11,aF i.1)]) (fun i=>i.1≤l.length∧J i.1 i.2∧d5 err l.length=cZ err (l.length - i.1) i.1) (fun i=>i.2) (fun i=>l.length - i.1) (0,L0) rfl ⟨rfl,trivial⟩ ⟨Nat.zero_le _,h0,rfl⟩ (fun _ _ h=>h) ?_
 rintro ⟨i,L⟩ ⟨hi,hj,he⟩
 dsimp only at hi hj he ⊢
 try dsimp only [Jx,Jw,Jv,Jq]
 repeat' (first|refine IT ?_|refine IF a5 G9 ?_)
 refine ar rfl (fun h=>?_) (fun h=>?_)
 ·have hil:i < l.length:=by have:=Iy h;simp at this;omega
  obtain ⟨z,hz⟩:∃z,l[i]?=some z:=⟨_,Iz hil⟩
  have hzg:=cC (c:=dv) hz
  repeat' (first|refine IT ?_|refine am ?_|refine IF a5 G9 ?_|(apply aS;first|refine aQ a5 ?_|refine aG a5 ?_)|fail)
  refine dk L [] (hw i z L hz hj) rfl hu rfl (c8 rfl) rfl rfl fun c L1 ⟨hc,hj'⟩=>?_
  subst hc
  rw [List.append_nil]
  repeat' (first|refine IT ?_|refine IF a5 G9 ?_)
  refine ar rfl (fun h2=>?_) (fun h2=>?_)
  ·have h2':=Iy h2
   repeat' (first|refine IT ?_|refine IF a5 G9 ?_)
   refine IS IA ?_
   rw [he,cG hil h2']
   rfl
  ·have h2':=Decidable.not_not.1 (Ix h2)
   repeat' (first|refine IT ?_|refine IF a5 G9 ?_|(apply aV;refine aU ?_)|fail)
   exact aC (i+1,L1) rfl ⟨by rw [Iv];rfl,trivial⟩ ⟨by dsimp only;omega,hj' h2',by rw [he];exact cq hil h2'⟩ (by dsimp only;omega) (fun _ _ h=>h)
 ·have hil:i=l.length:=by have:=Ix h;simp at this;omega
  subst hil
  repeat' (first|refine IT ?_|refine IF a5 G9 ?_)
  refine IS IA ?_
  rw [he,Nat.sub_self]
  rfl
theorem Ea {g:FuncId} {caps:List AV} {u:AV} [bD Tryz.prog g] (hu:k8 u=some (g,caps)) (l:List (List fP)) (most:Int) (err:Nat→Int) (J:Nat→AL→Prop) (L0:AL) (h0:J 0 L0) (hw:(l.length:Int)≤most→∀i x L,l[i]?=some x→J i L→AC Tryz.prog g ([aF i,.imm 2 (x.map eK)]++caps) L fun c L'=>c=aF (err i)∧(err i=0→J (i+1) L')):
  AC Tryz.prog 151 [.iptr [.imm 1 (l.map dv)],.iptr [aF most],.iptr [u]] L0 fun r _=>r=ck (cW most err l.length):=by
 refine aL Tryz.func151 rfl Tryz.ntmps151 rfl fun B=>?_
 repeat' (first|refine IT ?_|refine IF a5 G9 ?_)
 refine ar rfl (fun h=>?_) (fun h=>?_)
 ·have h':=Iy h
  rw [Jz] at h'
  repeat' (first|refine IT ?_|refine IF a5 G9 ?_)
  refine IS IA ?_
  unfold cW
  rw [if_pos h']
  rfl
 ·have h':=Ix h
  rw [Jz] at h'
  repeat' (first|refine IT ?_|refine IF a5 G9 ?_)
  refine aX L0 [] (Do hu l err J L0 h0 (hw (by omega))) rfl (fz hu) (c8 rfl) rfl fun c L1 hc=>?_
  subst hc
  repeat' (first|refine IT ?_|refine IF a5 G9 ?_)
  refine IS IA ?_
  unfold cW
  rw [if_neg h']
  rfl
theorem FK {g:FuncId} (l:List (List fP)) (most:Int):bN Tryz.prog 73 [.imm 1 (l.map dv),aF most,.sc (.func (.func g) #[] #[])] (.fn 151 [.iptr [.imm 1 (l.map dv)],.iptr [aF most],.iptr [.sc (.func (.func g) #[] #[])]]):=by
 refine aL Tryz.func73 rfl Tryz.ntmps73 rfl fun B=>?_
 repeat' (first|refine IT ?_|refine IF a5 G9 ?_|refine bo ?_|fail)
 exact IN IA
instance {g:FuncId} (l:List (List fP)) (most:Int):AD Tryz.prog 73 [.imm 1 (l.map dv),aF most,.sc (.func (.func g) #[] #[])] (.fn 151 [.iptr [.imm 1 (l.map dv)],.iptr [aF most],.iptr [.sc (.func (.func g) #[] #[])]]):=⟨FK l most⟩
theorem Dp {g:FuncId} {caps:List AV} {u:AV} [bD Tryz.prog g] (hu:k8 u=some (g,caps)) (l:List er) (err:Nat→Int) (J:Nat→AL→Prop) (L0:AL) (h0:J 0 L0) (hw:∀i x L,l[i]?=some x→J i L→AC Tryz.prog g ([aF i,.agg (dq x)]++caps) L fun c L'=>c=aF (err i)∧(err i=0→J (i+1) L')):
  AC Tryz.prog 198 [.imm 3 (l.map dq),u] L0 fun r _=>r=ck (d5 err l.length):=by
 refine aL Tryz.func198 rfl Tryz.ntmps198 rfl fun B=>?_
 refine cJ 0 rfl rfl fun hlen=>?_
 rw [Jz] at hlen
 repeat' (first|refine IT ?_|refine am ?_|refine IF a5 G9 ?_)
 refine aO [1,9,10] (α:=Nat×AL) (fun i=>[(11,aF i.1)]) (fun i=>i.1≤l.length∧J i.1 i.2∧d5 err l.length=cZ err (l.length - i.1) i.1) (fun i=>i.2) (fun i=>l.length - i.1) (0,L0) rfl ⟨rfl,trivial⟩ ⟨Nat.zero_le _,h0,rfl⟩ (fun _ _ h=>h) ?_
 rintro ⟨i,L⟩ ⟨hi,hj,he⟩
 dsimp only at hi hj he ⊢
 try dsimp only [Jx,Jw,Jv,Jq]
 repeat' (first|refine IT ?_|refine IF a5 G9 ?_)
 refine ar rfl (fun h=>?_) (fun h=>?_)
 ·have hil:i < l.length:=by have:=Iy h;simp at this;omega
  obtain ⟨z,hz⟩:∃z,l[i]?=some z:=⟨_,Iz hil⟩
  have hzg:=cC (c:=dq) hz
  repeat' (first|refine IT ?_|refine am ?_|refine IF a5 G9 ?_|(apply aS;first|refine aQ a5 ?_|refine aG a5 ?_)|(apply aK;first|refine IH 7 a5 0 IE ?_|refine IH 7 a5 1 IE ?_|refine IH 7 a5 2 IE ?_|refine IG a5 0 ID ?_|refine IG a5 1 ID ?_|refine IG a5 2 ID ?_|refine IG a5 3 ID ?_|fail)|refine bi a5 fun _=>?_|fail)
  refine dk L [] (hw i z L hz hj) rfl hu rfl (c8 rfl) rfl rfl fun c L1 ⟨hc,hj'⟩=>?_
  subst hc
  rw [List.append_nil]
  repeat' (first|refine IT ?_|refine IF a5 G9 ?_)
  refine ar rfl (fun h2=>?_) (fun h2=>?_)
  ·have h2':=Iy h2
   repeat' (first|refine IT ?_|refine IF a5 G9 ?_)
   refine IS IA ?_
   rw [he,cG hil h2']
   rfl
  ·have h2':=Decidable.not_not.1 (Ix h2)
   repeat' (first|refine IT ?_|refine IF a5 G9 ?_|(apply aV;refine aU ?_)|fail)
   exact aC (i+1,L1) rfl ⟨by rw [Iv];rfl,trivial⟩ ⟨by dsimp only;omega,hj' h2',by rw [he];exact cq hil h2'⟩ (by dsimp only;omega) (fun _ _ h=>h)
 ·have hil:i=l.length:=by have:=Ix h;simp at this;omega
  subst hil
  repeat' (first|refine IT ?_|refine IF a5 G9 ?_)
  refine IS IA ?_
  rw [he,Nat.sub_self]
  rfl
theorem Dq {g:FuncId} {caps:List AV} {u:AV} [bD Tryz.prog g] (hu:k8 u=some (g,caps)) (l:List dC) (err:Nat→Int) (J:Nat→AL→Prop) (L0:AL) (h0:J 0 L0) (hw:∀i x L,l[i]?=some x→J i L→AC Tryz.prog g ([aF i,.agg (ep x)]++caps) L fun c L'=>c=aF (err i)∧(err i=0→J (i+1) L')):
  AC Tryz.prog 202 [.imm 3 (l.map ep),u] L0 fun r _=>r=ck (d5 err l.length):=by
 refine aL Tryz.func202 rfl Tryz.ntmps202 rfl fun B=>?_
 refine cJ 0 rfl rfl fun hlen=>?_
 rw [Jz] at hlen
 repeat' (first|refine IT ?_|refine am ?_|refine IF a5 G9 ?_)
 refine aO [1,9,10] (α:=Nat×AL) (fun i=>[(11,aF i.1)]) (fun i=>i.1≤l.length∧J i.1 i.2∧d5 err l.length=cZ err (l.length - i.1) i.1) (fun i=>i.2) (fun i=>l.length - i.1) (0,L0) rfl ⟨rfl,trivial⟩ ⟨Nat.zero_le _,h0,rfl⟩ (fun _ _ h=>h) ?_
 rintro ⟨i,L⟩ ⟨hi,hj,he⟩
 dsimp only at hi hj he ⊢
 try dsimp only [Jx,Jw,Jv,Jq]
 repeat' (first|refine IT ?_|refine IF a5 G9 ?_)
 refine ar rfl (fun h=>?_) (fun h=>?_)
 ·have hil:i < l.length:=by have:=Iy h;simp at this;omega
  obtain ⟨z,hz⟩:∃z,l[i]?=some z:=⟨_,Iz hil⟩
  have hzg:=cC (c:=ep) hz
  repeat' (first|refine IT ?_|refine am ?_|refine IF a5 G9 ?_|(apply aS;first|refine aQ a5 ?_|refine aG a5 ?_)|(apply aK;first|refine IH 7 a5 0 IE ?_|refine IH 7 a5 1 IE ?_|refine IH 7 a5 2 IE ?_|refine IG a5 0 ID ?_|refine IG a5 1 ID ?_|refine IG a5 2 ID ?_|refine IG a5 3 ID ?_|fail)|refine bi a5 fun _=>?_|fail)
  refine dk L [] (hw i z L hz hj) rfl hu rfl (c8 rfl) rfl rfl fun c L1 ⟨hc,hj'⟩=>?_
  subst hc
  rw [List.append_nil]
  repeat' (first|refine IT ?_|refine IF a5 G9 ?_)
  refine ar rfl (fun h2=>?_) (fun h2=>?_)
  ·have h2':=Iy h2
   repeat' (first|refine IT ?_|refine IF a5 G9 ?_)
   refine IS IA ?_
   rw [he,cG hil h2']
   rfl
  ·have h2':=Decidable.not_not.1 (Ix h2)
   repeat' (first|refine IT ?_|refine IF a5 G9 ?_|(apply aV;refine aU ?_)|fail)
   exact aC (i+1,L1) rfl ⟨by rw [Iv];rfl,trivial⟩ ⟨by dsimp only;omega,hj' h2',by rw [he];exact cq hil h2'⟩ (by dsimp only;omega) (fun _ _ h=>h)
 ·have hil:i=l.length:=by have:=Ix h;simp at this;omega
  subst hil
  repeat' (first|refine IT ?_|refine IF a5 G9 ?_)
  refine IS IA ?_
  rw [he,Nat.sub_self]
  rfl
theorem Ec {g:FuncId} {caps:List AV} {u:AV} [bD Tryz.prog g] (hu:k8 u=some (g,caps)) (l:List dC) (most:Int) (err:Nat→Int) (J:Nat→AL→Prop) (L0:AL) (h0:J 0 L0) (hw:(l.length:Int)≤most→∀i x L,l[i]?=some x→J i L→AC Tryz.prog g ([aF i,.agg (ep x)]++caps) L fun c L'=>c=aF (err i)∧(err i=0→J (i+1) L')):
  AC Tryz.prog 201 [.iptr [.imm 3 (l.map ep)],.iptr [aF most],.iptr [u]] L0 fun r _=>r=ck (cW most err l.length):=by
 refine aL Tryz.func201 rfl Tryz.ntmps201 rfl fun B=>?_
 repeat' (first|refine IT ?_|refine IF a5 G9 ?_)
 refine ar rfl (fun h=>?_) (fun h=>?_)
 ·have h':=Iy h
  rw [Jz] at h'
  repeat' (first|refine IT ?_|refine IF a5 G9 ?_)
  refine IS IA ?_
  unfold cW
  rw [if_pos h']
  rfl
 ·have h':=Ix h
  rw [Jz] at h'
  repeat' (first|refine IT ?_|refine IF a5 G9 ?_)
  refine aX L0 [] (Dq hu l err J L0 h0 (hw (by omega))) rfl (fz hu) (c8 rfl) rfl fun c L1 hc=>?_
  subst hc
  repeat' (first|refine IT ?_|refine IF a5 G9 ?_)
  refine IS IA ?_
  unfold cW
  rw [if_neg h']
  rfl
theorem GR {g:FuncId} {caps:List AV} (l:List dC) (most:Int):bN Tryz.prog 117 [.imm 3 (l.map ep),aF most,.fn g caps] (.fn 201 [.iptr [.imm 3 (l.map ep)],.iptr [aF most],.iptr [.fn g caps]]):=by
 refine aL Tryz.func117 rfl Tryz.ntmps117 rfl fun B=>?_
 repeat' (first|refine IT ?_|refine IF a5 G9 ?_|refine bo ?_|fail)
 exact IN IA
instance {g:FuncId} {caps:List AV} (l:List dC) (most:Int):AD Tryz.prog 117 [.imm 3 (l.map ep),aF most,.fn g caps] (.fn 201 [.iptr [.imm 3 (l.map ep)],.iptr [aF most],.iptr [.fn g caps]]):=⟨GR l most⟩
theorem Dr {g:FuncId} {caps:List AV} {u:AV} [bD Tryz.prog g] (hu:k8 u=some (g,caps)) (l:List di) (err:Nat→Int) (J:Nat→AL→Prop) (L0:AL) (h0:J 0 L0) (hw:∀i x L,l[i]?=some x→J i L→AC Tryz.prog g ([aF i,.agg (cY x)]++caps) L fun c L'=>c=aF (err i)∧(err i=0→J (i+1) L')):
  AC Tryz.prog 204 [.imm 4 (l.map cY),u] L0 fun r _=>r=ck (d5 err l.length):=by
 refine aL Tryz.func204 rfl Tryz.ntmps204 rfl fun B=>?_
 refine cJ 0 rfl rfl fun hlen=>?_
 rw [Jz] at hlen
 repeat' (first|refine IT ?_|refine am ?_|refine IF a5 G9 ?_)
 refine aO [1,9,10] (α:=Nat×AL) (fun i=>[(11,aF i.1)]) (fun i=>i.1≤l.length∧J i.1 i.2∧d5 err l.length=cZ err (l.length - i.1) i.1) (fun i=>i.2) (fun i=>l.length - i.1) (0,L0) rfl ⟨rfl,trivial⟩ ⟨Nat.zero_le _,h0,rfl⟩ (fun _ _ h=>h) ?_
 rintro ⟨i,L⟩ ⟨hi,hj,he⟩
 dsimp only at hi hj he ⊢
 try dsimp only [Jx,Jw,Jv,Jq]
 repeat' (first|refine IT ?_|refine IF a5 G9 ?_)
 refine ar rfl (fun h=>?_) (fun h=>?_)
 ·have hil:i < l.length:=by have:=Iy h;simp at this;omega
  obtain ⟨z,hz⟩:∃z,l[i]?=some z:=⟨_,Iz hil⟩
  have hzg:=cC (c:=cY) hz
  repeat' (first|refine IT ?_|refine am ?_|refine IF a5 G9 ?_|(apply aS;first|refine aQ a5 ?_|refine aG a5 ?_)|(apply aK;first|refine IH 7 a5 0 IE ?_|refine IH 7 a5 1 IE ?_|refine IH 7 a5 2 IE ?_|refine IG a5 0 ID ?_|refine IG a5 1 ID ?_|refine IG a5 2 ID ?_|refine IG a5 3 ID ?_|fail)|refine bi a5 fun _=>?_|fail)
  refine dk L [] (hw i z L hz hj) rfl hu rfl (c8 rfl) rfl rfl fun c L1 ⟨hc,hj'⟩=>?_
  subst hc
  rw [List.append_nil]
  repeat' (first|refine IT ?_|refine IF a5 G9 ?_)
  refine ar rfl (fun h2=>?_) (fun h2=>?_)
  ·have h2':=Iy h2
   repeat' (first|refine IT ?_|refine IF a5 G9 ?_)
   refine IS IA ?_
   rw [he,cG hil h2']
   rfl
  ·have h2':=Decidable.not_not.1 (Ix h2)
   repeat' (first|refine IT ?_|refine IF a5 G9 ?_|(apply aV;refine aU ?_)|fail)
   exact aC (i+1,L1) rfl ⟨by rw [Iv];rfl,trivial⟩ ⟨by dsimp only;omega,hj' h2',by rw [he];exact cq hil h2'⟩ (by dsimp only;omega) (fun _ _ h=>h)
 ·have hil:i=l.length:=by have:=Ix h;simp at this;omega
  subst hil
  repeat' (first|refine IT ?_|refine IF a5 G9 ?_)
  refine IS IA ?_
  rw [he,Nat.sub_self]
  rfl
theorem Ed {g:FuncId} {caps:List AV} {u:AV} [bD Tryz.prog g] (hu:k8 u=some (g,caps)) (l:List di) (most:Int) (err:Nat→Int) (J:Nat→AL→Prop) (L0:AL) (h0:J 0 L0) (hw:(l.length:Int)≤most→∀i x L,l[i]?=some x→J i L→AC Tryz.prog g ([aF i,.agg (cY x)]++caps) L fun c L'=>c=aF (err i)∧(err i=0→J (i+1) L')):
  AC Tryz.prog 203 [.iptr [.imm 4 (l.map cY)],.iptr [aF most],.iptr [u]] L0 fun r _=>r=ck (cW most err l.length):=by
 refine aL Tryz.func203 rfl Tryz.ntmps203 rfl fun B=>?_
 repeat' (first|refine IT ?_|refine IF a5 G9 ?_)
 refine ar rfl (fun h=>?_) (fun h=>?_)
 ·have h':=Iy h
  rw [Jz] at h'
  repeat' (first|refine IT ?_|refine IF a5 G9 ?_)
  refine IS IA ?_
  unfold cW
  rw [if_pos h']
  rfl
 ·have h':=Ix h
  rw [Jz] at h'
  repeat' (first|refine IT ?_|refine IF a5 G9 ?_)
  refine aX L0 [] (Dr hu l err J L0 h0 (hw (by omega))) rfl (fz hu) (c8 rfl) rfl fun c L1 hc=>?_
  subst hc
  repeat' (first|refine IT ?_|refine IF a5 G9 ?_)
  refine IS IA ?_
  unfold cW
  rw [if_neg h']
  rfl
theorem GS {g:FuncId} {caps:List AV} (l:List di) (most:Int):bN Tryz.prog 120 [.imm 4 (l.map cY),aF most,.fn g caps] (.fn 203 [.iptr [.imm 4 (l.map cY)],.iptr [aF most],.iptr [.fn g caps]]):=by
 refine aL Tryz.func120 rfl Tryz.ntmps120 rfl fun B=>?_
 repeat' (first|refine IT ?_|refine IF a5 G9 ?_|refine bo ?_|fail)
 exact IN IA
instance {g:FuncId} {caps:List AV} (l:List di) (most:Int):AD Tryz.prog 120 [.imm 4 (l.map cY),aF most,.fn g caps] (.fn 203 [.iptr [.imm 4 (l.map cY)],.iptr [aF most],.iptr [.fn g caps]]):=⟨GS l most⟩
theorem Ds {g:FuncId} {caps:List AV} {u:AV} [bD Tryz.prog g] (hu:k8 u=some (g,caps)) (l:List dw) (err:Nat→Int) (J:Nat→AL→Prop) (L0:AL) (h0:J 0 L0) (hw:∀i x L,l[i]?=some x→J i L→AC Tryz.prog g ([aF i,.agg (dL x)]++caps) L fun c L'=>c=aF (err i)∧(err i=0→J (i+1) L')):
  AC Tryz.prog 207 [.imm 4 (l.map dL),u] L0 fun r _=>r=ck (d5 err l.length):=by
 refine aL Tryz.func207 rfl Tryz.ntmps207 rfl fun B=>?_
 refine cJ 0 rfl rfl fun hlen=>?_
 rw [Jz] at hlen
 repeat' (first|refine IT ?_|refine am ?_|refine IF a5 G9 ?_)
 refine aO [1,9,10] (α:=Nat×AL) (fun i=>[(11,aF i.1)]) (fun i=>i.1≤l.length∧J i.1 i.2∧d5 err l.length=cZ err (l.length - i.1) i.1) (fun i=>i.2) (fun i=>l.length - i.1) (0,L0) rfl ⟨rfl,trivial⟩ ⟨Nat.zero_le _,h0,rfl⟩ (fun _ _ h=>h) ?_
 rintro ⟨i,L⟩ ⟨hi,hj,he⟩
 dsimp only at hi hj he ⊢
 try dsimp only [Jx,Jw,Jv,Jq]
 repeat' (first|refine IT ?_|refine IF a5 G9 ?_)
 refine ar rfl (fun h=>?_) (fun h=>?_)
 ·have hil:i < l.length:=by have:=Iy h;simp at this;omega
  obtain ⟨z,hz⟩:∃z,l[i]?=some z:=⟨_,Iz hil⟩
  have hzg:=cC (c:=dL) hz
  repeat' (first|refine IT ?_|refine am ?_|refine IF a5 G9 ?_|(apply aS;first|refine aQ a5 ?_|refine aG a5 ?_)|(apply aK;first|refine IH 7 a5 0 IE ?_|refine IH 7 a5 1 IE ?_|refine IH 7 a5 2 IE ?_|refine IG a5 0 ID ?_|refine IG a5 1 ID ?_|refine IG a5 2 ID ?_|refine IG a5 3 ID ?_|fail)|refine bi a5 fun _=>?_|fail)
  refine dk L [] (hw i z L hz hj) rfl hu rfl (c8 rfl) rfl rfl fun c L1 ⟨hc,hj'⟩=>?_
  subst hc
  rw [List.append_nil]
  repeat' (first|refine IT ?_|refine IF a5 G9 ?_)
  refine ar rfl (fun h2=>?_) (fun h2=>?_)
  ·have h2':=Iy h2
   repeat' (first|refine IT ?_|refine IF a5 G9 ?_)
   refine IS IA ?_
   rw [he,cG hil h2']
   rfl
  ·have h2':=Decidable.not_not.1 (Ix h2)
   repeat' (first|refine IT ?_|refine IF a5 G9 ?_|(apply aV;refine aU ?_)|fail)
   exact aC (i+1,L1) rfl ⟨by rw [Iv];rfl,trivial⟩ ⟨by dsimp only;omega,hj' h2',by rw [he];exact cq hil h2'⟩ (by dsimp only;omega) (fun _ _ h=>h)
 ·have hil:i=l.length:=by have:=Ix h;simp at this;omega
  subst hil
  repeat' (first|refine IT ?_|refine IF a5 G9 ?_)
  refine IS IA ?_
  rw [he,Nat.sub_self]
  rfl
theorem Ee {g:FuncId} {caps:List AV} {u:AV} [bD Tryz.prog g] (hu:k8 u=some (g,caps)) (l:List dw) (most:Int) (err:Nat→Int) (J:Nat→AL→Prop) (L0:AL) (h0:J 0 L0) (hw:(l.length:Int)≤most→∀i x L,l[i]?=some x→J i L→AC Tryz.prog g ([aF i,.agg (dL x)]++caps) L fun c L'=>c=aF (err i)∧(err i=0→J (i+1) L')):
  AC Tryz.prog 206 [.iptr [.imm 4 (l.map dL)],.iptr [aF most],.iptr [u]] L0 fun r _=>r=ck (cW most err l.length):=by
 refine aL Tryz.func206 rfl Tryz.ntmps206 rfl fun B=>?_
 repeat' (first|refine IT ?_|refine IF a5 G9 ?_)
 refine ar rfl (fun h=>?_) (fun h=>?_)
 ·have h':=Iy h
  rw [Jz] at h'
  repeat' (first|refine IT ?_|refine IF a5 G9 ?_)
  refine IS IA ?_
  unfold cW
  rw [if_pos h']
  rfl
 ·have h':=Ix h
  rw [Jz] at h'
  repeat' (first|refine IT ?_|refine IF a5 G9 ?_)
  refine aX L0 [] (Ds hu l err J L0 h0 (hw (by omega))) rfl (fz hu) (c8 rfl) rfl fun c L1 hc=>?_
  subst hc
  repeat' (first|refine IT ?_|refine IF a5 G9 ?_)
  refine IS IA ?_
  unfold cW
  rw [if_neg h']
  rfl
theorem GT {g:FuncId} {caps:List AV} (l:List dw) (most:Int):bN Tryz.prog 122 [.imm 4 (l.map dL),aF most,.fn g caps] (.fn 206 [.iptr [.imm 4 (l.map dL)],.iptr [aF most],.iptr [.fn g caps]]):=by
 refine aL Tryz.func122 rfl Tryz.ntmps122 rfl fun B=>?_
 repeat' (first|refine IT ?_|refine IF a5 G9 ?_|refine bo ?_|fail)
 exact IN IA
instance {g:FuncId} {caps:List AV} (l:List dw) (most:Int):AD Tryz.prog 122 [.imm 4 (l.map dL),aF most,.fn g caps] (.fn 206 [.iptr [.imm 4 (l.map dL)],.iptr [aF most],.iptr [.fn g caps]]):=⟨GT l most⟩
theorem Dt {g:FuncId} {caps:List AV} {u:AV} [bD Tryz.prog g] (hu:k8 u=some (g,caps)) (l:List (List Int)) (err:Nat→Int) (J:Nat→AL→Prop) (L0:AL) (h0:J 0 L0) (hw:∀i x L,l[i]?=some x→J i L→AC Tryz.prog g ([aF i,.imm 1 (aT x)]++caps) L fun c L'=>c=aF (err i)∧(err i=0→J (i+1) L')):
  AC Tryz.prog 215 [.imm 1 (l.map GB),u] L0 fun r _=>r=ck (d5 err l.length):=by
 refine aL Tryz.func215 rfl Tryz.ntmps215 rfl fun B=>?_
 refine cJ 0 rfl rfl fun hlen=>?_
 rw [Jz] at hlen
 repeat' (first|refine IT ?_|refine am ?_|refine IF a5 G9 ?_)
 refine aO [1,9,10] (α:=Nat×AL) (fun i=>[(11,aF i.1)]) (fun i=>i.1≤l.length∧J i.1 i.2∧d5 err l.length=cZ err (l.length - i.1) i.1) (fun i=>i.2) (fun i=>l.length - i.1) (0,L0) rfl ⟨rfl,trivial⟩ ⟨Nat.zero_le _,h0,rfl⟩ (fun _ _ h=>h) ?_
 rintro ⟨i,L⟩ ⟨hi,hj,he⟩
 dsimp only at hi hj he ⊢
 try dsimp only [Jx,Jw,Jv,Jq]
 repeat' (first|refine IT ?_|refine IF a5 G9 ?_)
 refine ar rfl (fun h=>?_) (fun h=>?_)
 ·have hil:i < l.length:=by have:=Iy h;simp at this;omega
  obtain ⟨z,hz⟩:∃z,l[i]?=some z:=⟨_,Iz hil⟩
  have hzg:=cC (c:=GB) hz
  repeat' (first|refine IT ?_|refine am ?_|refine IF a5 G9 ?_|(apply aS;first|refine aQ a5 ?_|refine aG a5 ?_)|fail)
  refine dk L [] (hw i z L hz hj) rfl hu rfl (c8 rfl) rfl rfl fun c L1 ⟨hc,hj'⟩=>?_
  subst hc
  rw [List.append_nil]
  repeat' (first|refine IT ?_|refine IF a5 G9 ?_)
  refine ar rfl (fun h2=>?_) (fun h2=>?_)
  ·have h2':=Iy h2
   repeat' (first|refine IT ?_|refine IF a5 G9 ?_)
   refine IS IA ?_
   rw [he,cG hil h2']
   rfl
  ·have h2':=Decidable.not_not.1 (Ix h2)
   repeat' (first|refine IT ?_|refine IF a5 G9 ?_|(apply aV;refine aU ?_)|fail)
   exact aC (i+1,L1) rfl ⟨by rw [Iv];rfl,trivial⟩ ⟨by dsimp only;omega,hj' h2',by rw [he];exact cq hil h2'⟩ (by dsimp only;omega) (fun _ _ h=>h)
 ·have hil:i=l.length:=by have:=Ix h;simp at this;omega
  subst hil
  repeat' (first|refine IT ?_|refine IF a5 G9 ?_)
  refine IS IA ?_
  rw [he,Nat.sub_self]
  rfl
theorem Du {g:FuncId} {caps:List AV} {u:AV} [bD Tryz.prog g] (hu:k8 u=some (g,caps)) (l:List fP) (err:Nat→Int) (J:Nat→AL→Prop) (L0:AL) (h0:J 0 L0) (hw:∀i x L,l[i]?=some x→J i L→AC Tryz.prog g ([aF i,.agg (eK x)]++caps) L fun c L'=>c=aF (err i)∧(err i=0→J (i+1) L')):
  AC Tryz.prog 228 [.imm 2 (l.map eK),u] L0 fun r _=>r=ck (d5 err l.length):=by
 refine aL Tryz.func228 rfl Tryz.ntmps228 rfl fun B=>?_
 refine cJ 0 rfl rfl fun hlen=>?_
 rw [Jz] at hlen
 repeat' (first|refine IT ?_|refine am ?_|refine IF a5 G9 ?_)
 refine aO [1,9,10] (α:=Nat×AL) (fun i=>[(11,aF i.1)]) (fun i=>i.1≤l.length∧J i.1 i.2∧d5 err l.length=cZ err (l.length - i.1) i.1) (fun i=>i.2) (fun i=>l.length - i.1) (0,L0) rfl ⟨rfl,trivial⟩ ⟨Nat.zero_le _,h0,rfl⟩ (fun _ _ h=>h) ?_
 rintro ⟨i,L⟩ ⟨hi,hj,he⟩
 dsimp only at hi hj he ⊢
 try dsimp only [Jx,Jw,Jv,Jq]
 repeat' (first|refine IT ?_|refine IF a5 G9 ?_)
 refine ar rfl (fun h=>?_) (fun h=>?_)
 ·have hil:i < l.length:=by have:=Iy h;simp at this;omega
  obtain ⟨z,hz⟩:∃z,l[i]?=some z:=⟨_,Iz hil⟩
  have hzg:=cC (c:=eK) hz
  repeat' (first|refine IT ?_|refine am ?_|refine IF a5 G9 ?_|(apply aS;first|refine aQ a5 ?_|refine aG a5 ?_)|(apply aK;first|refine IH 7 a5 0 IE ?_|refine IH 7 a5 1 IE ?_|refine IH 7 a5 2 IE ?_|refine IG a5 0 ID ?_|refine IG a5 1 ID ?_|refine IG a5 2 ID ?_|refine IG a5 3 ID ?_|fail)|refine bi a5 fun _=>?_|fail)
  refine dk L [] (hw i z L hz hj) rfl hu rfl (c8 rfl) rfl rfl fun c L1 ⟨hc,hj'⟩=>?_
  subst hc
  rw [List.append_nil]
  repeat' (first|refine IT ?_|refine IF a5 G9 ?_)
  refine ar rfl (fun h2=>?_) (fun h2=>?_)
  ·have h2':=Iy h2
   repeat' (first|refine IT ?_|refine IF a5 G9 ?_)
   refine IS IA ?_
   rw [he,cG hil h2']
   rfl
  ·have h2':=Decidable.not_not.1 (Ix h2)
   repeat' (first|refine IT ?_|refine IF a5 G9 ?_|(apply aV;refine aU ?_)|fail)
   exact aC (i+1,L1) rfl ⟨by rw [Iv];rfl,trivial⟩ ⟨by dsimp only;omega,hj' h2',by rw [he];exact cq hil h2'⟩ (by dsimp only;omega) (fun _ _ h=>h)
 ·have hil:i=l.length:=by have:=Ix h;simp at this;omega
  subst hil
  repeat' (first|refine IT ?_|refine IF a5 G9 ?_)
  refine IS IA ?_
  rw [he,Nat.sub_self]
  rfl
theorem Ef {g:FuncId} {caps:List AV} {u:AV} [bD Tryz.prog g] (hu:k8 u=some (g,caps)) (l:List fP) (most:Int) (err:Nat→Int) (J:Nat→AL→Prop) (L0:AL) (h0:J 0 L0) (hw:(l.length:Int)≤most→∀i x L,l[i]?=some x→J i L→AC Tryz.prog g ([aF i,.agg (eK x)]++caps) L fun c L'=>c=aF (err i)∧(err i=0→J (i+1) L')):
  AC Tryz.prog 227 [.iptr [.imm 2 (l.map eK)],.iptr [aF most],.iptr [u]] L0 fun r _=>r=ck (cW most err l.length):=by
 refine aL Tryz.func227 rfl Tryz.ntmps227 rfl fun B=>?_
 repeat' (first|refine IT ?_|refine IF a5 G9 ?_)
 refine ar rfl (fun h=>?_) (fun h=>?_)
 ·have h':=Iy h
  rw [Jz] at h'
  repeat' (first|refine IT ?_|refine IF a5 G9 ?_)
  refine IS IA ?_
  unfold cW
  rw [if_pos h']
  rfl
 ·have h':=Ix h
  rw [Jz] at h'
  repeat' (first|refine IT ?_|refine IF a5 G9 ?_)
  refine aX L0 [] (Du hu l err J L0 h0 (hw (by omega))) rfl (fz hu) (c8 rfl) rfl fun c L1 hc=>?_
  subst hc
  repeat' (first|refine IT ?_|refine IF a5 G9 ?_)
  refine IS IA ?_
  unfold cW
  rw [if_neg h']
  rfl
theorem FM {g:FuncId} (l:List fP) (most:Int):bN Tryz.prog 153 [.imm 2 (l.map eK),aF most,.sc (.func (.func g) #[] #[])] (.fn 227 [.iptr [.imm 2 (l.map eK)],.iptr [aF most],.iptr [.sc (.func (.func g) #[] #[])]]):=by
 refine aL Tryz.func153 rfl Tryz.ntmps153 rfl fun B=>?_
 repeat' (first|refine IT ?_|refine IF a5 G9 ?_|refine bo ?_|fail)
 exact IN IA
instance {g:FuncId} (l:List fP) (most:Int):AD Tryz.prog 153 [.imm 2 (l.map eK),aF most,.sc (.func (.func g) #[] #[])] (.fn 227 [.iptr [.imm 2 (l.map eK)],.iptr [aF most],.iptr [.sc (.func (.func g) #[] #[])]]):=⟨FM l most⟩
theorem Dv {g:FuncId} {caps:List AV} {u:AV} [bD Tryz.prog g] (hu:k8 u=some (g,caps)) (l:List gO) (err:Nat→Int) (J:Nat→AL→Prop) (L0:AL) (h0:J 0 L0) (hw:∀i x L,l[i]?=some x→J i L→AC Tryz.prog g ([aF i,.agg (eT x)]++caps) L fun c L'=>c=aF (err i)∧(err i=0→J (i+1) L')):
  AC Tryz.prog 272 [.imm 2 (l.map eT),u] L0 fun r _=>r=ck (d5 err l.length):=by
 refine aL Tryz.func272 rfl Tryz.ntmps272 rfl fun B=>?_
 refine cJ 0 rfl rfl fun hlen=>?_
 rw [Jz] at hlen
 repeat' (first|refine IT ?_|refine am ?_|refine IF a5 G9 ?_)
 refine aO [1,9,10] (α:=Nat×AL) (fun i=>[(11,aF i.1)]) (fun i=>i.1≤l.length∧J i.1 i.2∧d5 err l.length=cZ err (l.length - i.1) i.1) (fun i=>i.2) (fun i=>l.length - i.1) (0,L0) rfl ⟨rfl,trivial⟩ ⟨Nat.zero_le _,h0,rfl⟩ (fun _ _ h=>h) ?_
 rintro ⟨i,L⟩ ⟨hi,hj,he⟩
 dsimp only at hi hj he ⊢
 try dsimp only [Jx,Jw,Jv,Jq]
 repeat' (first|refine IT ?_|refine IF a5 G9 ?_)
 refine ar rfl (fun h=>?_) (fun h=>?_)
 ·have hil:i < l.length:=by have:=Iy h;simp at this;omega
  obtain ⟨z,hz⟩:∃z,l[i]?=some z:=⟨_,Iz hil⟩
  have hzg:=cC (c:=eT) hz
  repeat' (first|refine IT ?_|refine am ?_|refine IF a5 G9 ?_|(apply aS;first|refine aQ a5 ?_|refine aG a5 ?_)|(apply aK;first|refine IH 7 a5 0 IE ?_|refine IH 7 a5 1 IE ?_|refine IH 7 a5 2 IE ?_|refine IG a5 0 ID ?_|refine IG a5 1 ID ?_|refine IG a5 2 ID ?_|refine IG a5 3 ID ?_|fail)|refine bi a5 fun _=>?_|fail)
  refine dk L [] (hw i z L hz hj) rfl hu rfl (c8 rfl) rfl rfl fun c L1 ⟨hc,hj'⟩=>?_
  subst hc
  rw [List.append_nil]
  repeat' (first|refine IT ?_|refine IF a5 G9 ?_)
  refine ar rfl (fun h2=>?_) (fun h2=>?_)
  ·have h2':=Iy h2
   repeat' (first|refine IT ?_|refine IF a5 G9 ?_)
   refine IS IA ?_
   rw [he,cG hil h2']
   rfl
  ·have h2':=Decidable.not_not.1 (Ix h2)
   repeat' (first|refine IT ?_|refine IF a5 G9 ?_|(apply aV;refine aU ?_)|fail)
   exact aC (i+1,L1) rfl ⟨by rw [Iv];rfl,trivial⟩ ⟨by dsimp only;omega,hj' h2',by rw [he];exact cq hil h2'⟩ (by dsimp only;omega) (fun _ _ h=>h)
 ·have hil:i=l.length:=by have:=Ix h;simp at this;omega
  subst hil
  repeat' (first|refine IT ?_|refine IF a5 G9 ?_)
  refine IS IA ?_
  rw [he,Nat.sub_self]
  rfl
theorem md {g:FuncId} {caps:List AV} {u:AV} [bD Tryz.prog g] (hu:k8 u=some (g,caps)) (l:List Int) (err:Nat→Int) (J:Nat→AL→Prop) (L0:AL) (h0:J 0 L0) (hw:∀i x L,l[i]?=some x→J i L→AC Tryz.prog g ([aF i,aF x]++caps) L fun c L'=>c=aF (err i)∧(err i=0→J (i+1) L')):
  AC Tryz.prog 128 [.imm 1 (l.map xX),u] L0 fun r _=>r=ck (d5 err l.length):=by
 refine aL Tryz.func128 rfl Tryz.ntmps128 rfl fun B=>?_
 refine cJ 0 rfl rfl fun hlen=>?_
 rw [Jz] at hlen
 repeat' (first|refine IT ?_|refine am ?_|refine IF a5 G9 ?_)
 refine aO [1,9,10] (α:=Nat×AL) (fun i=>[(11,aF i.1)]) (fun i=>i.1≤l.length∧J i.1 i.2∧d5 err l.length=cZ err (l.length - i.1) i.1) (fun i=>i.2) (fun i=>l.length - i.1) (0,L0) rfl ⟨rfl,trivial⟩ ⟨Nat.zero_le _,h0,rfl⟩ (fun _ _ h=>h) ?_
 rintro ⟨i,L⟩ ⟨hi,hj,he⟩
 dsimp only at hi hj he ⊢
 try dsimp only [Jx,Jw,Jv,Jq]
 repeat' (first|refine IT ?_|refine IF a5 G9 ?_)
 refine ar rfl (fun h=>?_) (fun h=>?_)
 ·have hil:i < l.length:=by have:=Iy h;simp at this;omega
  obtain ⟨z,hz⟩:∃z,l[i]?=some z:=⟨_,Iz hil⟩
  have hzg:=cC (c:=xX) hz
  repeat' (first|refine IT ?_|refine am ?_|refine IF a5 G9 ?_|(apply aS;first|refine aQ a5 ?_|refine aG a5 ?_)|fail)
  refine dk L [] (hw i z L hz hj) rfl hu rfl (c8 rfl) rfl rfl fun c L1 ⟨hc,hj'⟩=>?_
  subst hc
  rw [List.append_nil]
  repeat' (first|refine IT ?_|refine IF a5 G9 ?_)
  refine ar rfl (fun h2=>?_) (fun h2=>?_)
  ·have h2':=Iy h2
   repeat' (first|refine IT ?_|refine IF a5 G9 ?_)
   refine IS IA ?_
   rw [he,cG hil h2']
   rfl
  ·have h2':=Decidable.not_not.1 (Ix h2)
   repeat' (first|refine IT ?_|refine IF a5 G9 ?_|(apply aV;refine aU ?_)|fail)
   exact aC (i+1,L1) rfl ⟨by rw [Iv];rfl,trivial⟩ ⟨by dsimp only;omega,hj' h2',by rw [he];exact cq hil h2'⟩ (by dsimp only;omega) (fun _ _ h=>h)
 ·have hil:i=l.length:=by have:=Ix h;simp at this;omega
  subst hil
  repeat' (first|refine IT ?_|refine IF a5 G9 ?_)
  refine IS IA ?_
  rw [he,Nat.sub_self]
  rfl
theorem Eb {g:FuncId} {caps:List AV} {u:AV} [bD Tryz.prog g] (hu:k8 u=some (g,caps)) (l:List Int) (most:Int) (err:Nat→Int) (J:Nat→AL→Prop) (L0:AL) (h0:J 0 L0) (hw:(l.length:Int)≤most→∀i x L,l[i]?=some x→J i L→AC Tryz.prog g ([aF i,aF x]++caps) L fun c L'=>c=aF (err i)∧(err i=0→J (i+1) L')):
  AC Tryz.prog 155 [.iptr [.imm 1 (l.map xX)],.iptr [aF most],.iptr [u]] L0 fun r _=>r=ck (cW most err l.length):=by
 refine aL Tryz.func155 rfl Tryz.ntmps155 rfl fun B=>?_
 repeat' (first|refine IT ?_|refine IF a5 G9 ?_)
 refine ar rfl (fun h=>?_) (fun h=>?_)
 ·have h':=Iy h
  rw [Jz] at h'
  repeat' (first|refine IT ?_|refine IF a5 G9 ?_)
  refine IS IA ?_
  unfold cW
  rw [if_pos h']
  rfl
 ·have h':=Ix h
  rw [Jz] at h'
  repeat' (first|refine IT ?_|refine IF a5 G9 ?_)
  refine aX L0 [] (md hu l err J L0 h0 (hw (by omega))) rfl (fz hu) (c8 rfl) rfl fun c L1 hc=>?_
  subst hc
  repeat' (first|refine IT ?_|refine IF a5 G9 ?_)
  refine IS IA ?_
  unfold cW
  rw [if_neg h']
  rfl
theorem FL {g:FuncId} (l:List Int) (most:Int):bN Tryz.prog 76 [.imm 1 (l.map xX),aF most,.sc (.func (.func g) #[] #[])] (.fn 155 [.iptr [.imm 1 (l.map xX)],.iptr [aF most],.iptr [.sc (.func (.func g) #[] #[])]]):=by
 refine aL Tryz.func76 rfl Tryz.ntmps76 rfl fun B=>?_
 repeat' (first|refine IT ?_|refine IF a5 G9 ?_|refine bo ?_|fail)
 exact IN IA
end Go.Proofs.YtpmdfoaadejmkaaGreatDoor
