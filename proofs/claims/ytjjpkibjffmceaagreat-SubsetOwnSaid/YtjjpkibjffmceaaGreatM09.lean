/-
  The program: looks at things, one by one.
-/
import Derived.Test.YtjjpkibjffmceaaGreatM07
import Derived.Test.YtjjpkibjffmceaaGreatM05
import Derived.Test.YtjjpkibjffmceaaGreatM06
namespace Go.Proofs.YtjjpkibjffmceaaGreat
open Go.RowKit
attribute [local irreducible] AT bW AX AO Av Kt bA eI DA dl
def dK (err:Nat→Int):Nat→Nat→Int×Int
 | 0,_=>(0,0)
 | k+1,i=>if err i=0 then dK err k (i+1) else (err i,i)
def dO (err:Nat→Int) (n:Nat):Int×Int:=dK err n 0
def dG (most:Int) (err:Nat→Int) (n:Nat):Int×Int:=if (n:Int) > most then (2,0) else dO err n
def cJ (p:Int×Int):AV:= .tup [aP p.1,aP p.2]
theorem cN {err:Nat→Int} {n i:Nat} (hi:i < n) (h:err i=0):dK err (n - i) i=dK err (n - (i+1)) (i+1):=by
 rw [show n - i=(n - (i+1))+1 by omega]
 simp only [dK,h,if_true]
theorem cZ {err:Nat→Int} {n i:Nat} (hi:i < n) (h:err i≠0):dK err (n - i) i=(err i,(i:Int)):=by
 rw [show n - i=(n - (i+1))+1 by omega]
 simp only [dK,h,if_false]
theorem q8 {err:Nat→Int}:∀(k i:Nat),(∀j,i≤j→j < i+k→err j=0)→dK err k i=(0,0)
 | 0,_,_=>rfl
 | k+1,i,h=>by
  simp only [dK]
  rw [if_pos (h i (Nat.le_refl _) (by omega))]
  exact q8 k (i+1) fun j h1 h2=>h j (by omega) (by omega)
theorem rI {err:Nat→Int} {n:Nat} (h:∀i,i < n→err i=0):dO err n=(0,0):=q8 n 0 fun j _ hj=>h j (by omega)
theorem zt {most:Int} {err:Nat→Int} {n:Nat} (hm:(n:Int)≤most) (h:∀i,i < n→err i=0):dG most err n=(0,0):=by
 unfold dG
 rw [if_neg (by omega),rI h]
def kO (q:List Int):List AV:=[.imm 1 (aZ q)]
def ew (z:Int):List AV:=[aP z]
theorem fS {g:FuncId} {caps:List AV} {u:AV} (hu:jN u=some (g,caps)) {s:Nat} {l:List (List AV)}:jq [.imm s l,u]=some [.imm s l,u]:=by
 unfold jN at hu
 split at hu <;> first | rfl | cases hu
theorem bR {L L':AL} (h:L=L'):L.Perm (L'++[]):=by rw [List.append_nil,h]
def Hp (P:Program) (g:FuncId) (caps:List AV) (n:Nat) (arg:Nat→AV) (err:Nat→Int) (J:Nat→AL→Prop):Prop:=∀i L,i < n→J i L→AC P g ([aP i,arg i]++caps) L fun c L'=>c=aP (err i)∧(err i=0→J (i+1) L')
theorem D6 {g:FuncId} {caps:List AV} {u:AV} [bN Tryz.prog g] (hu:jN u=some (g,caps)) (l:List br) (err:Nat→Int) (J:Nat→AL→Prop) (L0:AL) (h0:J 0 L0) (hw:∀i x L,l[i]?=some x→J i L→AC Tryz.prog g ([aP i,.agg (bC x)]++caps) L fun c L'=>c=aP (err i)∧(err i=0→J (i+1) L')):
  AC Tryz.prog 158 [.imm 9 (l.map bC),u] L0 fun r _=>r=cJ (dO err l.length):=by
 refine aS Tryz.func158 rfl Tryz.ntmps158 rfl fun B=>?_
 refine cH 0 rfl rfl fun hlen=>?_
 rw [It] at hlen
 repeat' (first|refine go ?_|refine ak ?_|refine HK a6 FS ?_)
 refine aJ [1,9,10] (α:=Nat×AL) (fun i=>[(11,aP i.1)]) (fun i=>i.1≤l.length∧J i.1 i.2∧dO err l.length=dK err (l.length - i.1) i.1) (fun i=>i.2) (fun i=>l.length - i.1) (0,L0) rfl ⟨rfl,trivial⟩ ⟨Nat.zero_le _,h0,rfl⟩ (fun _ _ h=>h) ?_
 rintro ⟨i,L⟩ ⟨hi,hj,he⟩
 dsimp only at hi hj he ⊢
 try dsimp only [Ir,Iq,Ip,Ij]
 repeat' (first|refine go ?_|refine HK a6 FS ?_)
 refine ay rfl (fun h=>?_) (fun h=>?_)
 ·have hil:i < l.length:=by have:=Iy h;simp at this;omega
  obtain ⟨z,hz⟩:∃z,l[i]?=some z:=⟨_,Iz hil⟩
  have hzg:=bi (c:=bC) hz
  repeat' (first|refine go ?_|refine ak ?_|refine HK a6 FS ?_|(apply aU;first|refine aT a6 ?_|refine aM a6 ?_)|(apply aG;first|refine HN 7 a6 0 HJ ?_|refine HN 7 a6 1 HJ ?_|refine HN 7 a6 2 HJ ?_|refine HM a6 0 HH ?_|refine HM a6 1 HH ?_|refine HM a6 2 HH ?_|refine HM a6 3 HH ?_|fail)|refine aX a6 fun _=>?_|fail)
  refine dw L [] (hw i z L hz hj) rfl hu rfl (bR rfl) rfl rfl fun c L1 ⟨hc,hj'⟩=>?_
  subst hc
  rw [List.append_nil]
  repeat' (first|refine go ?_|refine HK a6 FS ?_)
  refine ay rfl (fun h2=>?_) (fun h2=>?_)
  ·have h2':=Iy h2
   repeat' (first|refine go ?_|refine HK a6 FS ?_)
   refine HX HE ?_
   rw [he,cZ hil h2']
   rfl
  ·have h2':=Decidable.not_not.1 (Ix h2)
   repeat' (first|refine go ?_|refine HK a6 FS ?_|(apply aW;refine aV ?_)|fail)
   exact aB (i+1,L1) rfl ⟨by rw [Iv];rfl,trivial⟩ ⟨by dsimp only;omega,hj' h2',by rw [he];exact cN hil h2'⟩ (by dsimp only;omega) (fun _ _ h=>h)
 ·have hil:i=l.length:=by have:=Ix h;simp at this;omega
  subst hil
  repeat' (first|refine go ?_|refine HK a6 FS ?_)
  refine HX HE ?_
  rw [he,Nat.sub_self]
  rfl
theorem E3 {g:FuncId} {caps:List AV} {u:AV} [bN Tryz.prog g] (hu:jN u=some (g,caps)) (l:List br) (most:Int) (err:Nat→Int) (J:Nat→AL→Prop) (L0:AL) (h0:J 0 L0) (hw:(l.length:Int)≤most→∀i x L,l[i]?=some x→J i L→AC Tryz.prog g ([aP i,.agg (bC x)]++caps) L fun c L'=>c=aP (err i)∧(err i=0→J (i+1) L')):
  AC Tryz.prog 157 [.iptr [.imm 9 (l.map bC)],.iptr [aP most],.iptr [u]] L0 fun r _=>r=cJ (dG most err l.length):=by
 refine aS Tryz.func157 rfl Tryz.ntmps157 rfl fun B=>?_
 repeat' (first|refine go ?_|refine HK a6 FS ?_)
 refine ay rfl (fun h=>?_) (fun h=>?_)
 ·have h':=Iy h
  rw [It] at h'
  repeat' (first|refine go ?_|refine HK a6 FS ?_)
  refine HX HE ?_
  unfold dG
  rw [if_pos h']
  rfl
 ·have h':=Ix h
  rw [It] at h'
  repeat' (first|refine go ?_|refine HK a6 FS ?_)
  refine ba L0 [] (D6 hu l err J L0 h0 (hw (by omega))) rfl (fS hu) (bR rfl) rfl fun c L1 hc=>?_
  subst hc
  repeat' (first|refine go ?_|refine HK a6 FS ?_)
  refine HX HE ?_
  unfold dG
  rw [if_neg h']
  rfl
theorem Hd {g:FuncId} {caps:List AV} (l:List br) (most:Int):bV Tryz.prog 116 [.imm 9 (l.map bC),aP most,.fn g caps] (.fn 157 [.iptr [.imm 9 (l.map bC)],.iptr [aP most],.iptr [.fn g caps]]):=by
 refine aS Tryz.func116 rfl Tryz.ntmps116 rfl fun B=>?_
 repeat' (first|refine go ?_|refine HK a6 FS ?_|refine bh ?_|fail)
 exact HT HE
instance {g:FuncId} {caps:List AV} (l:List br) (most:Int):AD Tryz.prog 116 [.imm 9 (l.map bC),aP most,.fn g caps] (.fn 157 [.iptr [.imm 9 (l.map bC)],.iptr [aP most],.iptr [.fn g caps]]):=⟨Hd l most⟩
theorem D7 {g:FuncId} {caps:List AV} {u:AV} [bN Tryz.prog g] (hu:jN u=some (g,caps)) (l:List eN) (err:Nat→Int) (J:Nat→AL→Prop) (L0:AL) (h0:J 0 L0) (hw:∀i x L,l[i]?=some x→J i L→AC Tryz.prog g ([aP i,.agg (cy x)]++caps) L fun c L'=>c=aP (err i)∧(err i=0→J (i+1) L')):
  AC Tryz.prog 178 [.imm 2 (l.map cy),u] L0 fun r _=>r=cJ (dO err l.length):=by
 refine aS Tryz.func178 rfl Tryz.ntmps178 rfl fun B=>?_
 refine cH 0 rfl rfl fun hlen=>?_
 rw [It] at hlen
 repeat' (first|refine go ?_|refine ak ?_|refine HK a6 FS ?_)
 refine aJ [1,9,10] (α:=Nat×AL) (fun i=>[(11,aP i.1)]) (fun i=>i.1≤l.length∧J i.1 i.2∧dO err l.length=dK err (l.length - i.1) i.1) (fun i=>i.2) (fun i=>l.length - i.1) (0,L0) rfl ⟨rfl,trivial⟩ ⟨Nat.zero_le _,h0,rfl⟩ (fun _ _ h=>h) ?_
 rintro ⟨i,L⟩ ⟨hi,hj,he⟩
 dsimp only at hi hj he ⊢
 try dsimp only [Ir,Iq,Ip,Ij]
 repeat' (first|refine go ?_|refine HK a6 FS ?_)
 refine ay rfl (fun h=>?_) (fun h=>?_)
 ·have hil:i < l.length:=by have:=Iy h;simp at this;omega
  obtain ⟨z,hz⟩:∃z,l[i]?=some z:=⟨_,Iz hil⟩
  have hzg:=bi (c:=cy) hz
  repeat' (first|refine go ?_|refine ak ?_|refine HK a6 FS ?_|(apply aU;first|refine aT a6 ?_|refine aM a6 ?_)|(apply aG;first|refine HN 7 a6 0 HJ ?_|refine HN 7 a6 1 HJ ?_|refine HN 7 a6 2 HJ ?_|refine HM a6 0 HH ?_|refine HM a6 1 HH ?_|refine HM a6 2 HH ?_|refine HM a6 3 HH ?_|fail)|refine aX a6 fun _=>?_|fail)
  refine dw L [] (hw i z L hz hj) rfl hu rfl (bR rfl) rfl rfl fun c L1 ⟨hc,hj'⟩=>?_
  subst hc
  rw [List.append_nil]
  repeat' (first|refine go ?_|refine HK a6 FS ?_)
  refine ay rfl (fun h2=>?_) (fun h2=>?_)
  ·have h2':=Iy h2
   repeat' (first|refine go ?_|refine HK a6 FS ?_)
   refine HX HE ?_
   rw [he,cZ hil h2']
   rfl
  ·have h2':=Decidable.not_not.1 (Ix h2)
   repeat' (first|refine go ?_|refine HK a6 FS ?_|(apply aW;refine aV ?_)|fail)
   exact aB (i+1,L1) rfl ⟨by rw [Iv];rfl,trivial⟩ ⟨by dsimp only;omega,hj' h2',by rw [he];exact cN hil h2'⟩ (by dsimp only;omega) (fun _ _ h=>h)
 ·have hil:i=l.length:=by have:=Ix h;simp at this;omega
  subst hil
  repeat' (first|refine go ?_|refine HK a6 FS ?_)
  refine HX HE ?_
  rw [he,Nat.sub_self]
  rfl
theorem E4 {g:FuncId} {caps:List AV} {u:AV} [bN Tryz.prog g] (hu:jN u=some (g,caps)) (l:List eN) (most:Int) (err:Nat→Int) (J:Nat→AL→Prop) (L0:AL) (h0:J 0 L0) (hw:(l.length:Int)≤most→∀i x L,l[i]?=some x→J i L→AC Tryz.prog g ([aP i,.agg (cy x)]++caps) L fun c L'=>c=aP (err i)∧(err i=0→J (i+1) L')):
  AC Tryz.prog 177 [.iptr [.imm 2 (l.map cy)],.iptr [aP most],.iptr [u]] L0 fun r _=>r=cJ (dG most err l.length):=by
 refine aS Tryz.func177 rfl Tryz.ntmps177 rfl fun B=>?_
 repeat' (first|refine go ?_|refine HK a6 FS ?_)
 refine ay rfl (fun h=>?_) (fun h=>?_)
 ·have h':=Iy h
  rw [It] at h'
  repeat' (first|refine go ?_|refine HK a6 FS ?_)
  refine HX HE ?_
  unfold dG
  rw [if_pos h']
  rfl
 ·have h':=Ix h
  rw [It] at h'
  repeat' (first|refine go ?_|refine HK a6 FS ?_)
  refine ba L0 [] (D7 hu l err J L0 h0 (hw (by omega))) rfl (fS hu) (bR rfl) rfl fun c L1 hc=>?_
  subst hc
  repeat' (first|refine go ?_|refine HK a6 FS ?_)
  refine HX HE ?_
  unfold dG
  rw [if_neg h']
  rfl
theorem He {g:FuncId} {caps:List AV} (l:List eN) (most:Int):bV Tryz.prog 123 [.imm 2 (l.map cy),aP most,.fn g caps] (.fn 177 [.iptr [.imm 2 (l.map cy)],.iptr [aP most],.iptr [.fn g caps]]):=by
 refine aS Tryz.func123 rfl Tryz.ntmps123 rfl fun B=>?_
 repeat' (first|refine go ?_|refine HK a6 FS ?_|refine bh ?_|fail)
 exact HT HE
instance {g:FuncId} {caps:List AV} (l:List eN) (most:Int):AD Tryz.prog 123 [.imm 2 (l.map cy),aP most,.fn g caps] (.fn 177 [.iptr [.imm 2 (l.map cy)],.iptr [aP most],.iptr [.fn g caps]]):=⟨He l most⟩
theorem D8 {g:FuncId} {caps:List AV} {u:AV} [bN Tryz.prog g] (hu:jN u=some (g,caps)) (l:List bb) (err:Nat→Int) (J:Nat→AL→Prop) (L0:AL) (h0:J 0 L0) (hw:∀i x L,l[i]?=some x→J i L→AC Tryz.prog g ([aP i,.agg (bj x)]++caps) L fun c L'=>c=aP (err i)∧(err i=0→J (i+1) L')):
  AC Tryz.prog 180 [.imm 3 (l.map bj),u] L0 fun r _=>r=cJ (dO err l.length):=by
 refine aS Tryz.func180 rfl Tryz.ntmps180 rfl fun B=>?_
 refine cH 0 rfl rfl fun hlen=>?_
 rw [It] at hlen
 repeat' (first|refine go ?_|refine ak ?_|refine HK a6 FS ?_)
 refine aJ [1,9,10] (α:=Nat×AL) (fun i=>[(11,aP i.1)]) (fun i=>i.1≤l.length∧J i.1 i.2∧dO err l.length=dK err (l.length - i.1) i.1) (fun i=>i.2) (fun i=>l.length - i.1) (0,L0) rfl ⟨rfl,trivial⟩ ⟨Nat.zero_le _,h0,rfl⟩ (fun _ _ h=>h) ?_
 rintro ⟨i,L⟩ ⟨hi,hj,he⟩
 dsimp only at hi hj he ⊢
 try dsimp only [Ir,Iq,Ip,Ij]
 repeat' (first|refine go ?_|refine HK a6 FS ?_)
 refine ay rfl (fun h=>?_) (fun h=>?_)
 ·have hil:i < l.length:=by have:=Iy h;simp at this;omega
  obtain ⟨z,hz⟩:∃z,l[i]?=some z:=⟨_,Iz hil⟩
  have hzg:=bi (c:=bj) hz
  repeat' (first|refine go ?_|refine ak ?_|refine HK a6 FS ?_|(apply aU;first|refine aT a6 ?_|refine aM a6 ?_)|(apply aG;first|refine HN 7 a6 0 HJ ?_|refine HN 7 a6 1 HJ ?_|refine HN 7 a6 2 HJ ?_|refine HM a6 0 HH ?_|refine HM a6 1 HH ?_|refine HM a6 2 HH ?_|refine HM a6 3 HH ?_|fail)|refine aX a6 fun _=>?_|fail)
  refine dw L [] (hw i z L hz hj) rfl hu rfl (bR rfl) rfl rfl fun c L1 ⟨hc,hj'⟩=>?_
  subst hc
  rw [List.append_nil]
  repeat' (first|refine go ?_|refine HK a6 FS ?_)
  refine ay rfl (fun h2=>?_) (fun h2=>?_)
  ·have h2':=Iy h2
   repeat' (first|refine go ?_|refine HK a6 FS ?_)
   refine HX HE ?_
   rw [he,cZ hil h2']
   rfl
  ·have h2':=Decidable.not_not.1 (Ix h2)
   repeat' (first|refine go ?_|refine HK a6 FS ?_|(apply aW;refine aV ?_)|fail)
   exact aB (i+1,L1) rfl ⟨by rw [Iv];rfl,trivial⟩ ⟨by dsimp only;omega,hj' h2',by rw [he];exact cN hil h2'⟩ (by dsimp only;omega) (fun _ _ h=>h)
 ·have hil:i=l.length:=by have:=Ix h;simp at this;omega
  subst hil
  repeat' (first|refine go ?_|refine HK a6 FS ?_)
  refine HX HE ?_
  rw [he,Nat.sub_self]
  rfl
theorem E5 {g:FuncId} {caps:List AV} {u:AV} [bN Tryz.prog g] (hu:jN u=some (g,caps)) (l:List bb) (most:Int) (err:Nat→Int) (J:Nat→AL→Prop) (L0:AL) (h0:J 0 L0) (hw:(l.length:Int)≤most→∀i x L,l[i]?=some x→J i L→AC Tryz.prog g ([aP i,.agg (bj x)]++caps) L fun c L'=>c=aP (err i)∧(err i=0→J (i+1) L')):
  AC Tryz.prog 179 [.iptr [.imm 3 (l.map bj)],.iptr [aP most],.iptr [u]] L0 fun r _=>r=cJ (dG most err l.length):=by
 refine aS Tryz.func179 rfl Tryz.ntmps179 rfl fun B=>?_
 repeat' (first|refine go ?_|refine HK a6 FS ?_)
 refine ay rfl (fun h=>?_) (fun h=>?_)
 ·have h':=Iy h
  rw [It] at h'
  repeat' (first|refine go ?_|refine HK a6 FS ?_)
  refine HX HE ?_
  unfold dG
  rw [if_pos h']
  rfl
 ·have h':=Ix h
  rw [It] at h'
  repeat' (first|refine go ?_|refine HK a6 FS ?_)
  refine ba L0 [] (D8 hu l err J L0 h0 (hw (by omega))) rfl (fS hu) (bR rfl) rfl fun c L1 hc=>?_
  subst hc
  repeat' (first|refine go ?_|refine HK a6 FS ?_)
  refine HX HE ?_
  unfold dG
  rw [if_neg h']
  rfl
theorem Hf {g:FuncId} {caps:List AV} (l:List bb) (most:Int):bV Tryz.prog 126 [.imm 3 (l.map bj),aP most,.fn g caps] (.fn 179 [.iptr [.imm 3 (l.map bj)],.iptr [aP most],.iptr [.fn g caps]]):=by
 refine aS Tryz.func126 rfl Tryz.ntmps126 rfl fun B=>?_
 repeat' (first|refine go ?_|refine HK a6 FS ?_|refine bh ?_|fail)
 exact HT HE
instance {g:FuncId} {caps:List AV} (l:List bb) (most:Int):AD Tryz.prog 126 [.imm 3 (l.map bj),aP most,.fn g caps] (.fn 179 [.iptr [.imm 3 (l.map bj)],.iptr [aP most],.iptr [.fn g caps]]):=⟨Hf l most⟩
theorem D9 {g:FuncId} {caps:List AV} {u:AV} [bN Tryz.prog g] (hu:jN u=some (g,caps)) (l:List bX) (err:Nat→Int) (J:Nat→AL→Prop) (L0:AL) (h0:J 0 L0) (hw:∀i x L,l[i]?=some x→J i L→AC Tryz.prog g ([aP i,.agg (bI x)]++caps) L fun c L'=>c=aP (err i)∧(err i=0→J (i+1) L')):
  AC Tryz.prog 184 [.imm 6 (l.map bI),u] L0 fun r _=>r=cJ (dO err l.length):=by
 refine aS Tryz.func184 rfl Tryz.ntmps184 rfl fun B=>?_
 refine cH 0 rfl rfl fun hlen=>?_
 rw [It] at hlen
 repeat' (first|refine go ?_|refine ak ?_|refine HK a6 FS ?_)
 refine aJ [1,9,10] (α:=Nat×AL) (fun i=>[(11,aP i.1)]) (fun i=>i.1≤l.length∧J i.1 i.2∧dO err l.length=dK err (l.length - i.1) i.1) (fun i=>i.2) (fun i=>l.length - i.1) (0,L0) rfl ⟨rfl,trivial⟩ ⟨Nat.zero_le _,h0,rfl⟩ (fun _ _ h=>h) ?_
 rintro ⟨i,L⟩ ⟨hi,hj,he⟩
 dsimp only at hi hj he ⊢
 try dsimp only [Ir,Iq,Ip,Ij]
 repeat' (first|refine go ?_|refine HK a6 FS ?_)
 refine ay rfl (fun h=>?_) (fun h=>?_)
 ·have hil:i < l.length:=by have:=Iy h;simp at this;omega
  obtain ⟨z,hz⟩:∃z,l[i]?=some z:=⟨_,Iz hil⟩
  have hzg:=bi (c:=bI) hz
  repeat' (first|refine go ?_|refine ak ?_|refine HK a6 FS ?_|(apply aU;first|refine aT a6 ?_|refine aM a6 ?_)|(apply aG;first|refine HN 7 a6 0 HJ ?_|refine HN 7 a6 1 HJ ?_|refine HN 7 a6 2 HJ ?_|refine HM a6 0 HH ?_|refine HM a6 1 HH ?_|refine HM a6 2 HH ?_|refine HM a6 3 HH ?_|fail)|refine aX a6 fun _=>?_|fail)
  refine dw L [] (hw i z L hz hj) rfl hu rfl (bR rfl) rfl rfl fun c L1 ⟨hc,hj'⟩=>?_
  subst hc
  rw [List.append_nil]
  repeat' (first|refine go ?_|refine HK a6 FS ?_)
  refine ay rfl (fun h2=>?_) (fun h2=>?_)
  ·have h2':=Iy h2
   repeat' (first|refine go ?_|refine HK a6 FS ?_)
   refine HX HE ?_
   rw [he,cZ hil h2']
   rfl
  ·have h2':=Decidable.not_not.1 (Ix h2)
   repeat' (first|refine go ?_|refine HK a6 FS ?_|(apply aW;refine aV ?_)|fail)
   exact aB (i+1,L1) rfl ⟨by rw [Iv];rfl,trivial⟩ ⟨by dsimp only;omega,hj' h2',by rw [he];exact cN hil h2'⟩ (by dsimp only;omega) (fun _ _ h=>h)
 ·have hil:i=l.length:=by have:=Ix h;simp at this;omega
  subst hil
  repeat' (first|refine go ?_|refine HK a6 FS ?_)
  refine HX HE ?_
  rw [he,Nat.sub_self]
  rfl
theorem Da {g:FuncId} {caps:List AV} {u:AV} [bN Tryz.prog g] (hu:jN u=some (g,caps)) (l:List bL) (err:Nat→Int) (J:Nat→AL→Prop) (L0:AL) (h0:J 0 L0) (hw:∀i x L,l[i]?=some x→J i L→AC Tryz.prog g ([aP i,.agg (bt x)]++caps) L fun c L'=>c=aP (err i)∧(err i=0→J (i+1) L')):
  AC Tryz.prog 188 [.imm 2 (l.map bt),u] L0 fun r _=>r=cJ (dO err l.length):=by
 refine aS Tryz.func188 rfl Tryz.ntmps188 rfl fun B=>?_
 refine cH 0 rfl rfl fun hlen=>?_
 rw [It] at hlen
 repeat' (first|refine go ?_|refine ak ?_|refine HK a6 FS ?_)
 refine aJ [1,9,10] (α:=Nat×AL) (fun i=>[(11,aP i.1)]) (fun i=>i.1≤l.length∧J i.1 i.2∧dO err l.length=dK err (l.length - i.1) i.1) (fun i=>i.2) (fun i=>l.length - i.1) (0,L0) rfl ⟨rfl,trivial⟩ ⟨Nat.zero_le _,h0,rfl⟩ (fun _ _ h=>h) ?_
 rintro ⟨i,L⟩ ⟨hi,hj,he⟩
 dsimp only at hi hj he ⊢
 try dsimp only [Ir,Iq,Ip,Ij]
 repeat' (first|refine go ?_|refine HK a6 FS ?_)
 refine ay rfl (fun h=>?_) (fun h=>?_)
 ·have hil:i < l.length:=by have:=Iy h;simp at this;omega
  obtain ⟨z,hz⟩:∃z,l[i]?=some z:=⟨_,Iz hil⟩
  have hzg:=bi (c:=bt) hz
  repeat' (first|refine go ?_|refine ak ?_|refine HK a6 FS ?_|(apply aU;first|refine aT a6 ?_|refine aM a6 ?_)|(apply aG;first|refine HN 7 a6 0 HJ ?_|refine HN 7 a6 1 HJ ?_|refine HN 7 a6 2 HJ ?_|refine HM a6 0 HH ?_|refine HM a6 1 HH ?_|refine HM a6 2 HH ?_|refine HM a6 3 HH ?_|fail)|refine aX a6 fun _=>?_|fail)
  refine dw L [] (hw i z L hz hj) rfl hu rfl (bR rfl) rfl rfl fun c L1 ⟨hc,hj'⟩=>?_
  subst hc
  rw [List.append_nil]
  repeat' (first|refine go ?_|refine HK a6 FS ?_)
  refine ay rfl (fun h2=>?_) (fun h2=>?_)
  ·have h2':=Iy h2
   repeat' (first|refine go ?_|refine HK a6 FS ?_)
   refine HX HE ?_
   rw [he,cZ hil h2']
   rfl
  ·have h2':=Decidable.not_not.1 (Ix h2)
   repeat' (first|refine go ?_|refine HK a6 FS ?_|(apply aW;refine aV ?_)|fail)
   exact aB (i+1,L1) rfl ⟨by rw [Iv];rfl,trivial⟩ ⟨by dsimp only;omega,hj' h2',by rw [he];exact cN hil h2'⟩ (by dsimp only;omega) (fun _ _ h=>h)
 ·have hil:i=l.length:=by have:=Ix h;simp at this;omega
  subst hil
  repeat' (first|refine go ?_|refine HK a6 FS ?_)
  refine HX HE ?_
  rw [he,Nat.sub_self]
  rfl
theorem E6 {g:FuncId} {caps:List AV} {u:AV} [bN Tryz.prog g] (hu:jN u=some (g,caps)) (l:List bL) (most:Int) (err:Nat→Int) (J:Nat→AL→Prop) (L0:AL) (h0:J 0 L0) (hw:(l.length:Int)≤most→∀i x L,l[i]?=some x→J i L→AC Tryz.prog g ([aP i,.agg (bt x)]++caps) L fun c L'=>c=aP (err i)∧(err i=0→J (i+1) L')):
  AC Tryz.prog 187 [.iptr [.imm 2 (l.map bt)],.iptr [aP most],.iptr [u]] L0 fun r _=>r=cJ (dG most err l.length):=by
 refine aS Tryz.func187 rfl Tryz.ntmps187 rfl fun B=>?_
 repeat' (first|refine go ?_|refine HK a6 FS ?_)
 refine ay rfl (fun h=>?_) (fun h=>?_)
 ·have h':=Iy h
  rw [It] at h'
  repeat' (first|refine go ?_|refine HK a6 FS ?_)
  refine HX HE ?_
  unfold dG
  rw [if_pos h']
  rfl
 ·have h':=Ix h
  rw [It] at h'
  repeat' (first|refine go ?_|refine HK a6 FS ?_)
  refine ba L0 [] (Da hu l err J L0 h0 (hw (by omega))) rfl (fS hu) (bR rfl) rfl fun c L1 hc=>?_
  subst hc
  repeat' (first|refine go ?_|refine HK a6 FS ?_)
  refine HX HE ?_
  unfold dG
  rw [if_neg h']
  rfl
theorem Hg {g:FuncId} {caps:List AV} (l:List bL) (most:Int):bV Tryz.prog 129 [.imm 2 (l.map bt),aP most,.fn g caps] (.fn 187 [.iptr [.imm 2 (l.map bt)],.iptr [aP most],.iptr [.fn g caps]]):=by
 refine aS Tryz.func129 rfl Tryz.ntmps129 rfl fun B=>?_
 repeat' (first|refine go ?_|refine HK a6 FS ?_|refine bh ?_|fail)
 exact HT HE
instance {g:FuncId} {caps:List AV} (l:List bL) (most:Int):AD Tryz.prog 129 [.imm 2 (l.map bt),aP most,.fn g caps] (.fn 187 [.iptr [.imm 2 (l.map bt)],.iptr [aP most],.iptr [.fn g caps]]):=⟨Hg l most⟩
theorem Db {g:FuncId} {caps:List AV} {u:AV} [bN Tryz.prog g] (hu:jN u=some (g,caps)) (l:List eM) (err:Nat→Int) (J:Nat→AL→Prop) (L0:AL) (h0:J 0 L0) (hw:∀i x L,l[i]?=some x→J i L→AC Tryz.prog g ([aP i,.agg (cD x)]++caps) L fun c L'=>c=aP (err i)∧(err i=0→J (i+1) L')):
  AC Tryz.prog 191 [.imm 4 (l.map cD),u] L0 fun r _=>r=cJ (dO err l.length):=by
 refine aS Tryz.func191 rfl Tryz.ntmps191 rfl fun B=>?_
 refine cH 0 rfl rfl fun hlen=>?_
 rw [It] at hlen
 repeat' (first|refine go ?_|refine ak ?_|refine HK a6 FS ?_)
 refine aJ [1,9,10] (α:=Nat×AL) (fun i=>[(11,aP i.1)]) (fun i=>i.1≤l.length∧J i.1 i.2∧dO err l.length=dK err (l.length - i.1) i.1) (fun i=>i.2) (fun i=>l.length - i.1) (0,L0) rfl ⟨rfl,trivial⟩ ⟨Nat.zero_le _,h0,rfl⟩ (fun _ _ h=>h) ?_
 rintro ⟨i,L⟩ ⟨hi,hj,he⟩
 dsimp only at hi hj he ⊢
 try dsimp only [Ir,Iq,Ip,Ij]
 repeat' (first|refine go ?_|refine HK a6 FS ?_)
 refine ay rfl (fun h=>?_) (fun h=>?_)
 ·have hil:i < l.length:=by have:=Iy h;simp at this;omega
  obtain ⟨z,hz⟩:∃z,l[i]?=some z:=⟨_,Iz hil⟩
  have hzg:=bi (c:=cD) hz
  repeat' (first|refine go ?_|refine ak ?_|refine HK a6 FS ?_|(apply aU;first|refine aT a6 ?_|refine aM a6 ?_)|(apply aG;first|refine HN 7 a6 0 HJ ?_|refine HN 7 a6 1 HJ ?_|refine HN 7 a6 2 HJ ?_|refine HM a6 0 HH ?_|refine HM a6 1 HH ?_|refine HM a6 2 HH ?_|refine HM a6 3 HH ?_|fail)|refine aX a6 fun _=>?_|fail)
  refine dw L [] (hw i z L hz hj) rfl hu rfl (bR rfl) rfl rfl fun c L1 ⟨hc,hj'⟩=>?_
  subst hc
  rw [List.append_nil]
  repeat' (first|refine go ?_|refine HK a6 FS ?_)
  refine ay rfl (fun h2=>?_) (fun h2=>?_)
  ·have h2':=Iy h2
   repeat' (first|refine go ?_|refine HK a6 FS ?_)
   refine HX HE ?_
   rw [he,cZ hil h2']
   rfl
  ·have h2':=Decidable.not_not.1 (Ix h2)
   repeat' (first|refine go ?_|refine HK a6 FS ?_|(apply aW;refine aV ?_)|fail)
   exact aB (i+1,L1) rfl ⟨by rw [Iv];rfl,trivial⟩ ⟨by dsimp only;omega,hj' h2',by rw [he];exact cN hil h2'⟩ (by dsimp only;omega) (fun _ _ h=>h)
 ·have hil:i=l.length:=by have:=Ix h;simp at this;omega
  subst hil
  repeat' (first|refine go ?_|refine HK a6 FS ?_)
  refine HX HE ?_
  rw [he,Nat.sub_self]
  rfl
theorem E7 {g:FuncId} {caps:List AV} {u:AV} [bN Tryz.prog g] (hu:jN u=some (g,caps)) (l:List eM) (most:Int) (err:Nat→Int) (J:Nat→AL→Prop) (L0:AL) (h0:J 0 L0) (hw:(l.length:Int)≤most→∀i x L,l[i]?=some x→J i L→AC Tryz.prog g ([aP i,.agg (cD x)]++caps) L fun c L'=>c=aP (err i)∧(err i=0→J (i+1) L')):
  AC Tryz.prog 190 [.iptr [.imm 4 (l.map cD)],.iptr [aP most],.iptr [u]] L0 fun r _=>r=cJ (dG most err l.length):=by
 refine aS Tryz.func190 rfl Tryz.ntmps190 rfl fun B=>?_
 repeat' (first|refine go ?_|refine HK a6 FS ?_)
 refine ay rfl (fun h=>?_) (fun h=>?_)
 ·have h':=Iy h
  rw [It] at h'
  repeat' (first|refine go ?_|refine HK a6 FS ?_)
  refine HX HE ?_
  unfold dG
  rw [if_pos h']
  rfl
 ·have h':=Ix h
  rw [It] at h'
  repeat' (first|refine go ?_|refine HK a6 FS ?_)
  refine ba L0 [] (Db hu l err J L0 h0 (hw (by omega))) rfl (fS hu) (bR rfl) rfl fun c L1 hc=>?_
  subst hc
  repeat' (first|refine go ?_|refine HK a6 FS ?_)
  refine HX HE ?_
  unfold dG
  rw [if_neg h']
  rfl
theorem Gu {g:FuncId} {caps:List AV} (l:List eM) (most:Int):bV Tryz.prog 133 [.imm 4 (l.map cD),aP most,.fn g caps] (.fn 190 [.iptr [.imm 4 (l.map cD)],.iptr [aP most],.iptr [.fn g caps]]):=by
 refine aS Tryz.func133 rfl Tryz.ntmps133 rfl fun B=>?_
 repeat' (first|refine go ?_|refine HK a6 FS ?_|refine bh ?_|fail)
 exact HT HE
instance {g:FuncId} {caps:List AV} (l:List eM) (most:Int):AD Tryz.prog 133 [.imm 4 (l.map cD),aP most,.fn g caps] (.fn 190 [.iptr [.imm 4 (l.map cD)],.iptr [aP most],.iptr [.fn g caps]]):=⟨Gu l most⟩
theorem Dc {g:FuncId} {caps:List AV} {u:AV} [bN Tryz.prog g] (hu:jN u=some (g,caps)) (l:List (List eu)) (err:Nat→Int) (J:Nat→AL→Prop) (L0:AL) (h0:J 0 L0) (hw:∀i x L,l[i]?=some x→J i L→AC Tryz.prog g ([aP i,.agg (bw x)]++caps) L fun c L'=>c=aP (err i)∧(err i=0→J (i+1) L')):
  AC Tryz.prog 193 [.imm 1 (l.map bw),u] L0 fun r _=>r=cJ (dO err l.length):=by
 refine aS Tryz.func193 rfl Tryz.ntmps193 rfl fun B=>?_
 refine cH 0 rfl rfl fun hlen=>?_
 rw [It] at hlen
 repeat' (first|refine go ?_|refine ak ?_|refine HK a6 FS ?_)
 refine aJ [1,9,10] (α:=Nat×AL) (fun i=>[(11,aP i.1)]) (fun i=>i.1≤l.length∧J i.1 i.2∧dO err l.length=dK err (l.length - i.1) i.1) (fun i=>i.2) (fun i=>l.length - i.1) (0,L0) rfl ⟨rfl,trivial⟩ ⟨Nat.zero_le _,h0,rfl⟩ (fun _ _ h=>h) ?_
 rintro ⟨i,L⟩ ⟨hi,hj,he⟩
 dsimp only at hi hj he ⊢
 try dsimp only [Ir,Iq,Ip,Ij]
 repeat' (first|refine go ?_|refine HK a6 FS ?_)
 refine ay rfl (fun h=>?_) (fun h=>?_)
 ·have hil:i < l.length:=by have:=Iy h;simp at this;omega
  obtain ⟨z,hz⟩:∃z,l[i]?=some z:=⟨_,Iz hil⟩
  have hzg:=bi (c:=bw) hz
  repeat' (first|refine go ?_|refine ak ?_|refine HK a6 FS ?_|(apply aU;first|refine aT a6 ?_|refine aM a6 ?_)|(apply aG;first|refine HN 7 a6 0 HJ ?_|refine HN 7 a6 1 HJ ?_|refine HN 7 a6 2 HJ ?_|refine HM a6 0 HH ?_|refine HM a6 1 HH ?_|refine HM a6 2 HH ?_|refine HM a6 3 HH ?_|fail)|refine aX a6 fun _=>?_|fail)
  refine dw L [] (hw i z L hz hj) rfl hu rfl (bR rfl) rfl rfl fun c L1 ⟨hc,hj'⟩=>?_
  subst hc
  rw [List.append_nil]
  repeat' (first|refine go ?_|refine HK a6 FS ?_)
  refine ay rfl (fun h2=>?_) (fun h2=>?_)
  ·have h2':=Iy h2
   repeat' (first|refine go ?_|refine HK a6 FS ?_)
   refine HX HE ?_
   rw [he,cZ hil h2']
   rfl
  ·have h2':=Decidable.not_not.1 (Ix h2)
   repeat' (first|refine go ?_|refine HK a6 FS ?_|(apply aW;refine aV ?_)|fail)
   exact aB (i+1,L1) rfl ⟨by rw [Iv];rfl,trivial⟩ ⟨by dsimp only;omega,hj' h2',by rw [he];exact cN hil h2'⟩ (by dsimp only;omega) (fun _ _ h=>h)
 ·have hil:i=l.length:=by have:=Ix h;simp at this;omega
  subst hil
  repeat' (first|refine go ?_|refine HK a6 FS ?_)
  refine HX HE ?_
  rw [he,Nat.sub_self]
  rfl
theorem E8 {g:FuncId} {caps:List AV} {u:AV} [bN Tryz.prog g] (hu:jN u=some (g,caps)) (l:List (List eu)) (most:Int) (err:Nat→Int) (J:Nat→AL→Prop) (L0:AL) (h0:J 0 L0) (hw:(l.length:Int)≤most→∀i x L,l[i]?=some x→J i L→AC Tryz.prog g ([aP i,.agg (bw x)]++caps) L fun c L'=>c=aP (err i)∧(err i=0→J (i+1) L')):
  AC Tryz.prog 192 [.iptr [.imm 1 (l.map bw)],.iptr [aP most],.iptr [u]] L0 fun r _=>r=cJ (dG most err l.length):=by
 refine aS Tryz.func192 rfl Tryz.ntmps192 rfl fun B=>?_
 repeat' (first|refine go ?_|refine HK a6 FS ?_)
 refine ay rfl (fun h=>?_) (fun h=>?_)
 ·have h':=Iy h
  rw [It] at h'
  repeat' (first|refine go ?_|refine HK a6 FS ?_)
  refine HX HE ?_
  unfold dG
  rw [if_pos h']
  rfl
 ·have h':=Ix h
  rw [It] at h'
  repeat' (first|refine go ?_|refine HK a6 FS ?_)
  refine ba L0 [] (Dc hu l err J L0 h0 (hw (by omega))) rfl (fS hu) (bR rfl) rfl fun c L1 hc=>?_
  subst hc
  repeat' (first|refine go ?_|refine HK a6 FS ?_)
  refine HX HE ?_
  unfold dG
  rw [if_neg h']
  rfl
theorem Gv {g:FuncId} {caps:List AV} (l:List (List eu)) (most:Int):bV Tryz.prog 136 [.imm 1 (l.map bw),aP most,.fn g caps] (.fn 192 [.iptr [.imm 1 (l.map bw)],.iptr [aP most],.iptr [.fn g caps]]):=by
 refine aS Tryz.func136 rfl Tryz.ntmps136 rfl fun B=>?_
 repeat' (first|refine go ?_|refine HK a6 FS ?_|refine bh ?_|fail)
 exact HT HE
instance {g:FuncId} {caps:List AV} (l:List (List eu)) (most:Int):AD Tryz.prog 136 [.imm 1 (l.map bw),aP most,.fn g caps] (.fn 192 [.iptr [.imm 1 (l.map bw)],.iptr [aP most],.iptr [.fn g caps]]):=⟨Gv l most⟩
theorem Dd {g:FuncId} {caps:List AV} {u:AV} [bN Tryz.prog g] (hu:jN u=some (g,caps)) (l:List eu) (err:Nat→Int) (J:Nat→AL→Prop) (L0:AL) (h0:J 0 L0) (hw:∀i x L,l[i]?=some x→J i L→AC Tryz.prog g ([aP i,.agg (fY x)]++caps) L fun c L'=>c=aP (err i)∧(err i=0→J (i+1) L')):
  AC Tryz.prog 194 [.imm 3 (l.map fY),u] L0 fun r _=>r=cJ (dO err l.length):=by
 refine aS Tryz.func194 rfl Tryz.ntmps194 rfl fun B=>?_
 refine cH 0 rfl rfl fun hlen=>?_
 rw [It] at hlen
 repeat' (first|refine go ?_|refine ak ?_|refine HK a6 FS ?_)
 refine aJ [1,9,10] (α:=Nat×AL) (fun i=>[(11,aP i.1)]) (fun i=>i.1≤l.length∧J i.1 i.2∧dO err l.length=dK err (l.length - i.1) i.1) (fun i=>i.2) (fun i=>l.length - i.1) (0,L0) rfl ⟨rfl,trivial⟩ ⟨Nat.zero_le _,h0,rfl⟩ (fun _ _ h=>h) ?_
 rintro ⟨i,L⟩ ⟨hi,hj,he⟩
 dsimp only at hi hj he ⊢
 try dsimp only [Ir,Iq,Ip,Ij]
 repeat' (first|refine go ?_|refine HK a6 FS ?_)
 refine ay rfl (fun h=>?_) (fun h=>?_)
 ·have hil:i < l.length:=by have:=Iy h;simp at this;omega
  obtain ⟨z,hz⟩:∃z,l[i]?=some z:=⟨_,Iz hil⟩
  have hzg:=bi (c:=fY) hz
  repeat' (first|refine go ?_|refine ak ?_|refine HK a6 FS ?_|(apply aU;first|refine aT a6 ?_|refine aM a6 ?_)|(apply aG;first|refine HN 7 a6 0 HJ ?_|refine HN 7 a6 1 HJ ?_|refine HN 7 a6 2 HJ ?_|refine HM a6 0 HH ?_|refine HM a6 1 HH ?_|refine HM a6 2 HH ?_|refine HM a6 3 HH ?_|fail)|refine aX a6 fun _=>?_|fail)
  refine dw L [] (hw i z L hz hj) rfl hu rfl (bR rfl) rfl rfl fun c L1 ⟨hc,hj'⟩=>?_
  subst hc
  rw [List.append_nil]
  repeat' (first|refine go ?_|refine HK a6 FS ?_)
  refine ay rfl (fun h2=>?_) (fun h2=>?_)
  ·have h2':=Iy h2
   repeat' (first|refine go ?_|refine HK a6 FS ?_)
   refine HX HE ?_
   rw [he,cZ hil h2']
   rfl
  ·have h2':=Decidable.not_not.1 (Ix h2)
   repeat' (first|refine go ?_|refine HK a6 FS ?_|(apply aW;refine aV ?_)|fail)
   exact aB (i+1,L1) rfl ⟨by rw [Iv];rfl,trivial⟩ ⟨by dsimp only;omega,hj' h2',by rw [he];exact cN hil h2'⟩ (by dsimp only;omega) (fun _ _ h=>h)
 ·have hil:i=l.length:=by have:=Ix h;simp at this;omega
  subst hil
  repeat' (first|refine go ?_|refine HK a6 FS ?_)
  refine HX HE ?_
  rw [he,Nat.sub_self]
  rfl
theorem De {g:FuncId} {caps:List AV} {u:AV} [bN Tryz.prog g] (hu:jN u=some (g,caps)) (l:List (List eL)) (err:Nat→Int) (J:Nat→AL→Prop) (L0:AL) (h0:J 0 L0) (hw:∀i x L,l[i]?=some x→J i L→AC Tryz.prog g ([aP i,.imm 2 (x.map dQ)]++caps) L fun c L'=>c=aP (err i)∧(err i=0→J (i+1) L')):
  AC Tryz.prog 197 [.imm 1 (l.map cR),u] L0 fun r _=>r=cJ (dO err l.length):=by
 refine aS Tryz.func197 rfl Tryz.ntmps197 rfl fun B=>?_
 refine cH 0 rfl rfl fun hlen=>?_
 rw [It] at hlen
 repeat' (first|refine go ?_|refine ak ?_|refine HK a6 FS ?_)
 refine aJ [1,9,10] (α:=Nat×AL) (fun i=>[(11,aP i.1)]) (fun i=>i.1≤l.length∧J i.1 i.2∧dO err l.length=dK err (l.length - i.1) i.1) (fun i=>i.2) (fun i=>l.length - i.1) (0,L0) rfl ⟨rfl,trivial⟩ ⟨Nat.zero_le _,h0,rfl⟩ (fun _ _ h=>h) ?_
 rintro ⟨i,L⟩ ⟨hi,hj,he⟩
 dsimp only at hi hj he ⊢
 try dsimp only [Ir,Iq,Ip,Ij]
 repeat' (first|refine go ?_|refine HK a6 FS ?_)
 refine ay rfl (fun h=>?_) (fun h=>?_)
 ·have hil:i < l.length:=by have:=Iy h;simp at this;omega
  obtain ⟨z,hz⟩:∃z,l[i]?=some z:=⟨_,Iz hil⟩
  have hzg:=bi (c:=cR) hz
  repeat' (first|refine go ?_|refine ak ?_|refine HK a6 FS ?_|(apply aU;first|refine aT a6 ?_|refine aM a6 ?_)|fail)
  refine dw L [] (hw i z L hz hj) rfl hu rfl (bR rfl) rfl rfl fun c L1 ⟨hc,hj'⟩=>?_
  subst hc
  rw [List.append_nil]
  repeat' (first|refine go ?_|refine HK a6 FS ?_)
  refine ay rfl (fun h2=>?_) (fun h2=>?_)
  ·have h2':=Iy h2
   repeat' (first|refine go ?_|refine HK a6 FS ?_)
   refine HX HE ?_
   rw [he,cZ hil h2']
   rfl
  ·have h2':=Decidable.not_not.1 (Ix h2)
   repeat' (first|refine go ?_|refine HK a6 FS ?_|(apply aW;refine aV ?_)|fail)
   exact aB (i+1,L1) rfl ⟨by rw [Iv];rfl,trivial⟩ ⟨by dsimp only;omega,hj' h2',by rw [he];exact cN hil h2'⟩ (by dsimp only;omega) (fun _ _ h=>h)
 ·have hil:i=l.length:=by have:=Ix h;simp at this;omega
  subst hil
  repeat' (first|refine go ?_|refine HK a6 FS ?_)
  refine HX HE ?_
  rw [he,Nat.sub_self]
  rfl
theorem E9 {g:FuncId} {caps:List AV} {u:AV} [bN Tryz.prog g] (hu:jN u=some (g,caps)) (l:List (List eL)) (most:Int) (err:Nat→Int) (J:Nat→AL→Prop) (L0:AL) (h0:J 0 L0) (hw:(l.length:Int)≤most→∀i x L,l[i]?=some x→J i L→AC Tryz.prog g ([aP i,.imm 2 (x.map dQ)]++caps) L fun c L'=>c=aP (err i)∧(err i=0→J (i+1) L')):
  AC Tryz.prog 196 [.iptr [.imm 1 (l.map cR)],.iptr [aP most],.iptr [u]] L0 fun r _=>r=cJ (dG most err l.length):=by
 refine aS Tryz.func196 rfl Tryz.ntmps196 rfl fun B=>?_
 repeat' (first|refine go ?_|refine HK a6 FS ?_)
 refine ay rfl (fun h=>?_) (fun h=>?_)
 ·have h':=Iy h
  rw [It] at h'
  repeat' (first|refine go ?_|refine HK a6 FS ?_)
  refine HX HE ?_
  unfold dG
  rw [if_pos h']
  rfl
 ·have h':=Ix h
  rw [It] at h'
  repeat' (first|refine go ?_|refine HK a6 FS ?_)
  refine ba L0 [] (De hu l err J L0 h0 (hw (by omega))) rfl (fS hu) (bR rfl) rfl fun c L1 hc=>?_
  subst hc
  repeat' (first|refine go ?_|refine HK a6 FS ?_)
  refine HX HE ?_
  unfold dG
  rw [if_neg h']
  rfl
theorem Fs {g:FuncId} (l:List (List eL)) (most:Int):bV Tryz.prog 139 [.imm 1 (l.map cR),aP most,.sc (.func (.func g) #[] #[])] (.fn 196 [.iptr [.imm 1 (l.map cR)],.iptr [aP most],.iptr [.sc (.func (.func g) #[] #[])]]):=by
 refine aS Tryz.func139 rfl Tryz.ntmps139 rfl fun B=>?_
 repeat' (first|refine go ?_|refine HK a6 FS ?_|refine bh ?_|fail)
 exact HT HE
instance {g:FuncId} (l:List (List eL)) (most:Int):AD Tryz.prog 139 [.imm 1 (l.map cR),aP most,.sc (.func (.func g) #[] #[])] (.fn 196 [.iptr [.imm 1 (l.map cR)],.iptr [aP most],.iptr [.sc (.func (.func g) #[] #[])]]):=⟨Fs l most⟩
theorem Df {g:FuncId} {caps:List AV} {u:AV} [bN Tryz.prog g] (hu:jN u=some (g,caps)) (l:List eP) (err:Nat→Int) (J:Nat→AL→Prop) (L0:AL) (h0:J 0 L0) (hw:∀i x L,l[i]?=some x→J i L→AC Tryz.prog g ([aP i,.agg (cM x)]++caps) L fun c L'=>c=aP (err i)∧(err i=0→J (i+1) L')):
  AC Tryz.prog 214 [.imm 3 (l.map cM),u] L0 fun r _=>r=cJ (dO err l.length):=by
 refine aS Tryz.func214 rfl Tryz.ntmps214 rfl fun B=>?_
 refine cH 0 rfl rfl fun hlen=>?_
 rw [It] at hlen
 repeat' (first|refine go ?_|refine ak ?_|refine HK a6 FS ?_)
 refine aJ [1,9,10] (α:=Nat×AL) (fun i=>[(11,aP i.1)]) (fun i=>i.1≤l.length∧J i.1 i.2∧dO err l.length=dK err (l.length - i.1) i.1) (fun i=>i.2) (fun i=>l.length - i.1) (0,L0) rfl ⟨rfl,trivial⟩ ⟨Nat.zero_le _,h0,rfl⟩ (fun _ _ h=>h) ?_
 rintro ⟨i,L⟩ ⟨hi,hj,he⟩
 dsimp only at hi hj he ⊢
 try dsimp only [Ir,Iq,Ip,Ij]
 repeat' (first|refine go ?_|refine HK a6 FS ?_)
 refine ay rfl (fun h=>?_) (fun h=>?_)
 ·have hil:i < l.length:=by have:=Iy h;simp at this;omega
  obtain ⟨z,hz⟩:∃z,l[i]?=some z:=⟨_,Iz hil⟩
  have hzg:=bi (c:=cM) hz
  repeat' (first|refine go ?_|refine ak ?_|refine HK a6 FS ?_|(apply aU;first|refine aT a6 ?_|refine aM a6 ?_)|(apply aG;first|refine HN 7 a6 0 HJ ?_|refine HN 7 a6 1 HJ ?_|refine HN 7 a6 2 HJ ?_|refine HM a6 0 HH ?_|refine HM a6 1 HH ?_|refine HM a6 2 HH ?_|refine HM a6 3 HH ?_|fail)|refine aX a6 fun _=>?_|fail)
  refine dw L [] (hw i z L hz hj) rfl hu rfl (bR rfl) rfl rfl fun c L1 ⟨hc,hj'⟩=>?_
  subst hc
  rw [List.append_nil]
  repeat' (first|refine go ?_|refine HK a6 FS ?_)
  refine ay rfl (fun h2=>?_) (fun h2=>?_)
  ·have h2':=Iy h2
   repeat' (first|refine go ?_|refine HK a6 FS ?_)
   refine HX HE ?_
   rw [he,cZ hil h2']
   rfl
  ·have h2':=Decidable.not_not.1 (Ix h2)
   repeat' (first|refine go ?_|refine HK a6 FS ?_|(apply aW;refine aV ?_)|fail)
   exact aB (i+1,L1) rfl ⟨by rw [Iv];rfl,trivial⟩ ⟨by dsimp only;omega,hj' h2',by rw [he];exact cN hil h2'⟩ (by dsimp only;omega) (fun _ _ h=>h)
 ·have hil:i=l.length:=by have:=Ix h;simp at this;omega
  subst hil
  repeat' (first|refine go ?_|refine HK a6 FS ?_)
  refine HX HE ?_
  rw [he,Nat.sub_self]
  rfl
theorem Dg {g:FuncId} {caps:List AV} {u:AV} [bN Tryz.prog g] (hu:jN u=some (g,caps)) (l:List cP) (err:Nat→Int) (J:Nat→AL→Prop) (L0:AL) (h0:J 0 L0) (hw:∀i x L,l[i]?=some x→J i L→AC Tryz.prog g ([aP i,.agg (cm x)]++caps) L fun c L'=>c=aP (err i)∧(err i=0→J (i+1) L')):
  AC Tryz.prog 218 [.imm 3 (l.map cm),u] L0 fun r _=>r=cJ (dO err l.length):=by
 refine aS Tryz.func218 rfl Tryz.ntmps218 rfl fun B=>?_
 refine cH 0 rfl rfl fun hlen=>?_
 rw [It] at hlen
 repeat' (first|refine go ?_|refine ak ?_|refine HK a6 FS ?_)
 refine aJ [1,9,10] (α:=Nat×AL) (fun i=>[(11,aP i.1)]) (fun i=>i.1≤l.length∧J i.1 i.2∧dO err l.length=dK err (l.length - i.1) i.1) (fun i=>i.2) (fun i=>l.length - i.1) (0,L0) rfl ⟨rfl,trivial⟩ ⟨Nat.zero_le _,h0,rfl⟩ (fun _ _ h=>h) ?_
 rintro ⟨i,L⟩ ⟨hi,hj,he⟩
 dsimp only at hi hj he ⊢
 try dsimp only [Ir,Iq,Ip,Ij]
 repeat' (first|refine go ?_|refine HK a6 FS ?_)
 refine ay rfl (fun h=>?_) (fun h=>?_)
 ·have hil:i < l.length:=by have:=Iy h;simp at this;omega
  obtain ⟨z,hz⟩:∃z,l[i]?=some z:=⟨_,Iz hil⟩
  have hzg:=bi (c:=cm) hz
  repeat' (first|refine go ?_|refine ak ?_|refine HK a6 FS ?_|(apply aU;first|refine aT a6 ?_|refine aM a6 ?_)|(apply aG;first|refine HN 7 a6 0 HJ ?_|refine HN 7 a6 1 HJ ?_|refine HN 7 a6 2 HJ ?_|refine HM a6 0 HH ?_|refine HM a6 1 HH ?_|refine HM a6 2 HH ?_|refine HM a6 3 HH ?_|fail)|refine aX a6 fun _=>?_|fail)
  refine dw L [] (hw i z L hz hj) rfl hu rfl (bR rfl) rfl rfl fun c L1 ⟨hc,hj'⟩=>?_
  subst hc
  rw [List.append_nil]
  repeat' (first|refine go ?_|refine HK a6 FS ?_)
  refine ay rfl (fun h2=>?_) (fun h2=>?_)
  ·have h2':=Iy h2
   repeat' (first|refine go ?_|refine HK a6 FS ?_)
   refine HX HE ?_
   rw [he,cZ hil h2']
   rfl
  ·have h2':=Decidable.not_not.1 (Ix h2)
   repeat' (first|refine go ?_|refine HK a6 FS ?_|(apply aW;refine aV ?_)|fail)
   exact aB (i+1,L1) rfl ⟨by rw [Iv];rfl,trivial⟩ ⟨by dsimp only;omega,hj' h2',by rw [he];exact cN hil h2'⟩ (by dsimp only;omega) (fun _ _ h=>h)
 ·have hil:i=l.length:=by have:=Ix h;simp at this;omega
  subst hil
  repeat' (first|refine go ?_|refine HK a6 FS ?_)
  refine HX HE ?_
  rw [he,Nat.sub_self]
  rfl
theorem Eb {g:FuncId} {caps:List AV} {u:AV} [bN Tryz.prog g] (hu:jN u=some (g,caps)) (l:List cP) (most:Int) (err:Nat→Int) (J:Nat→AL→Prop) (L0:AL) (h0:J 0 L0) (hw:(l.length:Int)≤most→∀i x L,l[i]?=some x→J i L→AC Tryz.prog g ([aP i,.agg (cm x)]++caps) L fun c L'=>c=aP (err i)∧(err i=0→J (i+1) L')):
  AC Tryz.prog 217 [.iptr [.imm 3 (l.map cm)],.iptr [aP most],.iptr [u]] L0 fun r _=>r=cJ (dG most err l.length):=by
 refine aS Tryz.func217 rfl Tryz.ntmps217 rfl fun B=>?_
 repeat' (first|refine go ?_|refine HK a6 FS ?_)
 refine ay rfl (fun h=>?_) (fun h=>?_)
 ·have h':=Iy h
  rw [It] at h'
  repeat' (first|refine go ?_|refine HK a6 FS ?_)
  refine HX HE ?_
  unfold dG
  rw [if_pos h']
  rfl
 ·have h':=Ix h
  rw [It] at h'
  repeat' (first|refine go ?_|refine HK a6 FS ?_)
  refine ba L0 [] (Dg hu l err J L0 h0 (hw (by omega))) rfl (fS hu) (bR rfl) rfl fun c L1 hc=>?_
  subst hc
  repeat' (first|refine go ?_|refine HK a6 FS ?_)
  refine HX HE ?_
  unfold dG
  rw [if_neg h']
  rfl
theorem Gw {g:FuncId} {caps:List AV} (l:List cP) (most:Int):bV Tryz.prog 162 [.imm 3 (l.map cm),aP most,.fn g caps] (.fn 217 [.iptr [.imm 3 (l.map cm)],.iptr [aP most],.iptr [.fn g caps]]):=by
 refine aS Tryz.func162 rfl Tryz.ntmps162 rfl fun B=>?_
 repeat' (first|refine go ?_|refine HK a6 FS ?_|refine bh ?_|fail)
 exact HT HE
instance {g:FuncId} {caps:List AV} (l:List cP) (most:Int):AD Tryz.prog 162 [.imm 3 (l.map cm),aP most,.fn g caps] (.fn 217 [.iptr [.imm 3 (l.map cm)],.iptr [aP most],.iptr [.fn g caps]]):=⟨Gw l most⟩
theorem Dh {g:FuncId} {caps:List AV} {u:AV} [bN Tryz.prog g] (hu:jN u=some (g,caps)) (l:List dT) (err:Nat→Int) (J:Nat→AL→Prop) (L0:AL) (h0:J 0 L0) (hw:∀i x L,l[i]?=some x→J i L→AC Tryz.prog g ([aP i,.agg (cF x)]++caps) L fun c L'=>c=aP (err i)∧(err i=0→J (i+1) L')):
  AC Tryz.prog 220 [.imm 4 (l.map cF),u] L0 fun r _=>r=cJ (dO err l.length):=by
 refine aS Tryz.func220 rfl Tryz.ntmps220 rfl fun B=>?_
 refine cH 0 rfl rfl fun hlen=>?_
 rw [It] at hlen
 repeat' (first|refine go ?_|refine ak ?_|refine HK a6 FS ?_)
 refine aJ [1,9,10] (α:=Nat×AL) (fun i=>[(11,aP i.1)]) (fun i=>i.1≤l.length∧J i.1 i.2∧dO err l.length=dK err (l.length - i.1) i.1) (fun i=>i.2) (fun i=>l.length - i.1) (0,L0) rfl ⟨rfl,trivial⟩ ⟨Nat.zero_le _,h0,rfl⟩ (fun _ _ h=>h) ?_
 rintro ⟨i,L⟩ ⟨hi,hj,he⟩
 dsimp only at hi hj he ⊢
 try dsimp only [Ir,Iq,Ip,Ij]
 repeat' (first|refine go ?_|refine HK a6 FS ?_)
 refine ay rfl (fun h=>?_) (fun h=>?_)
 ·have hil:i < l.length:=by have:=Iy h;simp at this;omega
  obtain ⟨z,hz⟩:∃z,l[i]?=some z:=⟨_,Iz hil⟩
  have hzg:=bi (c:=cF) hz
  repeat' (first|refine go ?_|refine ak ?_|refine HK a6 FS ?_|(apply aU;first|refine aT a6 ?_|refine aM a6 ?_)|(apply aG;first|refine HN 7 a6 0 HJ ?_|refine HN 7 a6 1 HJ ?_|refine HN 7 a6 2 HJ ?_|refine HM a6 0 HH ?_|refine HM a6 1 HH ?_|refine HM a6 2 HH ?_|refine HM a6 3 HH ?_|fail)|refine aX a6 fun _=>?_|fail)
  refine dw L [] (hw i z L hz hj) rfl hu rfl (bR rfl) rfl rfl fun c L1 ⟨hc,hj'⟩=>?_
  subst hc
  rw [List.append_nil]
  repeat' (first|refine go ?_|refine HK a6 FS ?_)
  refine ay rfl (fun h2=>?_) (fun h2=>?_)
  ·have h2':=Iy h2
   repeat' (first|refine go ?_|refine HK a6 FS ?_)
   refine HX HE ?_
   rw [he,cZ hil h2']
   rfl
  ·have h2':=Decidable.not_not.1 (Ix h2)
   repeat' (first|refine go ?_|refine HK a6 FS ?_|(apply aW;refine aV ?_)|fail)
   exact aB (i+1,L1) rfl ⟨by rw [Iv];rfl,trivial⟩ ⟨by dsimp only;omega,hj' h2',by rw [he];exact cN hil h2'⟩ (by dsimp only;omega) (fun _ _ h=>h)
 ·have hil:i=l.length:=by have:=Ix h;simp at this;omega
  subst hil
  repeat' (first|refine go ?_|refine HK a6 FS ?_)
  refine HX HE ?_
  rw [he,Nat.sub_self]
  rfl
theorem Ec {g:FuncId} {caps:List AV} {u:AV} [bN Tryz.prog g] (hu:jN u=some (g,caps)) (l:List dT) (most:Int) (err:Nat→Int) (J:Nat→AL→Prop) (L0:AL) (h0:J 0 L0) (hw:(l.length:Int)≤most→∀i x L,l[i]?=some x→J i L→AC Tryz.prog g ([aP i,.agg (cF x)]++caps) L fun c L'=>c=aP (err i)∧(err i=0→J (i+1) L')):
  AC Tryz.prog 219 [.iptr [.imm 4 (l.map cF)],.iptr [aP most],.iptr [u]] L0 fun r _=>r=cJ (dG most err l.length):=by
 refine aS Tryz.func219 rfl Tryz.ntmps219 rfl fun B=>?_
 repeat' (first|refine go ?_|refine HK a6 FS ?_)
 refine ay rfl (fun h=>?_) (fun h=>?_)
 ·have h':=Iy h
  rw [It] at h'
  repeat' (first|refine go ?_|refine HK a6 FS ?_)
  refine HX HE ?_
  unfold dG
  rw [if_pos h']
  rfl
 ·have h':=Ix h
  rw [It] at h'
  repeat' (first|refine go ?_|refine HK a6 FS ?_)
  refine ba L0 [] (Dh hu l err J L0 h0 (hw (by omega))) rfl (fS hu) (bR rfl) rfl fun c L1 hc=>?_
  subst hc
  repeat' (first|refine go ?_|refine HK a6 FS ?_)
  refine HX HE ?_
  unfold dG
  rw [if_neg h']
  rfl
theorem Gx {g:FuncId} {caps:List AV} (l:List dT) (most:Int):bV Tryz.prog 165 [.imm 4 (l.map cF),aP most,.fn g caps] (.fn 219 [.iptr [.imm 4 (l.map cF)],.iptr [aP most],.iptr [.fn g caps]]):=by
 refine aS Tryz.func165 rfl Tryz.ntmps165 rfl fun B=>?_
 repeat' (first|refine go ?_|refine HK a6 FS ?_|refine bh ?_|fail)
 exact HT HE
instance {g:FuncId} {caps:List AV} (l:List dT) (most:Int):AD Tryz.prog 165 [.imm 4 (l.map cF),aP most,.fn g caps] (.fn 219 [.iptr [.imm 4 (l.map cF)],.iptr [aP most],.iptr [.fn g caps]]):=⟨Gx l most⟩
theorem Di {g:FuncId} {caps:List AV} {u:AV} [bN Tryz.prog g] (hu:jN u=some (g,caps)) (l:List eb) (err:Nat→Int) (J:Nat→AL→Prop) (L0:AL) (h0:J 0 L0) (hw:∀i x L,l[i]?=some x→J i L→AC Tryz.prog g ([aP i,.agg (dq x)]++caps) L fun c L'=>c=aP (err i)∧(err i=0→J (i+1) L')):
  AC Tryz.prog 223 [.imm 4 (l.map dq),u] L0 fun r _=>r=cJ (dO err l.length):=by
 refine aS Tryz.func223 rfl Tryz.ntmps223 rfl fun B=>?_
 refine cH 0 rfl rfl fun hlen=>?_
 rw [It] at hlen
 repeat' (first|refine go ?_|refine ak ?_|refine HK a6 FS ?_)
 refine aJ [1,9,10] (α:=Nat×AL) (fun i=>[(11,aP i.1)]) (fun i=>i.1≤l.length∧J i.1 i.2∧dO err l.length=dK err (l.length - i.1) i.1) (fun i=>i.2) (fun i=>l.length - i.1) (0,L0) rfl ⟨rfl,trivial⟩ ⟨Nat.zero_le _,h0,rfl⟩ (fun _ _ h=>h) ?_
 rintro ⟨i,L⟩ ⟨hi,hj,he⟩
 dsimp only at hi hj he ⊢
 try dsimp only [Ir,Iq,Ip,Ij]
 repeat' (first|refine go ?_|refine HK a6 FS ?_)
 refine ay rfl (fun h=>?_) (fun h=>?_)
 ·have hil:i < l.length:=by have:=Iy h;simp at this;omega
  obtain ⟨z,hz⟩:∃z,l[i]?=some z:=⟨_,Iz hil⟩
  have hzg:=bi (c:=dq) hz
  repeat' (first|refine go ?_|refine ak ?_|refine HK a6 FS ?_|(apply aU;first|refine aT a6 ?_|refine aM a6 ?_)|(apply aG;first|refine HN 7 a6 0 HJ ?_|refine HN 7 a6 1 HJ ?_|refine HN 7 a6 2 HJ ?_|refine HM a6 0 HH ?_|refine HM a6 1 HH ?_|refine HM a6 2 HH ?_|refine HM a6 3 HH ?_|fail)|refine aX a6 fun _=>?_|fail)
  refine dw L [] (hw i z L hz hj) rfl hu rfl (bR rfl) rfl rfl fun c L1 ⟨hc,hj'⟩=>?_
  subst hc
  rw [List.append_nil]
  repeat' (first|refine go ?_|refine HK a6 FS ?_)
  refine ay rfl (fun h2=>?_) (fun h2=>?_)
  ·have h2':=Iy h2
   repeat' (first|refine go ?_|refine HK a6 FS ?_)
   refine HX HE ?_
   rw [he,cZ hil h2']
   rfl
  ·have h2':=Decidable.not_not.1 (Ix h2)
   repeat' (first|refine go ?_|refine HK a6 FS ?_|(apply aW;refine aV ?_)|fail)
   exact aB (i+1,L1) rfl ⟨by rw [Iv];rfl,trivial⟩ ⟨by dsimp only;omega,hj' h2',by rw [he];exact cN hil h2'⟩ (by dsimp only;omega) (fun _ _ h=>h)
 ·have hil:i=l.length:=by have:=Ix h;simp at this;omega
  subst hil
  repeat' (first|refine go ?_|refine HK a6 FS ?_)
  refine HX HE ?_
  rw [he,Nat.sub_self]
  rfl
theorem Ed {g:FuncId} {caps:List AV} {u:AV} [bN Tryz.prog g] (hu:jN u=some (g,caps)) (l:List eb) (most:Int) (err:Nat→Int) (J:Nat→AL→Prop) (L0:AL) (h0:J 0 L0) (hw:(l.length:Int)≤most→∀i x L,l[i]?=some x→J i L→AC Tryz.prog g ([aP i,.agg (dq x)]++caps) L fun c L'=>c=aP (err i)∧(err i=0→J (i+1) L')):
  AC Tryz.prog 222 [.iptr [.imm 4 (l.map dq)],.iptr [aP most],.iptr [u]] L0 fun r _=>r=cJ (dG most err l.length):=by
 refine aS Tryz.func222 rfl Tryz.ntmps222 rfl fun B=>?_
 repeat' (first|refine go ?_|refine HK a6 FS ?_)
 refine ay rfl (fun h=>?_) (fun h=>?_)
 ·have h':=Iy h
  rw [It] at h'
  repeat' (first|refine go ?_|refine HK a6 FS ?_)
  refine HX HE ?_
  unfold dG
  rw [if_pos h']
  rfl
 ·have h':=Ix h
  rw [It] at h'
  repeat' (first|refine go ?_|refine HK a6 FS ?_)
  refine ba L0 [] (Di hu l err J L0 h0 (hw (by omega))) rfl (fS hu) (bR rfl) rfl fun c L1 hc=>?_
  subst hc
  repeat' (first|refine go ?_|refine HK a6 FS ?_)
  refine HX HE ?_
  unfold dG
  rw [if_neg h']
  rfl
theorem Gy {g:FuncId} {caps:List AV} (l:List eb) (most:Int):bV Tryz.prog 167 [.imm 4 (l.map dq),aP most,.fn g caps] (.fn 222 [.iptr [.imm 4 (l.map dq)],.iptr [aP most],.iptr [.fn g caps]]):=by
 refine aS Tryz.func167 rfl Tryz.ntmps167 rfl fun B=>?_
 repeat' (first|refine go ?_|refine HK a6 FS ?_|refine bh ?_|fail)
 exact HT HE
instance {g:FuncId} {caps:List AV} (l:List eb) (most:Int):AD Tryz.prog 167 [.imm 4 (l.map dq),aP most,.fn g caps] (.fn 222 [.iptr [.imm 4 (l.map dq)],.iptr [aP most],.iptr [.fn g caps]]):=⟨Gy l most⟩
theorem Dj {g:FuncId} {caps:List AV} {u:AV} [bN Tryz.prog g] (hu:jN u=some (g,caps)) (l:List (List Int)) (err:Nat→Int) (J:Nat→AL→Prop) (L0:AL) (h0:J 0 L0) (hw:∀i x L,l[i]?=some x→J i L→AC Tryz.prog g ([aP i,.imm 1 (aZ x)]++caps) L fun c L'=>c=aP (err i)∧(err i=0→J (i+1) L')):
  AC Tryz.prog 231 [.imm 1 (l.map kO),u] L0 fun r _=>r=cJ (dO err l.length):=by
 refine aS Tryz.func231 rfl Tryz.ntmps231 rfl fun B=>?_
 refine cH 0 rfl rfl fun hlen=>?_
 rw [It] at hlen
 repeat' (first|refine go ?_|refine ak ?_|refine HK a6 FS ?_)
 refine aJ [1,9,10] (α:=Nat×AL) (fun i=>[(11,aP i.1)]) (fun i=>i.1≤l.length∧J i.1 i.2∧dO err l.length=dK err (l.length - i.1) i.1) (fun i=>i.2) (fun i=>l.length - i.1) (0,L0) rfl ⟨rfl,trivial⟩ ⟨Nat.zero_le _,h0,rfl⟩ (fun _ _ h=>h) ?_
 rintro ⟨i,L⟩ ⟨hi,hj,he⟩
 dsimp only at hi hj he ⊢
 try dsimp only [Ir,Iq,Ip,Ij]
 repeat' (first|refine go ?_|refine HK a6 FS ?_)
 refine ay rfl (fun h=>?_) (fun h=>?_)
 ·have hil:i < l.length:=by have:=Iy h;simp at this;omega
  obtain ⟨z,hz⟩:∃z,l[i]?=some z:=⟨_,Iz hil⟩
  have hzg:=bi (c:=kO) hz
  repeat' (first|refine go ?_|refine ak ?_|refine HK a6 FS ?_|(apply aU;first|refine aT a6 ?_|refine aM a6 ?_)|fail)
  refine dw L [] (hw i z L hz hj) rfl hu rfl (bR rfl) rfl rfl fun c L1 ⟨hc,hj'⟩=>?_
  subst hc
  rw [List.append_nil]
  repeat' (first|refine go ?_|refine HK a6 FS ?_)
  refine ay rfl (fun h2=>?_) (fun h2=>?_)
  ·have h2':=Iy h2
   repeat' (first|refine go ?_|refine HK a6 FS ?_)
   refine HX HE ?_
   rw [he,cZ hil h2']
   rfl
  ·have h2':=Decidable.not_not.1 (Ix h2)
   repeat' (first|refine go ?_|refine HK a6 FS ?_|(apply aW;refine aV ?_)|fail)
   exact aB (i+1,L1) rfl ⟨by rw [Iv];rfl,trivial⟩ ⟨by dsimp only;omega,hj' h2',by rw [he];exact cN hil h2'⟩ (by dsimp only;omega) (fun _ _ h=>h)
 ·have hil:i=l.length:=by have:=Ix h;simp at this;omega
  subst hil
  repeat' (first|refine go ?_|refine HK a6 FS ?_)
  refine HX HE ?_
  rw [he,Nat.sub_self]
  rfl
theorem Dk {g:FuncId} {caps:List AV} {u:AV} [bN Tryz.prog g] (hu:jN u=some (g,caps)) (l:List eL) (err:Nat→Int) (J:Nat→AL→Prop) (L0:AL) (h0:J 0 L0) (hw:∀i x L,l[i]?=some x→J i L→AC Tryz.prog g ([aP i,.agg (dQ x)]++caps) L fun c L'=>c=aP (err i)∧(err i=0→J (i+1) L')):
  AC Tryz.prog 243 [.imm 2 (l.map dQ),u] L0 fun r _=>r=cJ (dO err l.length):=by
 refine aS Tryz.func243 rfl Tryz.ntmps243 rfl fun B=>?_
 refine cH 0 rfl rfl fun hlen=>?_
 rw [It] at hlen
 repeat' (first|refine go ?_|refine ak ?_|refine HK a6 FS ?_)
 refine aJ [1,9,10] (α:=Nat×AL) (fun i=>[(11,aP i.1)]) (fun i=>i.1≤l.length∧J i.1 i.2∧dO err l.length=dK err (l.length - i.1) i.1) (fun i=>i.2) (fun i=>l.length - i.1) (0,L0) rfl ⟨rfl,trivial⟩ ⟨Nat.zero_le _,h0,rfl⟩ (fun _ _ h=>h) ?_
 rintro ⟨i,L⟩ ⟨hi,hj,he⟩
 dsimp only at hi hj he ⊢
 try dsimp only [Ir,Iq,Ip,Ij]
 repeat' (first|refine go ?_|refine HK a6 FS ?_)
 refine ay rfl (fun h=>?_) (fun h=>?_)
 ·have hil:i < l.length:=by have:=Iy h;simp at this;omega
  obtain ⟨z,hz⟩:∃z,l[i]?=some z:=⟨_,Iz hil⟩
  have hzg:=bi (c:=dQ) hz
  repeat' (first|refine go ?_|refine ak ?_|refine HK a6 FS ?_|(apply aU;first|refine aT a6 ?_|refine aM a6 ?_)|(apply aG;first|refine HN 7 a6 0 HJ ?_|refine HN 7 a6 1 HJ ?_|refine HN 7 a6 2 HJ ?_|refine HM a6 0 HH ?_|refine HM a6 1 HH ?_|refine HM a6 2 HH ?_|refine HM a6 3 HH ?_|fail)|refine aX a6 fun _=>?_|fail)
  refine dw L [] (hw i z L hz hj) rfl hu rfl (bR rfl) rfl rfl fun c L1 ⟨hc,hj'⟩=>?_
  subst hc
  rw [List.append_nil]
  repeat' (first|refine go ?_|refine HK a6 FS ?_)
  refine ay rfl (fun h2=>?_) (fun h2=>?_)
  ·have h2':=Iy h2
   repeat' (first|refine go ?_|refine HK a6 FS ?_)
   refine HX HE ?_
   rw [he,cZ hil h2']
   rfl
  ·have h2':=Decidable.not_not.1 (Ix h2)
   repeat' (first|refine go ?_|refine HK a6 FS ?_|(apply aW;refine aV ?_)|fail)
   exact aB (i+1,L1) rfl ⟨by rw [Iv];rfl,trivial⟩ ⟨by dsimp only;omega,hj' h2',by rw [he];exact cN hil h2'⟩ (by dsimp only;omega) (fun _ _ h=>h)
 ·have hil:i=l.length:=by have:=Ix h;simp at this;omega
  subst hil
  repeat' (first|refine go ?_|refine HK a6 FS ?_)
  refine HX HE ?_
  rw [he,Nat.sub_self]
  rfl
theorem Ee {g:FuncId} {caps:List AV} {u:AV} [bN Tryz.prog g] (hu:jN u=some (g,caps)) (l:List eL) (most:Int) (err:Nat→Int) (J:Nat→AL→Prop) (L0:AL) (h0:J 0 L0) (hw:(l.length:Int)≤most→∀i x L,l[i]?=some x→J i L→AC Tryz.prog g ([aP i,.agg (dQ x)]++caps) L fun c L'=>c=aP (err i)∧(err i=0→J (i+1) L')):
  AC Tryz.prog 242 [.iptr [.imm 2 (l.map dQ)],.iptr [aP most],.iptr [u]] L0 fun r _=>r=cJ (dG most err l.length):=by
 refine aS Tryz.func242 rfl Tryz.ntmps242 rfl fun B=>?_
 repeat' (first|refine go ?_|refine HK a6 FS ?_)
 refine ay rfl (fun h=>?_) (fun h=>?_)
 ·have h':=Iy h
  rw [It] at h'
  repeat' (first|refine go ?_|refine HK a6 FS ?_)
  refine HX HE ?_
  unfold dG
  rw [if_pos h']
  rfl
 ·have h':=Ix h
  rw [It] at h'
  repeat' (first|refine go ?_|refine HK a6 FS ?_)
  refine ba L0 [] (Dk hu l err J L0 h0 (hw (by omega))) rfl (fS hu) (bR rfl) rfl fun c L1 hc=>?_
  subst hc
  repeat' (first|refine go ?_|refine HK a6 FS ?_)
  refine HX HE ?_
  unfold dG
  rw [if_neg h']
  rfl
theorem Fw {g:FuncId} (l:List eL) (most:Int):bV Tryz.prog 198 [.imm 2 (l.map dQ),aP most,.sc (.func (.func g) #[] #[])] (.fn 242 [.iptr [.imm 2 (l.map dQ)],.iptr [aP most],.iptr [.sc (.func (.func g) #[] #[])]]):=by
 refine aS Tryz.func198 rfl Tryz.ntmps198 rfl fun B=>?_
 repeat' (first|refine go ?_|refine HK a6 FS ?_|refine bh ?_|fail)
 exact HT HE
instance {g:FuncId} (l:List eL) (most:Int):AD Tryz.prog 198 [.imm 2 (l.map dQ),aP most,.sc (.func (.func g) #[] #[])] (.fn 242 [.iptr [.imm 2 (l.map dQ)],.iptr [aP most],.iptr [.sc (.func (.func g) #[] #[])]]):=⟨Fw l most⟩
theorem Dm {g:FuncId} {caps:List AV} {u:AV} [bN Tryz.prog g] (hu:jN u=some (g,caps)) (l:List gw) (err:Nat→Int) (J:Nat→AL→Prop) (L0:AL) (h0:J 0 L0) (hw:∀i x L,l[i]?=some x→J i L→AC Tryz.prog g ([aP i,.agg (dI x)]++caps) L fun c L'=>c=aP (err i)∧(err i=0→J (i+1) L')):
  AC Tryz.prog 259 [.imm 2 (l.map dI),u] L0 fun r _=>r=cJ (dO err l.length):=by
 refine aS Tryz.func259 rfl Tryz.ntmps259 rfl fun B=>?_
 refine cH 0 rfl rfl fun hlen=>?_
 rw [It] at hlen
 repeat' (first|refine go ?_|refine ak ?_|refine HK a6 FS ?_)
 refine aJ [1,9,10] (α:=Nat×AL) (fun i=>[(11,aP i.1)]) (fun i=>i.1≤l.length∧J i.1 i.2∧dO err l.length=dK err (l.length - i.1) i.1) (fun i=>i.2) (fun i=>l.length - i.1) (0,L0) rfl ⟨rfl,trivial⟩ ⟨Nat.zero_le _,h0,rfl⟩ (fun _ _ h=>h) ?_
 rintro ⟨i,L⟩ ⟨hi,hj,he⟩
 dsimp only at hi hj he ⊢
 try dsimp only [Ir,Iq,Ip,Ij]
 repeat' (first|refine go ?_|refine HK a6 FS ?_)
 refine ay rfl (fun h=>?_) (fun h=>?_)
 ·have hil:i < l.length:=by have:=Iy h;simp at this;omega
  obtain ⟨z,hz⟩:∃z,l[i]?=some z:=⟨_,Iz hil⟩
  have hzg:=bi (c:=dI) hz
  repeat' (first|refine go ?_|refine ak ?_|refine HK a6 FS ?_|(apply aU;first|refine aT a6 ?_|refine aM a6 ?_)|(apply aG;first|refine HN 7 a6 0 HJ ?_|refine HN 7 a6 1 HJ ?_|refine HN 7 a6 2 HJ ?_|refine HM a6 0 HH ?_|refine HM a6 1 HH ?_|refine HM a6 2 HH ?_|refine HM a6 3 HH ?_|fail)|refine aX a6 fun _=>?_|fail)
  refine dw L [] (hw i z L hz hj) rfl hu rfl (bR rfl) rfl rfl fun c L1 ⟨hc,hj'⟩=>?_
  subst hc
  rw [List.append_nil]
  repeat' (first|refine go ?_|refine HK a6 FS ?_)
  refine ay rfl (fun h2=>?_) (fun h2=>?_)
  ·have h2':=Iy h2
   repeat' (first|refine go ?_|refine HK a6 FS ?_)
   refine HX HE ?_
   rw [he,cZ hil h2']
   rfl
  ·have h2':=Decidable.not_not.1 (Ix h2)
   repeat' (first|refine go ?_|refine HK a6 FS ?_|(apply aW;refine aV ?_)|fail)
   exact aB (i+1,L1) rfl ⟨by rw [Iv];rfl,trivial⟩ ⟨by dsimp only;omega,hj' h2',by rw [he];exact cN hil h2'⟩ (by dsimp only;omega) (fun _ _ h=>h)
 ·have hil:i=l.length:=by have:=Ix h;simp at this;omega
  subst hil
  repeat' (first|refine go ?_|refine HK a6 FS ?_)
  refine HX HE ?_
  rw [he,Nat.sub_self]
  rfl
theorem mU {g:FuncId} {caps:List AV} {u:AV} [bN Tryz.prog g] (hu:jN u=some (g,caps)) (l:List Int) (err:Nat→Int) (J:Nat→AL→Prop) (L0:AL) (h0:J 0 L0) (hw:∀i x L,l[i]?=some x→J i L→AC Tryz.prog g ([aP i,aP x]++caps) L fun c L'=>c=aP (err i)∧(err i=0→J (i+1) L')):
  AC Tryz.prog 173 [.imm 1 (l.map ew),u] L0 fun r _=>r=cJ (dO err l.length):=by
 refine aS Tryz.func173 rfl Tryz.ntmps173 rfl fun B=>?_
 refine cH 0 rfl rfl fun hlen=>?_
 rw [It] at hlen
 repeat' (first|refine go ?_|refine ak ?_|refine HK a6 FS ?_)
 refine aJ [1,9,10] (α:=Nat×AL) (fun i=>[(11,aP i.1)]) (fun i=>i.1≤l.length∧J i.1 i.2∧dO err l.length=dK err (l.length - i.1) i.1) (fun i=>i.2) (fun i=>l.length - i.1) (0,L0) rfl ⟨rfl,trivial⟩ ⟨Nat.zero_le _,h0,rfl⟩ (fun _ _ h=>h) ?_
 rintro ⟨i,L⟩ ⟨hi,hj,he⟩
 dsimp only at hi hj he ⊢
 try dsimp only [Ir,Iq,Ip,Ij]
 repeat' (first|refine go ?_|refine HK a6 FS ?_)
 refine ay rfl (fun h=>?_) (fun h=>?_)
 ·have hil:i < l.length:=by have:=Iy h;simp at this;omega
  obtain ⟨z,hz⟩:∃z,l[i]?=some z:=⟨_,Iz hil⟩
  have hzg:=bi (c:=ew) hz
  repeat' (first|refine go ?_|refine ak ?_|refine HK a6 FS ?_|(apply aU;first|refine aT a6 ?_|refine aM a6 ?_)|fail)
  refine dw L [] (hw i z L hz hj) rfl hu rfl (bR rfl) rfl rfl fun c L1 ⟨hc,hj'⟩=>?_
  subst hc
  rw [List.append_nil]
  repeat' (first|refine go ?_|refine HK a6 FS ?_)
  refine ay rfl (fun h2=>?_) (fun h2=>?_)
  ·have h2':=Iy h2
   repeat' (first|refine go ?_|refine HK a6 FS ?_)
   refine HX HE ?_
   rw [he,cZ hil h2']
   rfl
  ·have h2':=Decidable.not_not.1 (Ix h2)
   repeat' (first|refine go ?_|refine HK a6 FS ?_|(apply aW;refine aV ?_)|fail)
   exact aB (i+1,L1) rfl ⟨by rw [Iv];rfl,trivial⟩ ⟨by dsimp only;omega,hj' h2',by rw [he];exact cN hil h2'⟩ (by dsimp only;omega) (fun _ _ h=>h)
 ·have hil:i=l.length:=by have:=Ix h;simp at this;omega
  subst hil
  repeat' (first|refine go ?_|refine HK a6 FS ?_)
  refine HX HE ?_
  rw [he,Nat.sub_self]
  rfl
theorem Ea {g:FuncId} {caps:List AV} {u:AV} [bN Tryz.prog g] (hu:jN u=some (g,caps)) (l:List Int) (most:Int) (err:Nat→Int) (J:Nat→AL→Prop) (L0:AL) (h0:J 0 L0) (hw:(l.length:Int)≤most→∀i x L,l[i]?=some x→J i L→AC Tryz.prog g ([aP i,aP x]++caps) L fun c L'=>c=aP (err i)∧(err i=0→J (i+1) L')):
  AC Tryz.prog 200 [.iptr [.imm 1 (l.map ew)],.iptr [aP most],.iptr [u]] L0 fun r _=>r=cJ (dG most err l.length):=by
 refine aS Tryz.func200 rfl Tryz.ntmps200 rfl fun B=>?_
 repeat' (first|refine go ?_|refine HK a6 FS ?_)
 refine ay rfl (fun h=>?_) (fun h=>?_)
 ·have h':=Iy h
  rw [It] at h'
  repeat' (first|refine go ?_|refine HK a6 FS ?_)
  refine HX HE ?_
  unfold dG
  rw [if_pos h']
  rfl
 ·have h':=Ix h
  rw [It] at h'
  repeat' (first|refine go ?_|refine HK a6 FS ?_)
  refine ba L0 [] (mU hu l err J L0 h0 (hw (by omega))) rfl (fS hu) (bR rfl) rfl fun c L1 hc=>?_
  subst hc
  repeat' (first|refine go ?_|refine HK a6 FS ?_)
  refine HX HE ?_
  unfold dG
  rw [if_neg h']
  rfl
theorem Fv {g:FuncId} (l:List Int) (most:Int):bV Tryz.prog 142 [.imm 1 (l.map ew),aP most,.sc (.func (.func g) #[] #[])] (.fn 200 [.iptr [.imm 1 (l.map ew)],.iptr [aP most],.iptr [.sc (.func (.func g) #[] #[])]]):=by
 refine aS Tryz.func142 rfl Tryz.ntmps142 rfl fun B=>?_
 repeat' (first|refine go ?_|refine HK a6 FS ?_|refine bh ?_|fail)
 exact HT HE
end Go.Proofs.YtjjpkibjffmceaaGreat
