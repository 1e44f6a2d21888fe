/-
  The program: looks at things, one by one.
-/
import Derived.Test.YtpbinloeemebkaaGreatM07
import Derived.Test.YtpbinloeemebkaaGreatM05
import Derived.Test.YtpbinloeemebkaaGreatM06
namespace Go.Proofs.YtpbinloeemebkaaGreat
open Go.RowKit
attribute [local irreducible] AT bO AX AO Av Kt bo dU DA cT
def da (err:Nat→Int):Nat→Nat→Int×Int
 | 0,_=>(0,0)
 | k+1,i=>if err i=0 then da err k (i+1) else (err i,i)
def dk (err:Nat→Int) (n:Nat):Int×Int:=da err n 0
def d6 (most:Int) (err:Nat→Int) (n:Nat):Int×Int:=if (n:Int) > most then (2,0) else dk err n
def ct (p:Int×Int):AV:= .tup [aH p.1,aH p.2]
theorem cy {err:Nat→Int} {n i:Nat} (hi:i < n) (h:err i=0):da err (n - i) i=da err (n - (i+1)) (i+1):=by
 rw [show n - i=(n - (i+1))+1 by omega]
 simp only [da,h,if_true]
theorem cP {err:Nat→Int} {n i:Nat} (hi:i < n) (h:err i≠0):da err (n - i) i=(err i,(i:Int)):=by
 rw [show n - i=(n - (i+1))+1 by omega]
 simp only [da,h,if_false]
theorem pD {err:Nat→Int}:∀(k i:Nat),(∀j,i≤j→j < i+k→err j=0)→da err k i=(0,0)
 | 0,_,_=>rfl
 | k+1,i,h=>by
  simp only [da]
  rw [if_pos (h i (Nat.le_refl _) (by omega))]
  exact pD k (i+1) fun j h1 h2=>h j (by omega) (by omega)
theorem rh {err:Nat→Int} {n:Nat} (h:∀i,i < n→err i=0):dk err n=(0,0):=pD n 0 fun j _ hj=>h j (by omega)
theorem zf {most:Int} {err:Nat→Int} {n:Nat} (hm:(n:Int)≤most) (h:∀i,i < n→err i=0):d6 most err n=(0,0):=by
 unfold d6
 rw [if_neg (by omega),rh h]
def Fx (q:List Int):List AV:=[.imm 1 (aS q)]
def xQ (z:Int):List AV:=[aH z]
theorem fm {g:FuncId} {caps:List AV} {u:AV} (hu:jL u=some (g,caps)) {s:Nat} {l:List (List AV)}:kT [.imm s l,u]=some [.imm s l,u]:=by
 unfold jL at hu
 split at hu <;> first | rfl | cases hu
theorem bB {L L':AL} (h:L=L'):L.Perm (L'++[]):=by rw [List.append_nil,h]
def GR (P:Program) (g:FuncId) (caps:List AV) (n:Nat) (arg:Nat→AV) (err:Nat→Int) (J:Nat→AL→Prop):Prop:=∀i L,i < n→J i L→AC P g ([aH i,arg i]++caps) L fun c L'=>c=aH (err i)∧(err i=0→J (i+1) L')
theorem CC {g:FuncId} {caps:List AV} {u:AV} [bK Tryz.prog g] (hu:jL u=some (g,caps)) (l:List bn) (err:Nat→Int) (J:Nat→AL→Prop) (L0:AL) (h0:J 0 L0) (hw:∀i x L,l[i]?=some x→J i L→AC Tryz.prog g ([aH i,.agg (bS x)]++caps) L fun c L'=>c=aH (err i)∧(err i=0→J (i+1) L')):
  AC Tryz.prog 149 [.imm 9 (l.map bS),u] L0 fun r _=>r=ct (dk err l.length):=by
 refine aT Tryz.func149 rfl Tryz.ntmps149 rfl fun B=>?_
 refine cF 0 rfl rfl fun hlen=>?_
 rw [Hu] at hlen
 repeat' (first|refine go ?_|refine ak ?_|refine HF a1 F8 ?_)
 refine aR [1,9,10] (α:=Nat×AL) (fun i=>[(11,aH i.1)]) (fun i=>i.1≤l.length∧J i.1 i.2∧dk err l.length=da err (l.length - i.1) i.1) (fun i=>i.2) (fun i=>l.length - i.1) (0,L0) rfl ⟨rfl,trivial⟩ ⟨Nat.zero_le _,h0,rfl⟩ (fun _ _ h=>h) ?_
 rintro ⟨i,L⟩ ⟨hi,hj,he⟩
 dsimp only at hi hj he ⊢
 try dsimp only [Hs,Hr,Hq,Hl]
 repeat' (first|refine go ?_|refine HF a1 F8 ?_)
 refine ay rfl (fun h=>?_) (fun h=>?_)
 ·have hil:i < l.length:=by have:=Hy h;simp at this;omega
  obtain ⟨z,hz⟩:∃z,l[i]?=some z:=⟨_,Hz hil⟩
  have hzg:=bA (c:=bS) hz
  repeat' (first|refine go ?_|refine ak ?_|refine HF a1 F8 ?_|(apply aX;first|refine aU a1 ?_|refine aK a1 ?_)|(apply aQ;first|refine HH 7 a1 0 HE ?_|refine HH 7 a1 1 HE ?_|refine HH 7 a1 2 HE ?_|refine HG a1 0 HD ?_|refine HG a1 1 HD ?_|refine HG a1 2 HD ?_|refine HG a1 3 HD ?_|fail)|refine bl a1 fun _=>?_|fail)
  refine df L [] (hw i z L hz hj) rfl hu rfl (bB rfl) rfl rfl fun c L1 ⟨hc,hj'⟩=>?_
  subst hc
  rw [List.append_nil]
  repeat' (first|refine go ?_|refine HF a1 F8 ?_)
  refine ay rfl (fun h2=>?_) (fun h2=>?_)
  ·have h2':=Hy h2
   repeat' (first|refine go ?_|refine HF a1 F8 ?_)
   refine HT HA ?_
   rw [he,cP hil h2']
   rfl
  ·have h2':=Decidable.not_not.1 (Hx h2)
   repeat' (first|refine go ?_|refine HF a1 F8 ?_|(apply aZ;refine aY ?_)|fail)
   exact aF (i+1,L1) rfl ⟨by rw [Hv];rfl,trivial⟩ ⟨by dsimp only;omega,hj' h2',by rw [he];exact cy hil h2'⟩ (by dsimp only;omega) (fun _ _ h=>h)
 ·have hil:i=l.length:=by have:=Hx h;simp at this;omega
  subst hil
  repeat' (first|refine go ?_|refine HF a1 F8 ?_)
  refine HT HA ?_
  rw [he,Nat.sub_self]
  rfl
theorem Di {g:FuncId} {caps:List AV} {u:AV} [bK Tryz.prog g] (hu:jL u=some (g,caps)) (l:List bn) (most:Int) (err:Nat→Int) (J:Nat→AL→Prop) (L0:AL) (h0:J 0 L0) (hw:(l.length:Int)≤most→∀i x L,l[i]?=some x→J i L→AC Tryz.prog g ([aH i,.agg (bS x)]++caps) L fun c L'=>c=aH (err i)∧(err i=0→J (i+1) L')):
  AC Tryz.prog 148 [.iptr [.imm 9 (l.map bS)],.iptr [aH most],.iptr [u]] L0 fun r _=>r=ct (d6 most err l.length):=by
 refine aT Tryz.func148 rfl Tryz.ntmps148 rfl fun B=>?_
 repeat' (first|refine go ?_|refine HF a1 F8 ?_)
 refine ay rfl (fun h=>?_) (fun h=>?_)
 ·have h':=Hy h
  rw [Hu] at h'
  repeat' (first|refine go ?_|refine HF a1 F8 ?_)
  refine HT HA ?_
  unfold d6
  rw [if_pos h']
  rfl
 ·have h':=Hx h
  rw [Hu] at h'
  repeat' (first|refine go ?_|refine HF a1 F8 ?_)
  refine bb L0 [] (CC hu l err J L0 h0 (hw (by omega))) rfl (fm hu) (bB rfl) rfl fun c L1 hc=>?_
  subst hc
  repeat' (first|refine go ?_|refine HF a1 F8 ?_)
  refine HT HA ?_
  unfold d6
  rw [if_neg h']
  rfl
theorem GE {g:FuncId} {caps:List AV} (l:List bn) (most:Int):bM Tryz.prog 83 [.imm 9 (l.map bS),aH most,.fn g caps] (.fn 148 [.iptr [.imm 9 (l.map bS)],.iptr [aH most],.iptr [.fn g caps]]):=by
 refine aT Tryz.func83 rfl Tryz.ntmps83 rfl fun B=>?_
 repeat' (first|refine go ?_|refine HF a1 F8 ?_|refine bC ?_|fail)
 exact HP HA
instance {g:FuncId} {caps:List AV} (l:List bn) (most:Int):AD Tryz.prog 83 [.imm 9 (l.map bS),aH most,.fn g caps] (.fn 148 [.iptr [.imm 9 (l.map bS)],.iptr [aH most],.iptr [.fn g caps]]):=⟨GE l most⟩
theorem CD {g:FuncId} {caps:List AV} {u:AV} [bK Tryz.prog g] (hu:jL u=some (g,caps)) (l:List f0) (err:Nat→Int) (J:Nat→AL→Prop) (L0:AL) (h0:J 0 L0) (hw:∀i x L,l[i]?=some x→J i L→AC Tryz.prog g ([aH i,.agg (dJ x)]++caps) L fun c L'=>c=aH (err i)∧(err i=0→J (i+1) L')):
  AC Tryz.prog 169 [.imm 2 (l.map dJ),u] L0 fun r _=>r=ct (dk err l.length):=by
 refine aT Tryz.func169 rfl Tryz.ntmps169 rfl fun B=>?_
 refine cF 0 rfl rfl fun hlen=>?_
 rw [Hu] at hlen
 repeat' (first|refine go ?_|refine ak ?_|refine HF a1 F8 ?_)
 refine aR [1,9,10] (α:=Nat×AL) (fun i=>[(11,aH i.1)]) (fun i=>i.1≤l.length∧J i.1 i.2∧dk err l.length=da err (l.length - i.1) i.1) (fun i=>i.2) (fun i=>l.length - i.1) (0,L0) rfl ⟨rfl,trivial⟩ ⟨Nat.zero_le _,h0,rfl⟩ (fun _ _ h=>h) ?_
 rintro ⟨i,L⟩ ⟨hi,hj,he⟩
 dsimp only at hi hj he ⊢
 try dsimp only [Hs,Hr,Hq,Hl]
 repeat' (first|refine go ?_|refine HF a1 F8 ?_)
 refine ay rfl (fun h=>?_) (fun h=>?_)
 ·have hil:i < l.length:=by have:=Hy h;simp at this;omega
  obtain ⟨z,hz⟩:∃z,l[i]?=some z:=⟨_,Hz hil⟩
  have hzg:=bA (c:=dJ) hz
  repeat' (first|refine go ?_|refine ak ?_|refine HF a1 F8 ?_|(apply aX;first|refine aU a1 ?_|refine aK a1 ?_)|(apply aQ;first|refine HH 7 a1 0 HE ?_|refine HH 7 a1 1 HE ?_|refine HH 7 a1 2 HE ?_|refine HG a1 0 HD ?_|refine HG a1 1 HD ?_|refine HG a1 2 HD ?_|refine HG a1 3 HD ?_|fail)|refine bl a1 fun _=>?_|fail)
  refine df L [] (hw i z L hz hj) rfl hu rfl (bB rfl) rfl rfl fun c L1 ⟨hc,hj'⟩=>?_
  subst hc
  rw [List.append_nil]
  repeat' (first|refine go ?_|refine HF a1 F8 ?_)
  refine ay rfl (fun h2=>?_) (fun h2=>?_)
  ·have h2':=Hy h2
   repeat' (first|refine go ?_|refine HF a1 F8 ?_)
   refine HT HA ?_
   rw [he,cP hil h2']
   rfl
  ·have h2':=Decidable.not_not.1 (Hx h2)
   repeat' (first|refine go ?_|refine HF a1 F8 ?_|(apply aZ;refine aY ?_)|fail)
   exact aF (i+1,L1) rfl ⟨by rw [Hv];rfl,trivial⟩ ⟨by dsimp only;omega,hj' h2',by rw [he];exact cy hil h2'⟩ (by dsimp only;omega) (fun _ _ h=>h)
 ·have hil:i=l.length:=by have:=Hx h;simp at this;omega
  subst hil
  repeat' (first|refine go ?_|refine HF a1 F8 ?_)
  refine HT HA ?_
  rw [he,Nat.sub_self]
  rfl
theorem Dj {g:FuncId} {caps:List AV} {u:AV} [bK Tryz.prog g] (hu:jL u=some (g,caps)) (l:List f0) (most:Int) (err:Nat→Int) (J:Nat→AL→Prop) (L0:AL) (h0:J 0 L0) (hw:(l.length:Int)≤most→∀i x L,l[i]?=some x→J i L→AC Tryz.prog g ([aH i,.agg (dJ x)]++caps) L fun c L'=>c=aH (err i)∧(err i=0→J (i+1) L')):
  AC Tryz.prog 168 [.iptr [.imm 2 (l.map dJ)],.iptr [aH most],.iptr [u]] L0 fun r _=>r=ct (d6 most err l.length):=by
 refine aT Tryz.func168 rfl Tryz.ntmps168 rfl fun B=>?_
 repeat' (first|refine go ?_|refine HF a1 F8 ?_)
 refine ay rfl (fun h=>?_) (fun h=>?_)
 ·have h':=Hy h
  rw [Hu] at h'
  repeat' (first|refine go ?_|refine HF a1 F8 ?_)
  refine HT HA ?_
  unfold d6
  rw [if_pos h']
  rfl
 ·have h':=Hx h
  rw [Hu] at h'
  repeat' (first|refine go ?_|refine HF a1 F8 ?_)
  refine bb L0 [] (CD hu l err J L0 h0 (hw (by omega))) rfl (fm hu) (bB rfl) rfl fun c L1 hc=>?_
  subst hc
  repeat' (first|refine go ?_|refine HF a1 F8 ?_)
  refine HT HA ?_
  unfold d6
  rw [if_neg h']
  rfl
theorem GF {g:FuncId} {caps:List AV} (l:List f0) (most:Int):bM Tryz.prog 90 [.imm 2 (l.map dJ),aH most,.fn g caps] (.fn 168 [.iptr [.imm 2 (l.map dJ)],.iptr [aH most],.iptr [.fn g caps]]):=by
 refine aT Tryz.func90 rfl Tryz.ntmps90 rfl fun B=>?_
 repeat' (first|refine go ?_|refine HF a1 F8 ?_|refine bC ?_|fail)
 exact HP HA
instance {g:FuncId} {caps:List AV} (l:List f0) (most:Int):AD Tryz.prog 90 [.imm 2 (l.map dJ),aH most,.fn g caps] (.fn 168 [.iptr [.imm 2 (l.map dJ)],.iptr [aH most],.iptr [.fn g caps]]):=⟨GF l most⟩
theorem CE {g:FuncId} {caps:List AV} {u:AV} [bK Tryz.prog g] (hu:jL u=some (g,caps)) (l:List aP) (err:Nat→Int) (J:Nat→AL→Prop) (L0:AL) (h0:J 0 L0) (hw:∀i x L,l[i]?=some x→J i L→AC Tryz.prog g ([aH i,.agg (bF x)]++caps) L fun c L'=>c=aH (err i)∧(err i=0→J (i+1) L')):
  AC Tryz.prog 171 [.imm 3 (l.map bF),u] L0 fun r _=>r=ct (dk err l.length):=by
 refine aT Tryz.func171 rfl Tryz.ntmps171 rfl fun B=>?_
 refine cF 0 rfl rfl fun hlen=>?_
 rw [Hu] at hlen
 repeat' (first|refine go ?_|refine ak ?_|refine HF a1 F8 ?_)
 refine aR [1,9,10] (α:=Nat×AL) (fun i=>[(11,aH i.1)]) (fun i=>i.1≤l.length∧J i.1 i.2∧dk err l.length=da err (l.length - i.1) i.1) (fun i=>i.2) (fun i=>l.length - i.1) (0,L0) rfl ⟨rfl,trivial⟩ ⟨Nat.zero_le _,h0,rfl⟩ (fun _ _ h=>h) ?_
 rintro ⟨i,L⟩ ⟨hi,hj,he⟩
 dsimp only at hi hj he ⊢
 try dsimp only [Hs,Hr,Hq,Hl]
 repeat' (first|refine go ?_|refine HF a1 F8 ?_)
 refine ay rfl (fun h=>?_) (fun h=>?_)
 ·have hil:i < l.length:=by have:=Hy h;simp at this;omega
  obtain ⟨z,hz⟩:∃z,l[i]?=some z:=⟨_,Hz hil⟩
  have hzg:=bA (c:=bF) hz
  repeat' (first|refine go ?_|refine ak ?_|refine HF a1 F8 ?_|(apply aX;first|refine aU a1 ?_|refine aK a1 ?_)|(apply aQ;first|refine HH 7 a1 0 HE ?_|refine HH 7 a1 1 HE ?_|refine HH 7 a1 2 HE ?_|refine HG a1 0 HD ?_|refine HG a1 1 HD ?_|refine HG a1 2 HD ?_|refine HG a1 3 HD ?_|fail)|refine bl a1 fun _=>?_|fail)
  refine df L [] (hw i z L hz hj) rfl hu rfl (bB rfl) rfl rfl fun c L1 ⟨hc,hj'⟩=>?_
  subst hc
  rw [List.append_nil]
  repeat' (first|refine go ?_|refine HF a1 F8 ?_)
  refine ay rfl (fun h2=>?_) (fun h2=>?_)
  ·have h2':=Hy h2
   repeat' (first|refine go ?_|refine HF a1 F8 ?_)
   refine HT HA ?_
   rw [he,cP hil h2']
   rfl
  ·have h2':=Decidable.not_not.1 (Hx h2)
   repeat' (first|refine go ?_|refine HF a1 F8 ?_|(apply aZ;refine aY ?_)|fail)
   exact aF (i+1,L1) rfl ⟨by rw [Hv];rfl,trivial⟩ ⟨by dsimp only;omega,hj' h2',by rw [he];exact cy hil h2'⟩ (by dsimp only;omega) (fun _ _ h=>h)
 ·have hil:i=l.length:=by have:=Hx h;simp at this;omega
  subst hil
  repeat' (first|refine go ?_|refine HF a1 F8 ?_)
  refine HT HA ?_
  rw [he,Nat.sub_self]
  rfl
theorem Dk {g:FuncId} {caps:List AV} {u:AV} [bK Tryz.prog g] (hu:jL u=some (g,caps)) (l:List aP) (most:Int) (err:Nat→Int) (J:Nat→AL→Prop) (L0:AL) (h0:J 0 L0) (hw:(l.length:Int)≤most→∀i x L,l[i]?=some x→J i L→AC Tryz.prog g ([aH i,.agg (bF x)]++caps) L fun c L'=>c=aH (err i)∧(err i=0→J (i+1) L')):
  AC Tryz.prog 170 [.iptr [.imm 3 (l.map bF)],.iptr [aH most],.iptr [u]] L0 fun r _=>r=ct (d6 most err l.length):=by
 refine aT Tryz.func170 rfl Tryz.ntmps170 rfl fun B=>?_
 repeat' (first|refine go ?_|refine HF a1 F8 ?_)
 refine ay rfl (fun h=>?_) (fun h=>?_)
 ·have h':=Hy h
  rw [Hu] at h'
  repeat' (first|refine go ?_|refine HF a1 F8 ?_)
  refine HT HA ?_
  unfold d6
  rw [if_pos h']
  rfl
 ·have h':=Hx h
  rw [Hu] at h'
  repeat' (first|refine go ?_|refine HF a1 F8 ?_)
  refine bb L0 [] (CE hu l err J L0 h0 (hw (by omega))) rfl (fm hu) (bB rfl) rfl fun c L1 hc=>?_
  subst hc
  repeat' (first|refine go ?_|refine HF a1 F8 ?_)
  refine HT HA ?_
  unfold d6
  rw [if_neg h']
  rfl
theorem GG {g:FuncId} {caps:List AV} (l:List aP) (most:Int):bM Tryz.prog 93 [.imm 3 (l.map bF),aH most,.fn g caps] (.fn 170 [.iptr [.imm 3 (l.map bF)],.iptr [aH most],.iptr [.fn g caps]]):=by
 refine aT Tryz.func93 rfl Tryz.ntmps93 rfl fun B=>?_
 repeat' (first|refine go ?_|refine HF a1 F8 ?_|refine bC ?_|fail)
 exact HP HA
instance {g:FuncId} {caps:List AV} (l:List aP) (most:Int):AD Tryz.prog 93 [.imm 3 (l.map bF),aH most,.fn g caps] (.fn 170 [.iptr [.imm 3 (l.map bF)],.iptr [aH most],.iptr [.fn g caps]]):=⟨GG l most⟩
theorem CF {g:FuncId} {caps:List AV} {u:AV} [bK Tryz.prog g] (hu:jL u=some (g,caps)) (l:List bv) (err:Nat→Int) (J:Nat→AL→Prop) (L0:AL) (h0:J 0 L0) (hw:∀i x L,l[i]?=some x→J i L→AC Tryz.prog g ([aH i,.agg (bJ x)]++caps) L fun c L'=>c=aH (err i)∧(err i=0→J (i+1) L')):
  AC Tryz.prog 175 [.imm 6 (l.map bJ),u] L0 fun r _=>r=ct (dk err l.length):=by
 refine aT Tryz.func175 rfl Tryz.ntmps175 rfl fun B=>?_
 refine cF 0 rfl rfl fun hlen=>?_
 rw [Hu] at hlen
 repeat' (first|refine go ?_|refine ak ?_|refine HF a1 F8 ?_)
 refine aR [1,9,10] (α:=Nat×AL) (fun i=>[(11,aH i.1)]) (fun i=>i.1≤l.length∧J i.1 i.2∧dk err l.length=da err (l.length - i.1) i.1) (fun i=>i.2) (fun i=>l.length - i.1) (0,L0) rfl ⟨rfl,trivial⟩ ⟨Nat.zero_le _,h0,rfl⟩ (fun _ _ h=>h) ?_
 rintro ⟨i,L⟩ ⟨hi,hj,he⟩
 dsimp only at hi hj he ⊢
 try dsimp only [Hs,Hr,Hq,Hl]
 repeat' (first|refine go ?_|refine HF a1 F8 ?_)
 refine ay rfl (fun h=>?_) (fun h=>?_)
 ·have hil:i < l.length:=by have:=Hy h;simp at this;omega
  obtain ⟨z,hz⟩:∃z,l[i]?=some z:=⟨_,Hz hil⟩
  have hzg:=bA (c:=bJ) hz
  repeat' (first|refine go ?_|refine ak ?_|refine HF a1 F8 ?_|(apply aX;first|refine aU a1 ?_|refine aK a1 ?_)|(apply aQ;first|refine HH 7 a1 0 HE ?_|refine HH 7 a1 1 HE ?_|refine HH 7 a1 2 HE ?_|refine HG a1 0 HD ?_|refine HG a1 1 HD ?_|refine HG a1 2 HD ?_|refine HG a1 3 HD ?_|fail)|refine bl a1 fun _=>?_|fail)
  refine df L [] (hw i z L hz hj) rfl hu rfl (bB rfl) rfl rfl fun c L1 ⟨hc,hj'⟩=>?_
  subst hc
  rw [List.append_nil]
  repeat' (first|refine go ?_|refine HF a1 F8 ?_)
  refine ay rfl (fun h2=>?_) (fun h2=>?_)
  ·have h2':=Hy h2
   repeat' (first|refine go ?_|refine HF a1 F8 ?_)
   refine HT HA ?_
   rw [he,cP hil h2']
   rfl
  ·have h2':=Decidable.not_not.1 (Hx h2)
   repeat' (first|refine go ?_|refine HF a1 F8 ?_|(apply aZ;refine aY ?_)|fail)
   exact aF (i+1,L1) rfl ⟨by rw [Hv];rfl,trivial⟩ ⟨by dsimp only;omega,hj' h2',by rw [he];exact cy hil h2'⟩ (by dsimp only;omega) (fun _ _ h=>h)
 ·have hil:i=l.length:=by have:=Hx h;simp at this;omega
  subst hil
  repeat' (first|refine go ?_|refine HF a1 F8 ?_)
  refine HT HA ?_
  rw [he,Nat.sub_self]
  rfl
theorem CG {g:FuncId} {caps:List AV} {u:AV} [bK Tryz.prog g] (hu:jL u=some (g,caps)) (l:List bV) (err:Nat→Int) (J:Nat→AL→Prop) (L0:AL) (h0:J 0 L0) (hw:∀i x L,l[i]?=some x→J i L→AC Tryz.prog g ([aH i,.agg (c8 x)]++caps) L fun c L'=>c=aH (err i)∧(err i=0→J (i+1) L')):
  AC Tryz.prog 179 [.imm 2 (l.map c8),u] L0 fun r _=>r=ct (dk err l.length):=by
 refine aT Tryz.func179 rfl Tryz.ntmps179 rfl fun B=>?_
 refine cF 0 rfl rfl fun hlen=>?_
 rw [Hu] at hlen
 repeat' (first|refine go ?_|refine ak ?_|refine HF a1 F8 ?_)
 refine aR [1,9,10] (α:=Nat×AL) (fun i=>[(11,aH i.1)]) (fun i=>i.1≤l.length∧J i.1 i.2∧dk err l.length=da err (l.length - i.1) i.1) (fun i=>i.2) (fun i=>l.length - i.1) (0,L0) rfl ⟨rfl,trivial⟩ ⟨Nat.zero_le _,h0,rfl⟩ (fun _ _ h=>h) ?_
 rintro ⟨i,L⟩ ⟨hi,hj,he⟩
 dsimp only at hi hj he ⊢
 try dsimp only [Hs,Hr,Hq,Hl]
 repeat' (first|refine go ?_|refine HF a1 F8 ?_)
 refine ay rfl (fun h=>?_) (fun h=>?_)
 ·have hil:i < l.length:=by have:=Hy h;simp at this;omega
  obtain ⟨z,hz⟩:∃z,l[i]?=some z:=⟨_,Hz hil⟩
  have hzg:=bA (c:=c8) hz
  repeat' (first|refine go ?_|refine ak ?_|refine HF a1 F8 ?_|(apply aX;first|refine aU a1 ?_|refine aK a1 ?_)|(apply aQ;first|refine HH 7 a1 0 HE ?_|refine HH 7 a1 1 HE ?_|refine HH 7 a1 2 HE ?_|refine HG a1 0 HD ?_|refine HG a1 1 HD ?_|refine HG a1 2 HD ?_|refine HG a1 3 HD ?_|fail)|refine bl a1 fun _=>?_|fail)
  refine df L [] (hw i z L hz hj) rfl hu rfl (bB rfl) rfl rfl fun c L1 ⟨hc,hj'⟩=>?_
  subst hc
  rw [List.append_nil]
  repeat' (first|refine go ?_|refine HF a1 F8 ?_)
  refine ay rfl (fun h2=>?_) (fun h2=>?_)
  ·have h2':=Hy h2
   repeat' (first|refine go ?_|refine HF a1 F8 ?_)
   refine HT HA ?_
   rw [he,cP hil h2']
   rfl
  ·have h2':=Decidable.not_not.1 (Hx h2)
   repeat' (first|refine go ?_|refine HF a1 F8 ?_|(apply aZ;refine aY ?_)|fail)
   exact aF (i+1,L1) rfl ⟨by rw [Hv];rfl,trivial⟩ ⟨by dsimp only;omega,hj' h2',by rw [he];exact cy hil h2'⟩ (by dsimp only;omega) (fun _ _ h=>h)
 ·have hil:i=l.length:=by have:=Hx h;simp at this;omega
  subst hil
  repeat' (first|refine go ?_|refine HF a1 F8 ?_)
  refine HT HA ?_
  rw [he,Nat.sub_self]
  rfl
theorem Dl {g:FuncId} {caps:List AV} {u:AV} [bK Tryz.prog g] (hu:jL u=some (g,caps)) (l:List bV) (most:Int) (err:Nat→Int) (J:Nat→AL→Prop) (L0:AL) (h0:J 0 L0) (hw:(l.length:Int)≤most→∀i x L,l[i]?=some x→J i L→AC Tryz.prog g ([aH i,.agg (c8 x)]++caps) L fun c L'=>c=aH (err i)∧(err i=0→J (i+1) L')):
  AC Tryz.prog 178 [.iptr [.imm 2 (l.map c8)],.iptr [aH most],.iptr [u]] L0 fun r _=>r=ct (d6 most err l.length):=by
 refine aT Tryz.func178 rfl Tryz.ntmps178 rfl fun B=>?_
 repeat' (first|refine go ?_|refine HF a1 F8 ?_)
 refine ay rfl (fun h=>?_) (fun h=>?_)
 ·have h':=Hy h
  rw [Hu] at h'
  repeat' (first|refine go ?_|refine HF a1 F8 ?_)
  refine HT HA ?_
  unfold d6
  rw [if_pos h']
  rfl
 ·have h':=Hx h
  rw [Hu] at h'
  repeat' (first|refine go ?_|refine HF a1 F8 ?_)
  refine bb L0 [] (CG hu l err J L0 h0 (hw (by omega))) rfl (fm hu) (bB rfl) rfl fun c L1 hc=>?_
  subst hc
  repeat' (first|refine go ?_|refine HF a1 F8 ?_)
  refine HT HA ?_
  unfold d6
  rw [if_neg h']
  rfl
theorem GH {g:FuncId} {caps:List AV} (l:List bV) (most:Int):bM Tryz.prog 96 [.imm 2 (l.map c8),aH most,.fn g caps] (.fn 178 [.iptr [.imm 2 (l.map c8)],.iptr [aH most],.iptr [.fn g caps]]):=by
 refine aT Tryz.func96 rfl Tryz.ntmps96 rfl fun B=>?_
 repeat' (first|refine go ?_|refine HF a1 F8 ?_|refine bC ?_|fail)
 exact HP HA
instance {g:FuncId} {caps:List AV} (l:List bV) (most:Int):AD Tryz.prog 96 [.imm 2 (l.map c8),aH most,.fn g caps] (.fn 178 [.iptr [.imm 2 (l.map c8)],.iptr [aH most],.iptr [.fn g caps]]):=⟨GH l most⟩
theorem CH {g:FuncId} {caps:List AV} {u:AV} [bK Tryz.prog g] (hu:jL u=some (g,caps)) (l:List eu) (err:Nat→Int) (J:Nat→AL→Prop) (L0:AL) (h0:J 0 L0) (hw:∀i x L,l[i]?=some x→J i L→AC Tryz.prog g ([aH i,.agg (cO x)]++caps) L fun c L'=>c=aH (err i)∧(err i=0→J (i+1) L')):
  AC Tryz.prog 182 [.imm 4 (l.map cO),u] L0 fun r _=>r=ct (dk err l.length):=by
 refine aT Tryz.func182 rfl Tryz.ntmps182 rfl fun B=>?_
 refine cF 0 rfl rfl fun hlen=>?_
 rw [Hu] at hlen
 repeat' (first|refine go ?_|refine ak ?_|refine HF a1 F8 ?_)
 refine aR [1,9,10] (α:=Nat×AL) (fun i=>[(11,aH i.1)]) (fun i=>i.1≤l.length∧J i.1 i.2∧dk err l.length=da err (l.length - i.1) i.1) (fun i=>i.2) (fun i=>l.length - i.1) (0,L0) rfl ⟨rfl,trivial⟩ ⟨Nat.zero_le _,h0,rfl⟩ (fun _ _ h=>h) ?_
 rintro ⟨i,L⟩ ⟨hi,hj,he⟩
 dsimp only at hi hj he ⊢
 try dsimp only [Hs,Hr,Hq,Hl]
 repeat' (first|refine go ?_|refine HF a1 F8 ?_)
 refine ay rfl (fun h=>?_) (fun h=>?_)
 ·have hil:i < l.length:=by have:=Hy h;simp at this;omega
  obtain ⟨z,hz⟩:∃z,l[i]?=some z:=⟨_,Hz hil⟩
  have hzg:=bA (c:=cO) hz
  repeat' (first|refine go ?_|refine ak ?_|refine HF a1 F8 ?_|(apply aX;first|refine aU a1 ?_|refine aK a1 ?_)|(apply aQ;first|refine HH 7 a1 0 HE ?_|refine HH 7 a1 1 HE ?_|refine HH 7 a1 2 HE ?_|refine HG a1 0 HD ?_|refine HG a1 1 HD ?_|refine HG a1 2 HD ?_|refine HG a1 3 HD ?_|fail)|refine bl a1 fun _=>?_|fail)
  refine df L [] (hw i z L hz hj) rfl hu rfl (bB rfl) rfl rfl fun c L1 ⟨hc,hj'⟩=>?_
  subst hc
  rw [List.append_nil]
  repeat' (first|refine go ?_|refine HF a1 F8 ?_)
  refine ay rfl (fun h2=>?_) (fun h2=>?_)
  ·have h2':=Hy h2
   repeat' (first|refine go ?_|refine HF a1 F8 ?_)
   refine HT HA ?_
   rw [he,cP hil h2']
   rfl
  ·have h2':=Decidable.not_not.1 (Hx h2)
   repeat' (first|refine go ?_|refine HF a1 F8 ?_|(apply aZ;refine aY ?_)|fail)
   exact aF (i+1,L1) rfl ⟨by rw [Hv];rfl,trivial⟩ ⟨by dsimp only;omega,hj' h2',by rw [he];exact cy hil h2'⟩ (by dsimp only;omega) (fun _ _ h=>h)
 ·have hil:i=l.length:=by have:=Hx h;simp at this;omega
  subst hil
  repeat' (first|refine go ?_|refine HF a1 F8 ?_)
  refine HT HA ?_
  rw [he,Nat.sub_self]
  rfl
theorem Dm {g:FuncId} {caps:List AV} {u:AV} [bK Tryz.prog g] (hu:jL u=some (g,caps)) (l:List eu) (most:Int) (err:Nat→Int) (J:Nat→AL→Prop) (L0:AL) (h0:J 0 L0) (hw:(l.length:Int)≤most→∀i x L,l[i]?=some x→J i L→AC Tryz.prog g ([aH i,.agg (cO x)]++caps) L fun c L'=>c=aH (err i)∧(err i=0→J (i+1) L')):
  AC Tryz.prog 181 [.iptr [.imm 4 (l.map cO)],.iptr [aH most],.iptr [u]] L0 fun r _=>r=ct (d6 most err l.length):=by
 refine aT Tryz.func181 rfl Tryz.ntmps181 rfl fun B=>?_
 repeat' (first|refine go ?_|refine HF a1 F8 ?_)
 refine ay rfl (fun h=>?_) (fun h=>?_)
 ·have h':=Hy h
  rw [Hu] at h'
  repeat' (first|refine go ?_|refine HF a1 F8 ?_)
  refine HT HA ?_
  unfold d6
  rw [if_pos h']
  rfl
 ·have h':=Hx h
  rw [Hu] at h'
  repeat' (first|refine go ?_|refine HF a1 F8 ?_)
  refine bb L0 [] (CH hu l err J L0 h0 (hw (by omega))) rfl (fm hu) (bB rfl) rfl fun c L1 hc=>?_
  subst hc
  repeat' (first|refine go ?_|refine HF a1 F8 ?_)
  refine HT HA ?_
  unfold d6
  rw [if_neg h']
  rfl
theorem FT {g:FuncId} {caps:List AV} (l:List eu) (most:Int):bM Tryz.prog 100 [.imm 4 (l.map cO),aH most,.fn g caps] (.fn 181 [.iptr [.imm 4 (l.map cO)],.iptr [aH most],.iptr [.fn g caps]]):=by
 refine aT Tryz.func100 rfl Tryz.ntmps100 rfl fun B=>?_
 repeat' (first|refine go ?_|refine HF a1 F8 ?_|refine bC ?_|fail)
 exact HP HA
instance {g:FuncId} {caps:List AV} (l:List eu) (most:Int):AD Tryz.prog 100 [.imm 4 (l.map cO),aH most,.fn g caps] (.fn 181 [.iptr [.imm 4 (l.map cO)],.iptr [aH most],.iptr [.fn g caps]]):=⟨FT l most⟩
theorem CI {g:FuncId} {caps:List AV} {u:AV} [bK Tryz.prog g] (hu:jL u=some (g,caps)) (l:List (List eX)) (err:Nat→Int) (J:Nat→AL→Prop) (L0:AL) (h0:J 0 L0) (hw:∀i x L,l[i]?=some x→J i L→AC Tryz.prog g ([aH i,.agg (bT x)]++caps) L fun c L'=>c=aH (err i)∧(err i=0→J (i+1) L')):
  AC Tryz.prog 184 [.imm 1 (l.map bT),u] L0 fun r _=>r=ct (dk err l.length):=by
 refine aT Tryz.func184 rfl Tryz.ntmps184 rfl fun B=>?_
 refine cF 0 rfl rfl fun hlen=>?_
 rw [Hu] at hlen
 repeat' (first|refine go ?_|refine ak ?_|refine HF a1 F8 ?_)
 refine aR [1,9,10] (α:=Nat×AL) (fun i=>[(11,aH i.1)]) (fun i=>i.1≤l.length∧J i.1 i.2∧dk err l.length=da err (l.length - i.1) i.1) (fun i=>i.2) (fun i=>l.length - i.1) (0,L0) rfl ⟨rfl,trivial⟩ ⟨Nat.zero_le _,h0,rfl⟩ (fun _ _ h=>h) ?_
 rintro ⟨i,L⟩ ⟨hi,hj,he⟩
 dsimp only at hi hj he ⊢
 try dsimp only [Hs,Hr,Hq,Hl]
 repeat' (first|refine go ?_|refine HF a1 F8 ?_)
 refine ay rfl (fun h=>?_) (fun h=>?_)
 ·have hil:i < l.length:=by have:=Hy h;simp at this;omega
  obtain ⟨z,hz⟩:∃z,l[i]?=some z:=⟨_,Hz hil⟩
  have hzg:=bA (c:=bT) hz
  repeat' (first|refine go ?_|refine ak ?_|refine HF a1 F8 ?_|(apply aX;first|refine aU a1 ?_|refine aK a1 ?_)|(apply aQ;first|refine HH 7 a1 0 HE ?_|refine HH 7 a1 1 HE ?_|refine HH 7 a1 2 HE ?_|refine HG a1 0 HD ?_|refine HG a1 1 HD ?_|refine HG a1 2 HD ?_|refine HG a1 3 HD ?_|fail)|refine bl a1 fun _=>?_|fail)
  refine df L [] (hw i z L hz hj) rfl hu rfl (bB rfl) rfl rfl fun c L1 ⟨hc,hj'⟩=>?_
  subst hc
  rw [List.append_nil]
  repeat' (first|refine go ?_|refine HF a1 F8 ?_)
  refine ay rfl (fun h2=>?_) (fun h2=>?_)
  ·have h2':=Hy h2
   repeat' (first|refine go ?_|refine HF a1 F8 ?_)
   refine HT HA ?_
   rw [he,cP hil h2']
   rfl
  ·have h2':=Decidable.not_not.1 (Hx h2)
   repeat' (first|refine go ?_|refine HF a1 F8 ?_|(apply aZ;refine aY ?_)|fail)
   exact aF (i+1,L1) rfl ⟨by rw [Hv];rfl,trivial⟩ ⟨by dsimp only;omega,hj' h2',by rw [he];exact cy hil h2'⟩ (by dsimp only;omega) (fun _ _ h=>h)
 ·have hil:i=l.length:=by have:=Hx h;simp at this;omega
  subst hil
  repeat' (first|refine go ?_|refine HF a1 F8 ?_)
  refine HT HA ?_
  rw [he,Nat.sub_self]
  rfl
theorem Dn {g:FuncId} {caps:List AV} {u:AV} [bK Tryz.prog g] (hu:jL u=some (g,caps)) (l:List (List eX)) (most:Int) (err:Nat→Int) (J:Nat→AL→Prop) (L0:AL) (h0:J 0 L0) (hw:(l.length:Int)≤most→∀i x L,l[i]?=some x→J i L→AC Tryz.prog g ([aH i,.agg (bT x)]++caps) L fun c L'=>c=aH (err i)∧(err i=0→J (i+1) L')):
  AC Tryz.prog 183 [.iptr [.imm 1 (l.map bT)],.iptr [aH most],.iptr [u]] L0 fun r _=>r=ct (d6 most err l.length):=by
 refine aT Tryz.func183 rfl Tryz.ntmps183 rfl fun B=>?_
 repeat' (first|refine go ?_|refine HF a1 F8 ?_)
 refine ay rfl (fun h=>?_) (fun h=>?_)
 ·have h':=Hy h
  rw [Hu] at h'
  repeat' (first|refine go ?_|refine HF a1 F8 ?_)
  refine HT HA ?_
  unfold d6
  rw [if_pos h']
  rfl
 ·have h':=Hx h
  rw [Hu] at h'
  repeat' (first|refine go ?_|refine HF a1 F8 ?_)
  refine bb L0 [] (CI hu l err J L0 h0 (hw (by omega))) rfl (fm hu) (bB rfl) rfl fun c L1 hc=>?_
  subst hc
  repeat' (first|refine go ?_|refine HF a1 F8 ?_)
  refine HT HA ?_
  unfold d6
  rw [if_neg h']
  rfl
theorem FU {g:FuncId} {caps:List AV} (l:List (List eX)) (most:Int):bM Tryz.prog 103 [.imm 1 (l.map bT),aH most,.fn g caps] (.fn 183 [.iptr [.imm 1 (l.map bT)],.iptr [aH most],.iptr [.fn g caps]]):=by
 refine aT Tryz.func103 rfl Tryz.ntmps103 rfl fun B=>?_
 repeat' (first|refine go ?_|refine HF a1 F8 ?_|refine bC ?_|fail)
 exact HP HA
instance {g:FuncId} {caps:List AV} (l:List (List eX)) (most:Int):AD Tryz.prog 103 [.imm 1 (l.map bT),aH most,.fn g caps] (.fn 183 [.iptr [.imm 1 (l.map bT)],.iptr [aH most],.iptr [.fn g caps]]):=⟨FU l most⟩
theorem CJ {g:FuncId} {caps:List AV} {u:AV} [bK Tryz.prog g] (hu:jL u=some (g,caps)) (l:List eX) (err:Nat→Int) (J:Nat→AL→Prop) (L0:AL) (h0:J 0 L0) (hw:∀i x L,l[i]?=some x→J i L→AC Tryz.prog g ([aH i,.agg (kf x)]++caps) L fun c L'=>c=aH (err i)∧(err i=0→J (i+1) L')):
  AC Tryz.prog 185 [.imm 3 (l.map kf),u] L0 fun r _=>r=ct (dk err l.length):=by
 refine aT Tryz.func185 rfl Tryz.ntmps185 rfl fun B=>?_
 refine cF 0 rfl rfl fun hlen=>?_
 rw [Hu] at hlen
 repeat' (first|refine go ?_|refine ak ?_|refine HF a1 F8 ?_)
 refine aR [1,9,10] (α:=Nat×AL) (fun i=>[(11,aH i.1)]) (fun i=>i.1≤l.length∧J i.1 i.2∧dk err l.length=da err (l.length - i.1) i.1) (fun i=>i.2) (fun i=>l.length - i.1) (0,L0) rfl ⟨rfl,trivial⟩ ⟨Nat.zero_le _,h0,rfl⟩ (fun _ _ h=>h) ?_
 rintro ⟨i,L⟩ ⟨hi,hj,he⟩
 dsimp only at hi hj he ⊢
 try dsimp only [Hs,Hr,Hq,Hl]
 repeat' (first|refine go ?_|refine HF a1 F8 ?_)
 refine ay rfl (fun h=>?_) (fun h=>?_)
 ·have hil:i < l.length:=by have:=Hy h;simp at this;omega
  obtain ⟨z,hz⟩:∃z,l[i]?=some z:=⟨_,Hz hil⟩
  have hzg:=bA (c:=kf) hz
  repeat' (first|refine go ?_|refine ak ?_|refine HF a1 F8 ?_|(apply aX;first|refine aU a1 ?_|refine aK a1 ?_)|(apply aQ;first|refine HH 7 a1 0 HE ?_|refine HH 7 a1 1 HE ?_|refine HH 7 a1 2 HE ?_|refine HG a1 0 HD ?_|refine HG a1 1 HD ?_|refine HG a1 2 HD ?_|refine HG a1 3 HD ?_|fail)|refine bl a1 fun _=>?_|fail)
  refine df L [] (hw i z L hz hj) rfl hu rfl (bB rfl) rfl rfl fun c L1 ⟨hc,hj'⟩=>?_
  subst hc
  rw [List.append_nil]
  repeat' (first|refine go ?_|refine HF a1 F8 ?_)
  refine ay rfl (fun h2=>?_) (fun h2=>?_)
  ·have h2':=Hy h2
   repeat' (first|refine go ?_|refine HF a1 F8 ?_)
   refine HT HA ?_
   rw [he,cP hil h2']
   rfl
  ·have h2':=Decidable.not_not.1 (Hx h2)
   repeat' (first|refine go ?_|refine HF a1 F8 ?_|(apply aZ;refine aY ?_)|fail)
   exact aF (i+1,L1) rfl ⟨by rw [Hv];rfl,trivial⟩ ⟨by dsimp only;omega,hj' h2',by rw [he];exact cy hil h2'⟩ (by dsimp only;omega) (fun _ _ h=>h)
 ·have hil:i=l.length:=by have:=Hx h;simp at this;omega
  subst hil
  repeat' (first|refine go ?_|refine HF a1 F8 ?_)
  refine HT HA ?_
  rw [he,Nat.sub_self]
  rfl
theorem CK {g:FuncId} {caps:List AV} {u:AV} [bK Tryz.prog g] (hu:jL u=some (g,caps)) (l:List (List fT)) (err:Nat→Int) (J:Nat→AL→Prop) (L0:AL) (h0:J 0 L0) (hw:∀i x L,l[i]?=some x→J i L→AC Tryz.prog g ([aH i,.imm 2 (x.map eU)]++caps) L fun c L'=>c=aH (err i)∧(err i=0→J (i+1) L')):
  AC Tryz.prog 188 [.imm 1 (l.map dE),u] L0 fun r _=>r=ct (dk err l.length):=by
 refine aT Tryz.func188 rfl Tryz.ntmps188 rfl fun B=>?_
 refine cF 0 rfl rfl fun hlen=>?_
 rw [Hu] at hlen
 repeat' (first|refine go ?_|refine ak ?_|refine HF a1 F8 ?_)
 refine aR [1,9,10] (α:=Nat×AL) (fun i=>[(11,aH i.1)]) (fun i=>i.1≤l.length∧J i.1 i.2∧dk err l.length=da err (l.length - i.1) i.1) (fun i=>i.2) (fun i=>l.length - i.1) (0,L0) rfl ⟨rfl,trivial⟩ ⟨Nat.zero_le _,h0,rfl⟩ (fun _ _ h=>h) ?_
 rintro ⟨i,L⟩ ⟨hi,hj,he⟩
 dsimp only at hi hj he ⊢
 try dsimp only [Hs,Hr,Hq,Hl]
 repeat' (first|refine go ?_|refine HF a1 F8 ?_)
 refine ay rfl (fun h=>?_) (fun h=>?_)
 ·have hil:i < l.length:=by have:=Hy h;simp at this;omega
  obtain ⟨z,hz⟩:∃z,l[i]?=some z:=⟨_,Hz hil⟩
  have hzg:=bA (c:=dE) hz
  repeat' (first|refine go ?_|refine ak ?_|refine HF a1 F8 ?_|(apply aX;first|refine aU a1 ?_|refine aK a1 ?_)|fail)
  refine df L [] (hw i z L hz hj) rfl hu rfl (bB rfl) rfl rfl fun c L1 ⟨hc,hj'⟩=>?_
  subst hc
  rw [List.append_nil]
  repeat' (first|refine go ?_|refine HF a1 F8 ?_)
  refine ay rfl (fun h2=>?_) (fun h2=>?_)
  ·have h2':=Hy h2
   repeat' (first|refine go ?_|refine HF a1 F8 ?_)
   refine HT HA ?_
   rw [he,cP hil h2']
   rfl
  ·have h2':=Decidable.not_not.1 (Hx h2)
   repeat' (first|refine go ?_|refine HF a1 F8 ?_|(apply aZ;refine aY ?_)|fail)
   exact aF (i+1,L1) rfl ⟨by rw [Hv];rfl,trivial⟩ ⟨by dsimp only;omega,hj' h2',by rw [he];exact cy hil h2'⟩ (by dsimp only;omega) (fun _ _ h=>h)
 ·have hil:i=l.length:=by have:=Hx h;simp at this;omega
  subst hil
  repeat' (first|refine go ?_|refine HF a1 F8 ?_)
  refine HT HA ?_
  rw [he,Nat.sub_self]
  rfl
theorem Do {g:FuncId} {caps:List AV} {u:AV} [bK Tryz.prog g] (hu:jL u=some (g,caps)) (l:List (List fT)) (most:Int) (err:Nat→Int) (J:Nat→AL→Prop) (L0:AL) (h0:J 0 L0) (hw:(l.length:Int)≤most→∀i x L,l[i]?=some x→J i L→AC Tryz.prog g ([aH i,.imm 2 (x.map eU)]++caps) L fun c L'=>c=aH (err i)∧(err i=0→J (i+1) L')):
  AC Tryz.prog 187 [.iptr [.imm 1 (l.map dE)],.iptr [aH most],.iptr [u]] L0 fun r _=>r=ct (d6 most err l.length):=by
 refine aT Tryz.func187 rfl Tryz.ntmps187 rfl fun B=>?_
 repeat' (first|refine go ?_|refine HF a1 F8 ?_)
 refine ay rfl (fun h=>?_) (fun h=>?_)
 ·have h':=Hy h
  rw [Hu] at h'
  repeat' (first|refine go ?_|refine HF a1 F8 ?_)
  refine HT HA ?_
  unfold d6
  rw [if_pos h']
  rfl
 ·have h':=Hx h
  rw [Hu] at h'
  repeat' (first|refine go ?_|refine HF a1 F8 ?_)
  refine bb L0 [] (CK hu l err J L0 h0 (hw (by omega))) rfl (fm hu) (bB rfl) rfl fun c L1 hc=>?_
  subst hc
  repeat' (first|refine go ?_|refine HF a1 F8 ?_)
  refine HT HA ?_
  unfold d6
  rw [if_neg h']
  rfl
theorem EN {g:FuncId} (l:List (List fT)) (most:Int):bM Tryz.prog 106 [.imm 1 (l.map dE),aH most,.sc (.func (.func g) #[] #[])] (.fn 187 [.iptr [.imm 1 (l.map dE)],.iptr [aH most],.iptr [.sc (.func (.func g) #[] #[])]]):=by
 refine aT Tryz.func106 rfl Tryz.ntmps106 rfl fun B=>?_
 repeat' (first|refine go ?_|refine HF a1 F8 ?_|refine bC ?_|fail)
 exact HP HA
instance {g:FuncId} (l:List (List fT)) (most:Int):AD Tryz.prog 106 [.imm 1 (l.map dE),aH most,.sc (.func (.func g) #[] #[])] (.fn 187 [.iptr [.imm 1 (l.map dE)],.iptr [aH most],.iptr [.sc (.func (.func g) #[] #[])]]):=⟨EN l most⟩
theorem CL {g:FuncId} {caps:List AV} {u:AV} [bK Tryz.prog g] (hu:jL u=some (g,caps)) (l:List eB) (err:Nat→Int) (J:Nat→AL→Prop) (L0:AL) (h0:J 0 L0) (hw:∀i x L,l[i]?=some x→J i L→AC Tryz.prog g ([aH i,.agg (dA x)]++caps) L fun c L'=>c=aH (err i)∧(err i=0→J (i+1) L')):
  AC Tryz.prog 222 [.imm 3 (l.map dA),u] L0 fun r _=>r=ct (dk err l.length):=by
 refine aT Tryz.func222 rfl Tryz.ntmps222 rfl fun B=>?_
 refine cF 0 rfl rfl fun hlen=>?_
 rw [Hu] at hlen
 repeat' (first|refine go ?_|refine ak ?_|refine HF a1 F8 ?_)
 refine aR [1,9,10] (α:=Nat×AL) (fun i=>[(11,aH i.1)]) (fun i=>i.1≤l.length∧J i.1 i.2∧dk err l.length=da err (l.length - i.1) i.1) (fun i=>i.2) (fun i=>l.length - i.1) (0,L0) rfl ⟨rfl,trivial⟩ ⟨Nat.zero_le _,h0,rfl⟩ (fun _ _ h=>h) ?_
 rintro ⟨i,L⟩ ⟨hi,hj,he⟩
 dsimp only at hi hj he ⊢
 try dsimp only [Hs,Hr,Hq,Hl]
 repeat' (first|refine go ?_|refine HF a1 F8 ?_)
 refine ay rfl (fun h=>?_) (fun h=>?_)
 ·have hil:i < l.length:=by have:=Hy h;simp at this;omega
  obtain ⟨z,hz⟩:∃z,l[i]?=some z:=⟨_,Hz hil⟩
  have hzg:=bA (c:=dA) hz
  repeat' (first|refine go ?_|refine ak ?_|refine HF a1 F8 ?_|(apply aX;first|refine aU a1 ?_|refine aK a1 ?_)|(apply aQ;first|refine HH 7 a1 0 HE ?_|refine HH 7 a1 1 HE ?_|refine HH 7 a1 2 HE ?_|refine HG a1 0 HD ?_|refine HG a1 1 HD ?_|refine HG a1 2 HD ?_|refine HG a1 3 HD ?_|fail)|refine bl a1 fun _=>?_|fail)
  refine df L [] (hw i z L hz hj) rfl hu rfl (bB rfl) rfl rfl fun c L1 ⟨hc,hj'⟩=>?_
  subst hc
  rw [List.append_nil]
  repeat' (first|refine go ?_|refine HF a1 F8 ?_)
  refine ay rfl (fun h2=>?_) (fun h2=>?_)
  ·have h2':=Hy h2
   repeat' (first|refine go ?_|refine HF a1 F8 ?_)
   refine HT HA ?_
   rw [he,cP hil h2']
   rfl
  ·have h2':=Decidable.not_not.1 (Hx h2)
   repeat' (first|refine go ?_|refine HF a1 F8 ?_|(apply aZ;refine aY ?_)|fail)
   exact aF (i+1,L1) rfl ⟨by rw [Hv];rfl,trivial⟩ ⟨by dsimp only;omega,hj' h2',by rw [he];exact cy hil h2'⟩ (by dsimp only;omega) (fun _ _ h=>h)
 ·have hil:i=l.length:=by have:=Hx h;simp at this;omega
  subst hil
  repeat' (first|refine go ?_|refine HF a1 F8 ?_)
  refine HT HA ?_
  rw [he,Nat.sub_self]
  rfl
theorem CM {g:FuncId} {caps:List AV} {u:AV} [bK Tryz.prog g] (hu:jL u=some (g,caps)) (l:List cX) (err:Nat→Int) (J:Nat→AL→Prop) (L0:AL) (h0:J 0 L0) (hw:∀i x L,l[i]?=some x→J i L→AC Tryz.prog g ([aH i,.agg (dW x)]++caps) L fun c L'=>c=aH (err i)∧(err i=0→J (i+1) L')):
  AC Tryz.prog 226 [.imm 3 (l.map dW),u] L0 fun r _=>r=ct (dk err l.length):=by
 refine aT Tryz.func226 rfl Tryz.ntmps226 rfl fun B=>?_
 refine cF 0 rfl rfl fun hlen=>?_
 rw [Hu] at hlen
 repeat' (first|refine go ?_|refine ak ?_|refine HF a1 F8 ?_)
 refine aR [1,9,10] (α:=Nat×AL) (fun i=>[(11,aH i.1)]) (fun i=>i.1≤l.length∧J i.1 i.2∧dk err l.length=da err (l.length - i.1) i.1) (fun i=>i.2) (fun i=>l.length - i.1) (0,L0) rfl ⟨rfl,trivial⟩ ⟨Nat.zero_le _,h0,rfl⟩ (fun _ _ h=>h) ?_
 rintro ⟨i,L⟩ ⟨hi,hj,he⟩
 dsimp only at hi hj he ⊢
 try dsimp only [Hs,Hr,Hq,Hl]
 repeat' (first|refine go ?_|refine HF a1 F8 ?_)
 refine ay rfl (fun h=>?_) (fun h=>?_)
 ·have hil:i < l.length:=by have:=Hy h;simp at this;omega
  obtain ⟨z,hz⟩:∃z,l[i]?=some z:=⟨_,Hz hil⟩
  have hzg:=bA (c:=dW) hz
  repeat' (first|refine go ?_|refine ak ?_|refine HF a1 F8 ?_|(apply aX;first|refine aU a1 ?_|refine aK a1 ?_)|(apply aQ;first|refine HH 7 a1 0 HE ?_|refine HH 7 a1 1 HE ?_|refine HH 7 a1 2 HE ?_|refine HG a1 0 HD ?_|refine HG a1 1 HD ?_|refine HG a1 2 HD ?_|refine HG a1 3 HD ?_|fail)|refine bl a1 fun _=>?_|fail)
  refine df L [] (hw i z L hz hj) rfl hu rfl (bB rfl) rfl rfl fun c L1 ⟨hc,hj'⟩=>?_
  subst hc
  rw [List.append_nil]
  repeat' (first|refine go ?_|refine HF a1 F8 ?_)
  refine ay rfl (fun h2=>?_) (fun h2=>?_)
  ·have h2':=Hy h2
   repeat' (first|refine go ?_|refine HF a1 F8 ?_)
   refine HT HA ?_
   rw [he,cP hil h2']
   rfl
  ·have h2':=Decidable.not_not.1 (Hx h2)
   repeat' (first|refine go ?_|refine HF a1 F8 ?_|(apply aZ;refine aY ?_)|fail)
   exact aF (i+1,L1) rfl ⟨by rw [Hv];rfl,trivial⟩ ⟨by dsimp only;omega,hj' h2',by rw [he];exact cy hil h2'⟩ (by dsimp only;omega) (fun _ _ h=>h)
 ·have hil:i=l.length:=by have:=Hx h;simp at this;omega
  subst hil
  repeat' (first|refine go ?_|refine HF a1 F8 ?_)
  refine HT HA ?_
  rw [he,Nat.sub_self]
  rfl
theorem Dq {g:FuncId} {caps:List AV} {u:AV} [bK Tryz.prog g] (hu:jL u=some (g,caps)) (l:List cX) (most:Int) (err:Nat→Int) (J:Nat→AL→Prop) (L0:AL) (h0:J 0 L0) (hw:(l.length:Int)≤most→∀i x L,l[i]?=some x→J i L→AC Tryz.prog g ([aH i,.agg (dW x)]++caps) L fun c L'=>c=aH (err i)∧(err i=0→J (i+1) L')):
  AC Tryz.prog 225 [.iptr [.imm 3 (l.map dW)],.iptr [aH most],.iptr [u]] L0 fun r _=>r=ct (d6 most err l.length):=by
 refine aT Tryz.func225 rfl Tryz.ntmps225 rfl fun B=>?_
 repeat' (first|refine go ?_|refine HF a1 F8 ?_)
 refine ay rfl (fun h=>?_) (fun h=>?_)
 ·have h':=Hy h
  rw [Hu] at h'
  repeat' (first|refine go ?_|refine HF a1 F8 ?_)
  refine HT HA ?_
  unfold d6
  rw [if_pos h']
  rfl
 ·have h':=Hx h
  rw [Hu] at h'
  repeat' (first|refine go ?_|refine HF a1 F8 ?_)
  refine bb L0 [] (CM hu l err J L0 h0 (hw (by omega))) rfl (fm hu) (bB rfl) rfl fun c L1 hc=>?_
  subst hc
  repeat' (first|refine go ?_|refine HF a1 F8 ?_)
  refine HT HA ?_
  unfold d6
  rw [if_neg h']
  rfl
theorem FV {g:FuncId} {caps:List AV} (l:List cX) (most:Int):bM Tryz.prog 153 [.imm 3 (l.map dW),aH most,.fn g caps] (.fn 225 [.iptr [.imm 3 (l.map dW)],.iptr [aH most],.iptr [.fn g caps]]):=by
 refine aT Tryz.func153 rfl Tryz.ntmps153 rfl fun B=>?_
 repeat' (first|refine go ?_|refine HF a1 F8 ?_|refine bC ?_|fail)
 exact HP HA
instance {g:FuncId} {caps:List AV} (l:List cX) (most:Int):AD Tryz.prog 153 [.imm 3 (l.map dW),aH most,.fn g caps] (.fn 225 [.iptr [.imm 3 (l.map dW)],.iptr [aH most],.iptr [.fn g caps]]):=⟨FV l most⟩
theorem CN {g:FuncId} {caps:List AV} {u:AV} [bK Tryz.prog g] (hu:jL u=some (g,caps)) (l:List dz) (err:Nat→Int) (J:Nat→AL→Prop) (L0:AL) (h0:J 0 L0) (hw:∀i x L,l[i]?=some x→J i L→AC Tryz.prog g ([aH i,.agg (d9 x)]++caps) L fun c L'=>c=aH (err i)∧(err i=0→J (i+1) L')):
  AC Tryz.prog 228 [.imm 4 (l.map d9),u] L0 fun r _=>r=ct (dk err l.length):=by
 refine aT Tryz.func228 rfl Tryz.ntmps228 rfl fun B=>?_
 refine cF 0 rfl rfl fun hlen=>?_
 rw [Hu] at hlen
 repeat' (first|refine go ?_|refine ak ?_|refine HF a1 F8 ?_)
 refine aR [1,9,10] (α:=Nat×AL) (fun i=>[(11,aH i.1)]) (fun i=>i.1≤l.length∧J i.1 i.2∧dk err l.length=da err (l.length - i.1) i.1) (fun i=>i.2) (fun i=>l.length - i.1) (0,L0) rfl ⟨rfl,trivial⟩ ⟨Nat.zero_le _,h0,rfl⟩ (fun _ _ h=>h) ?_
 rintro ⟨i,L⟩ ⟨hi,hj,he⟩
 dsimp only at hi hj he ⊢
 try dsimp only [Hs,Hr,Hq,Hl]
 repeat' (first|refine go ?_|refine HF a1 F8 ?_)
 refine ay rfl (fun h=>?_) (fun h=>?_)
 ·have hil:i < l.length:=by have:=Hy h;simp at this;omega
  obtain ⟨z,hz⟩:∃z,l[i]?=some z:=⟨_,Hz hil⟩
  have hzg:=bA (c:=d9) hz
  repeat' (first|refine go ?_|refine ak ?_|refine HF a1 F8 ?_|(apply aX;first|refine aU a1 ?_|refine aK a1 ?_)|(apply aQ;first|refine HH 7 a1 0 HE ?_|refine HH 7 a1 1 HE ?_|refine HH 7 a1 2 HE ?_|refine HG a1 0 HD ?_|refine HG a1 1 HD ?_|refine HG a1 2 HD ?_|refine HG a1 3 HD ?_|fail)|refine bl a1 fun _=>?_|fail)
  refine df L [] (hw i z L hz hj) rfl hu rfl (bB rfl) rfl rfl fun c L1 ⟨hc,hj'⟩=>?_
  subst hc
  rw [List.append_nil]
  repeat' (first|refine go ?_|refine HF a1 F8 ?_)
  refine ay rfl (fun h2=>?_) (fun h2=>?_)
  ·have h2':=Hy h2
   repeat' (first|refine go ?_|refine HF a1 F8 ?_)
   refine HT HA ?_
   rw [he,cP hil h2']
   rfl
  ·have h2':=Decidable.not_not.1 (Hx h2)
   repeat' (first|refine go ?_|refine HF a1 F8 ?_|(apply aZ;refine aY ?_)|fail)
   exact aF (i+1,L1) rfl ⟨by rw [Hv];rfl,trivial⟩ ⟨by dsimp only;omega,hj' h2',by rw [he];exact cy hil h2'⟩ (by dsimp only;omega) (fun _ _ h=>h)
 ·have hil:i=l.length:=by have:=Hx h;simp at this;omega
  subst hil
  repeat' (first|refine go ?_|refine HF a1 F8 ?_)
  refine HT HA ?_
  rw [he,Nat.sub_self]
  rfl
theorem Dr {g:FuncId} {caps:List AV} {u:AV} [bK Tryz.prog g] (hu:jL u=some (g,caps)) (l:List dz) (most:Int) (err:Nat→Int) (J:Nat→AL→Prop) (L0:AL) (h0:J 0 L0) (hw:(l.length:Int)≤most→∀i x L,l[i]?=some x→J i L→AC Tryz.prog g ([aH i,.agg (d9 x)]++caps) L fun c L'=>c=aH (err i)∧(err i=0→J (i+1) L')):
  AC Tryz.prog 227 [.iptr [.imm 4 (l.map d9)],.iptr [aH most],.iptr [u]] L0 fun r _=>r=ct (d6 most err l.length):=by
 refine aT Tryz.func227 rfl Tryz.ntmps227 rfl fun B=>?_
 repeat' (first|refine go ?_|refine HF a1 F8 ?_)
 refine ay rfl (fun h=>?_) (fun h=>?_)
 ·have h':=Hy h
  rw [Hu] at h'
  repeat' (first|refine go ?_|refine HF a1 F8 ?_)
  refine HT HA ?_
  unfold d6
  rw [if_pos h']
  rfl
 ·have h':=Hx h
  rw [Hu] at h'
  repeat' (first|refine go ?_|refine HF a1 F8 ?_)
  refine bb L0 [] (CN hu l err J L0 h0 (hw (by omega))) rfl (fm hu) (bB rfl) rfl fun c L1 hc=>?_
  subst hc
  repeat' (first|refine go ?_|refine HF a1 F8 ?_)
  refine HT HA ?_
  unfold d6
  rw [if_neg h']
  rfl
theorem FW {g:FuncId} {caps:List AV} (l:List dz) (most:Int):bM Tryz.prog 156 [.imm 4 (l.map d9),aH most,.fn g caps] (.fn 227 [.iptr [.imm 4 (l.map d9)],.iptr [aH most],.iptr [.fn g caps]]):=by
 refine aT Tryz.func156 rfl Tryz.ntmps156 rfl fun B=>?_
 repeat' (first|refine go ?_|refine HF a1 F8 ?_|refine bC ?_|fail)
 exact HP HA
instance {g:FuncId} {caps:List AV} (l:List dz) (most:Int):AD Tryz.prog 156 [.imm 4 (l.map d9),aH most,.fn g caps] (.fn 227 [.iptr [.imm 4 (l.map d9)],.iptr [aH most],.iptr [.fn g caps]]):=⟨FW l most⟩
theorem CO {g:FuncId} {caps:List AV} {u:AV} [bK Tryz.prog g] (hu:jL u=some (g,caps)) (l:List dG) (err:Nat→Int) (J:Nat→AL→Prop) (L0:AL) (h0:J 0 L0) (hw:∀i x L,l[i]?=some x→J i L→AC Tryz.prog g ([aH i,.agg (dY x)]++caps) L fun c L'=>c=aH (err i)∧(err i=0→J (i+1) L')):
  AC Tryz.prog 231 [.imm 4 (l.map dY),u] L0 fun r _=>r=ct (dk err l.length):=by
 refine aT Tryz.func231 rfl Tryz.ntmps231 rfl fun B=>?_
 refine cF 0 rfl rfl fun hlen=>?_
 rw [Hu] at hlen
 repeat' (first|refine go ?_|refine ak ?_|refine HF a1 F8 ?_)
 refine aR [1,9,10] (α:=Nat×AL) (fun i=>[(11,aH i.1)]) (fun i=>i.1≤l.length∧J i.1 i.2∧dk err l.length=da err (l.length - i.1) i.1) (fun i=>i.2) (fun i=>l.length - i.1) (0,L0) rfl ⟨rfl,trivial⟩ ⟨Nat.zero_le _,h0,rfl⟩ (fun _ _ h=>h) ?_
 rintro ⟨i,L⟩ ⟨hi,hj,he⟩
 dsimp only at hi hj he ⊢
 try dsimp only [Hs,Hr,Hq,Hl]
 repeat' (first|refine go ?_|refine HF a1 F8 ?_)
 refine ay rfl (fun h=>?_) (fun h=>?_)
 ·have hil:i < l.length:=by have:=Hy h;simp at this;omega
  obtain ⟨z,hz⟩:∃z,l[i]?=some z:=⟨_,Hz hil⟩
  have hzg:=bA (c:=dY) hz
  repeat' (first|refine go ?_|refine ak ?_|refine HF a1 F8 ?_|(apply aX;first|refine aU a1 ?_|refine aK a1 ?_)|(apply aQ;first|refine HH 7 a1 0 HE ?_|refine HH 7 a1 1 HE ?_|refine HH 7 a1 2 HE ?_|refine HG a1 0 HD ?_|refine HG a1 1 HD ?_|refine HG a1 2 HD ?_|refine HG a1 3 HD ?_|fail)|refine bl a1 fun _=>?_|fail)
  refine df L [] (hw i z L hz hj) rfl hu rfl (bB rfl) rfl rfl fun c L1 ⟨hc,hj'⟩=>?_
  subst hc
  rw [List.append_nil]
  repeat' (first|refine go ?_|refine HF a1 F8 ?_)
  refine ay rfl (fun h2=>?_) (fun h2=>?_)
  ·have h2':=Hy h2
   repeat' (first|refine go ?_|refine HF a1 F8 ?_)
   refine HT HA ?_
   rw [he,cP hil h2']
   rfl
  ·have h2':=Decidable.not_not.1 (Hx h2)
   repeat' (first|refine go ?_|refine HF a1 F8 ?_|(apply aZ;refine aY ?_)|fail)
   exact aF (i+1,L1) rfl ⟨by rw [Hv];rfl,trivial⟩ ⟨by dsimp only;omega,hj' h2',by rw [he];exact cy hil h2'⟩ (by dsimp only;omega) (fun _ _ h=>h)
 ·have hil:i=l.length:=by have:=Hx h;simp at this;omega
  subst hil
  repeat' (first|refine go ?_|refine HF a1 F8 ?_)
  refine HT HA ?_
  rw [he,Nat.sub_self]
  rfl
theorem Ds {g:FuncId} {caps:List AV} {u:AV} [bK Tryz.prog g] (hu:jL u=some (g,caps)) (l:List dG) (most:Int) (err:Nat→Int) (J:Nat→AL→Prop) (L0:AL) (h0:J 0 L0) (hw:(l.length:Int)≤most→∀i x L,l[i]?=some x→J i L→AC Tryz.prog g ([aH i,.agg (dY x)]++caps) L fun c L'=>c=aH (err i)∧(err i=0→J (i+1) L')):
  AC Tryz.prog 230 [.iptr [.imm 4 (l.map dY)],.iptr [aH most],.iptr [u]] L0 fun r _=>r=ct (d6 most err l.length):=by
 refine aT Tryz.func230 rfl Tryz.ntmps230 rfl fun B=>?_
 repeat' (first|refine go ?_|refine HF a1 F8 ?_)
 refine ay rfl (fun h=>?_) (fun h=>?_)
 ·have h':=Hy h
  rw [Hu] at h'
  repeat' (first|refine go ?_|refine HF a1 F8 ?_)
  refine HT HA ?_
  unfold d6
  rw [if_pos h']
  rfl
 ·have h':=Hx h
  rw [Hu] at h'
  repeat' (first|refine go ?_|refine HF a1 F8 ?_)
  refine bb L0 [] (CO hu l err J L0 h0 (hw (by omega))) rfl (fm hu) (bB rfl) rfl fun c L1 hc=>?_
  subst hc
  repeat' (first|refine go ?_|refine HF a1 F8 ?_)
  refine HT HA ?_
  unfold d6
  rw [if_neg h']
  rfl
theorem FX {g:FuncId} {caps:List AV} (l:List dG) (most:Int):bM Tryz.prog 158 [.imm 4 (l.map dY),aH most,.fn g caps] (.fn 230 [.iptr [.imm 4 (l.map dY)],.iptr [aH most],.iptr [.fn g caps]]):=by
 refine aT Tryz.func158 rfl Tryz.ntmps158 rfl fun B=>?_
 repeat' (first|refine go ?_|refine HF a1 F8 ?_|refine bC ?_|fail)
 exact HP HA
instance {g:FuncId} {caps:List AV} (l:List dG) (most:Int):AD Tryz.prog 158 [.imm 4 (l.map dY),aH most,.fn g caps] (.fn 230 [.iptr [.imm 4 (l.map dY)],.iptr [aH most],.iptr [.fn g caps]]):=⟨FX l most⟩
theorem CP {g:FuncId} {caps:List AV} {u:AV} [bK Tryz.prog g] (hu:jL u=some (g,caps)) (l:List (List Int)) (err:Nat→Int) (J:Nat→AL→Prop) (L0:AL) (h0:J 0 L0) (hw:∀i x L,l[i]?=some x→J i L→AC Tryz.prog g ([aH i,.imm 1 (aS x)]++caps) L fun c L'=>c=aH (err i)∧(err i=0→J (i+1) L')):
  AC Tryz.prog 239 [.imm 1 (l.map Fx),u] L0 fun r _=>r=ct (dk err l.length):=by
 refine aT Tryz.func239 rfl Tryz.ntmps239 rfl fun B=>?_
 refine cF 0 rfl rfl fun hlen=>?_
 rw [Hu] at hlen
 repeat' (first|refine go ?_|refine ak ?_|refine HF a1 F8 ?_)
 refine aR [1,9,10] (α:=Nat×AL) (fun i=>[(11,aH i.1)]) (fun i=>i.1≤l.length∧J i.1 i.2∧dk err l.length=da err (l.length - i.1) i.1) (fun i=>i.2) (fun i=>l.length - i.1) (0,L0) rfl ⟨rfl,trivial⟩ ⟨Nat.zero_le _,h0,rfl⟩ (fun _ _ h=>h) ?_
 rintro ⟨i,L⟩ ⟨hi,hj,he⟩
 dsimp only at hi hj he ⊢
 try dsimp only [Hs,Hr,Hq,Hl]
 repeat' (first|refine go ?_|refine HF a1 F8 ?_)
 refine ay rfl (fun h=>?_) (fun h=>?_)
 ·have hil:i < l.length:=by have:=Hy h;simp at this;omega
  obtain ⟨z,hz⟩:∃z,l[i]?=some z:=⟨_,Hz hil⟩
  have hzg:=bA (c:=Fx) hz
  repeat' (first|refine go ?_|refine ak ?_|refine HF a1 F8 ?_|(apply aX;first|refine aU a1 ?_|refine aK a1 ?_)|fail)
  refine df L [] (hw i z L hz hj) rfl hu rfl (bB rfl) rfl rfl fun c L1 ⟨hc,hj'⟩=>?_
  subst hc
  rw [List.append_nil]
  repeat' (first|refine go ?_|refine HF a1 F8 ?_)
  refine ay rfl (fun h2=>?_) (fun h2=>?_)
  ·have h2':=Hy h2
   repeat' (first|refine go ?_|refine HF a1 F8 ?_)
   refine HT HA ?_
   rw [he,cP hil h2']
   rfl
  ·have h2':=Decidable.not_not.1 (Hx h2)
   repeat' (first|refine go ?_|refine HF a1 F8 ?_|(apply aZ;refine aY ?_)|fail)
   exact aF (i+1,L1) rfl ⟨by rw [Hv];rfl,trivial⟩ ⟨by dsimp only;omega,hj' h2',by rw [he];exact cy hil h2'⟩ (by dsimp only;omega) (fun _ _ h=>h)
 ·have hil:i=l.length:=by have:=Hx h;simp at this;omega
  subst hil
  repeat' (first|refine go ?_|refine HF a1 F8 ?_)
  refine HT HA ?_
  rw [he,Nat.sub_self]
  rfl
theorem CQ {g:FuncId} {caps:List AV} {u:AV} [bK Tryz.prog g] (hu:jL u=some (g,caps)) (l:List fT) (err:Nat→Int) (J:Nat→AL→Prop) (L0:AL) (h0:J 0 L0) (hw:∀i x L,l[i]?=some x→J i L→AC Tryz.prog g ([aH i,.agg (eU x)]++caps) L fun c L'=>c=aH (err i)∧(err i=0→J (i+1) L')):
  AC Tryz.prog 251 [.imm 2 (l.map eU),u] L0 fun r _=>r=ct (dk err l.length):=by
 refine aT Tryz.func251 rfl Tryz.ntmps251 rfl fun B=>?_
 refine cF 0 rfl rfl fun hlen=>?_
 rw [Hu] at hlen
 repeat' (first|refine go ?_|refine ak ?_|refine HF a1 F8 ?_)
 refine aR [1,9,10] (α:=Nat×AL) (fun i=>[(11,aH i.1)]) (fun i=>i.1≤l.length∧J i.1 i.2∧dk err l.length=da err (l.length - i.1) i.1) (fun i=>i.2) (fun i=>l.length - i.1) (0,L0) rfl ⟨rfl,trivial⟩ ⟨Nat.zero_le _,h0,rfl⟩ (fun _ _ h=>h) ?_
 rintro ⟨i,L⟩ ⟨hi,hj,he⟩
 dsimp only at hi hj he ⊢
 try dsimp only [Hs,Hr,Hq,Hl]
 repeat' (first|refine go ?_|refine HF a1 F8 ?_)
 refine ay rfl (fun h=>?_) (fun h=>?_)
 ·have hil:i < l.length:=by have:=Hy h;simp at this;omega
  obtain ⟨z,hz⟩:∃z,l[i]?=some z:=⟨_,Hz hil⟩
  have hzg:=bA (c:=eU) hz
  repeat' (first|refine go ?_|refine ak ?_|refine HF a1 F8 ?_|(apply aX;first|refine aU a1 ?_|refine aK a1 ?_)|(apply aQ;first|refine HH 7 a1 0 HE ?_|refine HH 7 a1 1 HE ?_|refine HH 7 a1 2 HE ?_|refine HG a1 0 HD ?_|refine HG a1 1 HD ?_|refine HG a1 2 HD ?_|refine HG a1 3 HD ?_|fail)|refine bl a1 fun _=>?_|fail)
  refine df L [] (hw i z L hz hj) rfl hu rfl (bB rfl) rfl rfl fun c L1 ⟨hc,hj'⟩=>?_
  subst hc
  rw [List.append_nil]
  repeat' (first|refine go ?_|refine HF a1 F8 ?_)
  refine ay rfl (fun h2=>?_) (fun h2=>?_)
  ·have h2':=Hy h2
   repeat' (first|refine go ?_|refine HF a1 F8 ?_)
   refine HT HA ?_
   rw [he,cP hil h2']
   rfl
  ·have h2':=Decidable.not_not.1 (Hx h2)
   repeat' (first|refine go ?_|refine HF a1 F8 ?_|(apply aZ;refine aY ?_)|fail)
   exact aF (i+1,L1) rfl ⟨by rw [Hv];rfl,trivial⟩ ⟨by dsimp only;omega,hj' h2',by rw [he];exact cy hil h2'⟩ (by dsimp only;omega) (fun _ _ h=>h)
 ·have hil:i=l.length:=by have:=Hx h;simp at this;omega
  subst hil
  repeat' (first|refine go ?_|refine HF a1 F8 ?_)
  refine HT HA ?_
  rw [he,Nat.sub_self]
  rfl
theorem Dt {g:FuncId} {caps:List AV} {u:AV} [bK Tryz.prog g] (hu:jL u=some (g,caps)) (l:List fT) (most:Int) (err:Nat→Int) (J:Nat→AL→Prop) (L0:AL) (h0:J 0 L0) (hw:(l.length:Int)≤most→∀i x L,l[i]?=some x→J i L→AC Tryz.prog g ([aH i,.agg (eU x)]++caps) L fun c L'=>c=aH (err i)∧(err i=0→J (i+1) L')):
  AC Tryz.prog 250 [.iptr [.imm 2 (l.map eU)],.iptr [aH most],.iptr [u]] L0 fun r _=>r=ct (d6 most err l.length):=by
 refine aT Tryz.func250 rfl Tryz.ntmps250 rfl fun B=>?_
 repeat' (first|refine go ?_|refine HF a1 F8 ?_)
 refine ay rfl (fun h=>?_) (fun h=>?_)
 ·have h':=Hy h
  rw [Hu] at h'
  repeat' (first|refine go ?_|refine HF a1 F8 ?_)
  refine HT HA ?_
  unfold d6
  rw [if_pos h']
  rfl
 ·have h':=Hx h
  rw [Hu] at h'
  repeat' (first|refine go ?_|refine HF a1 F8 ?_)
  refine bb L0 [] (CQ hu l err J L0 h0 (hw (by omega))) rfl (fm hu) (bB rfl) rfl fun c L1 hc=>?_
  subst hc
  repeat' (first|refine go ?_|refine HF a1 F8 ?_)
  refine HT HA ?_
  unfold d6
  rw [if_neg h']
  rfl
theorem EP {g:FuncId} (l:List fT) (most:Int):bM Tryz.prog 189 [.imm 2 (l.map eU),aH most,.sc (.func (.func g) #[] #[])] (.fn 250 [.iptr [.imm 2 (l.map eU)],.iptr [aH most],.iptr [.sc (.func (.func g) #[] #[])]]):=by
 refine aT Tryz.func189 rfl Tryz.ntmps189 rfl fun B=>?_
 repeat' (first|refine go ?_|refine HF a1 F8 ?_|refine bC ?_|fail)
 exact HP HA
instance {g:FuncId} (l:List fT) (most:Int):AD Tryz.prog 189 [.imm 2 (l.map eU),aH most,.sc (.func (.func g) #[] #[])] (.fn 250 [.iptr [.imm 2 (l.map eU)],.iptr [aH most],.iptr [.sc (.func (.func g) #[] #[])]]):=⟨EP l most⟩
theorem CR {g:FuncId} {caps:List AV} {u:AV} [bK Tryz.prog g] (hu:jL u=some (g,caps)) (l:List gH) (err:Nat→Int) (J:Nat→AL→Prop) (L0:AL) (h0:J 0 L0) (hw:∀i x L,l[i]?=some x→J i L→AC Tryz.prog g ([aH i,.agg (fQ x)]++caps) L fun c L'=>c=aH (err i)∧(err i=0→J (i+1) L')):
  AC Tryz.prog 276 [.imm 2 (l.map fQ),u] L0 fun r _=>r=ct (dk err l.length):=by
 refine aT Tryz.func276 rfl Tryz.ntmps276 rfl fun B=>?_
 refine cF 0 rfl rfl fun hlen=>?_
 rw [Hu] at hlen
 repeat' (first|refine go ?_|refine ak ?_|refine HF a1 F8 ?_)
 refine aR [1,9,10] (α:=Nat×AL) (fun i=>[(11,aH i.1)]) (fun i=>i.1≤l.length∧J i.1 i.2∧dk err l.length=da err (l.length - i.1) i.1) (fun i=>i.2) (fun i=>l.length - i.1) (0,L0) rfl ⟨rfl,trivial⟩ ⟨Nat.zero_le _,h0,rfl⟩ (fun _ _ h=>h) ?_
 rintro ⟨i,L⟩ ⟨hi,hj,he⟩
 dsimp only at hi hj he ⊢
 try dsimp only [Hs,Hr,Hq,Hl]
 repeat' (first|refine go ?_|refine HF a1 F8 ?_)
 refine ay rfl (fun h=>?_) (fun h=>?_)
 ·have hil:i < l.length:=by have:=Hy h;simp at this;omega
  obtain ⟨z,hz⟩:∃z,l[i]?=some z:=⟨_,Hz hil⟩
  have hzg:=bA (c:=fQ) hz
  repeat' (first|refine go ?_|refine ak ?_|refine HF a1 F8 ?_|(apply aX;first|refine aU a1 ?_|refine aK a1 ?_)|(apply aQ;first|refine HH 7 a1 0 HE ?_|refine HH 7 a1 1 HE ?_|refine HH 7 a1 2 HE ?_|refine HG a1 0 HD ?_|refine HG a1 1 HD ?_|refine HG a1 2 HD ?_|refine HG a1 3 HD ?_|fail)|refine bl a1 fun _=>?_|fail)
  refine df L [] (hw i z L hz hj) rfl hu rfl (bB rfl) rfl rfl fun c L1 ⟨hc,hj'⟩=>?_
  subst hc
  rw [List.append_nil]
  repeat' (first|refine go ?_|refine HF a1 F8 ?_)
  refine ay rfl (fun h2=>?_) (fun h2=>?_)
  ·have h2':=Hy h2
   repeat' (first|refine go ?_|refine HF a1 F8 ?_)
   refine HT HA ?_
   rw [he,cP hil h2']
   rfl
  ·have h2':=Decidable.not_not.1 (Hx h2)
   repeat' (first|refine go ?_|refine HF a1 F8 ?_|(apply aZ;refine aY ?_)|fail)
   exact aF (i+1,L1) rfl ⟨by rw [Hv];rfl,trivial⟩ ⟨by dsimp only;omega,hj' h2',by rw [he];exact cy hil h2'⟩ (by dsimp only;omega) (fun _ _ h=>h)
 ·have hil:i=l.length:=by have:=Hx h;simp at this;omega
  subst hil
  repeat' (first|refine go ?_|refine HF a1 F8 ?_)
  refine HT HA ?_
  rw [he,Nat.sub_self]
  rfl
theorem mE {g:FuncId} {caps:List AV} {u:AV} [bK Tryz.prog g] (hu:jL u=some (g,caps)) (l:List Int) (err:Nat→Int) (J:Nat→AL→Prop) (L0:AL) (h0:J 0 L0) (hw:∀i x L,l[i]?=some x→J i L→AC Tryz.prog g ([aH i,aH x]++caps) L fun c L'=>c=aH (err i)∧(err i=0→J (i+1) L')):
  AC Tryz.prog 164 [.imm 1 (l.map xQ),u] L0 fun r _=>r=ct (dk err l.length):=by
 refine aT Tryz.func164 rfl Tryz.ntmps164 rfl fun B=>?_
 refine cF 0 rfl rfl fun hlen=>?_
 rw [Hu] at hlen
 repeat' (first|refine go ?_|refine ak ?_|refine HF a1 F8 ?_)
 refine aR [1,9,10] (α:=Nat×AL) (fun i=>[(11,aH i.1)]) (fun i=>i.1≤l.length∧J i.1 i.2∧dk err l.length=da err (l.length - i.1) i.1) (fun i=>i.2) (fun i=>l.length - i.1) (0,L0) rfl ⟨rfl,trivial⟩ ⟨Nat.zero_le _,h0,rfl⟩ (fun _ _ h=>h) ?_
 rintro ⟨i,L⟩ ⟨hi,hj,he⟩
 dsimp only at hi hj he ⊢
 try dsimp only [Hs,Hr,Hq,Hl]
 repeat' (first|refine go ?_|refine HF a1 F8 ?_)
 refine ay rfl (fun h=>?_) (fun h=>?_)
 ·have hil:i < l.length:=by have:=Hy h;simp at this;omega
  obtain ⟨z,hz⟩:∃z,l[i]?=some z:=⟨_,Hz hil⟩
  have hzg:=bA (c:=xQ) hz
  repeat' (first|refine go ?_|refine ak ?_|refine HF a1 F8 ?_|(apply aX;first|refine aU a1 ?_|refine aK a1 ?_)|fail)
  refine df L [] (hw i z L hz hj) rfl hu rfl (bB rfl) rfl rfl fun c L1 ⟨hc,hj'⟩=>?_
  subst hc
  rw [List.append_nil]
  repeat' (first|refine go ?_|refine HF a1 F8 ?_)
  refine ay rfl (fun h2=>?_) (fun h2=>?_)
  ·have h2':=Hy h2
   repeat' (first|refine go ?_|refine HF a1 F8 ?_)
   refine HT HA ?_
   rw [he,cP hil h2']
   rfl
  ·have h2':=Decidable.not_not.1 (Hx h2)
   repeat' (first|refine go ?_|refine HF a1 F8 ?_|(apply aZ;refine aY ?_)|fail)
   exact aF (i+1,L1) rfl ⟨by rw [Hv];rfl,trivial⟩ ⟨by dsimp only;omega,hj' h2',by rw [he];exact cy hil h2'⟩ (by dsimp only;omega) (fun _ _ h=>h)
 ·have hil:i=l.length:=by have:=Hx h;simp at this;omega
  subst hil
  repeat' (first|refine go ?_|refine HF a1 F8 ?_)
  refine HT HA ?_
  rw [he,Nat.sub_self]
  rfl
theorem Dp {g:FuncId} {caps:List AV} {u:AV} [bK Tryz.prog g] (hu:jL u=some (g,caps)) (l:List Int) (most:Int) (err:Nat→Int) (J:Nat→AL→Prop) (L0:AL) (h0:J 0 L0) (hw:(l.length:Int)≤most→∀i x L,l[i]?=some x→J i L→AC Tryz.prog g ([aH i,aH x]++caps) L fun c L'=>c=aH (err i)∧(err i=0→J (i+1) L')):
  AC Tryz.prog 191 [.iptr [.imm 1 (l.map xQ)],.iptr [aH most],.iptr [u]] L0 fun r _=>r=ct (d6 most err l.length):=by
 refine aT Tryz.func191 rfl Tryz.ntmps191 rfl fun B=>?_
 repeat' (first|refine go ?_|refine HF a1 F8 ?_)
 refine ay rfl (fun h=>?_) (fun h=>?_)
 ·have h':=Hy h
  rw [Hu] at h'
  repeat' (first|refine go ?_|refine HF a1 F8 ?_)
  refine HT HA ?_
  unfold d6
  rw [if_pos h']
  rfl
 ·have h':=Hx h
  rw [Hu] at h'
  repeat' (first|refine go ?_|refine HF a1 F8 ?_)
  refine bb L0 [] (mE hu l err J L0 h0 (hw (by omega))) rfl (fm hu) (bB rfl) rfl fun c L1 hc=>?_
  subst hc
  repeat' (first|refine go ?_|refine HF a1 F8 ?_)
  refine HT HA ?_
  unfold d6
  rw [if_neg h']
  rfl
theorem EO {g:FuncId} (l:List Int) (most:Int):bM Tryz.prog 109 [.imm 1 (l.map xQ),aH most,.sc (.func (.func g) #[] #[])] (.fn 191 [.iptr [.imm 1 (l.map xQ)],.iptr [aH most],.iptr [.sc (.func (.func g) #[] #[])]]):=by
 refine aT Tryz.func109 rfl Tryz.ntmps109 rfl fun B=>?_
 repeat' (first|refine go ?_|refine HF a1 F8 ?_|refine bC ?_|fail)
 exact HP HA
end Go.Proofs.YtpbinloeemebkaaGreat
