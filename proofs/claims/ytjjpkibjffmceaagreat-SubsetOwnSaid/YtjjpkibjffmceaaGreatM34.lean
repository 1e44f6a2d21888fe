/-
  The document: numbers, rows and programs as texts.
-/
import Derived.Test.YtjjpkibjffmceaaGreatM24
import Derived.Test.YtjjpkibjffmceaaGreatM33
namespace Go.Proofs.YtjjpkibjffmceaaGreat
open Go.RowKit
attribute [local irreducible] AT bW AX AO Av Kt bA eI DA dl
class io (z:Int):Prop where
 ok:NB z
theorem yg (m:Nat):me m=(if m / 10=0 then ⟨#[]⟩ else me (m / 10))++oN (m % 10):=by
 conv=>lhs;rw [me]
 by_cases h:m < 10
 ·rw [if_pos h,if_pos (by omega),Nat.mod_eq_of_lt h]
  exact ByteArray.empty_append.symm
 ·rw [if_neg h,if_neg (by omega)]
def mT (k:Int) (s:ByteArray):Prop:=k≠0∨s=⟨#[]⟩
instance (k:Int) (s:ByteArray):Decidable (mT k s):=inferInstanceAs (Decidable (_∨_))
theorem Ct:∀n < 10,UInt8.ofNat (IntKind.u8.wrap (48+((n:Nat):Int))).toNat=UInt8.ofNat (48+n):=by decide
theorem sI {m:Nat} {s:ByteArray}:(oN m++s).size≠0:=by rw [Iu,md];omega
set_option maxHeartbeats 2000000 in
theorem vP (z:Int) (hz:NB z):bV Tryz.prog 58 [aP z] (gO (cA z)):=by
  refine aS Tryz.func58 rfl Tryz.ntmps58 rfl fun B=>?_
  have hs9:=AM (m:=z.natAbs) (by have:=hz.1;have:=hz.2;omega)
  repeat' (first|refine go ?_|refine ak ?_|refine HK a6 FS ?_)
  refine aJ [0] (α:=Int×ByteArray) (fun x=>[(4,aP x.1),(3,gO x.2)]) (fun x=>me z.natAbs=(if mT x.1 x.2 then me x.1.natAbs else ⟨#[]⟩)++x.2∧x.1.natAbs≤999999999) (fun _=>[]) (fun x=>x.1.natAbs+(if x.2.size=0 then 1 else 0)) (z,⟨#[]⟩) rfl ⟨rfl,rfl,trivial⟩ ⟨?_,by have:=hz.1;have:=hz.2;dsimp only;omega⟩ (fun _ _ h=>h) ?_
  · dsimp only
    rw [if_pos (.inr rfl)]
    exact ByteArray.append_empty.symm
  rintro ⟨k,s⟩ ⟨hI,hk⟩
  dsimp only at hI hk ⊢
  try dsimp only [Ir,Iq,Ip,Ij]
  repeat' (first|refine go ?_|refine HK a6 FS ?_)
  refine du (t:=12) [0,3,4] (mT k s) rfl (fun Q' K=>?_) ?_
  · repeat' (first|refine go ?_|refine HK a6 FS ?_|refine HV FS ?_|refine HW HF ?_|refine bk rfl rfl rfl (fun _=>?_) (fun _=>?_))
    all_goals exact K _ _ rfl rfl (by clear K;unfold mT;simp_all <;> omega)
  repeat' (first|refine go ?_|fail)
  refine ay rfl (fun hc=>?_) (fun hc=>?_)
  · have hC:=Iy hc
    rw [if_pos hC] at hI
    have hsz:s.size≤9:=by
      have:=congrArg ByteArray.size hI
      rw [Iu] at this
      omega
    have hm:(k.tmod 10).natAbs=k.natAbs % 10:=Int.natAbs_tmod k 10
    have hq:(k.tdiv 10).natAbs=k.natAbs / 10:=Int.natAbs_tdiv k 10
    have hq2:IntKind.i64.wrap (k.tdiv 10)=k.tdiv 10:=nY (by omega)
    have hC2:k≠0∨s.size=0:=hC.imp id fun h=>by rw [h];rfl
    have hlt:k.natAbs % 10 < 10:=Nat.mod_lt _ (by omega)
    have hfin:∀t:ByteArray,t=oN (k.natAbs % 10)++s→me z.natAbs=(if mT (k.tdiv 10) t then me (k.tdiv 10).natAbs else ⟨#[]⟩)++t:=fun t ht=>by
      subst ht
      rw [hI,yg k.natAbs,ByteArray.append_assoc,hq]
      refine congrArg (·++_) ?_
      by_cases h0:k.natAbs / 10=0
      · rw [if_pos h0,if_neg]
        rintro (h | h)
        · exact h (by omega)
        · exact sI (congrArg ByteArray.size h)
      · rw [if_neg h0,if_pos (.inl fun h=>h0 (by rw [h] at hq;exact hq.symm))]
    clear hc
    repeat' (first|refine go ?_|refine ak ?_|refine HK a6 FS ?_)
    refine BL ?_ rfl rfl (by omega) rfl
    repeat' (first|refine go ?_|refine HK a6 FS ?_)
    refine ay rfl (fun hd=>?_) (fun hd=>?_)
    · have hd:=Iy hd
      have hdg:(0:Int) - k.tmod 10=((k.natAbs % 10:Nat):Int):=by omega
      repeat' (first|refine go ?_|refine HK a6 FS ?_|(apply aW;refine aV ?_)|fail)
      rw [hdg]
      repeat' (first|fail)
      refine BI a6 rfl rfl rfl rfl rfl rfl ?_
      repeat' (first|refine bG a6 ?_|fail)
      refine xe a6 rfl rfl rfl rfl rfl rfl rfl rfl ?_
      rw [Ct _ hlt]
      repeat' (first|refine HK a6 FS ?_)
      refine eO rfl rfl (by rw [show (⟨#[UInt8.ofNat (48+k.natAbs % 10)]⟩:ByteArray).size=1 from rfl];omega) rfl ?_
      repeat' (first|refine go ?_|refine HK a6 FS ?_)
      refine aV ?_ (wP rfl rfl (by omega)) rfl
      rw [hq2]
      repeat' (first|refine go ?_|refine HK a6 FS ?_)
      refine aB (k.tdiv 10,oN (k.natAbs % 10)++s) rfl ⟨rfl,rfl,trivial⟩ ⟨hfin _ rfl,by dsimp only;omega⟩ ?_ (fun _ _ h=>h)
      dsimp only
      rw [if_neg sI]
      split <;> omega
    · have hd:=Ix hd
      have hdg:k.tmod 10=((k.natAbs % 10:Nat):Int):=by omega
      rw [hdg]
      repeat' (first|refine go ?_|refine HK a6 FS ?_|(apply aW;refine aV ?_)|fail)
      refine BI a6 rfl rfl rfl rfl rfl rfl ?_
      repeat' (first|refine bG a6 ?_|fail)
      refine xe a6 rfl rfl rfl rfl rfl rfl rfl rfl ?_
      rw [Ct _ hlt]
      repeat' (first|refine HK a6 FS ?_)
      refine eO rfl rfl (by rw [show (⟨#[UInt8.ofNat (48+k.natAbs % 10)]⟩:ByteArray).size=1 from rfl];omega) rfl ?_
      repeat' (first|refine go ?_|refine HK a6 FS ?_)
      refine aV ?_ (wP rfl rfl (by omega)) rfl
      rw [hq2]
      repeat' (first|refine go ?_|refine HK a6 FS ?_)
      refine aB (k.tdiv 10,oN (k.natAbs % 10)++s) rfl ⟨rfl,rfl,trivial⟩ ⟨hfin _ rfl,by dsimp only;omega⟩ ?_ (fun _ _ h=>h)
      dsimp only
      rw [if_neg sI]
      split <;> omega
  have hC:=Ix hc
  rw [if_neg hC] at hI
  have hI:me z.natAbs=s:=by rw [hI];exact ByteArray.empty_append
  subst hI
  clear hc hC hk
  repeat' (first|refine go ?_|refine HK a6 FS ?_)
  unfold cA jo wk
  refine ay rfl (fun hn=>?_) (fun hn=>?_)
  · rw [if_pos (Iy hn)]
    repeat' (first|refine go ?_|refine HK a6 FS ?_)
    refine eO rfl rfl (by rw [show (⟨#[45]⟩:ByteArray).size=1 from rfl];omega) rfl ?_
    repeat' (first|fail)
    refine eO rfl rfl (by rw [Iu,show (⟨#[45]⟩:ByteArray).size=1 from rfl,show (⟨#[32]⟩:ByteArray).size=1 from rfl];omega) rfl ?_
    repeat' (first|refine go ?_|refine HK a6 FS ?_)
    exact HT HE
  · rw [if_neg (Ix hn)]
    repeat' (first|refine go ?_|refine HK a6 FS ?_)
    refine eO rfl rfl (by rw [show (⟨#[32]⟩:ByteArray).size=1 from rfl];omega) rfl ?_
    repeat' (first|refine go ?_|refine HK a6 FS ?_)
    exact HT HE
instance (z:Int) [h:io z]:AD Tryz.prog 58 [aP z] (gO (cA z)):=⟨vP z h.ok⟩
theorem Ej (b:Bool):bV Tryz.prog 59 [cx b] (gO (tv b)):=by
 refine aS Tryz.func59 rfl Tryz.ntmps59 rfl fun B=>?_
 repeat' (first|refine go ?_|refine HK a6 FS ?_)
 cases b with
 | true=>
  repeat' (first|refine go ?_|refine HK a6 FS ?_|refine bP rfl ?_)
  exact HT HE
 | false=>
  repeat' (first|refine go ?_|refine HK a6 FS ?_|refine bF rfl ?_)
  exact HT HE
instance (b:Bool):AD Tryz.prog 59 [cx b] (gO (tv b)):=⟨Ej b⟩
theorem jG {n:Nat} (h:n≤999999999):io (n:Int):=⟨⟨by omega,by omega⟩⟩
theorem C5 (l:List Int) (h:zN l):bV Tryz.prog 60 [.imm 1 (aZ l)] (gO (pg l)):=by
 refine aS Tryz.func60 rfl Tryz.ntmps60 rfl fun B=>?_
 have hil:=aQ l
 have hl:=h.1
 haveI:io (((aZ l).length:Nat):Int):=jG (by omega)
 have e0:cA (((aZ l).length:Nat):Int)=ee l.length:=by rw [hil];rfl
 have h0:=cI (n:=l.length) (by omega)
 repeat' (first|refine go ?_|refine ak ?_|refine HK a6 FS ?_|(apply bq;refine bg ?_)|fail)
 rw [e0]
 repeat' (first|fail)
 refine aJ [0] (α:=Nat) (fun i=>[(4,aP i),(3,gO ((l.take i).foldl sj (ee l.length)))]) (fun i=>i≤l.length) (fun _=>[]) (fun i=>l.length - i) 0 rfl ⟨rfl,rfl,trivial⟩ (Nat.zero_le _) (fun _ _ h=>h) ?_
 intro i hi
 try dsimp only [Ir,Iq,Ip,Ij]
 repeat' (first|refine go ?_|refine HK a6 FS ?_)
 refine ay rfl (fun hh=>?_) (fun hh=>?_)
 ·have hil:i < l.length:=by have:=Iy hh;omega
  obtain ⟨z,hz⟩:∃z,l[i]?=some z:=⟨_,Iz hil⟩
  have hzi:=bT hz
  have hzn:=h.2 z (Iw hz)
  haveI:io z:=⟨hzn⟩
  have k1:=b9 hzn
  have k2:=cO (n:=16) (m:=11) i (qQ h.2) h.1 h0
  have hst:(l.take (i+1)).foldl sj (ee l.length)=(l.take i).foldl sj (ee l.length)++cA z:=dA hz
  repeat' (first|refine go ?_|refine ak ?_|refine HK a6 FS ?_|(apply aU;first|refine aT a6 ?_|refine aM a6 ?_)|(apply bq;refine bg ?_)|fail)
  refine eO rfl rfl (by omega) rfl ?_
  repeat' (first|refine go ?_|refine HK a6 FS ?_|(apply aW;refine aV ?_)|fail)
  exact aB (i+1) rfl ⟨by rw [Iv];rfl,by rw [hst];rfl,trivial⟩ (by omega) (by omega) (fun _ _ h=>h)
 have hil:i=l.length:=by have:=Ix hh;omega
 subst hil
 rw [List.take_length]
 repeat' (first|refine go ?_|refine HK a6 FS ?_)
 exact HT HE
theorem xY (l:List eL) (h:FR l):bV Tryz.prog 61 [.imm 2 (l.map dQ)] (gO (rE l)):=by
 refine aS Tryz.func61 rfl Tryz.ntmps61 rfl fun B=>?_
 have hml:(l.map dQ).length=l.length:=It ..
 have hl:=h.1
 haveI:io (((l.map dQ).length:Nat):Int):=jG (by omega)
 have e0:cA (((l.map dQ).length:Nat):Int)=ee l.length:=by rw [hml];rfl
 have h0:=cI (n:=l.length) (by omega)
 repeat' (first|refine go ?_|refine ak ?_|refine HK a6 FS ?_|(apply bq;refine bg ?_)|fail)
 rw [e0]
 repeat' (first|fail)
 refine aJ [0] (α:=Nat) (fun i=>[(4,aP i),(3,gO ((l.take i).foldl ou (ee l.length)))]) (fun i=>i≤l.length) (fun _=>[]) (fun i=>l.length - i) 0 rfl ⟨rfl,rfl,trivial⟩ (Nat.zero_le _) (fun _ _ h=>h) ?_
 intro i hi
 try dsimp only [Ir,Iq,Ip,Ij]
 repeat' (first|refine go ?_|refine HK a6 FS ?_)
 refine ay rfl (fun hh=>?_) (fun hh=>?_)
 ·have hil:i < l.length:=by have:=Iy hh;omega
  obtain ⟨z,hz⟩:∃z,l[i]?=some z:=⟨_,Iz hil⟩
  have hzg:=bi (c:=dQ) hz
  have hzn:=h.2 z (Iw hz)
  haveI:io z.Op:=⟨hzn.1⟩
  haveI:io z.A:=⟨hzn.2⟩
  have k1:=b9 hzn.1
  have k3:=b9 hzn.2
  have k2:=cO (n:=50) (m:=11) i (p6 h.2) h.1 h0
  have hst:(l.take (i+1)).foldl ou (ee l.length)=(l.take i).foldl ou (ee l.length)++cA z.Op++cA z.A:=dA hz
  repeat' (first|refine go ?_|refine ak ?_)
  refine bn 14 [(0,.v),(1,.v),(2,.v),(3,.v),(4,.v),(5,.v),(6,.v),(7,.v),(8,.v),(9,.v),(10,.v),(11,.v),(12,.v),(13,.v)] none ?_ trivial rfl (by kernel_rfl) (by kernel_rfl) (by kernel_rfl) mixed (by kernel_rfl) rfl
  repeat' (first|refine aC ?_|refine b7 a6 ?_|(apply bY;refine cn a6 ?_)|(apply bE;refine bS ?_)|fail)
  refine dy ?_ rfl rfl (by omega) (by first | trivial | rfl)
  repeat' (first|refine aC ?_|refine b7 a6 ?_|(apply bY;refine cn a6 ?_)|(apply bE;refine bS ?_)|fail)
  refine HU [0,4,21,27] FS ?_
  repeat' (first|fail)
  refine eO rfl rfl (by rw [Iu];omega) rfl ?_
  repeat' (first|refine go ?_|refine HK a6 FS ?_|(apply aW;refine aV ?_)|fail)
  exact aB (i+1) rfl ⟨by rw [Iv];rfl,by rw [hst];rfl,trivial⟩ (by omega) (by omega) (fun _ _ h=>h)
 have hil:i=l.length:=by have:=Ix hh;omega
 subst hil
 rw [List.take_length]
 repeat' (first|refine go ?_|refine HK a6 FS ?_)
 exact HT HE
class FT (l:List Int):Prop where
 ok:zN l
class H4 (l:List eL):Prop where
 ok:FR l
instance (l:List Int) [h:FT l]:AD Tryz.prog 60 [.imm 1 (aZ l)] (gO (pg l)):=⟨C5 l h.ok⟩
instance (l:List eL) [h:H4 l]:AD Tryz.prog 61 [.imm 2 (l.map dQ)] (gO (rE l)):=⟨xY l h.ok⟩
end Go.Proofs.YtjjpkibjffmceaaGreat
