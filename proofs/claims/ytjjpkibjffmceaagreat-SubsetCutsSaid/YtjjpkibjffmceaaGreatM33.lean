/-
  What is kept of a glyph, and of characters.
-/
import Derived.Test.YtjjpkibjffmceaaGreatM29
import Derived.Test.YtjjpkibjffmceaaGreatM32
import Derived.Test.YtjjpkibjffmceaaGreatM24
import Derived.Test.YtjjpkibjffmceaaGreatM28
import Derived.Test.YtjjpkibjffmceaaGreatM31
import Derived.Test.YtjjpkibjffmceaaGreatM06
import Derived.Test.YtjjpkibjffmceaaGreatM11
import Derived.Test.YtjjpkibjffmceaaGreatM22
import Derived.Test.YtjjpkibjffmceaaGreatM23
namespace Go.Proofs.YtjjpkibjffmceaaGreat
open Go.RowKit
attribute [local irreducible] AT cg AX AO Av Kt bJ eC DA du
theorem Ex (l:List Int) (n:Nat):(mv l n).Pairwise (· < ·):=by
  unfold mv
  refine List.Pairwise.filter _ (List.pairwise_map.2 ?_)
  exact List.pairwise_lt_range.imp fun h=>Int.ofNat_lt.2 h
theorem BA (f:aL) (rs:List Int) (fs:List ByteArray):(j2 f rs fs).Pairwise (· < ·):=by
  unfold j2
  rw [mx (sx (f:=f) rs fs).ok]
  exact Ex _ _
section
variable {f:aL} (h:fW f) {rs:List Int} {fs:List ByteArray}
include h
end
end Go.Proofs.YtjjpkibjffmceaaGreat
namespace Go.Proofs.YtjjpkibjffmceaaGreat
open Go.RowKit
attribute [local irreducible] AT cg AX AO Av Kt bJ eC DA du
theorem Bv (l:List Int) (n:Int):bZ Tryz.prog 19 [.imm 1 (aS l),.sc (.int .i64 n)] (.sc (.bool (l.contains n))):=by
 refine aX Tryz.func19 rfl Tryz.ntmps19 rfl fun B=>?_
 refine cN 0 rfl rfl fun hlen=>?_
 rw [aF] at hlen
 repeat' (first|refine go ?_|refine am ?_|refine IG a6 EV ?_)
 refine aO [0,1] (α:=Nat) (fun i=>[(5,.sc (.int .i64 i))]) (fun i=>i≤l.length∧(l.take i).contains n=false) (fun _=>[]) (fun i=>l.length - i) 0 rfl ⟨rfl,trivial⟩ ⟨Nat.zero_le _,by simp⟩ (fun _ _ h=>h) fun i hi=>?_
 try dsimp only [Jr,Jq,Jp,Jk]
 repeat' (first|refine go ?_|refine IG a6 EV ?_)
 refine au rfl (fun h=>?_) (fun h=>?_)
 ·have hil:i < l.length:=by have:=Jy h;rw [aF] at this;omega
  obtain ⟨z,hz⟩:∃z,l[i]?=some z:=⟨_,Jz hil⟩
  have hzg:=bQ hz
  repeat' (first|refine go ?_|refine am ?_|refine IG a6 EV ?_|(apply aV;first|refine aU a6 ?_|refine aN a6 ?_)|fail)
  refine au rfl (fun h2=>?_) (fun h2=>?_)
  ·have h2':=Jy h2
   repeat' (first|refine go ?_|refine IG a6 EV ?_)
   refine IM EV ?_
   subst h2'
   rw [show l.contains z=true by simpa using Jw hz]
  ·have h2':=Jx h2
   repeat' (first|refine go ?_|refine IG a6 EV ?_|(apply aW;refine aT ?_)|fail)
   refine aB (i+1) rfl ⟨by rw [Jv];rfl,trivial⟩ ⟨by omega,?_⟩ (by omega) (fun _ _ h=>h)
   rw [List.take_add_one,hz]
   have:=hi.2
   simp_all
   omega
 ·have hil:i=l.length:=by have:=Jx h;rw [aF] at this;omega
  subst hil
  rw [List.take_length] at hi
  repeat' (first|refine go ?_|refine IG a6 EV ?_)
  refine IM EV ?_
  rw [hi.2]
instance (l:List Int) (n:Int):AD Tryz.prog 19 [.imm 1 (aS l),.sc (.int .i64 n)] (.sc (.bool (l.contains n))):=⟨Bv l n⟩
theorem rO (l k:List Int):bZ Tryz.prog 15 [.imm 1 (aS l),.imm 1 (aS k)] (.sc (.bool (l==k))):=by
 refine aX Tryz.func15 rfl Tryz.ntmps15 rfl fun B=>?_
 refine cN 0 rfl rfl fun hlen=>?_
 rw [aF] at hlen
 repeat' (first|refine go ?_|refine IG a6 EV ?_)
 refine au rfl (fun h=>?_) (fun h=>?_)
 ·have h':=Jy h
  simp only [aF] at h'
  repeat' (first|refine go ?_|refine IG a6 EV ?_)
  refine IM EV ?_
  rw [show (l==k)=false by rw [beq_eq_false_iff_ne];intro e;subst e;simp at h']
 ·have h':=Jx h
  simp only [aF] at h'
  have hlk:l.length=k.length:=by omega
  repeat' (first|refine go ?_|refine am ?_|refine IG a6 EV ?_)
  refine aO [0,1] (α:=Nat) (fun i=>[(5,.sc (.int .i64 i))]) (fun i=>i≤l.length∧l.take i=k.take i) (fun _=>[]) (fun i=>l.length - i) 0 rfl ⟨rfl,trivial⟩ ⟨Nat.zero_le _,by simp⟩ (fun _ _ h=>h) fun i hi=>?_
  try dsimp only [Jr,Jq,Jp,Jk]
  repeat' (first|refine go ?_|refine IG a6 EV ?_)
  refine au rfl (fun h=>?_) (fun h=>?_)
  ·have hil:i < l.length:=by have:=Jy h;rw [aF] at this;omega
   obtain ⟨z,hz⟩:∃z,l[i]?=some z:=⟨_,Jz hil⟩
   obtain ⟨y,hy⟩:∃z,k[i]?=some z:=⟨_,Jz (by omega)⟩
   have hzg:=bQ hz
   have hyg:=bQ hy
   repeat' (first|refine go ?_|refine am ?_)
   refine br 8 [(0,.v),(1,.v),(2,.v),(3,.v),(4,.v),(5,.v),(6,.v),(7,.v)] none ?_ trivial rfl (by kernel_rfl) (by kernel_rfl) (by kernel_rfl) mixed (by kernel_rfl) rfl
   repeat' (first|refine aC ?_|refine aY a6 ?_|(apply bS;refine ce a6 ?_)|fail)
   refine IQ [0,1,5,20,24] EV ?_
   repeat' (first|refine go ?_|refine aa ?_|refine IG a6 EV ?_)
   refine au rfl (fun h2=>?_) (fun h2=>?_)
   ·have h2':=Jy h2
    repeat' (first|refine go ?_|refine IG a6 EV ?_)
    refine IM EV ?_
    rw [show (l==k)=false by rw [beq_eq_false_iff_ne];intro e;subst e;rw [hz] at hy;injection hy with hy;exact h2' hy]
   ·have h2':=Jx h2
    repeat' (first|refine go ?_|refine IG a6 EV ?_|(apply aW;refine aT ?_)|fail)
    refine aB (i+1) rfl ⟨by rw [Jv];rfl,trivial⟩ ⟨by omega,?_⟩ (by omega) (fun _ _ h=>h)
    rw [List.take_add_one,List.take_add_one,hz,hy,hi.2,Decidable.not_not.1 h2']
  ·have hil:i=l.length:=by have:=Jx h;rw [aF] at this;omega
   subst hil
   rw [List.take_length,hlk,List.take_length] at hi
   repeat' (first|refine go ?_|refine IG a6 EV ?_)
   refine IM EV ?_
   rw [hi.2,beq_self_eq_true]
theorem oR (l:List Int) (n:Int) (hu:l.Pairwise (· < ·)) (hd:∀z∈l,0≤z∧z < n):bZ Tryz.prog 14 [.imm 1 (aS l),aP n] (cM true):=by
  refine aX Tryz.func14 rfl Tryz.ntmps14 rfl fun B=>?_
  have hil:=aF l
  refine cN 0 rfl rfl fun hlen=>?_
  repeat' (first|refine go ?_|refine am ?_|refine IG a6 EV ?_)
  refine aO [0,1] (α:=Nat) (fun i=>[(5,aP i)]) (fun i=>i≤l.length) (fun _=>[]) (fun i=>l.length - i) 0 rfl ⟨rfl,trivial⟩ (Nat.zero_le _) (fun _ _ h=>h) fun i hi=>?_
  try dsimp only [Jr,Jq,Jp,Jk]
  repeat' (first|refine go ?_|refine IG a6 EV ?_)
  refine au rfl (fun h=>?_) (fun h=>?_)
  · have hil:i < l.length:=by have:=Jy h;omega
    obtain ⟨z,hz⟩:∃z,l[i]?=some z:=⟨_,Jz hil⟩
    have hzg:=bQ hz
    have hzd:=hd z (Jw hz)
    clear h
    repeat' (first|refine go ?_|refine am ?_)
    by_cases h0:i=0
    · subst h0
      refine br 27 [(0,.v),(1,.v),(2,.v),(3,.v),(4,.v),(5,.v),(6,.v),(7,.v),(8,.v),(9,.v),(10,.v),(11,.v),(12,.v),(13,.v),(14,.v),(15,.v),(16,.v),(17,.v),(18,.v),(19,.v),(20,.v),(21,.v),(22,.v),(23,.v),(24,.v),(25,.v),(26,.v)] none ?_ trivial rfl (by kernel_rfl) (by kernel_rfl) (by kernel_rfl) mixed (by kernel_rfl) rfl
      repeat' (first|refine aC ?_|refine aY a6 ?_|(apply bS;refine ce a6 ?_)|fail)
      rw [decide_eq_false (show ¬z < 0 by omega)]
      repeat' (first|refine aC ?_|refine aY a6 ?_|(apply bS;refine ce a6 ?_)|fail)
      rw [decide_eq_false (show ¬n≤z by omega)]
      repeat' (first|refine aC ?_|refine aY a6 ?_|refine iU rfl rfl ?_)
      refine IQ [0,1,5,25,28,38] EV ?_
      repeat' (first|refine go ?_|refine aa ?_|refine IG a6 EV ?_|refine IR EV ?_|(apply aW;refine aT ?_)|refine bP rfl ?_)
      exact aB 1 rfl ⟨rfl,trivial⟩ (by omega) (by omega) (fun _ _ h=>h)
    · obtain ⟨y,hy⟩:∃z,l[((i:Int) - 1).toNat]?=some z:=⟨_,Jz (by omega)⟩
      have hyg:=bQ hy
      have hyz:y < z:=by
        obtain ⟨a1,a2⟩:=Jo hz
        obtain ⟨b1,b2⟩:=Jo hy
        have:=List.pairwise_iff_getElem.1 hu _ _ b1 a1 (by omega)
        rwa [a2,b2] at this
      refine br 27 [(0,.v),(1,.v),(2,.v),(3,.v),(4,.v),(5,.v),(6,.v),(7,.v),(8,.v),(9,.v),(10,.v),(11,.v),(12,.v),(13,.v),(14,.v),(15,.v),(16,.v),(17,.v),(18,.v),(19,.v),(20,.v),(21,.v),(22,.v),(23,.v),(24,.v),(25,.v),(26,.v)] none ?_ trivial rfl (by kernel_rfl) (by kernel_rfl) (by kernel_rfl) mixed (by kernel_rfl) rfl
      repeat' (first|refine aC ?_|refine aY a6 ?_|(apply bS;refine ce a6 ?_)|fail)
      rw [decide_eq_false (show ¬z < 0 by omega)]
      repeat' (first|refine aC ?_|refine aY a6 ?_|(apply bS;refine ce a6 ?_)|fail)
      rw [decide_eq_false (show ¬n≤z by omega)]
      repeat' (first|refine aC ?_|refine aY a6 ?_|fail)
      rw [decide_eq_true (show (0:Int) < (i:Int) by omega)]
      repeat' (first|refine aC ?_|refine aY a6 ?_|(apply fk;refine gF ?_)|(apply bS;refine ce a6 ?_)|fail)
      rw [decide_eq_false (show ¬z≤y by omega)]
      repeat' (first|fail)
      refine IQ [0,1,5,25,28,38] EV ?_
      repeat' (first|refine go ?_|refine aa ?_|refine IG a6 EV ?_|refine IR EV ?_|(apply aW;refine aT ?_)|refine bP rfl ?_)
      exact aB (i+1) rfl ⟨by rw [Jv];rfl,trivial⟩ (by omega) (by omega) (fun _ _ h=>h)
  have hil:i=l.length:=by have:=Jx h;omega
  subst hil
  repeat' (first|refine go ?_|refine IG a6 EV ?_)
  exact IP IB
theorem A0 (f g:aL) (hf:mG f) (hg:mG g):bZ Tryz.prog 16 [cr f,cr g] (cM (decide (xq f=xq g))):=by
 refine aX Tryz.func16 rfl Tryz.ntmps16 rfl fun B=>?_
 haveI:HS f:=⟨hf⟩
 haveI:HS g:=⟨hg⟩
 repeat' (first|refine go ?_|refine IG a6 EV ?_|refine bD ?_|fail)
 refine br 3 [(0,.v),(1,.v),(2,.v)] none ?_ trivial rfl (by kernel_rfl) (by kernel_rfl) (by kernel_rfl) mixed (by kernel_rfl) rfl
 repeat' (first|refine aC ?_|refine aY a6 ?_|(apply bK;refine bR ?_)|fail)
 refine IQ [6,7] EV ?_
 repeat' (first|refine go ?_|refine aa ?_|refine IG a6 EV ?_|(apply bB;refine bq ?_)|fail)
 exact IP IB
set_option maxHeartbeats 4000000 in
theorem Gm (l:List Int) (hs:l.Pairwise (· < ·)) (hl:l.length≤1000000):to Tryz.prog 94 [.imm 1 (aS l)] 3 1 (aS l):=by
  refine aX Tryz.func94 rfl Tryz.ntmps94 rfl fun B=>?_
  have hil:=aF l
  repeat' (first|refine go ?_|refine am ?_|refine IG a6 EV ?_|refine eK (d:=7) a6 fun _=>?_|fail)
  rename_i b
  refine aO [0] (α:=Nat×Option (Nat×Nat)) (fun x=>[(3,.vec x.2 1 (aS (l.take x.1))),(4,aP x.1)]) (fun x=>x.1≤l.length) (fun x=>tok x.2 3 1 (aS (l.take x.1)).length) (fun x=>l.length - x.1) (0,some (b,0)) rfl ⟨rfl,rfl,trivial⟩ (Nat.zero_le _) (fun _ _ h=>h) ?_
  rintro ⟨i,q⟩ hi
  dsimp only at hi ⊢
  have hti:(l.take i).length=i:=by rw [List.length_take];omega
  have htl:=aF (l.take i)
  try dsimp only [Jr,Jq,Jp,Jk]
  repeat' (first|refine go ?_|refine IG a6 EV ?_)
  refine au rfl (fun h=>?_) (fun h=>?_)
  · have hi2:i < l.length:=by have:=Jy h;omega
    obtain ⟨z,hz⟩:∃z,l[i]?=some z:=⟨_,Jz hi2⟩
    have hzg:=bQ hz
    clear h
    repeat' (first|refine go ?_|refine am ?_|refine IG a6 EV ?_)
    refine aO [0,3,4] (α:=Nat) (fun j=>[(5,aP j)]) (fun j=>j≤i) (fun _=>tok q 3 1 (aS (l.take i)).length) (fun j=>i - j) 0 rfl ⟨rfl,trivial⟩ (Nat.zero_le _) (fun _ _ h=>h) ?_
    intro j hj
    try dsimp only [Jr,Jq,Jp,Jk]
    repeat' (first|refine go ?_|fail)
    refine br 13 [(0,.v),(1,.v),(2,.v),(3,.v),(4,.v),(5,.v),(6,.v),(7,.v),(8,.v),(9,.v),(10,.v),(11,.v),(12,.v)] none ?_ trivial rfl (by kernel_rfl) (by kernel_rfl) (by kernel_rfl) mixed (by kernel_rfl) rfl
    repeat' (first|refine aC ?_|refine aY a6 ?_|fail)
    rcases Nat.lt_or_ge j i with hji | hji
    · obtain ⟨y,hy⟩:∃z,l[j]?=some z:=⟨_,Jz (by omega)⟩
      have hyz:y < z:=by
        obtain ⟨a1,a2⟩:=Jo hy
        obtain ⟨b1,b2⟩:=Jo hz
        rw [←a2,←b2]
        exact List.pairwise_iff_getElem.1 hs j i a1 b1 hji
      have hyt:(aS (l.take i))[j]?=some [.sc (.int .i64 y)]:=bQ (by rw [List.getElem?_take_of_lt hji];exact hy)
      rw [decide_eq_true (show (j:Int) < (((aS (l.take i)).length:Nat):Int) by omega)]
      repeat' (first|refine aC ?_|refine aY a6 ?_|(apply bS;refine ce a6 ?_)|fail)
      refine IQ [0,3,4,5,18,22,26] EV ?_
      repeat' (first|refine go ?_|refine aa ?_|refine IG a6 EV ?_|refine IR EV ?_)
      refine au rfl (fun _=>?_) (fun hn=>absurd hyz (Jx hn))
      repeat' (first|refine go ?_|refine am ?_|refine IG a6 EV ?_|(apply aW;refine aT ?_)|fail)
      exact aB (j+1) rfl ⟨by rw [Jv];rfl,trivial⟩ (by omega) (by omega) (fun _ _ h=>h)
    have hji:j=i:=by omega
    subst hji
    rw [decide_eq_false (show ¬(j:Int) < (((aS (l.take j)).length:Nat):Int) by omega)]
    repeat' (first|refine aC ?_|refine iU rfl rfl ?_)
    refine IQ [0,3,4,5,18,22,26] EV ?_
    repeat' (first|refine go ?_|refine aa ?_|refine IG a6 EV ?_|refine IT IC ?_|refine bP rfl ?_)
    refine br 13 [(0,.v),(1,.v),(2,.v),(3,.v),(4,.v),(5,.v),(6,.v),(7,.v),(8,.v),(9,.v),(10,.v),(11,.v),(12,.v)] none ?_ trivial rfl (by kernel_rfl) (by kernel_rfl) (by kernel_rfl) mixed (by kernel_rfl) rfl
    repeat' (first|refine aC ?_|refine aY a6 ?_|fail)
    rw [decide_eq_false (show ¬(j:Int) < (((aS (l.take j)).length:Nat):Int) by omega)]
    repeat' (first|refine aC ?_|refine iU rfl rfl ?_)
    refine IQ [0,3,4,5,35,39,43] EV ?_
    repeat' (first|refine go ?_|refine aa ?_|refine IG a6 EV ?_|refine IT IC ?_|refine bP rfl ?_)
    refine br 8 [(0,.v),(1,.v),(2,.v),(3,.v),(5,.v),(6,.v),(7,.v),(4,.e)] none ?_ trivial rfl (by kernel_rfl) (by kernel_rfl) (by kernel_rfl) mixed (by kernel_rfl) rfl
    repeat' (first|refine aC ?_|refine aY a6 ?_|(apply bS;refine ce a6 ?_)|fail)
    refine Dt a6 j rfl rfl rfl rfl rfl rfl (by omega) trivial ?_
    rw [List.drop_of_length_le (by omega)]
    repeat' (first|refine aC ?_|fail)
    refine Du a6 rfl rfl rfl rfl rfl rfl rfl trivial fun b2=>?_
    repeat' (first|fail)
    refine IQ [0,3,4,5,50,53] EV ?_
    repeat' (first|fail)
    refine IS a6 (tok q 3 1 (aS (l.take j)).length) IC (Jn _) (by simp) (by simp) rfl fun q2=>?_
    rw [List.append_nil]
    repeat' (first|refine go ?_|refine IG a6 EV ?_|refine eK (d:=55) a6 fun _=>?_|fail)
    rename_i b3
    refine Eg a6 j rfl rfl rfl rfl rfl rfl (by omega) rfl ?_
    rw [List.take_of_length_le (show (aS (l.take j)).length≤j by omega)]
    refine aK (bM (L':=[(b3,.vec 3 1 0 0)]) (List.Sublist.cons_cons _ (List.nil_sublist _))) ?_
    refine IS a6 [] IC (Jn _) (by simp;omega) (by simp;omega) rfl fun q3=>?_
    rw [Jq,List.append_nil]
    repeat' (first|refine IG a6 EV ?_)
    refine IS a6 [] IC (by rw [List.append_nil]) (by simp;omega) (by simp;omega) rfl fun q4=>?_
    repeat' (first|refine go ?_|refine IG a6 EV ?_|(apply aW;refine aT ?_)|fail)
    have hst:aS (l.take (j+1))=aS (l.take j)++[[aP z]]:=by rw [List.take_add_one,hz,←eh];rfl
    exact aB (j+1,q4) rfl ⟨by dsimp only;rw [hst];rfl,by rw [Jv];rfl,trivial⟩ (by dsimp only;omega) (by dsimp only;omega) (fun _ _ h=>by dsimp only;rw [hst];rw [List.append_nil] at h;exact h)
  · have hi2:i=l.length:=by have:=Jx h;omega
    subst hi2
    rw [List.take_length]
    repeat' (first|refine go ?_|refine IG a6 EV ?_)
    exact IM EV ⟨_,rfl,rfl⟩
theorem Gk (l:List Int) (hs:l.Pairwise (· < ·)) (hl:l.length≤1000000):bZ Tryz.prog 94 [.imm 1 (aS l)] (.imm 1 (aS l)):=(Gm l hs hl).det
theorem uh {α:Type} (p:α→Bool) {l:List α} {i:Nat} {z:α} (h:l[i]?=some z):(l.take (i+1)).filter p=(l.take i).filter p++if p z=true then [z] else []:=by
 rw [List.take_add_one,h,List.filter_append]
 congr 1
 show List.filter _ [z]=_
 rw [List.filter_cons]
 rfl
theorem Bn {α:Type} (p:α→Bool) (l:List α) (i:Nat):((l.take i).filter p).length≤i:=Nat.le_trans (List.length_filter_le ..) (by rw [List.length_take];omega)
set_option maxHeartbeats 2000000 in
theorem BR (a b:List Int) (hs:a.Pairwise (· < ·)) (hl:a.length≤1000000):bZ Tryz.prog 152 [.imm 1 (aS a),.imm 1 (aS b)] (.imm 1 (aS (a.filter (b.contains ·)))):=by
  refine aX Tryz.func152 rfl Tryz.ntmps152 rfl fun B=>?_
  have hil:=aF a
  repeat' (first|refine go ?_|refine am ?_|refine IG a6 EV ?_|refine eK (d:=7) a6 fun _=>?_|fail)
  rename_i bb
  refine aO [0,1] (α:=Nat×Option (Nat×Nat)) (fun x=>[(5,.vec x.2 1 (aS ((a.take x.1).filter (b.contains ·)))),(6,aP x.1)]) (fun x=>x.1≤a.length) (fun x=>tok x.2 3 1 (aS ((a.take x.1).filter (b.contains ·))).length) (fun x=>a.length - x.1) (0,some (bb,0)) rfl ⟨rfl,rfl,trivial⟩ (Nat.zero_le _) (fun _ _ h=>h) ?_
  rintro ⟨i,q⟩ hi
  dsimp only at hi ⊢
  have hsl:=Bn (b.contains ·) a i
  have hsm:=aF ((a.take i).filter (b.contains ·))
  try dsimp only [Jr,Jq,Jp,Jk]
  repeat' (first|refine go ?_|refine IG a6 EV ?_)
  refine au rfl (fun h=>?_) (fun h=>?_)
  · have hi2:i < a.length:=by have:=Jy h;omega
    obtain ⟨z,hz⟩:∃z,a[i]?=some z:=⟨_,Jz hi2⟩
    have hzg:=bQ hz
    have hst:=uh (b.contains ·) hz
    clear h
    repeat' (first|refine go ?_|refine am ?_|refine IG a6 EV ?_|(apply aV;first|refine aU a6 ?_|refine aN a6 ?_)|(apply bB;refine bq ?_)|fail)
    refine au rfl (fun h2=>?_) (fun h2=>?_)
    · rw [if_pos h2] at hst
      repeat' (first|refine go ?_|refine IG a6 EV ?_|(apply aV;first|refine aU a6 ?_|refine aN a6 ?_)|refine bG a6 ?_|fail)
      refine IS a6 [] IC (by simp) (by rw [hsm];simp only [List.length_cons,List.length_nil];omega) (by rw [hsm];simp only [List.length_cons,List.length_nil];omega) rfl fun q'=>?_
      repeat' (first|refine go ?_|refine IG a6 EV ?_|(apply aW;refine aT ?_)|fail)
      exact aB (i+1,q') rfl ⟨by dsimp only;rw [hst,←eh];rfl,by rw [Jv];rfl,trivial⟩ (by dsimp only;omega) (by dsimp only;omega) (fun _ _ h=>by dsimp only;rw [hst,←eh];rw [List.append_nil] at h;exact h)
    · rw [if_neg (by rw [h2];decide),List.append_nil] at hst
      repeat' (first|refine go ?_|refine IG a6 EV ?_|(apply aW;refine aT ?_)|fail)
      exact aB (i+1,q) rfl ⟨by dsimp only;rw [hst];rfl,by rw [Jv];rfl,trivial⟩ (by dsimp only;omega) (by dsimp only;omega) (fun _ _ h=>by dsimp only;rw [hst];exact h)
  · have hi2:i=a.length:=by have:=Jx h;omega
    subst hi2
    rw [List.take_length] at hsl ⊢
    haveI:=AD.mk (Gk (a.filter (b.contains ·)) (hs.filter _) (by omega))
    repeat' (first|refine go ?_|refine IG a6 EV ?_|(apply bB;refine bq ?_)|fail)
    exact IP IB
def dO (k seen:List Int) (q:List Int):List Int:=(q.filter (seen.contains ·)).filterMap (di k)
def lm (k seen:List Int) (l:List (List Int)):Bool:=(l.map (dO k seen)).all fun q=>decide (0 < q.length)
structure GQ (l:List (List Int)):Prop where
  up:∀q∈l,q.Pairwise (· < ·)
  few:∀q∈l,q.length≤1000000
  len:l.length≤1000000
set_option maxHeartbeats 4000000 in
theorem A4 (k seen:List Int) (l:List (List Int)) (hl:GQ l):AC Tryz.prog 93 [.imm 1 (aS k),.imm 1 (aS seen),.imm 1 (bw l)] [] fun c L=>(∃q,c= .tup [.vec q 1 (bw (l.map (dO k seen))),cM ((l.map (dO k seen)).all fun q=>decide (0 < q.length))]∧L=tok q 22 1 (bw (l.map (dO k seen))).length):=by
 refine aX Tryz.func93 rfl Tryz.ntmps93 rfl fun B=>?_
 have hil:=fe l
 have hll:=hl.len
 repeat' (first|refine go ?_|refine am ?_|refine IG a6 EV ?_|refine eK (d:=11) a6 fun _=>?_|fail)
 rename_i bb
 refine aO [0,1,2] (α:=Nat×Option (Nat×Nat)) (fun x=>[(8,.vec x.2 1 (bw ((l.take x.1).map (dO k seen)))),(9,cM (((l.take x.1).map (dO k seen)).all fun q=>decide (0 < q.length))),(10,aP x.1)]) (fun x=>x.1≤l.length) (fun x=>tok x.2 22 1 (bw ((l.take x.1).map (dO k seen))).length) (fun x=>l.length - x.1) (0,some (bb,0)) rfl ⟨rfl,rfl,rfl,trivial⟩ (Nat.zero_le _) (fun _ _ h=>h) ?_
 rintro ⟨i,q⟩ hi
 dsimp only at hi ⊢
 have hsl:((l.take i).map (dO k seen)).length=i:=by rw [Jt,List.length_take];omega
 have hsm:=fe ((l.take i).map (dO k seen))
 try dsimp only [Jr,Jq,Jp,Jk]
 repeat' (first|refine go ?_|refine IG a6 EV ?_)
 refine au rfl (fun h=>?_) (fun h=>?_)
 ·have hi2:i < l.length:=by have:=Jy h;omega
  obtain ⟨z,hz⟩:∃z,l[i]?=some z:=⟨_,Jz hi2⟩
  have hzg:=iP hz
  have hzm:=Jw hz
  have hst:(l.take (i+1)).map (dO k seen)=(l.take i).map (dO k seen)++[dO k seen z]:=by rw [List.take_add_one,hz,List.map_append];rfl
  haveI:=AD.mk (BR z seen (hl.up z hzm) (hl.few z hzm))
  haveI:AD Tryz.prog 57 [.imm 1 (aS k),.imm 1 (aS (z.filter (seen.contains ·)))] (.imm 1 (aS (dO k seen z))):=AD.mk (mE k (z.filter (seen.contains ·)) (Nat.le_trans (List.length_filter_le ..) (hl.few z hzm)))
  generalize dO k seen z=w at *
  generalize (l.take i).map (dO k seen)=R at *
  clear h
  repeat' (first|refine go ?_|refine am ?_|refine IG a6 EV ?_|(apply aV;first|refine aU a6 ?_|refine aN a6 ?_)|refine bG a6 ?_|(apply bB;refine bq ?_)|fail)
  refine IS a6 [] IC (by simp) (by rw [hsm];simp only [List.length_cons,List.length_nil];omega) (by rw [hsm];simp only [List.length_cons,List.length_nil];omega) rfl fun q'=>?_
  rw [List.append_nil]
  have hr:bw R++[[.imm 1 (aS w)]]=bw (R++[w]):=by unfold bw;rw [List.map_append];rfl
  rw [hr]
  have hgg:(bw (R++[w]))[i]?=some [.imm 1 (aS w)]:=iP (by rw [List.getElem?_append_right (by omega),hsl,Nat.sub_self];rfl)
  repeat' (first|refine go ?_|refine IG a6 EV ?_)
  cases hb:R.all fun q=>decide (0 < q.length) with
  | true=>
   have h9:((R++[w]).all fun q=>decide (0 < q.length))=decide ((0:Int) < (((aS w).length:Nat):Int)):=by
    rw [List.all_append,hb,aF]
    simp
   repeat' (first|refine go ?_|refine IG a6 EV ?_|refine IR EV ?_|(apply aW;refine aT ?_)|(apply aV;first|refine aU a6 ?_|refine aN a6 ?_)|fail)
   exact aB (i+1,q') rfl ⟨by dsimp only;rw [hst];rfl,by dsimp only;rw [hst,h9];rfl,by rw [Jv];rfl,trivial⟩ (by dsimp only;omega) (by dsimp only;omega) (fun _ _ h=>by dsimp only;rw [hst];exact h)
  | false=>
   have h9:((R++[w]).all fun q=>decide (0 < q.length))=false:=by rw [List.all_append,hb];rfl
   repeat' (first|refine go ?_|refine IG a6 EV ?_|refine IT IC ?_|(apply aW;refine aT ?_)|fail)
   exact aB (i+1,q') rfl ⟨by dsimp only;rw [hst];rfl,by dsimp only;rw [hst,h9];rfl,by rw [Jv];rfl,trivial⟩ (by dsimp only;omega) (by dsimp only;omega) (fun _ _ h=>by dsimp only;rw [hst];exact h)
 ·have hi2:i=l.length:=by have:=Jx h;omega
  subst hi2
  rw [List.take_length]
  repeat' (first|refine go ?_|refine IG a6 EV ?_)
  exact IU IB ⟨_,rfl,rfl⟩
theorem mw (k seen:List Int) (l:List (List Int)) (hl:GQ l):bZ Tryz.prog 93 [.imm 1 (aS k),.imm 1 (aS seen),.imm 1 (bw l)] (.tup [.imm 1 (bw (l.map (dO k seen))),cM (lm k seen l)]):=fun σ w vs hv hs=>
 (A4 k seen l hl σ w vs hv hs).mono fun _ _ ⟨v,τ,c,L',h1,h2,h3,q,h4,h5⟩=>⟨v,τ,_,L',h1,by
  subst h4
  cases h2 with
  | tup cs us hl h=>
   refine .tup _ us hl fun i c u hc hu=>?_
   match i with
   | 0=>
    cases hc
    exact VR.im (h 0 _ u rfl hu)
   | i+1=>exact h (i+1) c u hc hu,h3,rfl⟩
def gk (kind:Int) (r:cb) (seen:List Int):List Int:=if kind=1∨kind=5 then ((r.Out.zip (r.In.headD [])).filter fun x=>seen.contains x.2).map (·.1) else r.Out
def lq (kind:Int) (r:cb) (k seen K:List Int):cb:={ Back:=r.Back.map (dO k seen),In:=r.In.map (dO k seen),Ahead:=r.Ahead.map (dO k seen),Out:=(gk kind r seen).filterMap (di k),Calls:=r.Calls.filterMap (eP K),X:=r.X }
def gr (r:cb) (k seen:List Int):Prop:=lm k seen r.Back=false∨lm k seen r.In=false∨lm k seen r.Ahead=false∨r.In=[]
structure Ar (r:cb):Prop where
 back:GQ r.Back
 ins:GQ r.In
 ahead:GQ r.Ahead
 out:r.Out.length≤1000000
 calls:r.Calls.length≤1000000
instance (r:cb) (k seen:List Int):Decidable (gr r k seen):=by
 unfold gr
 exact @instDecidableOr _ _ inferInstance (@instDecidableOr _ _ inferInstance (@instDecidableOr _ _ inferInstance (decidable_of_iff (r.In.length=0) List.length_eq_zero_iff)))
def rX:cb:=⟨[],[],[],[],[],0⟩
def zR:List AV:=[bO,bO,bO,bO,bO,aP 0]
theorem tQ (K:List Int) (p:gy):(eP K p).toList=if (di K p.Lookup).isSome=true then [{ p with Lookup:=(di K p.Lookup).getD (-1) }] else []:=by
 unfold eP
 cases di K p.Lookup <;> rfl
set_option maxHeartbeats 8000000 in
theorem wz (kind:Int) (r:cb) (k seen K:List Int) (hr:Ar r):bZ Tryz.prog 55 [aP kind,.agg (bE r),.imm 1 (aS k),.imm 1 (aS seen),.imm 1 (aS K)] (.tup [.agg (bE (if gr r k seen then rX else lq kind r k seen K)),cM (decide (¬gr r k seen))]):=by
 refine aX Tryz.func55 rfl Tryz.ntmps55 rfl fun B=>?_
 haveI:=AD.mk (mw k seen r.Back hr.back)
 haveI:=AD.mk (mw k seen r.In hr.ins)
 haveI:=AD.mk (mw k seen r.Ahead hr.ahead)
 have hil:(bw (r.In.map (dO k seen))).length=r.In.length:=by rw [fe,Jt]
 have hnil:r.In=[]↔(((bw (r.In.map (dO k seen))).length:Nat):Int)=0:=by rw [hil,←List.length_eq_zero_iff];omega
 repeat' (first|refine go ?_|refine IG a6 EV ?_|refine bD ?_|refine bc a6 fun _=>?_|(apply bB;refine bq ?_)|fail)
 rename_i b10
 refine aK (aM (L':=[(b10,.box zR 81)]) (Jn _)) ?_
 refine ej [0,2,3,4,6,10,12,14,16] (gr r k seen) rfl (fun Q' K=>?_) (fun hC=>?_) (fun hC=>?_)
 ·repeat' (first|refine go ?_|refine IG a6 EV ?_|refine IR EV ?_|refine IT IC ?_|refine bF rfl rfl rfl (fun _=>?_) (fun _=>?_))
  all_goals exact K _ _ rfl rfl (by clear K;unfold gr;rw [hnil];simp_all)
 ·repeat' (first|refine go ?_|refine IG a6 EV ?_|(apply aJ;first|refine IH a6 0 IE ?_|refine IH a6 1 IE ?_|refine IH a6 2 IE ?_|refine IH a6 3 IE ?_|fail))
  refine ba (bC 0 (cs':=bE rX) rfl fun σ vs h=>mH.vrs (a:=zR) (b:=bE rX) ⟨dt.nil 1,dt.nil 1,dt.nil 1,dt.nil 1,dt.nil 2,dt.refl _,trivial⟩ h) ?_
  exact er (cs:=[.agg (bE rX),cM false]) [] ⟨⟨_,0,_,_,rfl,rfl,.inr ⟨cV a6 rfl,rfl⟩⟩,rfl,trivial⟩ (List.nil_sublist _) (by rw [if_pos hC,decide_eq_false (fun h=>h hC)];rfl)
 have hIn:r.In≠[]:=fun e=>hC (.inr (.inr (.inr e)))
 obtain ⟨s0,hs0⟩:∃z,r.In[0]?=some z:=⟨_,Jz (List.length_pos_iff.2 hIn)⟩
 have hs0g:=iP hs0
 have hh0:r.In.headD []=s0:=by
  cases hq:r.In with
  | nil=>exact absurd hq hIn
  | cons a t=>rw [hq] at hs0;cases hs0;rfl
 repeat' (first|refine go ?_|refine IG a6 EV ?_)
 refine dH (t:=70) [2,3,4,6,10,12,14,16,18] (kind=1∨kind=5) rfl (fun Q' K=>?_) ?_
 ·repeat' (first|refine go ?_|refine IG a6 EV ?_|refine IR EV ?_|refine IT IC ?_|refine bF rfl rfl rfl (fun _=>?_) (fun _=>?_))
  all_goals exact K _ _ rfl rfl (by clear K;simp_all <;> omega)
 refine a8 ?_
 refine Dg [2,4,6,10,12,14,16,18] [(2,.imm 1 (aS k)),(4,.imm 1 (aS K)),(6,.iptr (bE r)),(10,.sc (.pointer (some ⟨b10,0,none⟩))),(12,.imm 1 (bw (r.Back.map (dO k seen)))),(14,.imm 1 (bw (r.In.map (dO k seen)))),(16,.imm 1 (bw (r.Ahead.map (dO k seen)))),(18,.imm 1 (aS (gk kind r seen)))] [(b10,.box zR 81)] (fun Q' K=>?_) ?_
 ·refine au rfl (fun hk=>?_) (fun hk=>?_)
  ·have hk:=Jy hk
   have hv:gk kind r seen=((r.Out.zip s0).filter fun x=>seen.contains x.2).map (·.1):=by unfold gk;rw [if_pos hk,hh0]
   rw [hv] at K
   have hol:=aF r.Out
   have hsl:=aF s0
   have hzl:(r.Out.zip s0).length=min r.Out.length s0.length:=List.length_zip
   repeat' (first|refine go ?_|refine am ?_|refine IG a6 EV ?_|refine eK (d:=71) a6 fun _=>?_|fail)
   rename_i bb
   refine aO [2,3,4,6,10,12,14,16] (α:=Nat×Option (Nat×Nat)) (fun x=>[(18,.vec x.2 1 (aS ((((r.Out.zip s0).take x.1).filter fun x=>seen.contains x.2).map (·.1)))),(19,aP x.1)]) (fun x=>x.1≤(r.Out.zip s0).length) (fun x=>tok x.2 3 1 (aS ((((r.Out.zip s0).take x.1).filter fun x=>seen.contains x.2).map (·.1))).length++[(b10,.box zR 81)]) (fun x=>(r.Out.zip s0).length - x.1) (0,some (bb,0)) rfl ⟨rfl,rfl,trivial⟩ (Nat.zero_le _) (fun _ _ h=>h) ?_
   rintro ⟨i,q⟩ hi
   dsimp only at hi ⊢
   have hfl:=Bn (fun x:Int×Int=>seen.contains x.2) (r.Out.zip s0) i
   have hfm:(aS ((((r.Out.zip s0).take i).filter fun x=>seen.contains x.2).map (·.1))).length=(((r.Out.zip s0).take i).filter fun x=>seen.contains x.2).length:=by rw [aF,Jt]
   have hro:=hr.out
   try dsimp only [Jr,Jq,Jp,Jk]
   repeat' (first|refine go ?_|refine IG a6 EV ?_|(apply aV;first|refine aU a6 ?_|refine aN a6 ?_)|fail)
   refine dH (t:=85) [2,3,4,6,10,12,14,16,18,19] (i < (r.Out.zip s0).length) rfl (fun Q' K=>?_) ?_
   ·repeat' (first|refine go ?_|refine IG a6 EV ?_|refine IR EV ?_|refine IT IC ?_|refine bF rfl rfl rfl (fun _=>?_) (fun _=>?_))
    all_goals exact K _ _ rfl rfl (by clear K;rw [hzl];simp_all <;> omega)
   refine a8 ?_
   refine au rfl (fun h=>?_) (fun h=>?_)
   ·have hi2:=Jy h
    obtain ⟨⟨a,b⟩,hz⟩:∃z,(r.Out.zip s0)[i]?=some z:=⟨_,Jz hi2⟩
    obtain ⟨hza,hzb⟩:=List.getElem?_zip_eq_some.1 hz
    have hzag:=bQ hza
    have hzbg:=bQ hzb
    have hst:=uh (fun x:Int×Int=>seen.contains x.2) hz
    clear h
    repeat' (first|refine go ?_|refine am ?_|refine IG a6 EV ?_|(apply aV;first|refine aU a6 ?_|refine aN a6 ?_)|(apply bB;refine bq ?_)|fail)
    refine au rfl (fun h2=>?_) (fun h2=>?_)
    ·rw [if_pos h2] at hst
     repeat' (first|refine go ?_|refine IG a6 EV ?_|(apply aV;first|refine aU a6 ?_|refine aN a6 ?_)|refine bG a6 ?_|fail)
     refine IS a6 [(b10,.box zR 81)] IC (Jn _) (by rw [hfm];simp only [List.length_cons,List.length_nil];omega) (by rw [hfm];simp only [List.length_cons,List.length_nil];omega) rfl fun q'=>?_
     repeat' (first|refine go ?_|refine IG a6 EV ?_|(apply aW;refine aT ?_)|fail)
     exact aB (i+1,q') rfl ⟨by dsimp only;rw [hst,List.map_append,←eh];rfl,by rw [Jv];rfl,trivial⟩ (by dsimp only;omega) (by dsimp only;omega) (fun _ _ h=>by dsimp only;rw [hst,List.map_append,←eh];exact h)
    ·rw [if_neg (by rw [h2];decide),List.append_nil] at hst
     repeat' (first|refine go ?_|refine IG a6 EV ?_|(apply aW;refine aT ?_)|fail)
     exact aB (i+1,q) rfl ⟨by dsimp only;rw [hst];rfl,by rw [Jv];rfl,trivial⟩ (by dsimp only;omega) (by dsimp only;omega) (fun _ _ h=>by dsimp only;rw [hst];exact h)
   ·have hi2:i=(r.Out.zip s0).length:=by have:=Jx h;omega
    subst hi2
    rw [List.take_length]
    repeat' (first|refine go ?_|fail)
    refine ba (bo (t:=18) (c':= .imm 1 (aS (((r.Out.zip s0).filter fun x:Int×Int=>seen.contains x.2).map fun x:Int×Int=>x.1))) rfl fun σ v h=>VR.im h) ?_
    refine ba (bM (L':=[(b10,.box zR 81)]) (List.sublist_append_right ..)) ?_
    exact K _ rfl
  ·have hk:=Jx hk
   have hv:gk kind r seen=r.Out:=by unfold gk;rw [if_neg hk]
   rw [hv] at K
   repeat' (first|refine go ?_|fail)
   exact K _ rfl
 have hol:(gk kind r seen).length≤1000000:=by
  unfold gk
  split
  ·rw [Jt]
   have h1:=List.length_filter_le (fun x:Int×Int=>seen.contains x.2) (r.Out.zip (r.In.headD []))
   have h2:(r.Out.zip (r.In.headD [])).length=min r.Out.length (r.In.headD []).length:=List.length_zip
   have:=hr.out
   omega
  ·exact hr.out
 haveI:=AD.mk (mE k (gk kind r seen) hol)
 repeat' (first|refine go ?_|fail)
 refine br 10 [(0,.v),(1,.v),(2,.v),(3,.v),(4,.v),(5,.v),(6,.v),(7,.v),(8,.v)] (some (9,.box _ 81)) ?_ ⟨_,rfl,rfl,fun _ _ _=>ga (eA a6 rfl) rfl⟩ rfl (by kernel_rfl) (by kernel_rfl) (by kernel_rfl) mixed (by kernel_rfl) rfl
 repeat' (first|refine aC ?_|refine aY a6 ?_|(apply bK;refine bR ?_)|fail)
 refine ji [4,6,10,20,113] (fun _=>_) (fun _=>rfl) rfl fun _=>?_
 repeat' (first|refine go ?_|refine aa ?_|refine am ?_|refine IG a6 EV ?_|(apply aJ;first|refine IH a6 0 IE ?_|refine IH a6 1 IE ?_|refine IH a6 2 IE ?_|refine IH a6 3 IE ?_|fail))
 rename_i b20
 generalize hO:(gk kind r seen).filterMap (di k)=O
 generalize hBk:r.Back.map (dO k seen)=Bk
 generalize hI:r.In.map (dO k seen)=I
 generalize hA:r.Ahead.map (dO k seen)=A
 have hcl:=hr.calls
 have hcm:(r.Calls.map dI).length=r.Calls.length:=Jt ..
 refine bN (bC 1 (cs':=[.imm 1 (bw Bk),.imm 1 (bw I),.imm 1 (bw A),.imm 1 (aS O),.vec none 2 [],aP r.X]) rfl fun σ vs h=>mH.vrs (a:=[.imm 1 (bw Bk),.imm 1 (bw I),.imm 1 (bw A),.imm 1 (aS O),bO,aP r.X]) (b:=[.imm 1 (bw Bk),.imm 1 (bw I),.imm 1 (bw A),.imm 1 (aS O),.vec none 2 [],aP r.X]) ⟨dt.refl _,dt.refl _,dt.refl _,dt.refl _,dt.vecN 2,dt.refl _,trivial⟩ h) ?_
 refine aO [4,6,10,20] (α:=Nat×Option (Nat×Nat)) (fun x=>[(21,aP x.1)]) (fun x=>x.1≤r.Calls.length) (fun x=>[(b10,.box zR 81),(b20,.box [.imm 1 (bw Bk),.imm 1 (bw I),.imm 1 (bw A),.imm 1 (aS O),.vec x.2 2 (((r.Calls.take x.1).filterMap (eP K)).map dI),aP r.X] 81)]++tok x.2 91 2 (((r.Calls.take x.1).filterMap (eP K)).map dI).length) (fun x=>r.Calls.length - x.1) (0,none) rfl ⟨rfl,trivial⟩ (Nat.zero_le _) (fun _ _ h=>h) ?_
 rintro ⟨i,q⟩ hi
 dsimp only at hi ⊢
 have hsl:=oG (eP K) r.Calls i
 have hsm:(((r.Calls.take i).filterMap (eP K)).map dI).length=((r.Calls.take i).filterMap (eP K)).length:=Jt ..
 try dsimp only [Jr,Jq,Jp,Jk]
 repeat' (first|refine go ?_|refine IG a6 EV ?_)
 refine au rfl (fun h=>?_) (fun h=>?_)
 ·have hi2:i < r.Calls.length:=by have:=Jy h;omega
  obtain ⟨p,hp⟩:∃z,r.Calls[i]?=some z:=⟨_,Jz hi2⟩
  have hpg:=bA (c:=dI) hp
  have hst:=jj (eP K) hp
  rw [tQ] at hst
  have hge:=pn K p.Lookup
  clear h
  repeat' (first|refine go ?_|refine am ?_|refine IG a6 EV ?_|(apply aV;first|refine aU a6 ?_|refine aN a6 ?_)|(apply bB;refine bq ?_)|fail)
  refine au rfl (fun h2=>?_) (fun h2=>?_)
  ·rw [hge] at h2
   rw [if_pos h2] at hst
   repeat' (first|fail)
   refine br 12 [(0,.v),(1,.l),(2,.v),(3,.v),(4,.v),(5,.v),(6,.v),(7,.v),(8,.v),(9,.v),(10,.v),(11,.e)] none ?_ trivial rfl (by kernel_rfl) (by kernel_rfl) (by kernel_rfl) mixed (by kernel_rfl) rfl
   repeat' (first|refine aC ?_|refine aY a6 ?_|(apply bS;refine ce a6 ?_)|refine dU a6 ?_|refine dg a6 1 rfl rfl rfl rfl (by first|trivial|rfl) ?_)
   refine eI a6 _ rfl rfl rfl rfl (List.perm_append_comm (l₁:=[_,_])) (by simp;omega) (by simp;omega) (by first | trivial | rfl) fun q'=>?_
   refine IQ [4,6,10,20,21,142] EV ?_
   refine aK (aM (List.perm_append_comm (l₂:=[_,_]))) ?_
   repeat' (first|refine go ?_|refine IG a6 EV ?_|(apply aW;refine aT ?_)|(apply aJ;first|refine IH a6 0 IE ?_|refine IH a6 1 IE ?_|refine IH a6 2 IE ?_|refine IH a6 3 IE ?_|fail))
   exact aB (i+1,q') rfl ⟨by rw [Jv];rfl,trivial⟩ (by dsimp only;omega) (by dsimp only;omega) (fun _ _ h=>by dsimp only;rw [hst,List.map_append];exact h)
  ·rw [hge] at h2
   rw [if_neg (by rw [h2];decide),List.append_nil] at hst
   repeat' (first|refine go ?_|refine IG a6 EV ?_|(apply aW;refine aT ?_)|fail)
   exact aB (i+1,q) rfl ⟨by rw [Jv];rfl,trivial⟩ (by dsimp only;omega) (by dsimp only;omega) (fun _ _ h=>by dsimp only;rw [hst];exact h)
 have hi2:i=r.Calls.length:=by have:=Jx h;omega
 subst hi2
 rw [List.take_length]
 repeat' (first|refine go ?_|refine IG a6 EV ?_|(apply bH;first|refine IJ a6 0 ID ?_|refine IJ a6 1 ID ?_|refine IJ a6 2 ID ?_|refine IJ a6 3 ID ?_|refine IK a6 0 ID ?_|refine IK a6 1 ID ?_|refine IK a6 2 ID ?_|refine IL a6 1 IB (by assumption) rfl ?_|refine IL a6 0 IB (by assumption) rfl ?_|fail)|(apply aJ;first|refine IH a6 0 IE ?_|refine IH a6 1 IE ?_|refine IH a6 2 IE ?_|refine IH a6 3 IE ?_|fail))
 obtain ⟨Y,hY⟩:∃Y:cb,Y=⟨Bk,I,A,O,r.Calls.filterMap (eP K),r.X⟩:=⟨_,rfl⟩
 have hYd:Y=lq kind r k seen K:=by rw [hY,←hBk,←hI,←hA,←hO];rfl
 refine ba (bC 0 (cs':=bE Y) rfl fun σ vs h=>mH.vrs (a:=[.imm 1 (bw Bk),.imm 1 (bw I),.imm 1 (bw A),.imm 1 (aS O),.vec q 2 ((r.Calls.filterMap (eP K)).map dI),aP r.X]) (b:=bE Y) (by subst hY;exact ⟨dt.refl _,dt.refl _,dt.refl _,dt.refl _,dt.im,dt.refl _,trivial⟩) h) ?_
 exact er (cs:=[.agg (bE Y),cM true]) [] ⟨⟨_,0,_,_,rfl,rfl,.inr ⟨cV a6 rfl,rfl⟩⟩,rfl,trivial⟩ (List.nil_sublist _) (by rw [if_neg hC,decide_eq_true hC,hYd];rfl)
theorem uZ (f:aL) (ig:Bool) (k:List Int) (z:Int):(ff f ig k).contains z=(ec f k ig z).isSome:=by
 have h1:(ff f ig k).contains z=decide (z∈k∧(!(ig && jH f z))=true):=by
  rw [Bool.eq_iff_iff,decide_eq_true_eq]
  unfold ff
  simp
 rw [h1]
 unfold ec di
 cases hb:(ig && jH f z) with
 | true=>simp
 | false=>
  by_cases hz:z∈k
  ·simp [hz]
  ·simp [hz]
theorem yM (f:aL) (ig:Bool) (k q:List Int):dO k (ff f ig k) q=nR f k ig q:=by
 unfold dO nR
 rw [List.filterMap_filter]
 congr 1
 funext z
 rw [uZ]
 unfold ec
 cases hb:(ig && jH f z) with
 | true=>rfl
 | false=>
  simp only [Bool.false_eq_true,if_false]
  cases di k z <;> rfl
theorem ke (f:aL) (ig:Bool) (k:List Int) (l:List (List Int)):l.map (dO k (ff f ig k))=cR f k ig l:=by
 unfold cR
 exact List.map_congr_left fun q _=>yM f ig k q
theorem kQ (f:aL) (ig:Bool) (k:List Int) (l:List (List Int)):lm k (ff f ig k) l=false↔gt (cR f k ig l)=true:=by
 unfold lm gt
 rw [ke]
 induction cR f k ig l with
 | nil=>simp
 | cons a t ih=>
  rw [List.all_cons,List.any_cons,Bool.and_eq_false_iff,Bool.or_eq_true,ih,decide_eq_false_iff_not,decide_eq_true_eq]
  exact or_congr_left ⟨fun h=>by omega,fun h=>by omega⟩
theorem vK (f:aL) (k:List Int) (l:bj) (r:cb):gk l.Kind r (ff f l.Ignore k)=fA f k l r:=by
 unfold gk fA
 split
 ·congr 2
  funext x
  exact uZ f l.Ignore k x.2
 ·rfl
theorem vL (f:aL) (G K:List Int) (l:bj) (r:cb):eb f G K l r=if gr r G (ff f l.Ignore G) then none else some (lq l.Kind r G (ff f l.Ignore G) K):=by
 have hb:gr r G (ff f l.Ignore G)↔(gt (cR f G l.Ignore r.Back)=true∨gt (cR f G l.Ignore r.In)=true∨gt (cR f G l.Ignore r.Ahead)=true)∨r.In=[]:=by
  unfold gr
  rw [kQ,kQ,kQ]
  simp only [or_assoc]
 unfold eb
 by_cases h:gr r G (ff f l.Ignore G)
 ·rw [if_pos h,if_pos (hb.1 h)]
 ·rw [if_neg h,if_neg (fun k=>h (hb.2 k))]
  unfold lq
  rw [ke,ke,ke,vK]
theorem uV (f:aL) (G K:List Int) (l:bj) (r:cb):(eb f G K l r).toList=if (decide (¬gr r G (ff f l.Ignore G)))=true then [if gr r G (ff f l.Ignore G) then rX else lq l.Kind r G (ff f l.Ignore G) K] else []:=by
 rw [vL]
 by_cases h:gr r G (ff f l.Ignore G)
 ·rw [if_pos h,if_neg (by rw [decide_eq_false (fun k=>k h)];decide)];rfl
 ·rw [if_neg h,if_pos (decide_eq_true h),if_neg h];rfl
theorem tR (G rs:List Int) (c:ey):(f4 G rs c).toList=if rs.contains c.Rune=true∧(di G c.Glyph).isSome=true then [{ c with Glyph:=(di G c.Glyph).getD (-1) }] else []:=by
 unfold f4
 by_cases h:c.Rune∈rs
 ·rw [if_pos h]
  cases di G c.Glyph with
  | none=>rw [if_neg (by simp)];rfl
  | some n=>rw [if_pos ⟨by simpa using h,rfl⟩];rfl
 ·rw [if_neg h,if_neg (fun k=>h (by simpa using k.1))];rfl
theorem u7 (K:List Int) (fs:List ByteArray) (t:bX):(dy K fs t).toList=if fR fs t.Name=true then [{ t with Lookups:=t.Lookups.filterMap (di K) }] else []:=by
 unfold dy
 by_cases h:fR fs t.Name=true
 ·rw [if_pos h,if_pos h];rfl
 ·rw [if_neg h,if_neg h];rfl
end Go.Proofs.YtjjpkibjffmceaaGreat
