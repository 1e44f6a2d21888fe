/-
  Numbers parted into classes by sets: the walk.
-/
import Derived.Test.YtpmdfoaadejmkaaGreatDoorM14
import Derived.Test.YtpmdfoaadejmkaaGreatDoorM13
import Derived.Test.YtpmdfoaadejmkaaGreatDoorM12
import Derived.Laws.BytesString
import Derived.Test.YtpmdfoaadejmkaaGreatDoorM06
import Derived.WalkSpells
namespace Go.Proofs.YtpmdfoaadejmkaaGreatDoor
open Go.RowKit
attribute [local irreducible] AT bI AX AO Av Kt bi dx DA cK
def ky (l:List Int):Prop:=l.Pairwise (· < ·)
theorem CV {l:List Int} (h:ky l) {i:Nat} {x y:Int} (hx:l[i]?=some x) (hy:l[i+1]?=some y):x < y:=by
 obtain ⟨h1,h2⟩:=Jp hx
 obtain ⟨h3,h4⟩:=Jp hy
 have:=List.pairwise_iff_getElem.1 h i (i+1) h1 h3 (by omega)
 rw [h2,h4] at this
 exact this
theorem gX {l:List Int} (h:ky l):l.Nodup:=h.imp fun hlt=>by omega
theorem tW (l:List Int) (h:ky l):bJ Tryz.prog 253 [.imm 1 (aX l)] (dV true):=by
 refine aM Tryz.func253 rfl Tryz.ntmps253 rfl fun B=>?_
 refine cI 0 rfl rfl fun hlen=>?_
 have hll:=aZ l
 rw [hll] at hlen
 repeat' (first|refine Ji ?_|refine am ?_|refine JF a5 H6 ?_)
 refine aP [0] (α:=Nat) (fun i=>[(3,aF ((i:Int)+1))]) (fun i=>i≤l.length) (fun _=>[]) (fun i=>l.length - i) 0 rfl ⟨rfl,trivial⟩ (Nat.zero_le _) (fun _ _ h=>h) fun i hi=>?_
 try dsimp only [Js,Jr,Jq,Jl]
 repeat' (first|refine Ji ?_|refine JF a5 H6 ?_)
 refine ar rfl (fun h1=>?_) (fun h1=>?_)
 ·have hil:i+1 < l.length:=by have:=Jy h1;omega
  obtain ⟨x,hx⟩:∃z,l[i]?=some z:=⟨_,Jz (by omega)⟩
  obtain ⟨y,hy⟩:∃z,l[i+1]?=some z:=⟨_,Jz hil⟩
  have hxy:=CV h hx hy
  have e1:((i:Int)+1).toNat=i+1:=by omega
  have e2:((i:Int)+1 - 1).toNat=i:=by omega
  have hxg:(aX l)[((i:Int)+1 - 1).toNat]?=some [aF x]:=by rw [e2];exact bP hx
  have hyg:(aX l)[((i:Int)+1).toNat]?=some [aF y]:=by rw [e1];exact bP hy
  clear h1
  repeat' (first|refine Ji ?_|refine am ?_)
  refine bw 9 [(0,.v),(1,.v),(2,.v),(3,.v),(4,.v),(5,.v),(6,.v),(7,.v),(8,.v)] none ?_ trivial rfl (by kernel_rfl) (by kernel_rfl) (by kernel_rfl) bR (by kernel_rfl) rfl
  repeat' (first|refine aD ?_|refine b7 a5 ?_|(apply ea;refine fz ?_)|(apply bV;refine cn a5 ?_)|fail)
  refine JQ [0,3,13,18] H6 ?_
  repeat' (first|refine Ji ?_|refine a7 ?_|refine JF a5 H6 ?_)
  refine ar rfl (fun h2=>?_) (fun _=>?_)
  ·have:=Jy h2
   omega
  repeat' (first|refine Ji ?_|refine JF a5 H6 ?_|(apply aS;refine aR ?_)|fail)
  exact aC (i+1) rfl ⟨by rw [Jv];rfl,trivial⟩ (by omega) (by omega) (fun _ _ h=>h)
 ·repeat' (first|refine Ji ?_|refine JF a5 H6 ?_)
  exact JM JA
theorem D7 (l:List Int) (h:ky l):bJ Tryz.prog 177 [.imm 1 (aX l)] (.imm 1 (aX l)):=by
 refine aM Tryz.func177 rfl Tryz.ntmps177 rfl fun B=>?_
 haveI:=AD.mk (tW l h)
 repeat' (first|refine Ji ?_|refine JF a5 H6 ?_|(apply bz;refine bo ?_)|refine bC rfl ?_)
 exact JM JA
def tM (k:Int) (t:List Int):Value→Option AV
 | .int .i64 z=>if t.contains z=true then some (aF (k+(t.idxOf z:Nat))) else none
 | _=>none
theorem Df (k:Int):tM k []=fun _=>none:=by
 funext v
 unfold tM
 split <;> rfl
theorem u0 {k:Int} {t:List Int} {z:Int} (h:z∈t):tM k t (.int .i64 z)=some (aF (k+(t.idxOf z:Nat))):=if_pos (List.contains_iff_mem.2 h)
theorem yp {k:Int} {t:List Int} {z:Int} (h:z∉t):tM k t (.int .i64 z)=none:=if_neg fun e=>h (List.contains_iff_mem.1 e)
theorem Dg {k:Int} {t:List Int} {z:Int} (h:z∉t):tM k (ec t z) (.int .i64 z)=some (aF (k+(t.length:Nat))):=by rw [u0 (lx t z),nD h]
theorem yo {k:Int} {t:List Int} {z:Int} (h:z∉t):∀q,q≠ .int .i64 z→tM k (ec t z) q=tM k t q:=by
 intro q hq
 unfold tM
 split
 ·rename_i y
  have hne:y≠z:=fun e=>hq (by rw [e])
  have hm:(ec t z).contains y=t.contains y:=by
   rw [gt h,Bool.eq_iff_iff,List.contains_iff_mem,List.contains_iff_mem]
   simp [hne]
  rw [hm]
  split
  ·rename_i hc
   rw [rq z (List.contains_iff_mem.1 hc)]
  ·rfl
 ·rfl
theorem Fd (k:Int) (t:List Int):∀v,(tM k t v).isSome=true↔v∈t.map (Value.int .i64):=by
 intro v
 unfold tM
 split
 ·rename_i z
  rw [List.mem_map]
  split
  ·rename_i hc
   exact ⟨fun _=>⟨z,List.contains_iff_mem.1 hc,rfl⟩,fun _=>rfl⟩
  ·rename_i hc
   refine ⟨fun h=>(by cases h),fun ⟨y,hy,he⟩=>?_⟩
   cases he
   exact absurd (List.contains_iff_mem.2 hy) hc
 ·rename_i hv
  refine ⟨fun h=>(by cases h),fun h=>?_⟩
  obtain ⟨y,_,rfl⟩:=List.mem_map.1 h
  exact absurd rfl (hv y)
theorem wK {t:List Int} (h:t.Nodup):(t.map (Value.int .i64)).Pairwise (·≠ ·):=List.pairwise_map.2 (h.imp fun hne e=>hne (by cases e;rfl))
def dB (l:List Int):List AV:=l.map fun z=>aF z
theorem iA (l:List Int):(dB l).length=l.length:=by simp [dB]
theorem pY {l:List Int} {i:Nat} {z:Int} (h:l[i]?=some z):(dB l)[0+((i:Nat):Int).toNat * 1]?=some (aF z):=by simp [dB,h]
theorem iB {l:List Int} {i:Nat} {z:Int}:fi (dB l) (0+((i:Nat):Int).toNat * 1) [aF z]=dB (l.set i z):=by
 rw [iR]
 unfold dB
 rw [List.map_set]
 simp
theorem oL (n:Nat):(List.replicate n [aF 0]).flatten=dB (List.replicate n 0):=by
 induction n with
 | zero=>rfl
 | succ n ih=>rw [List.replicate_succ,List.flatten_cons,ih,List.replicate_succ];rfl
theorem oK (l:List Int):dB l=(aX l).flatten:=by
 induction l with
 | nil=>rfl
 | cons z l ih=>simp [dB,aX] at ih ⊢;exact ih
theorem mQ {mb cb:Nat} {M:AB} {c c':List AV} (h:c=c'):[(mb,M),(cb,AB.box c 3)]=[(mb,M),(cb,.box c' 3)]:=by rw [h]
theorem Ex {l:List Int} {g:Int} {z:Int} (h:l[g.toNat]?=some z):l.getD g.toNat 0=z:=by rw [List.getD_eq_getElem?_getD,h];rfl
theorem Ao {l:List Int} {k:Nat} {z:Int} (h:l[k]?=some z):(gw (l.take k)++l.drop k).set k ((ec (iY (l.take k)) z).idxOf z:Nat)=gw (l.take (k+1))++l.drop (k+1):=by
 have hk:=(Jp h).1
 rw [List.set_append,if_neg (by rw [gM,List.length_take];omega),gM,List.length_take,Nat.min_eq_left (by omega),Nat.sub_self,List.drop_eq_getElem_cons hk,List.set_cons_zero,List.take_add_one,h]
 dsimp only [Option.toList]
 rw [xo,List.append_assoc]
 rfl
theorem Fg {l:List Int} {k:Nat} {z:Int} (h:l[k]?=some z):(gw (l.take k)++l.drop k)[k]?=some z:=by
 have hk:=(Jp h).1
 rw [List.getElem?_append_right (by rw [gM,List.length_take];omega),gM,List.length_take,Nat.min_eq_left (by omega),Nat.sub_self,List.getElem?_drop]
 exact h
theorem Ah {l:List Int} {k:Nat} {z:Int} (h:l[k]?=some z):iY (l.take (k+1))=ec (iY (l.take k)) z:=by
 rw [List.take_add_one,h]
 exact jL _ _
set_option maxHeartbeats 8000000 in
theorem rK (n:Nat) (h0:0 < n) (hn:n≤65536) (sets:List (List Int)) (hs:∀s∈sets,ky s∧∀g∈s,0≤g∧g < (n:Int)) (hsl:sets.length≤1000000):bJ Tryz.prog 98 [aF n,.imm 1 (b9 sets)] (.imm 1 (aX (dS n sets))):=by
 refine aM Tryz.func98 rfl Tryz.ntmps98 rfl fun B=>?_
 have hrl:=cq sets
 repeat' (first|refine Ji ?_|refine JF a5 H6 ?_)
 refine bX [0,1] False rfl (fun Q' K=>?_) (fun hC=>hC.elim) (fun _=>?_)
 ·repeat' (first|refine Ji ?_|refine JF a5 H6 ?_|refine JN H6 ?_|refine JO JB ?_|refine JR JA (fun _=>?_) (fun _=>?_))
  all_goals exact K _ _ rfl rfl (by simp_all <;> omega)
 repeat' (first|refine Ji ?_|refine JF a5 H6 ?_)
 refine lm a5 n rfl rfl rfl rfl rfl rfl rfl (by omega) (by omega) rfl fun cb=>?_
 rw [show (List.replicate n (List.map AV.sc [Value.int .i64 0])).flatten=dB (List.replicate n 0) from oL n]
 repeat' (first|refine Ji ?_|refine am ?_|refine JF a5 H6 ?_)
 refine aP [0,5,28,29] (α:=Nat×List Int×Int) (fun s=>[(30,aF s.1),(6,aF s.2.2)]) (fun s=>s.1≤sets.length∧(sets.drop s.1).foldl kl (s.2.1,s.2.2)=nk n sets∧s.2.1.length=n∧0≤s.2.2∧s.2.2≤1+s.1 * 65536) (fun s=>[(cb,.box (dB s.2.1) 3)]) (fun s=>sets.length - s.1) (0,List.replicate n 0,1) rfl ⟨rfl,rfl,trivial⟩ ⟨Nat.zero_le _,rfl,by simp,by dsimp only;omega,by dsimp only;omega⟩ (fun _ _ h=>h) ?_
 ·rintro ⟨k,cls,k0⟩ ⟨hk,hf,hcl,hk0,hk1⟩
  dsimp only at hk hf hcl hk0 hk1 ⊢
  try dsimp only [Js,Jr,Jq,Jl]
  repeat' (first|refine Ji ?_|refine JF a5 H6 ?_)
  refine ar rfl (fun h1=>?_) (fun h1=>?_)
  ·have hk2:k < sets.length:=by have:=Jy h1;omega
   obtain ⟨s,hsk⟩:∃z,sets[k]?=some z:=⟨_,Jz hk2⟩
   have hsg:=gI hsk
   obtain ⟨hri,hdm⟩:=hs s (Jw hsk)
   have hsn:s.length≤n:=fD (gX hri) hdm
   have hil:=aZ s
   haveI:=AD.mk (D7 s hri)
   rw [List.drop_eq_getElem_cons hk2,(Jp hsk).2,List.foldl_cons] at hf
   clear h1
   repeat' (first|refine Ji ?_|refine am ?_|refine JF a5 H6 ?_|(apply aO;first|refine aN a5 ?_|refine aG a5 ?_)|fail)
   refine fV KJ fun mb=>?_
   rw [←Df k0]
   repeat' (first|refine Ji ?_|refine am ?_|refine JF a5 H6 ?_|(apply bz;refine bo ?_)|fail)
   refine aP [0,5,9,28,29,30,36,37] (α:=Nat×List Int×List Int) (fun t=>[(38,aF t.1),(6,aF (k0+(t.2.2.length:Nat)))]) (fun t=>t.1≤s.length∧(s.drop t.1).foldl (iL k0) (t.2.1,t.2.2)=s.foldl (iL k0) (cls,[])∧t.2.1.length=n∧t.2.2.length≤t.1) (fun t=>[(mb,cX KJ (tM k0 t.2.2)),(cb,.box (dB t.2.1) 3)]) (fun t=>s.length - t.1) (0,cls,[]) rfl ⟨rfl,by simp;rfl,trivial⟩ ⟨Nat.zero_le _,rfl,hcl,Nat.le_refl _⟩ (fun _ _ h=>h) ?_
   rintro ⟨j,cl1,ap⟩ ⟨hj,hjf,hjl,hja⟩
   dsimp only at hj hjf hjl hja ⊢
   try dsimp only [Js,Jr,Jq,Jl]
   repeat' (first|refine Ji ?_|refine JF a5 H6 ?_)
   refine ar rfl (fun h1=>?_) (fun h1=>?_)
   ·have hj2:j < s.length:=by have:=Jy h1;omega
    obtain ⟨g,hg⟩:∃z,s[j]?=some z:=⟨_,Jz hj2⟩
    have hgg:=bP hg
    obtain ⟨hg0,hgn⟩:=hdm g (Jw hg)
    obtain ⟨z,hz⟩:∃z,cl1[g.toNat]?=some z:=⟨_,Jz (by omega)⟩
    have hgt:((g.toNat:Nat):Int)=g:=Int.toNat_of_nonneg hg0
    have hzc:=pY hz
    rw [hgt] at hzc
    have hcc:=iA cl1
    have hput:∀y,fi (dB cl1) (0+g.toNat * 1) [aF y]=dB (cl1.set g.toNat y):=fun y=>by
     have:=iB (l:=cl1) (i:=g.toNat) (z:=y)
     rwa [hgt] at this
    rw [List.drop_eq_getElem_cons hj2,(Jp hg).2,List.foldl_cons] at hjf
    have hmk:iL k0 (cl1,ap) g=(cl1.set g.toNat (k0+((ec ap z).idxOf z:Nat)),ec ap z):=by
     unfold iL
     rw [Ex hz]
    rw [hmk] at hjf
    have hal:=rr ap z
    clear h1
    repeat' (first|refine Ji ?_|refine am ?_|refine JF a5 H6 ?_|(apply aO;first|refine aN a5 ?_|refine aG a5 ?_)|fail)
    refine bX [0,5,6,9,11,28,29,30,36,37,38] False rfl (fun Q' K=>?_) (fun hC=>hC.elim) (fun _=>?_)
    ·repeat' (first|refine Ji ?_|refine JF a5 H6 ?_|refine JN H6 ?_|refine JO JB ?_|refine JR JA (fun _=>?_) (fun _=>?_))
     all_goals exact K _ _ rfl rfl (by simp_all <;> omega)
    repeat' (first|refine Ji ?_|refine JF a5 H6 ?_|(apply bE;first|refine JI a5 0 JC ?_|refine JI a5 1 JC ?_|refine JI a5 2 JC ?_|refine JI a5 3 JC ?_|refine JJ a5 0 JC ?_|refine JJ a5 1 JC ?_|refine JJ a5 2 JC ?_|refine JK a5 1 JA (by assumption) rfl ?_|refine JK a5 0 JA (by assumption) rfl ?_|fail)|(apply aO;first|refine aN a5 ?_|refine aG a5 ?_)|fail)
    refine ix 0 (.int .i64 0) Tryz.underlying257 Tryz.underlying3 rfl rfl rfl rfl (by kernel_rfl) rfl ?_
    by_cases hm:z∈ap
    ·have hgs:=u0 (k:=k0) hm
     have hta:=fG hm
     rw [hta] at hjf
     rw [hgs]
     repeat' (first|refine Ji ?_|refine JF a5 H6 ?_|refine bA rfl ?_)
     refine nf 0 (.int .i64 0) Tryz.underlying257 Tryz.underlying3 rfl rfl rfl rfl (by kernel_rfl) rfl ?_
     rw [hgs]
     repeat' (first|(apply aO;first|refine aN a5 ?_|refine aG a5 ?_)|fail)
     refine aa a5 1 rfl rfl rfl rfl rfl rfl (Nat.ble_eq_true_of_le (by rw [hcc];simp;omega)) ?_
     refine aI (aQ (L':=[(mb,cX KJ (tM k0 ap)),(cb,.box (dB (cl1.set g.toNat (k0+(ap.idxOf z:Nat)))) 3)]) (List.Perm.of_eq (mQ (hput _)))) ?_
     repeat' (first|refine Ji ?_|refine JF a5 H6 ?_|(apply aS;refine aR ?_)|fail)
     exact aC (j+1,_,ap) rfl ⟨by rw [Jv];rfl,rfl,trivial⟩ ⟨hj2,hjf,by rw [List.length_set];exact hjl,by dsimp only;omega⟩ (by dsimp only;omega) (fun _ _ h=>h)
    ·have hgn2:=yp (k:=k0) hm
     have hgp:=Dg (k:=k0) hm
     have hnew:=nD hm
     have hnl:(ec ap z).length=ap.length+1:=by rw [gt hm,List.length_append,List.length_singleton]
     rw [hgn2]
     repeat' (first|refine Ji ?_|refine JF a5 H6 ?_|refine bC rfl ?_)
     refine eo 0 (tM k0 (ec ap z)) Tryz.underlying257 Tryz.underlying3 rfl rfl rfl rfl rfl hgp (yo hm) ?_
     repeat' (first|refine Ji ?_|refine JF a5 H6 ?_|(apply aS;refine aR ?_)|fail)
     refine nf 0 (.int .i64 0) Tryz.underlying257 Tryz.underlying3 rfl rfl rfl rfl (by kernel_rfl) rfl ?_
     rw [hgp]
     repeat' (first|(apply aO;first|refine aN a5 ?_|refine aG a5 ?_)|fail)
     refine aa a5 1 rfl rfl rfl rfl rfl rfl (Nat.ble_eq_true_of_le (by rw [hcc];simp;omega)) ?_
     refine aI (aQ (L':=[(mb,cX KJ (tM k0 (ec ap z))),(cb,.box (dB (cl1.set g.toNat (k0+(ap.length:Nat)))) 3)]) (List.Perm.of_eq (mQ (hput _)))) ?_
     repeat' (first|refine Ji ?_|refine JF a5 H6 ?_|(apply aS;refine aR ?_)|fail)
     rw [hnew] at hjf
     refine aC (j+1,_,ec ap z) rfl ⟨by rw [Jv];rfl,?_,trivial⟩ ⟨hj2,hjf,by rw [List.length_set];exact hjl,by dsimp only;omega⟩ (by dsimp only;omega) (fun _ _ h=>h)
     show some (AV.sc (.int .i64 (k0+(ap.length:Nat)+1)))=some (aF (k0+((ec ap z).length:Nat)))
     rw [hnl,Jv,Int.add_assoc]
     rfl
   ·have hj2:j=s.length:=by have:=Jx h1;omega
    subst hj2
    rw [List.drop_length] at hjf
    have hjf2:(cl1,ap)=s.foldl (iL k0) (cls,[]):=hjf
    have hps:kl (cls,k0) s=(cl1,k0+(ap.length:Nat)):=by
     unfold kl
     dsimp only
     rw [←hjf2]
    rw [hps] at hf
    clear h1
    repeat' (first|refine Ji ?_|refine JF a5 H6 ?_|(apply aS;refine aR ?_)|fail)
    exact aC (k+1,cl1,k0+(ap.length:Nat)) rfl ⟨by rw [Jv];rfl,rfl,trivial⟩ ⟨hk2,hf,hjl,by dsimp only;omega,by dsimp only;omega⟩ (by dsimp only;omega) (fun _ _ h=>h.sublist (List.sublist_cons_self ..))
  ·have hk2:k=sets.length:=by have:=Jx h1;omega
   subst hk2
   rw [List.drop_length] at hf
   have hf2:(cls,k0)=nk n sets:=hf
   have hpv:dS n sets=gw cls:=by unfold dS;rw [←hf2]
   rw [hpv]
   clear h1
   repeat' (first|refine Ji ?_|fail)
   refine fV KJ fun tb=>?_
   rw [←Df 0]
   repeat' (first|refine Ji ?_|refine am ?_|refine JF a5 H6 ?_)
   refine aP [5,15,75,76] (α:=Nat) (fun i=>[(77,aF i)]) (fun i=>i≤cls.length) (fun i=>[(tb,cX KJ (tM 0 (iY (cls.take i)))),(cb,.box (dB (gw (cls.take i)++cls.drop i)) 3)]) (fun i=>cls.length - i) 0 rfl ⟨rfl,trivial⟩ (Nat.zero_le _) (fun _ _ h=>h) fun i hi=>?_
   try dsimp only [Js,Jr,Jq,Jl]
   repeat' (first|refine Ji ?_|refine JF a5 H6 ?_)
   refine ar rfl (fun h1=>?_) (fun h1=>?_)
   ·have hi2:i < cls.length:=by have:=Jy h1;omega
    obtain ⟨z,hz⟩:∃z,cls[i]?=some z:=⟨_,Jz hi2⟩
    have hzc:=pY (Fg hz)
    have hcc:=iA (gw (cls.take i)++cls.drop i)
    have hcl2:(gw (cls.take i)++cls.drop i).length=cls.length:=by rw [List.length_append,gM,List.length_take,List.length_drop];omega
    have htc:=Ao hz
    have htt:=Ah hz
    have hnd:=xj (cls.take i)
    clear h1
    repeat' (first|refine Ji ?_|refine am ?_|refine JF a5 H6 ?_|(apply bE;first|refine JI a5 0 JC ?_|refine JI a5 1 JC ?_|refine JI a5 2 JC ?_|refine JI a5 3 JC ?_|refine JJ a5 0 JC ?_|refine JJ a5 1 JC ?_|refine JJ a5 2 JC ?_|refine JK a5 1 JA (by assumption) rfl ?_|refine JK a5 0 JA (by assumption) rfl ?_|fail)|(apply aO;first|refine aN a5 ?_|refine aG a5 ?_)|fail)
    refine ix 0 (.int .i64 0) Tryz.underlying257 Tryz.underlying3 rfl rfl rfl rfl (by kernel_rfl) rfl ?_
    by_cases hm:z∈iY (cls.take i)
    ·have hgs:=u0 (k:=0) hm
     have hta:=fG hm
     rw [hta] at htc htt
     rw [hgs]
     repeat' (first|refine Ji ?_|refine JF a5 H6 ?_|refine bA rfl ?_)
     refine nf 0 (.int .i64 0) Tryz.underlying257 Tryz.underlying3 rfl rfl rfl rfl (by kernel_rfl) rfl ?_
     rw [hgs]
     repeat' (first|(apply aO;first|refine aN a5 ?_|refine aG a5 ?_)|fail)
     refine aa a5 1 rfl rfl rfl rfl rfl rfl (Nat.ble_eq_true_of_le (by rw [hcc,hcl2,Int.toNat_natCast];show 0+i * 1+1≤_;omega)) ?_
     refine aI (aQ (L':=[(tb,cX KJ (tM 0 (iY (cls.take i)))),(cb,.box (dB (gw (cls.take (i+1))++cls.drop (i+1))) 3)]) (List.Perm.of_eq (mQ (by rw [←htc,←iB,Int.zero_add])))) ?_
     repeat' (first|refine Ji ?_|refine JF a5 H6 ?_|(apply aS;refine aR ?_)|fail)
     exact aC (i+1) rfl ⟨by rw [Jv];rfl,trivial⟩ (by omega) (by omega) (fun _ _ h=>by rw [htt];exact h)
    ·have hgn2:=yp (k:=0) hm
     have hgp:=Dg (k:=0) hm
     have hnew:=nD hm
     rw [hgn2]
     repeat' (first|refine Ji ?_|refine JF a5 H6 ?_|refine bC rfl ?_)
     refine CE 0 _ Tryz.underlying257 rfl rfl (wK hnd) (Fd 0 _) rfl ?_
     rw [Ju]
     rw [Int.zero_add] at hgp
     repeat' (first|fail)
     refine eo 0 (tM 0 (ec (iY (cls.take i)) z)) Tryz.underlying257 Tryz.underlying3 rfl rfl rfl rfl rfl hgp (yo hm) ?_
     repeat' (first|refine Ji ?_|refine JF a5 H6 ?_)
     refine nf 0 (.int .i64 0) Tryz.underlying257 Tryz.underlying3 rfl rfl rfl rfl (by kernel_rfl) rfl ?_
     rw [hgp]
     repeat' (first|(apply aO;first|refine aN a5 ?_|refine aG a5 ?_)|fail)
     refine aa a5 1 rfl rfl rfl rfl rfl rfl (Nat.ble_eq_true_of_le (by rw [hcc,hcl2,Int.toNat_natCast];show 0+i * 1+1≤_;omega)) ?_
     refine aI (aQ (L':=[(tb,cX KJ (tM 0 (ec (iY (cls.take i)) z))),(cb,.box (dB (gw (cls.take (i+1))++cls.drop (i+1))) 3)]) (List.Perm.of_eq (mQ (by rw [←htc,←iB,hnew])))) ?_
     repeat' (first|refine Ji ?_|refine JF a5 H6 ?_|(apply aS;refine aR ?_)|fail)
     exact aC (i+1) rfl ⟨by rw [Jv];rfl,trivial⟩ (by omega) (by omega) (fun _ _ h=>by rw [htt];exact h)
   ·have hi2:i=cls.length:=by have:=Jx h1;omega
    subst hi2
    rw [List.take_length,List.drop_length,List.append_nil]
    clear h1
    repeat' (first|refine Ji ?_|refine JF a5 H6 ?_)
    have htl:=gM cls
    have hcc:=iA (gw cls)
    refine bk (lz (t:=4) (sz:=1) (n:=n) (cap:=n) (l:=aX (gw cls)) 1 rfl rfl ?_ (by omega) (fun e he=>?_) (by rw [aZ];omega) (Nat.le_refl _) (by unfold maxLen;omega)) ?_
    ·rw [←oK,Nat.mul_one,List.take_of_length_le (by omega)]
    ·unfold aX at he
     obtain ⟨y,_,rfl⟩:=List.mem_map.1 he
     rfl
    refine dT (List.nil_sublist _) ?_
    exact JM JA
abbrev Pl:=Nat×Nat
section
variable {cls:List Int} {rows:List (List (List Int))} {have_:Nat→Bool} {L:Nat}
theorem t7 (hL:∀r∈rows,r.length≤L) {p:Pl} {c:Nat} (h:(cf cls rows p c).2≠0):(cf cls rows p c).1≤L∧(cf cls rows p c).2 < 2 ^ rows.length∧cf cls rows p c=(p.1+1,p.2 &&& jA cls rows p.1 c):=by
 unfold cf at h ⊢
 split
 ·rename_i h0
  rw [if_pos h0] at h
  exact absurd rfl h
 ·rename_i h0
  refine ⟨?_,Nat.lt_of_le_of_lt Nat.and_le_right (mP _ _),rfl⟩
  have hn:jA cls rows p.1 c≠0:=fun e=>h0 (by rw [e,Nat.and_zero])
  have:¬∀i,i < rows.length→lZ cls rows p.1 c i=false:=fun hh=>hn (pU.2 hh)
  apply Classical.byContradiction
  intro hlt
  refine this fun i hi=>?_
  unfold lZ
  rw [Jz hi]
  dsimp only
  rw [List.getElem?_eq_none (by have:=hL _ (List.getElem_mem hi);dsimp only at hlt;omega)]
structure jp (rows:List (List (List Int))) (have_:Nat→Bool) (L:Nat) (M:List Pl):Prop where
 first:M[0]?=some (mn rows have_)
 nodup:M.Nodup
 small:∀p∈M,p.1≤L∧p.2 < 2 ^ rows.length
theorem jp.start:jp rows have_ L [mn rows have_]:=⟨rfl,by simp,fun p hp=>by
 rw [List.mem_singleton] at hp
 subst hp
 exact ⟨Nat.zero_le _,mP _ _⟩⟩
theorem jp.meet {M:List Pl} (h:jp rows have_ L M) (hL:∀r∈rows,r.length≤L) {p:Pl} {c:Nat} (hne:(cf cls rows p c).2≠0):jp rows have_ L (ec M (cf cls rows p c)):=by
 refine ⟨nC _ h.first,mC _ h.nodup,fun q hq=>?_⟩
 by_cases hm:cf cls rows p c∈M
 ·rw [fG hm] at hq;exact h.small q hq
 ·rw [gt hm,List.mem_append,List.mem_singleton] at hq
  rcases hq with hq | rfl
  ·exact h.small q hq
  ·have:=t7 hL hne
   exact ⟨this.1,this.2.1⟩
theorem jp.few {M:List Pl} (h:jp rows have_ L M):M.length≤(L+1) * 2 ^ rows.length:=by
 have hk:0 < 2 ^ rows.length:=Nat.pow_pos (by omega)
 have hs:=h.small
 generalize 2 ^ rows.length=K at hk hs
 have h1:(M.map fun p:Pl=>((p.1 * K+p.2:Nat):Int)).Nodup:=by
  refine List.pairwise_map.2 (h.nodup.imp_of_mem fun {a b} ha hb hab=>fun e=>hab ?_)
  have e':a.1 * K+a.2=b.1 * K+b.2:=by omega
  have ha2:=(hs a ha).2
  have hb2:=(hs b hb).2
  have e1:a.1=b.1:=by
   have h3:(a.1 * K+a.2) / K=a.1:=by rw [Nat.mul_comm,Nat.mul_add_div hk,Nat.div_eq_of_lt ha2,Nat.add_zero]
   have h4:(b.1 * K+b.2) / K=b.1:=by rw [Nat.mul_comm,Nat.mul_add_div hk,Nat.div_eq_of_lt hb2,Nat.add_zero]
   rw [←h3,←h4,e']
  exact Prod.ext e1 (by rw [e1] at e';omega)
 have h2:=fD (n:=(L+1) * K) h1 fun z hz=>by
  obtain ⟨p,hp,rfl⟩:=List.mem_map.1 hz
  obtain ⟨a1,a2⟩:=hs p hp
  have:p.1 * K+p.2 < (L+1) * K:=by
   have:p.1 * K≤L * K:=Nat.mul_le_mul_right _ a1
   rw [Nat.add_mul,Nat.one_mul]
   omega
  exact ⟨by omega,by omega⟩
 rwa [Ju] at h2
def jd (cls:List Int) (rows:List (List (List Int))) (M:List Pl) (p:Pl) (c:Nat) (z:Int):Prop:=
 ((cf cls rows p c).2=0∧z= -1)∨((cf cls rows p c).2≠0∧0≤z∧M[z.toNat]?=some (cf cls rows p c))
theorem jd.more {M:List Pl} {p q:Pl} {c:Nat} {z:Int} (h:jd cls rows M p c z):jd cls rows (ec M q) p c z:=by
 rcases h with h | ⟨h1,h2,h3⟩
 ·exact Or.inl h
 ·exact Or.inr ⟨h1,h2,nC _ h3⟩
theorem jd.new {M:List Pl} {p:Pl} {c:Nat} (h:(cf cls rows p c).2≠0):jd cls rows (ec M (cf cls rows p c)) p c ((ec M (cf cls rows p c)).idxOf (cf cls rows p c):Nat):=
 Or.inr ⟨h,by omega,by rw [Int.toNat_natCast];exact Fc⟩
structure gC (cls:List Int) (rows:List (List (List Int))) (C:Nat) (M:List Pl) (tab:List (List Int)) (ends:List Nat):Prop where
 len:ends.length=tab.length
 ends:∀(i:Nat) p,i < tab.length→M[i]?=some p→ends[i]?=some (jt rows p)
 tab:∀(i:Nat) p q,M[i]?=some p→tab[i]?=some q→q.length=C∧∀(c:Nat) z,q[c]?=some z→jd cls rows M p c z
theorem gC.nil {C:Nat} {M:List Pl}:gC cls rows C M [] []:=⟨rfl,fun i p h=>by simp at h,fun i p q _ h=>by simp at h⟩
theorem gC.more {C:Nat} {M:List Pl} {tab:List (List Int)} {ends:List Nat} (h:gC cls rows C M tab ends) (hl:tab.length≤M.length) (q:Pl):gC cls rows C (ec M q) tab ends:=by
 have hb:∀(i:Nat) p,i < tab.length→(ec M q)[i]?=some p→M[i]?=some p:=fun i p hi hp=>by
  obtain ⟨x,hx⟩:∃x,M[i]?=some x:=⟨_,Jz (by omega)⟩
  have:=nC q hx
  rw [hp] at this
  cases this
  exact hx
 refine ⟨h.len,fun i p hi hp=>h.ends i p hi (hb i p hi hp),fun i p r hp hr=>?_⟩
 obtain ⟨h1,h2⟩:=h.tab i p r (hb i p (Jp hr).1 hp) hr
 exact ⟨h1,fun c z hz=>(h2 c z hz).more⟩
theorem gC.snoc {C:Nat} {M:List Pl} {tab:List (List Int)} {ends:List Nat} (h:gC cls rows C M tab ends) {p:Pl} {eQ:List Int} (hp:M[tab.length]?=some p) (hr:eQ.length=C) (hc:∀(c:Nat) z,eQ[c]?=some z→jd cls rows M p c z):gC cls rows C M (tab++[eQ]) (ends++[jt rows p]):=by
 refine ⟨by simp [h.len],fun i q hi hq=>?_,fun i q r hq hr'=>?_⟩
 ·rw [List.length_append,List.length_singleton] at hi
  by_cases hit:i < tab.length
  ·rw [List.getElem?_append_left (by rw [h.len];exact hit)]
   exact h.ends i q hit hq
  ·have e:i=tab.length:=by omega
   subst e
   rw [hp] at hq
   cases hq
   rw [List.getElem?_append_right (by rw [h.len];exact Nat.le_refl _),h.len,Nat.sub_self]
   rfl
 ·by_cases hit:i < tab.length
  ·rw [List.getElem?_append_left hit] at hr'
   exact h.tab i q r hq hr'
  ·rw [List.getElem?_append_right (by omega)] at hr'
   have hi0:i - tab.length=0:=by
    have:=(Jp hr').1
    simp at this
    omega
   have e:i=tab.length:=by omega
   subst e
   rw [Nat.sub_self] at hr'
   simp at hr'
   subst hr'
   rw [hp] at hq
   cases hq
   exact ⟨hr,hc⟩
theorem gC.done {C:Nat} {M:List Pl} {tab:List (List Int)} {ends:List Nat} (h:gC cls rows C M tab ends) (hs:jp rows have_ L M) (hl:tab.length=M.length):rR cls rows have_ C tab ends:=
 ⟨M,hs.first,hl.symm,by rw [h.len,hl],fun i p hp=>h.ends i p (by rw [hl];exact (Jp hp).1) hp,fun i p q hp hq=>h.tab i p q hp hq⟩
end
end Go.Proofs.YtpmdfoaadejmkaaGreatDoor
namespace Go.Proofs.YtpmdfoaadejmkaaGreatDoor
open Go.RowKit
section
variable {P:Program} {fr:c7} {B:Bs} {L:AL} {d:Option Tmp} {ty t t':TypeId} {pos:String} {af:Array Edge} {g:Option (Nat×Bool)} {x y z:Operand} {u:AV}
theorem Gl {dd:Option Tmp} {k kk:IntKind} {a b:Int} (i:Nat) (hx:bn fr x=some (.sc (.int k a))) (hy:bn fr y=some (.sc (.int kk b))) (hb:b=(i:Int)):Av P ⟨dd,.binOp .shl t x y t',ty,pos,af,g⟩ fr (.sc (.int k (k.wrap (a * 2 ^ min i k.bits)))):=by
 intro σ ρ w hρ _
 subst hb
 refine ⟨_,?_,.sc _⟩
 have h:=shift_shl_any k kk a (i:Int) (Int.natCast_nonneg i)
 simp [execOp,(hρ x _ hx).sc_inv,(hρ y _ hy).sc_inv,eqGuard,binOp,h]
theorem AP {dd:Option Tmp} {n e sz b:Nat} (ha:P.underlying t=some (.array n e)) (hs:(P.info? e).map (·.size)=some sz) (hx:bn fr x=some (.sc (.pointer (some ⟨b,0,none⟩)))):Av P ⟨dd,.slice t x none none none,ty,pos,af,g⟩ fr (.sc (.slice (some ⟨b,0,none⟩) n n)):=by
 intro σ ρ w hρ _
 refine ⟨_,?_,.sc _⟩
 obtain ⟨i,hi,hi2⟩:∃i,P.info? e=some i∧i.size=sz:=by
  cases hi:P.info? e with
  | none=>rw [hi] at hs;cases hs
  | some i=>rw [hi] at hs;exact ⟨i,rfl,by simpa using hs⟩
 simp [execOp,(hρ x _ hx).sc_inv,Instr.sliceAt,Instr.sliceBounds,Instr.sureAddr,run_underlying ha,sizeOf,typeInfo,hi,dy]
theorem yH (i:Nat) {dd:Option Tmp} {e sz by_ b n cap:Nat} {e':TypeId} (ns:List Int) (hs:kH P t e sz by_) (he:Aw P e .u8) (hd:Ax P t') (hx:bn fr x=some (.sc (.slice (some ⟨b,0,none⟩) n cap))) (hL:L[i]?=some (b,.box (ns.map fun z=> .sc (.int .u8 z)) e')) (hn:ns.length=n):
  AO P ⟨dd,.convert t t' x,ty,pos,af,g⟩ fr B L (fun c L'=>c= .sc (.string (ns.foldl (fun r n=>r.push (UInt8.ofNat n.toNat)) ByteArray.empty))∧L'=L):=by
 intro σ ρ w hρ hw
 obtain ⟨o,ho,vs,rfl,hvs,h1⟩:=hw.here _ (Jw hL)
 have hvs':vs=ns.map (Value.int .u8):=by
  have hl:=hvs.1
  rw [Ju] at hl
  apply List.ext_getElem?
  intro j
  by_cases hj:j < ns.length
  ·obtain ⟨z,hz⟩:∃z,ns[j]?=some z:=⟨_,Jz hj⟩
   obtain ⟨v,hv⟩:∃v,vs[j]?=some v:=⟨_,Jz (by omega)⟩
   have:=hvs.2 j _ v (by rw [List.getElem?_map,hz];rfl) hv
   rw [hv,List.getElem?_map,hz,this.sc_inv]
   rfl
  ·rw [List.getElem?_eq_none (by omega),List.getElem?_eq_none (by rw [Ju];omega)]
 have hload:(loadCells ⟨b,0,none⟩ n).run P w= .ok (ns.map (Value.int .u8)).toArray w:=by
  have:=run_loadCells_list (P:=P) w ⟨b,0,none⟩ vs fun j v hj=>by
   rw [dy,Nat.zero_add,cV ho]
   simpa using hj
  rw [←hvs.1,Ju,hn] at this
  rw [this,hvs']
 have hr:=run_bytesToString (P:=P) w ⟨b,0,none⟩ n cap ns hload
 haveI:=hs
 unfold ii
 rw [show (execOp ρ ⟨dd,.convert t t' x,ty,pos,af,g⟩).run P w= .ok (.value (.string (ns.foldl (fun r n=>r.push (UInt8.ofNat n.toNat)) ByteArray.empty))) w by
  simp [execOp,(hρ x _ hx).sc_inv,run_convert_bytes_string w t t' e _ _ _ hs.under he.under hd.under,hr]]
 exact ⟨σ,.sc _,_,cr.le_refl _,.sc _,hw,rfl,rfl⟩
end
section
variable {P:Program} {tt:TT} {r:Option Nat} {ops:Array Oper} {Q:Exit→Act→World→Prop} {nt:Nat} {D:List Deferred} {fr:c7} {B:Bs} {L:AL} {rest:List Oper} {d:Nat} {ty t t':TypeId} {pos:String} {af:Array Edge} {x y z:Operand} {u:AV}
theorem CC (ok:er P tt) {n e sz b:Nat} (ha:yM tt t=some (n,e,sz)) (hx:bn fr x=some (.sc (.pointer (some ⟨b,0,none⟩)))) (hd:Nat.ble nt d=false) (h:bI P r ops Q nt D rest ((d,.sc (.slice (some ⟨b,0,none⟩) n n))::fr) B L):bI P r ops Q nt D (⟨some d,.slice t x none none none,ty,pos,af,none⟩::rest) fr B L:=
 ce (AP (iu ok ha).1 (iu ok ha).2 hx) hd rfl h
theorem CA (ok:er P tt) (i:Nat) (ns:List Int) {e sz by_ b n cap:Nat} {e':TypeId} {ti ti':TI} (ht:jK tt t=some (e,sz,by_)) (he:df tt e=some ti) (hk:ti.k= .int .u8) (ht':df tt t'=some ti') (hk':ti'.k= .str) (hx:bn fr x=some (.sc (.slice (some ⟨b,0,none⟩) n cap))) (hL:L[i]?=some (b,.box (ns.map fun z=> .sc (.int .u8 z)) e')) (hn:ns.length=n) (hd:Nat.ble nt d=false) (h:bI P r ops Q nt D rest ((d,.sc (.string (ns.foldl (fun r n=>r.push (UInt8.ofNat n.toNat)) ByteArray.empty)))::fr) B L):bI P r ops Q nt D (⟨some d,.convert t t' x,ty,pos,af,none⟩::rest) fr B L:=
 cP hd rfl (yH i ns (br ok ht).1 (ok.int he hk) (ok.str ht' hk') hx hL hn) fun c L' ⟨h1,h2⟩=>by subst h1;subst h2;exact h
end
section
variable {P:Program} {tt:TT} {l:List Oper} {fr:c7} {fin:jO} {sk:mG} {acc:c7} {L:AL} {k:Nat} {dd:Option Tmp} {ty t t':TypeId} {pos:String} {af:Array Edge} {g:Option (Nat×Bool)} {x y:Operand} {u:AV}
theorem wp (i:Nat) {q q':IntKind} {a b:Int} (hx:bn (cB l.toArray acc fr af.toList) x=some (.sc (.int q a))) (hy:bn (cB l.toArray acc fr af.toList) y=some (.sc (.int q' b))) (hb:b=(i:Int)) (hg:iX ⟨dd,.binOp .shl t x y t',ty,pos,af,g⟩ acc) (h:DA P l fr fin sk ((k,.sc (.int q (q.wrap (a * 2 ^ min i q.bits))))::acc) L):cK P l fr fin k .v ⟨dd,.binOp .shl t x y t',ty,pos,af,g⟩ sk acc L:=f9 hg (zK (Gl i hx hy hb)) h
theorem E2 {q:IntKind} {a b:Int} (hx:bn (cB l.toArray acc fr af.toList) x=some (.sc (.int q a))) (hy:bn (cB l.toArray acc fr af.toList) y=some (.sc (.int q b))) (hg:iX ⟨dd,.binOp .or t x y t',ty,pos,af,g⟩ acc) (h:DA P l fr fin sk ((k,.sc (.int q (bits .or q a b)))::acc) L):cK P l fr fin k .v ⟨dd,.binOp .or t x y t',ty,pos,af,g⟩ sk acc L:=f9 hg (zK (xy hx hy)) h
end
end Go.Proofs.YtpmdfoaadejmkaaGreatDoor
namespace Go.Proofs.YtpmdfoaadejmkaaGreatDoor
open Go.RowKit
def jP (P:Program) (u:AV) (args:List AV) (L:AL) (Post:AV→AL→Prop):Prop:=(∃f caps,bL P f∧kI u=some (f,caps)∧AC P f (args++caps) L Post)∨∃f fs caps,bL P f∧u= .fnB f fs caps∧AC P f (fs++(args++caps)) L Post
theorem jP.fn {P:Program} {f:FuncId} {caps args:List AV} {L:AL} {Post:AV→AL→Prop} [h:bL P f] (k:AC P f (args++caps) L Post):jP P (.fn f caps) args L Post:= .inl ⟨f,caps,h,rfl,k⟩
theorem jP.fn0 {P:Program} {f:FuncId} {args:List AV} {L:AL} {Post:AV→AL→Prop} [h:bL P f] (k:AC P f (args++[]) L Post):jP P (.sc (.func (.func f) #[] #[])) args L Post:= .inl ⟨f,[],h,rfl,k⟩
theorem jP.fnB {P:Program} {f:FuncId} {fs caps args:List AV} {L:AL} {Post:AV→AL→Prop} [h:bL P f] (k:AC P f (fs++(args++caps)) L Post):jP P (.fnB f fs caps) args L Post:= .inr ⟨f,fs,caps,h,rfl,k⟩
def IX (u:AV):Bool:=match u with
 | .fn _ _=>true
 | .fnB _ _ _=>true
 | .sc _=>true
 | _=>false
section
variable {P:Program} {r:Option Nat} {ops:Array Oper} {Q:Exit→Act→World→Prop} {nt:Nat} {D:List Deferred} {fr:c7} {B:Bs} {L:AL} {rest:List Oper} {d:Nat} {ty t:TypeId} {pos:String} {af:Array Edge} {x y z:Operand} {u:AV} {g:Option (Nat×Bool)}
theorem B4 (Lc Lf:AL) {d:Option Tmp} {f:FuncId} {args:Array Operand} {ts:Array TypeId} {cs fs caps:List AV} {Post:AV→AL→Prop} [hf:bL P f] (hx:bn fr x=some (.fnB f fs caps)) (hv:eA fr args.toList=some cs) (hL:L.Perm (Lc++Lf)) (h:AC P f (fs++(cs++caps)) Lc Post):
  AO P ⟨d,.call ⟨.value x,args,ts⟩,ty,pos,af,g⟩ fr B L (fun c L'=>∃L1,Post c L1∧L'=L1++Lf):=by
 intro σ ρ w hρ hw0
 have hw:=hw0.perm hL
 obtain ⟨qs,ws,hw1,hw0',hw2⟩:=(hρ x _ hx).fnB_inv
 have hvs:=f6 hρ _ _ hv
 have e:args.map ρ=(args.toList.map ρ).toArray:=by apply Array.toList_inj.1;simp
 unfold ii
 rw [show (execOp ρ ⟨d,.call ⟨.value x,args,ts⟩,ty,pos,af,g⟩).run P w= .ok (.enter f (qs++(args.toList.map ρ++ws)).toArray) w by
  simp [execOp,resolve,hw1,Deferred.ofValue,invoke,hf.enters]]
 have happ:∀{ps bs:List AV} {us vs:List Value},di σ ps us→di σ bs vs→di σ (ps++bs) (us++vs):=by
  intro ps bs us vs ha hb
  refine ⟨by rw [List.length_append,List.length_append,ha.1,hb.1],fun i c u hc hu=>?_⟩
  have hq:=ha.1
  by_cases hi:i < ps.length
  ·rw [List.getElem?_append_left hi] at hc
   rw [List.getElem?_append_left (by omega)] at hu
   exact ha.2 i c u hc hu
  ·rw [List.getElem?_append_right (by omega)] at hc
   rw [List.getElem?_append_right (by omega),←hq] at hu
   exact hb.2 _ c u hc hu
 have hall:=happ hw0' (happ hvs hw2)
 refine (h σ w _ hall hw.enter).mono fun en w' ⟨v,τ,c,L',h1,h2,h3,h4⟩=>⟨v,h1,τ,c,L'++Lf,h3.grow,h2,hw.leave h3,L',h4,rfl⟩
theorem ja {args:Array Operand} {ts:Array TypeId} {cs:List AV} {Post:AV→AL→Prop} (Lc Lf:AL) (hc:jP P u cs Lc Post) (hx:bn fr x=some u) (hv:eA fr args.toList=some cs) (hL:L.Perm (Lc++Lf)) (hn:Oper.noDefer ⟨some d,.call ⟨.value x,args,ts⟩,ty,pos,af,none⟩=true) (hd:Nat.ble nt d=false) (h:∀c L1,Post c L1→bI P r ops Q nt D rest ((d,c)::fr) B (L1++Lf)):
  bI P r ops Q nt D (⟨some d,.call ⟨.value x,args,ts⟩,ty,pos,af,none⟩::rest) fr B L:=by
 rcases hc with ⟨f,caps,hf,hu,hc⟩ | ⟨f,fs,caps,hf,rfl,hc⟩
 ·exact cP hd hn (ui Lc Lf hx hu hv hL hc) fun c L' ⟨L1,h1,h2⟩=>by subst h2;exact h c L1 h1
 ·exact cP hd hn (B4 Lc Lf hx hv hL hc) fun c L' ⟨L1,h1,h2⟩=>by subst h2;exact h c L1 h1
end
end Go.Proofs.YtpmdfoaadejmkaaGreatDoor
namespace Go.Proofs.YtpmdfoaadejmkaaGreatDoor
open Go.RowKit
section
variable {P:Program} {tt:TT} {r:Option Nat} {ops:Array Oper} {Q:Exit→Act→World→Prop} {nt:Nat} {D:List Deferred} {fr:c7} {B:Bs} {L:AL} {rest:List Oper} {d:Nat} {ty t t':TypeId} {pos:String} {af:Array Edge} {x y z:Operand} {u:AV} {g:Option (Nat×Bool)}
theorem B6 {dd:Option Tmp} {e sz by_ s:Nat} {l:List (List AV)} (hc:kH P t e sz by_) (hx:bn fr x=some u) (hu:u.im= .imm s l) (hy:bn fr y=some (.sc (.slice none 0 0))):
  AO P ⟨dd,.binOp .eql t x y t',ty,pos,af,g⟩ fr B L (fun c L'=>∃b,c= .sc (.bool b)∧(b=true→l=[])∧L'=L):=by
 intro σ ρ w hρ hw
 have hxv:=(hρ x u hx).im
 rw [hu] at hxv
 have hyv:=(hρ y _ hy).sc_inv
 have key:∀v,VR σ (.imm s l) v→∃A cap,v= .slice A l.length cap∧(l≠[]→∃b off,A=some ⟨b,off,none⟩):=by
  intro v hv
  cases hv with
  | imm sz l A cap h1 h2 h3 ha hx2 h4=>exact ⟨A,cap,rfl,ha⟩
 obtain ⟨A,cap,hval,ha⟩:=key _ hxv
 ·have hrun:=Lib.run_eql_slice_nil (P:=P) w t e A l.length cap 0 0 hc.under
  unfold ii
  rw [show (execOp ρ ⟨dd,.binOp .eql t x y t',ty,pos,af,g⟩).run P w= .ok (.value (.bool A.isNone)) w by
   simp [execOp,hval,hyv,eqGuard,hrun]]
  refine ⟨σ,.sc _,L,cr.le_refl σ,.sc _,hw,A.isNone,rfl,fun h=>?_,rfl⟩
  cases A with
  | none=>exact Decidable.byContradiction fun hn=>by obtain ⟨b,o,hh⟩:=ha hn;cases hh
  | some a=>cases h
theorem tE (ok:er P tt) {e sz by_ s:Nat} {l:List (List AV)} (ht:jK tt t=some (e,sz,by_)) (hx:bn fr x=some u) (hu:ip u=some (s,l)) (hy:bn fr y=some (.sc (.slice none 0 0))) (hd:Nat.ble nt d=false) (h:∀b,(b=true→l=[])→bI P r ops Q nt D rest ((d,.sc (.bool b))::fr) B L):
  bI P r ops Q nt D (⟨some d,.binOp .eql t x y t',ty,pos,af,none⟩::rest) fr B L:=
 cP hd rfl (B6 (br ok ht).1 hx (cR hu) hy) fun c L' ⟨b,h1,h2,h3⟩=>by subst h1;subst h3;exact h b h2
end
section
variable {P:Program} {nt:Nat} {fr:c7} {B:Bs} {L L':AL}
theorem ij (L':AL) {fn:Func} {Post:AV→AL→Prop} {cs:List AV} (hr:r9 P fr L fn.results.toList cs) (hs:L'.Sublist L) (h:Post (vg cs) L'):AX P .ret (bodyPost P fn (jo B Post)) nt [] fr B L:=by
 intro σ a w ha hw
 obtain ⟨v,h1,h2⟩:=lw ha hw hr
 exact ⟨ha.defers,v,h1,v,σ,vg cs,L',rfl,h2,hw.sublist hs,h⟩
end
end Go.Proofs.YtpmdfoaadejmkaaGreatDoor
