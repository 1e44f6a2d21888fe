/-
  Numbers parted into classes by sets: the walk.
-/
import Derived.Test.YtpmdfoaadejmkaaGreatDoorM14
import Derived.Test.YtpmdfoaadejmkaaGreatDoorM13
import Derived.Test.YtpmdfoaadejmkaaGreatDoorM12
import Derived.Laws.BytesString
import Derived.Test.YtpmdfoaadejmkaaGreatDoorM06
import Derived.WalkSpells
namespace Go.Proofs.YtpmdfoaadejmkaaGreatDoor
open Go.RowKit
attribute [local irreducible] AT bJ AX AO Av Kt bi dq DA cG
def gL (l:List Int):Prop:=l.Pairwise (· < ·)
theorem DZ {l:List Int} (h:gL l) {i:Nat} {x y:Int} (hx:l[i]?=some x) (hy:l[i+1]?=some y):x < y:=by
 obtain ⟨h1,h2⟩:=Ko hx
 obtain ⟨h3,h4⟩:=Ko hy
 have:=List.pairwise_iff_getElem.1 h i (i+1) h1 h3 (by omega)
 rw [h2,h4] at this
 exact this
theorem gm {l:List Int} (h:gL l):l.Nodup:=h.imp fun hlt=>by omega
theorem uA (l:List Int) (h:gL l):bU Tryz.prog 253 [.imm 1 (aW l)] (d6 true):=by
 refine aN Tryz.func253 rfl Tryz.ntmps253 rfl fun B=>?_
 refine cW 0 rfl rfl fun hlen=>?_
 have hll:=bb l
 rw [hll] at hlen
 repeat' (first|refine L3 ?_|refine ak ?_|refine KG a4 HY ?_)
 refine aR [0] (α:=Nat) (fun i=>[(3,aF ((i:Int)+1))]) (fun i=>i≤l.length) (fun _=>[]) (fun i=>l.length - i) 0 rfl ⟨rfl,trivial⟩ (Nat.zero_le _) (fun _ _ h=>h) fun i hi=>?_
 try dsimp only [Kr,Kq,Kp,Lv]
 repeat' (first|refine L3 ?_|refine KG a4 HY ?_)
 refine aw rfl (fun h1=>?_) (fun h1=>?_)
 ·have hil:i+1 < l.length:=by have:=Ky h1;omega
  obtain ⟨x,hx⟩:∃z,l[i]?=some z:=⟨_,Kz (by omega)⟩
  obtain ⟨y,hy⟩:∃z,l[i+1]?=some z:=⟨_,Kz hil⟩
  have hxy:=DZ h hx hy
  have e1:((i:Int)+1).toNat=i+1:=by omega
  have e2:((i:Int)+1 - 1).toNat=i:=by omega
  have hxg:(aW l)[((i:Int)+1 - 1).toNat]?=some [aF x]:=by rw [e2];exact bP hx
  have hyg:(aW l)[((i:Int)+1).toNat]?=some [aF y]:=by rw [e1];exact bP hy
  clear h1
  repeat' (first|refine L3 ?_|refine ak ?_)
  refine bn 9 [(0,.v),(1,.v),(2,.v),(3,.v),(4,.v),(5,.v),(6,.v),(7,.v),(8,.v)] none ?_ trivial rfl (by kernel_rfl) (by kernel_rfl) (by kernel_rfl) bI (by kernel_rfl) rfl
  repeat' (first|refine aB ?_|refine aX a4 ?_|(apply dz;refine eL ?_)|(apply cm;refine cA a4 ?_)|fail)
  refine KU [0,3,13,18] HY ?_
  repeat' (first|refine L3 ?_|refine a7 ?_|refine KG a4 HY ?_)
  refine aw rfl (fun h2=>?_) (fun _=>?_)
  ·have:=Ky h2
   omega
  repeat' (first|refine L3 ?_|refine KG a4 HY ?_|(apply aU;refine aT ?_)|fail)
  exact aD (i+1) rfl ⟨by rw [Kv];rfl,trivial⟩ (by omega) (by omega) (fun _ _ h=>h)
 ·repeat' (first|refine L3 ?_|refine KG a4 HY ?_)
  exact KQ KA
theorem E9 (l:List Int) (h:gL l):bU Tryz.prog 177 [.imm 1 (aW l)] (.imm 1 (aW l)):=by
 refine aN Tryz.func177 rfl Tryz.ntmps177 rfl fun B=>?_
 haveI:=AD.mk (uA l h)
 repeat' (first|refine L3 ?_|refine KG a4 HY ?_|(apply bF;refine bv ?_)|refine bH rfl ?_)
 exact KQ KA
def tM (k:Int) (t:List Int):Value→Option AV
 | .int .i64 z=>if t.contains z=true then some (aF (k+(t.idxOf z:Nat))) else none
 | _=>none
theorem Eh (k:Int):tM k []=fun _=>none:=by
 funext v
 unfold tM
 split <;> rfl
theorem uE {k:Int} {t:List Int} {z:Int} (h:z∈t):tM k t (.int .i64 z)=some (aF (k+(t.idxOf z:Nat))):=if_pos (List.contains_iff_mem.2 h)
theorem zk {k:Int} {t:List Int} {z:Int} (h:z∉t):tM k t (.int .i64 z)=none:=if_neg fun e=>h (List.contains_iff_mem.1 e)
theorem Ei {k:Int} {t:List Int} {z:Int} (h:z∉t):tM k (ew t z) (.int .i64 z)=some (aF (k+(t.length:Nat))):=by rw [uE (m5 t z),ol h]
theorem zj {k:Int} {t:List Int} {z:Int} (h:z∉t):∀q,q≠ .int .i64 z→tM k (ew t z) q=tM k t q:=by
 intro q hq
 unfold tM
 split
 ·rename_i y
  have hne:y≠z:=fun e=>hq (by rw [e])
  have hm:(ew t z).contains y=t.contains y:=by
   rw [gH h,Bool.eq_iff_iff,List.contains_iff_mem,List.contains_iff_mem]
   simp [hne]
  rw [hm]
  split
  ·rename_i hc
   rw [se z (List.contains_iff_mem.1 hc)]
  ·rfl
 ·rfl
theorem Gc (k:Int) (t:List Int):∀v,(tM k t v).isSome=true↔v∈t.map (Value.int .i64):=by
 intro v
 unfold tM
 split
 ·rename_i z
  rw [List.mem_map]
  split
  ·rename_i hc
   exact ⟨fun _=>⟨z,List.contains_iff_mem.1 hc,rfl⟩,fun _=>rfl⟩
  ·rename_i hc
   refine ⟨fun h=>(by cases h),fun ⟨y,hy,he⟩=>?_⟩
   cases he
   exact absurd (List.contains_iff_mem.2 hy) hc
 ·rename_i hv
  refine ⟨fun h=>(by cases h),fun h=>?_⟩
  obtain ⟨y,_,rfl⟩:=List.mem_map.1 h
  exact absurd rfl (hv y)
theorem xz {t:List Int} (h:t.Nodup):(t.map (Value.int .i64)).Pairwise (·≠ ·):=List.pairwise_map.2 (h.imp fun hne e=>hne (by cases e;rfl))
def dS (l:List Int):List AV:=l.map fun z=>aF z
theorem iU (l:List Int):(dS l).length=l.length:=by simp [dS]
theorem qO {l:List Int} {i:Nat} {z:Int} (h:l[i]?=some z):(dS l)[0+((i:Nat):Int).toNat * 1]?=some (aF z):=by simp [dS,h]
theorem iV {l:List Int} {i:Nat} {z:Int}:f5 (dS l) (0+((i:Nat):Int).toNat * 1) [aF z]=dS (l.set i z):=by
 rw [je]
 unfold dS
 rw [List.map_set]
 simp
theorem pp (n:Nat):(List.replicate n [aF 0]).flatten=dS (List.replicate n 0):=by
 induction n with
 | zero=>rfl
 | succ n ih=>rw [List.replicate_succ,List.flatten_cons,ih,List.replicate_succ];rfl
theorem po (l:List Int):dS l=(aW l).flatten:=by
 induction l with
 | nil=>rfl
 | cons z l ih=>simp [dS,aW] at ih ⊢;exact ih
theorem nu {mb cb:Nat} {M:AB} {c c':List AV} (h:c=c'):[(mb,M),(cb,AB.box c 3)]=[(mb,M),(cb,.box c' 3)]:=by rw [h]
theorem Fw {l:List Int} {g:Int} {z:Int} (h:l[g.toNat]?=some z):l.getD g.toNat 0=z:=by rw [List.getD_eq_getElem?_getD,h];rfl
theorem Bw {l:List Int} {k:Nat} {z:Int} (h:l[k]?=some z):(gI (l.take k)++l.drop k).set k ((ew (jn (l.take k)) z).idxOf z:Nat)=gI (l.take (k+1))++l.drop (k+1):=by
 have hk:=(Ko h).1
 rw [List.set_append,if_neg (by rw [hZ,List.length_take];omega),hZ,List.length_take,Nat.min_eq_left (by omega),Nat.sub_self,List.drop_eq_getElem_cons hk,List.set_cons_zero,List.take_add_one,h]
 dsimp only [Option.toList]
 rw [yd,List.append_assoc]
 rfl
theorem Ge {l:List Int} {k:Nat} {z:Int} (h:l[k]?=some z):(gI (l.take k)++l.drop k)[k]?=some z:=by
 have hk:=(Ko h).1
 rw [List.getElem?_append_right (by rw [hZ,List.length_take];omega),hZ,List.length_take,Nat.min_eq_left (by omega),Nat.sub_self,List.getElem?_drop]
 exact h
theorem Bp {l:List Int} {k:Nat} {z:Int} (h:l[k]?=some z):jn (l.take (k+1))=ew (jn (l.take k)) z:=by
 rw [List.take_add_one,h]
 exact kr _ _
set_option maxHeartbeats 8000000 in
theorem sC (n:Nat) (h0:0 < n) (hn:n≤65536) (sets:List (List Int)) (hs:∀s∈sets,gL s∧∀g∈s,0≤g∧g < (n:Int)) (hsl:sets.length≤1000000):bU Tryz.prog 98 [aF n,.imm 1 (bc sets)] (.imm 1 (aW (ep n sets))):=by
 refine aN Tryz.func98 rfl Tryz.ntmps98 rfl fun B=>?_
 have hrl:=bY sets
 repeat' (first|refine L3 ?_|refine KG a4 HY ?_)
 refine ce [0,1] False rfl (fun Q' K=>?_) (fun hC=>hC.elim) (fun _=>?_)
 ·repeat' (first|refine L3 ?_|refine KG a4 HY ?_|refine KR HY ?_|refine KV KB ?_|refine KW KA (fun _=>?_) (fun _=>?_))
  all_goals exact K _ _ rfl rfl (by simp_all <;> omega)
 repeat' (first|refine L3 ?_|refine KG a4 HY ?_)
 refine j9 a4 n rfl rfl rfl rfl rfl rfl rfl (by omega) (by omega) rfl fun cb=>?_
 rw [show (List.replicate n (List.map AV.sc [Value.int .i64 0])).flatten=dS (List.replicate n 0) from pp n]
 repeat' (first|refine L3 ?_|refine ak ?_|refine KG a4 HY ?_)
 refine aR [0,5,28,29] (α:=Nat×List Int×Int) (fun s=>[(30,aF s.1),(6,aF s.2.2)]) (fun s=>s.1≤sets.length∧(sets.drop s.1).foldl kU (s.2.1,s.2.2)=nY n sets∧s.2.1.length=n∧0≤s.2.2∧s.2.2≤1+s.1 * 65536) (fun s=>[(cb,.box (dS s.2.1) 3)]) (fun s=>sets.length - s.1) (0,List.replicate n 0,1) rfl ⟨rfl,rfl,trivial⟩ ⟨Nat.zero_le _,rfl,by simp,by dsimp only;omega,by dsimp only;omega⟩ (fun _ _ h=>h) ?_
 ·rintro ⟨k,cls,k0⟩ ⟨hk,hf,hcl,hk0,hk1⟩
  dsimp only at hk hf hcl hk0 hk1 ⊢
  try dsimp only [Kr,Kq,Kp,Lv]
  repeat' (first|refine L3 ?_|refine KG a4 HY ?_)
  refine aw rfl (fun h1=>?_) (fun h1=>?_)
  ·have hk2:k < sets.length:=by have:=Ky h1;omega
   obtain ⟨s,hsk⟩:∃z,sets[k]?=some z:=⟨_,Kz hk2⟩
   have hsg:=gn hsk
   obtain ⟨hri,hdm⟩:=hs s (Kw hsk)
   have hsn:s.length≤n:=fD (gm hri) hdm
   have hil:=bb s
   haveI:=AD.mk (E9 s hri)
   rw [List.drop_eq_getElem_cons hk2,(Ko hsk).2,List.foldl_cons] at hf
   clear h1
   repeat' (first|refine L3 ?_|refine ak ?_|refine KG a4 HY ?_|(apply aQ;first|refine aO a4 ?_|refine aG a4 ?_)|fail)
   refine gj KJ fun mb=>?_
   rw [←Eh k0]
   repeat' (first|refine L3 ?_|refine ak ?_|refine KG a4 HY ?_|(apply bF;refine bv ?_)|fail)
   refine aR [0,5,9,28,29,30,36,37] (α:=Nat×List Int×List Int) (fun t=>[(38,aF t.1),(6,aF (k0+(t.2.2.length:Nat)))]) (fun t=>t.1≤s.length∧(s.drop t.1).foldl (j7 k0) (t.2.1,t.2.2)=s.foldl (j7 k0) (cls,[])∧t.2.1.length=n∧t.2.2.length≤t.1) (fun t=>[(mb,dc KJ (tM k0 t.2.2)),(cb,.box (dS t.2.1) 3)]) (fun t=>s.length - t.1) (0,cls,[]) rfl ⟨rfl,by simp;rfl,trivial⟩ ⟨Nat.zero_le _,rfl,hcl,Nat.le_refl _⟩ (fun _ _ h=>h) ?_
   rintro ⟨j,cl1,ap⟩ ⟨hj,hjf,hjl,hja⟩
   dsimp only at hj hjf hjl hja ⊢
   try dsimp only [Kr,Kq,Kp,Lv]
   repeat' (first|refine L3 ?_|refine KG a4 HY ?_)
   refine aw rfl (fun h1=>?_) (fun h1=>?_)
   ·have hj2:j < s.length:=by have:=Ky h1;omega
    obtain ⟨g,hg⟩:∃z,s[j]?=some z:=⟨_,Kz hj2⟩
    have hgg:=bP hg
    obtain ⟨hg0,hgn⟩:=hdm g (Kw hg)
    obtain ⟨z,hz⟩:∃z,cl1[g.toNat]?=some z:=⟨_,Kz (by omega)⟩
    have hgt:((g.toNat:Nat):Int)=g:=Int.toNat_of_nonneg hg0
    have hzc:=qO hz
    rw [hgt] at hzc
    have hcc:=iU cl1
    have hput:∀y,f5 (dS cl1) (0+g.toNat * 1) [aF y]=dS (cl1.set g.toNat y):=fun y=>by
     have:=iV (l:=cl1) (i:=g.toNat) (z:=y)
     rwa [hgt] at this
    rw [List.drop_eq_getElem_cons hj2,(Ko hg).2,List.foldl_cons] at hjf
    have hmk:j7 k0 (cl1,ap) g=(cl1.set g.toNat (k0+((ew ap z).idxOf z:Nat)),ew ap z):=by
     unfold j7
     rw [Fw hz]
    rw [hmk] at hjf
    have hal:=sf ap z
    clear h1
    repeat' (first|refine L3 ?_|refine ak ?_|refine KG a4 HY ?_|(apply aQ;first|refine aO a4 ?_|refine aG a4 ?_)|fail)
    refine ce [0,5,6,9,11,28,29,30,36,37,38] False rfl (fun Q' K=>?_) (fun hC=>hC.elim) (fun _=>?_)
    ·repeat' (first|refine L3 ?_|refine KG a4 HY ?_|refine KR HY ?_|refine KV KB ?_|refine KW KA (fun _=>?_) (fun _=>?_))
     all_goals exact K _ _ rfl rfl (by simp_all <;> omega)
    repeat' (first|refine L3 ?_|refine KG a4 HY ?_|(apply bo;first|refine KM a4 0 KC ?_|refine KM a4 1 KC ?_|refine KM a4 2 KC ?_|refine KM a4 3 KC ?_|refine KN a4 0 KC ?_|refine KN a4 1 KC ?_|refine KN a4 2 KC ?_|refine KO a4 1 KA (by assumption) rfl ?_|refine KO a4 0 KA (by assumption) rfl ?_|fail)|(apply aQ;first|refine aO a4 ?_|refine aG a4 ?_)|fail)
    refine gY 0 (.int .i64 0) Tryz.underlying257 Tryz.underlying3 rfl rfl rfl rfl (by kernel_rfl) rfl ?_
    by_cases hm:z∈ap
    ·have hgs:=uE (k:=k0) hm
     have hta:=fT hm
     rw [hta] at hjf
     rw [hgs]
     repeat' (first|refine L3 ?_|refine KG a4 HY ?_|refine bE rfl ?_)
     refine nS 0 (.int .i64 0) Tryz.underlying257 Tryz.underlying3 rfl rfl rfl rfl (by kernel_rfl) rfl ?_
     rw [hgs]
     repeat' (first|(apply aQ;first|refine aO a4 ?_|refine aG a4 ?_)|fail)
     refine KZ a4 1 KD (Nat.ble_eq_true_of_le (by rw [hcc];simp;omega)) ?_
     refine aP (aI (L':=[(mb,dc KJ (tM k0 ap)),(cb,.box (dS (cl1.set g.toNat (k0+(ap.idxOf z:Nat)))) 3)]) (List.Perm.of_eq (nu (hput _)))) ?_
     repeat' (first|refine L3 ?_|refine KG a4 HY ?_|(apply aU;refine aT ?_)|fail)
     exact aD (j+1,_,ap) rfl ⟨by rw [Kv];rfl,rfl,trivial⟩ ⟨hj2,hjf,by rw [List.length_set];exact hjl,by dsimp only;omega⟩ (by dsimp only;omega) (fun _ _ h=>h)
    ·have hgn2:=zk (k:=k0) hm
     have hgp:=Ei (k:=k0) hm
     have hnew:=ol hm
     have hnl:(ew ap z).length=ap.length+1:=by rw [gH hm,List.length_append,List.length_singleton]
     rw [hgn2]
     repeat' (first|refine L3 ?_|refine KG a4 HY ?_|refine bH rfl ?_)
     refine eg 0 (tM k0 (ew ap z)) Tryz.underlying257 Tryz.underlying3 rfl rfl rfl rfl rfl hgp (zj hm) ?_
     repeat' (first|refine L3 ?_|refine KG a4 HY ?_|(apply aU;refine aT ?_)|fail)
     refine nS 0 (.int .i64 0) Tryz.underlying257 Tryz.underlying3 rfl rfl rfl rfl (by kernel_rfl) rfl ?_
     rw [hgp]
     repeat' (first|(apply aQ;first|refine aO a4 ?_|refine aG a4 ?_)|fail)
     refine KZ a4 1 KD (Nat.ble_eq_true_of_le (by rw [hcc];simp;omega)) ?_
     refine aP (aI (L':=[(mb,dc KJ (tM k0 (ew ap z))),(cb,.box (dS (cl1.set g.toNat (k0+(ap.length:Nat)))) 3)]) (List.Perm.of_eq (nu (hput _)))) ?_
     repeat' (first|refine L3 ?_|refine KG a4 HY ?_|(apply aU;refine aT ?_)|fail)
     rw [hnew] at hjf
     refine aD (j+1,_,ew ap z) rfl ⟨by rw [Kv];rfl,?_,trivial⟩ ⟨hj2,hjf,by rw [List.length_set];exact hjl,by dsimp only;omega⟩ (by dsimp only;omega) (fun _ _ h=>h)
     show some (AV.sc (.int .i64 (k0+(ap.length:Nat)+1)))=some (aF (k0+((ew ap z).length:Nat)))
     rw [hnl,Kv,Int.add_assoc]
     rfl
   ·have hj2:j=s.length:=by have:=Kx h1;omega
    subst hj2
    rw [List.drop_length] at hjf
    have hjf2:(cl1,ap)=s.foldl (j7 k0) (cls,[]):=hjf
    have hps:kU (cls,k0) s=(cl1,k0+(ap.length:Nat)):=by
     unfold kU
     dsimp only
     rw [←hjf2]
    rw [hps] at hf
    clear h1
    repeat' (first|refine L3 ?_|refine KG a4 HY ?_|(apply aU;refine aT ?_)|fail)
    exact aD (k+1,cl1,k0+(ap.length:Nat)) rfl ⟨by rw [Kv];rfl,rfl,trivial⟩ ⟨hk2,hf,hjl,by dsimp only;omega,by dsimp only;omega⟩ (by dsimp only;omega) (fun _ _ h=>h.sublist (List.sublist_cons_self ..))
  ·have hk2:k=sets.length:=by have:=Kx h1;omega
   subst hk2
   rw [List.drop_length] at hf
   have hf2:(cls,k0)=nY n sets:=hf
   have hpv:ep n sets=gI cls:=by unfold ep;rw [←hf2]
   rw [hpv]
   clear h1
   repeat' (first|refine L3 ?_|fail)
   refine gj KJ fun tb=>?_
   rw [←Eh 0]
   repeat' (first|refine L3 ?_|refine ak ?_|refine KG a4 HY ?_)
   refine aR [5,15,75,76] (α:=Nat) (fun i=>[(77,aF i)]) (fun i=>i≤cls.length) (fun i=>[(tb,dc KJ (tM 0 (jn (cls.take i)))),(cb,.box (dS (gI (cls.take i)++cls.drop i)) 3)]) (fun i=>cls.length - i) 0 rfl ⟨rfl,trivial⟩ (Nat.zero_le _) (fun _ _ h=>h) fun i hi=>?_
   try dsimp only [Kr,Kq,Kp,Lv]
   repeat' (first|refine L3 ?_|refine KG a4 HY ?_)
   refine aw rfl (fun h1=>?_) (fun h1=>?_)
   ·have hi2:i < cls.length:=by have:=Ky h1;omega
    obtain ⟨z,hz⟩:∃z,cls[i]?=some z:=⟨_,Kz hi2⟩
    have hzc:=qO (Ge hz)
    have hcc:=iU (gI (cls.take i)++cls.drop i)
    have hcl2:(gI (cls.take i)++cls.drop i).length=cls.length:=by rw [List.length_append,hZ,List.length_take,List.length_drop];omega
    have htc:=Bw hz
    have htt:=Bp hz
    have hnd:=y8 (cls.take i)
    clear h1
    repeat' (first|refine L3 ?_|refine ak ?_|refine KG a4 HY ?_|(apply bo;first|refine KM a4 0 KC ?_|refine KM a4 1 KC ?_|refine KM a4 2 KC ?_|refine KM a4 3 KC ?_|refine KN a4 0 KC ?_|refine KN a4 1 KC ?_|refine KN a4 2 KC ?_|refine KO a4 1 KA (by assumption) rfl ?_|refine KO a4 0 KA (by assumption) rfl ?_|fail)|(apply aQ;first|refine aO a4 ?_|refine aG a4 ?_)|fail)
    refine gY 0 (.int .i64 0) Tryz.underlying257 Tryz.underlying3 rfl rfl rfl rfl (by kernel_rfl) rfl ?_
    by_cases hm:z∈jn (cls.take i)
    ·have hgs:=uE (k:=0) hm
     have hta:=fT hm
     rw [hta] at htc htt
     rw [hgs]
     repeat' (first|refine L3 ?_|refine KG a4 HY ?_|refine bE rfl ?_)
     refine nS 0 (.int .i64 0) Tryz.underlying257 Tryz.underlying3 rfl rfl rfl rfl (by kernel_rfl) rfl ?_
     rw [hgs]
     repeat' (first|(apply aQ;first|refine aO a4 ?_|refine aG a4 ?_)|fail)
     refine KZ a4 1 KD (Nat.ble_eq_true_of_le (by rw [hcc,hcl2,Int.toNat_natCast];show 0+i * 1+1≤_;omega)) ?_
     refine aP (aI (L':=[(tb,dc KJ (tM 0 (jn (cls.take i)))),(cb,.box (dS (gI (cls.take (i+1))++cls.drop (i+1))) 3)]) (List.Perm.of_eq (nu (by rw [←htc,←iV,Int.zero_add])))) ?_
     repeat' (first|refine L3 ?_|refine KG a4 HY ?_|(apply aU;refine aT ?_)|fail)
     exact aD (i+1) rfl ⟨by rw [Kv];rfl,trivial⟩ (by omega) (by omega) (fun _ _ h=>by rw [htt];exact h)
    ·have hgn2:=zk (k:=0) hm
     have hgp:=Ei (k:=0) hm
     have hnew:=ol hm
     rw [hgn2]
     repeat' (first|refine L3 ?_|refine KG a4 HY ?_|refine bH rfl ?_)
     refine DC 0 _ Tryz.underlying257 rfl rfl (xz hnd) (Gc 0 _) rfl ?_
     rw [Ku]
     rw [Int.zero_add] at hgp
     repeat' (first|fail)
     refine eg 0 (tM 0 (ew (jn (cls.take i)) z)) Tryz.underlying257 Tryz.underlying3 rfl rfl rfl rfl rfl hgp (zj hm) ?_
     repeat' (first|refine L3 ?_|refine KG a4 HY ?_)
     refine nS 0 (.int .i64 0) Tryz.underlying257 Tryz.underlying3 rfl rfl rfl rfl (by kernel_rfl) rfl ?_
     rw [hgp]
     repeat' (first|(apply aQ;first|refine aO a4 ?_|refine aG a4 ?_)|fail)
     refine KZ a4 1 KD (Nat.ble_eq_true_of_le (by rw [hcc,hcl2,Int.toNat_natCast];show 0+i * 1+1≤_;omega)) ?_
     refine aP (aI (L':=[(tb,dc KJ (tM 0 (ew (jn (cls.take i)) z))),(cb,.box (dS (gI (cls.take (i+1))++cls.drop (i+1))) 3)]) (List.Perm.of_eq (nu (by rw [←htc,←iV,hnew])))) ?_
     repeat' (first|refine L3 ?_|refine KG a4 HY ?_|(apply aU;refine aT ?_)|fail)
     exact aD (i+1) rfl ⟨by rw [Kv];rfl,trivial⟩ (by omega) (by omega) (fun _ _ h=>by rw [htt];exact h)
   ·have hi2:i=cls.length:=by have:=Kx h1;omega
    subst hi2
    rw [List.take_length,List.drop_length,List.append_nil]
    clear h1
    repeat' (first|refine L3 ?_|refine KG a4 HY ?_)
    have htl:=hZ cls
    have hcc:=iU (gI cls)
    refine bj (jl (t:=4) (sz:=1) (n:=n) (cap:=n) (l:=aW (gI cls)) 1 rfl rfl ?_ (by omega) (fun e he=>?_) (by rw [bb];omega) (Nat.le_refl _) (by unfold maxLen;omega)) ?_
    ·rw [←po,Nat.mul_one,List.take_of_length_le (by omega)]
    ·unfold aW at he
     obtain ⟨y,_,rfl⟩:=List.mem_map.1 he
     rfl
    refine dH (List.nil_sublist _) ?_
    exact KQ KA
abbrev Pl:=Nat×Nat
section
variable {cls:List Int} {rows:List (List (List Int))} {have_:Nat→Bool} {L:Nat}
theorem tR (hL:∀r∈rows,r.length≤L) {p:Pl} {c:Nat} (h:(cq cls rows p c).2≠0):(cq cls rows p c).1≤L∧(cq cls rows p c).2 < 2 ^ rows.length∧cq cls rows p c=(p.1+1,p.2 &&& kf cls rows p.1 c):=by
 unfold cq at h ⊢
 split
 ·rename_i h0
  rw [if_pos h0] at h
  exact absurd rfl h
 ·rename_i h0
  refine ⟨?_,Nat.lt_of_le_of_lt Nat.and_le_right (nr _ _),rfl⟩
  have hn:kf cls rows p.1 c≠0:=fun e=>h0 (by rw [e,Nat.and_zero])
  have:¬∀i,i < rows.length→mH cls rows p.1 c i=false:=fun hh=>hn (qK.2 hh)
  apply Classical.byContradiction
  intro hlt
  refine this fun i hi=>?_
  unfold mH
  rw [Kz hi]
  dsimp only
  rw [List.getElem?_eq_none (by have:=hL _ (List.getElem_mem hi);dsimp only at hlt;omega)]
structure jR (rows:List (List (List Int))) (have_:Nat→Bool) (L:Nat) (M:List Pl):Prop where
 first:M[0]?=some (mX rows have_)
 nodup:M.Nodup
 small:∀p∈M,p.1≤L∧p.2 < 2 ^ rows.length
theorem jR.start:jR rows have_ L [mX rows have_]:=⟨rfl,by simp,fun p hp=>by
 rw [List.mem_singleton] at hp
 subst hp
 exact ⟨Nat.zero_le _,nr _ _⟩⟩
theorem jR.meet {M:List Pl} (h:jR rows have_ L M) (hL:∀r∈rows,r.length≤L) {p:Pl} {c:Nat} (hne:(cq cls rows p c).2≠0):jR rows have_ L (ew M (cq cls rows p c)):=by
 refine ⟨oh _ h.first,nc _ h.nodup,fun q hq=>?_⟩
 by_cases hm:cq cls rows p c∈M
 ·rw [fT hm] at hq;exact h.small q hq
 ·rw [gH hm,List.mem_append,List.mem_singleton] at hq
  rcases hq with hq | rfl
  ·exact h.small q hq
  ·have:=tR hL hne
   exact ⟨this.1,this.2.1⟩
theorem jR.few {M:List Pl} (h:jR rows have_ L M):M.length≤(L+1) * 2 ^ rows.length:=by
 have hk:0 < 2 ^ rows.length:=Nat.pow_pos (by omega)
 have hs:=h.small
 generalize 2 ^ rows.length=K at hk hs
 have h1:(M.map fun p:Pl=>((p.1 * K+p.2:Nat):Int)).Nodup:=by
  refine List.pairwise_map.2 (h.nodup.imp_of_mem fun {a b} ha hb hab=>fun e=>hab ?_)
  have e':a.1 * K+a.2=b.1 * K+b.2:=by omega
  have ha2:=(hs a ha).2
  have hb2:=(hs b hb).2
  have e1:a.1=b.1:=by
   have h3:(a.1 * K+a.2) / K=a.1:=by rw [Nat.mul_comm,Nat.mul_add_div hk,Nat.div_eq_of_lt ha2,Nat.add_zero]
   have h4:(b.1 * K+b.2) / K=b.1:=by rw [Nat.mul_comm,Nat.mul_add_div hk,Nat.div_eq_of_lt hb2,Nat.add_zero]
   rw [←h3,←h4,e']
  exact Prod.ext e1 (by rw [e1] at e';omega)
 have h2:=fD (n:=(L+1) * K) h1 fun z hz=>by
  obtain ⟨p,hp,rfl⟩:=List.mem_map.1 hz
  obtain ⟨a1,a2⟩:=hs p hp
  have:p.1 * K+p.2 < (L+1) * K:=by
   have:p.1 * K≤L * K:=Nat.mul_le_mul_right _ a1
   rw [Nat.add_mul,Nat.one_mul]
   omega
  exact ⟨by omega,by omega⟩
 rwa [Ku] at h2
def jE (cls:List Int) (rows:List (List (List Int))) (M:List Pl) (p:Pl) (c:Nat) (z:Int):Prop:=
 ((cq cls rows p c).2=0∧z= -1)∨((cq cls rows p c).2≠0∧0≤z∧M[z.toNat]?=some (cq cls rows p c))
theorem jE.more {M:List Pl} {p q:Pl} {c:Nat} {z:Int} (h:jE cls rows M p c z):jE cls rows (ew M q) p c z:=by
 rcases h with h | ⟨h1,h2,h3⟩
 ·exact Or.inl h
 ·exact Or.inr ⟨h1,h2,oh _ h3⟩
theorem jE.new {M:List Pl} {p:Pl} {c:Nat} (h:(cq cls rows p c).2≠0):jE cls rows (ew M (cq cls rows p c)) p c ((ew M (cq cls rows p c)).idxOf (cq cls rows p c):Nat):=
 Or.inr ⟨h,by omega,by rw [Int.toNat_natCast];exact Gb⟩
structure gT (cls:List Int) (rows:List (List (List Int))) (C:Nat) (M:List Pl) (tab:List (List Int)) (ends:List Nat):Prop where
 len:ends.length=tab.length
 ends:∀(i:Nat) p,i < tab.length→M[i]?=some p→ends[i]?=some (jU rows p)
 tab:∀(i:Nat) p q,M[i]?=some p→tab[i]?=some q→q.length=C∧∀(c:Nat) z,q[c]?=some z→jE cls rows M p c z
theorem gT.nil {C:Nat} {M:List Pl}:gT cls rows C M [] []:=⟨rfl,fun i p h=>by simp at h,fun i p q _ h=>by simp at h⟩
theorem gT.more {C:Nat} {M:List Pl} {tab:List (List Int)} {ends:List Nat} (h:gT cls rows C M tab ends) (hl:tab.length≤M.length) (q:Pl):gT cls rows C (ew M q) tab ends:=by
 have hb:∀(i:Nat) p,i < tab.length→(ew M q)[i]?=some p→M[i]?=some p:=fun i p hi hp=>by
  obtain ⟨x,hx⟩:∃x,M[i]?=some x:=⟨_,Kz (by omega)⟩
  have:=oh q hx
  rw [hp] at this
  cases this
  exact hx
 refine ⟨h.len,fun i p hi hp=>h.ends i p hi (hb i p hi hp),fun i p r hp hr=>?_⟩
 obtain ⟨h1,h2⟩:=h.tab i p r (hb i p (Ko hr).1 hp) hr
 exact ⟨h1,fun c z hz=>(h2 c z hz).more⟩
theorem gT.snoc {C:Nat} {M:List Pl} {tab:List (List Int)} {ends:List Nat} (h:gT cls rows C M tab ends) {p:Pl} {f9:List Int} (hp:M[tab.length]?=some p) (hr:f9.length=C) (hc:∀(c:Nat) z,f9[c]?=some z→jE cls rows M p c z):gT cls rows C M (tab++[f9]) (ends++[jU rows p]):=by
 refine ⟨by simp [h.len],fun i q hi hq=>?_,fun i q r hq hr'=>?_⟩
 ·rw [List.length_append,List.length_singleton] at hi
  by_cases hit:i < tab.length
  ·rw [List.getElem?_append_left (by rw [h.len];exact hit)]
   exact h.ends i q hit hq
  ·have e:i=tab.length:=by omega
   subst e
   rw [hp] at hq
   cases hq
   rw [List.getElem?_append_right (by rw [h.len];exact Nat.le_refl _),h.len,Nat.sub_self]
   rfl
 ·by_cases hit:i < tab.length
  ·rw [List.getElem?_append_left hit] at hr'
   exact h.tab i q r hq hr'
  ·rw [List.getElem?_append_right (by omega)] at hr'
   have hi0:i - tab.length=0:=by
    have:=(Ko hr').1
    simp at this
    omega
   have e:i=tab.length:=by omega
   subst e
   rw [Nat.sub_self] at hr'
   simp at hr'
   subst hr'
   rw [hp] at hq
   cases hq
   exact ⟨hr,hc⟩
theorem gT.done {C:Nat} {M:List Pl} {tab:List (List Int)} {ends:List Nat} (h:gT cls rows C M tab ends) (hs:jR rows have_ L M) (hl:tab.length=M.length):sI cls rows have_ C tab ends:=
 ⟨M,hs.first,hl.symm,by rw [h.len,hl],fun i p hp=>h.ends i p (by rw [hl];exact (Ko hp).1) hp,fun i p q hp hq=>h.tab i p q hp hq⟩
end
end Go.Proofs.YtpmdfoaadejmkaaGreatDoor
namespace Go.Proofs.YtpmdfoaadejmkaaGreatDoor
open Go.RowKit
section
variable {P:Program} {fr:cf} {B:Bs} {L:AL} {d:Option Tmp} {ty t t':TypeId} {pos:String} {af:Array Edge} {g:Option (Nat×Bool)} {x y z:Operand} {u:AV}
theorem He {dd:Option Tmp} {k kk:IntKind} {a b:Int} (i:Nat) (hx:br fr x=some (.sc (.int k a))) (hy:br fr y=some (.sc (.int kk b))) (hb:b=(i:Int)):Av P ⟨dd,.binOp .shl t x y t',ty,pos,af,g⟩ fr (.sc (.int k (k.wrap (a * 2 ^ min i k.bits)))):=by
 intro σ ρ w hρ _
 subst hb
 refine ⟨_,?_,.sc _⟩
 have h:=shift_shl_any k kk a (i:Int) (Int.natCast_nonneg i)
 simp [execOp,(hρ x _ hx).sc_inv,(hρ y _ hy).sc_inv,eqGuard,binOp,h]
theorem BO {dd:Option Tmp} {n e sz b:Nat} (ha:P.underlying t=some (.array n e)) (hs:(P.info? e).map (·.size)=some sz) (hx:br fr x=some (.sc (.pointer (some ⟨b,0,none⟩)))):Av P ⟨dd,.slice t x none none none,ty,pos,af,g⟩ fr (.sc (.slice (some ⟨b,0,none⟩) n n)):=by
 intro σ ρ w hρ _
 refine ⟨_,?_,.sc _⟩
 obtain ⟨i,hi,hi2⟩:∃i,P.info? e=some i∧i.size=sz:=by
  cases hi:P.info? e with
  | none=>rw [hi] at hs;cases hs
  | some i=>rw [hi] at hs;exact ⟨i,rfl,by simpa using hs⟩
 simp [execOp,(hρ x _ hx).sc_inv,Instr.sliceAt,Instr.sliceBounds,Instr.sureAddr,run_underlying ha,sizeOf,typeInfo,hi,dJ]
theorem zC (i:Nat) {dd:Option Tmp} {e sz by_ b n cap:Nat} {e':TypeId} (ns:List Int) (hs:kv P t e sz by_) (he:BC P e .u8) (hd:BD P t') (hx:br fr x=some (.sc (.slice (some ⟨b,0,none⟩) n cap))) (hL:L[i]?=some (b,.box (ns.map fun z=> .sc (.int .u8 z)) e')) (hn:ns.length=n):
  AO P ⟨dd,.convert t t' x,ty,pos,af,g⟩ fr B L (fun c L'=>c= .sc (.string (ns.foldl (fun r n=>r.push (UInt8.ofNat n.toNat)) ByteArray.empty))∧L'=L):=by
 intro σ ρ w hρ hw
 obtain ⟨o,ho,vs,rfl,hvs,h1⟩:=hw.here _ (Kw hL)
 have hvs':vs=ns.map (Value.int .u8):=by
  have hl:=hvs.1
  rw [Ku] at hl
  apply List.ext_getElem?
  intro j
  by_cases hj:j < ns.length
  ·obtain ⟨z,hz⟩:∃z,ns[j]?=some z:=⟨_,Kz hj⟩
   obtain ⟨v,hv⟩:∃v,vs[j]?=some v:=⟨_,Kz (by omega)⟩
   have:=hvs.2 j _ v (by rw [List.getElem?_map,hz];rfl) hv
   rw [hv,List.getElem?_map,hz,this.sc_inv]
   rfl
  ·rw [List.getElem?_eq_none (by omega),List.getElem?_eq_none (by rw [Ku];omega)]
 have hload:(loadCells ⟨b,0,none⟩ n).run P w= .ok (ns.map (Value.int .u8)).toArray w:=by
  have:=run_loadCells_list (P:=P) w ⟨b,0,none⟩ vs fun j v hj=>by
   rw [dJ,Nat.zero_add,d7 ho]
   simpa using hj
  rw [←hvs.1,Ku,hn] at this
  rw [this,hvs']
 have hr:=run_bytesToString (P:=P) w ⟨b,0,none⟩ n cap ns hload
 haveI:=hs
 unfold gR
 rw [show (execOp ρ ⟨dd,.convert t t' x,ty,pos,af,g⟩).run P w= .ok (.value (.string (ns.foldl (fun r n=>r.push (UInt8.ofNat n.toNat)) ByteArray.empty))) w by
  simp [execOp,(hρ x _ hx).sc_inv,run_convert_bytes_string w t t' e _ _ _ hs.under he.under hd.under,hr]]
 exact ⟨σ,.sc _,_,cr.le_refl _,.sc _,hw,rfl,rfl⟩
end
section
variable {P:Program} {tt:TT} {r:Option Nat} {ops:Array Oper} {Q:Exit→Act→World→Prop} {nt:Nat} {D:List Deferred} {fr:cf} {B:Bs} {L:AL} {rest:List Oper} {d:Nat} {ty t t':TypeId} {pos:String} {af:Array Edge} {x y z:Operand} {u:AV}
theorem Dz (ok:ez P tt) {n e sz b:Nat} (ha:zH tt t=some (n,e,sz)) (hx:br fr x=some (.sc (.pointer (some ⟨b,0,none⟩)))) (hd:Nat.ble nt d=false) (h:bJ P r ops Q nt D rest ((d,.sc (.slice (some ⟨b,0,none⟩) n n))::fr) B L):bJ P r ops Q nt D (⟨some d,.slice t x none none none,ty,pos,af,none⟩::rest) fr B L:=
 cw (BO (iP ok ha).1 (iP ok ha).2 hx) hd rfl h
theorem Dw (ok:ez P tt) (i:Nat) (ns:List Int) {e sz by_ b n cap:Nat} {e':TypeId} {ti ti':TI} (ht:jN tt t=some (e,sz,by_)) (he:dy tt e=some ti) (hk:ti.k= .int .u8) (ht':dy tt t'=some ti') (hk':ti'.k= .str) (hx:br fr x=some (.sc (.slice (some ⟨b,0,none⟩) n cap))) (hL:L[i]?=some (b,.box (ns.map fun z=> .sc (.int .u8 z)) e')) (hn:ns.length=n) (hd:Nat.ble nt d=false) (h:bJ P r ops Q nt D rest ((d,.sc (.string (ns.foldl (fun r n=>r.push (UInt8.ofNat n.toNat)) ByteArray.empty)))::fr) B L):bJ P r ops Q nt D (⟨some d,.convert t t' x,ty,pos,af,none⟩::rest) fr B L:=
 cN hd rfl (zC i ns (bz ok ht).1 (ok.int he hk) (ok.str ht' hk') hx hL hn) fun c L' ⟨h1,h2⟩=>by subst h1;subst h2;exact h
end
section
variable {P:Program} {tt:TT} {l:List Oper} {fr:cf} {fin:iH} {sk:lp} {acc:cf} {L:AL} {k:Nat} {dd:Option Tmp} {ty t t':TypeId} {pos:String} {af:Array Edge} {g:Option (Nat×Bool)} {x y:Operand} {u:AV}
theorem xe (i:Nat) {q q':IntKind} {a b:Int} (hx:br (cE l.toArray acc fr af.toList) x=some (.sc (.int q a))) (hy:br (cE l.toArray acc fr af.toList) y=some (.sc (.int q' b))) (hb:b=(i:Int)) (hg:iO ⟨dd,.binOp .shl t x y t',ty,pos,af,g⟩ acc) (h:DA P l fr fin sk ((k,.sc (.int q (q.wrap (a * 2 ^ min i q.bits))))::acc) L):cG P l fr fin k .v ⟨dd,.binOp .shl t x y t',ty,pos,af,g⟩ sk acc L:=ff hg (z2 (He i hx hy hb)) h
theorem EZ {q:IntKind} {a b:Int} (hx:br (cE l.toArray acc fr af.toList) x=some (.sc (.int q a))) (hy:br (cE l.toArray acc fr af.toList) y=some (.sc (.int q b))) (hg:iO ⟨dd,.binOp .or t x y t',ty,pos,af,g⟩ acc) (h:DA P l fr fin sk ((k,.sc (.int q (bits .or q a b)))::acc) L):cG P l fr fin k .v ⟨dd,.binOp .or t x y t',ty,pos,af,g⟩ sk acc L:=ff hg (z2 (yl hx hy)) h
end
end Go.Proofs.YtpmdfoaadejmkaaGreatDoor
namespace Go.Proofs.YtpmdfoaadejmkaaGreatDoor
open Go.RowKit
def jm (P:Program) (u:AV) (args:List AV) (L:AL) (Post:AV→AL→Prop):Prop:=(∃f caps,bM P f∧lm u=some (f,caps)∧AC P f (args++caps) L Post)∨∃f fs caps,bM P f∧u= .fnB f fs caps∧AC P f (fs++(args++caps)) L Post
theorem jm.fn {P:Program} {f:FuncId} {caps args:List AV} {L:AL} {Post:AV→AL→Prop} [h:bM P f] (k:AC P f (args++caps) L Post):jm P (.fn f caps) args L Post:= .inl ⟨f,caps,h,rfl,k⟩
theorem jm.fn0 {P:Program} {f:FuncId} {args:List AV} {L:AL} {Post:AV→AL→Prop} [h:bM P f] (k:AC P f (args++[]) L Post):jm P (.sc (.func (.func f) #[] #[])) args L Post:= .inl ⟨f,[],h,rfl,k⟩
theorem jm.fnB {P:Program} {f:FuncId} {fs caps args:List AV} {L:AL} {Post:AV→AL→Prop} [h:bM P f] (k:AC P f (fs++(args++caps)) L Post):jm P (.fnB f fs caps) args L Post:= .inr ⟨f,fs,caps,h,rfl,k⟩
def K0 (u:AV):Bool:=match u with
 | .fn _ _=>true
 | .fnB _ _ _=>true
 | .sc _=>true
 | _=>false
section
variable {P:Program} {r:Option Nat} {ops:Array Oper} {Q:Exit→Act→World→Prop} {nt:Nat} {D:List Deferred} {fr:cf} {B:Bs} {L:AL} {rest:List Oper} {d:Nat} {ty t:TypeId} {pos:String} {af:Array Edge} {x y z:Operand} {u:AV} {g:Option (Nat×Bool)}
theorem uW (Lc Lf:AL) {d:Option Tmp} {f:FuncId} {args:Array Operand} {ts:Array TypeId} {cs fs caps:List AV} {Post:AV→AL→Prop} [hf:bM P f] (hx:br fr x=some (.fnB f fs caps)) (hv:eM fr args.toList=some cs) (hL:L.Perm (Lc++Lf)) (h:AC P f (fs++(cs++caps)) Lc Post):
  AO P ⟨d,.call ⟨.value x,args,ts⟩,ty,pos,af,g⟩ fr B L (fun c L'=>∃L1,Post c L1∧L'=L1++Lf):=by
 intro σ ρ w hρ hw0
 have hw:=hw0.perm hL
 obtain ⟨qs,ws,hw1,hw0',hw2⟩:=(hρ x _ hx).fnB_inv
 have hvs:=fv hρ _ _ hv
 have e:args.map ρ=(args.toList.map ρ).toArray:=by apply Array.toList_inj.1;simp
 unfold gR
 rw [show (execOp ρ ⟨d,.call ⟨.value x,args,ts⟩,ty,pos,af,g⟩).run P w= .ok (.enter f (qs++(args.toList.map ρ++ws)).toArray) w by
  simp [execOp,resolve,hw1,Deferred.ofValue,invoke,hf.enters]]
 have happ:∀{ps bs:List AV} {us vs:List Value},dB σ ps us→dB σ bs vs→dB σ (ps++bs) (us++vs):=by
  intro ps bs us vs ha hb
  refine ⟨by rw [List.length_append,List.length_append,ha.1,hb.1],fun i c u hc hu=>?_⟩
  have hq:=ha.1
  by_cases hi:i < ps.length
  ·rw [List.getElem?_append_left hi] at hc
   rw [List.getElem?_append_left (by omega)] at hu
   exact ha.2 i c u hc hu
  ·rw [List.getElem?_append_right (by omega)] at hc
   rw [List.getElem?_append_right (by omega),←hq] at hu
   exact hb.2 _ c u hc hu
 have hall:=happ hw0' (happ hvs hw2)
 refine (h σ w _ hall hw.enter).mono fun en w' ⟨v,τ,c,L',h1,h2,h3,h4⟩=>⟨v,h1,τ,c,L'++Lf,h3.grow,h2,hw.leave h3,L',h4,rfl⟩
theorem jB {args:Array Operand} {ts:Array TypeId} {cs:List AV} {Post:AV→AL→Prop} (Lc Lf:AL) (hc:jm P u cs Lc Post) (hx:br fr x=some u) (hv:eM fr args.toList=some cs) (hL:L.Perm (Lc++Lf)) (hn:Oper.noDefer ⟨some d,.call ⟨.value x,args,ts⟩,ty,pos,af,none⟩=true) (hd:Nat.ble nt d=false) (h:∀c L1,Post c L1→bJ P r ops Q nt D rest ((d,c)::fr) B (L1++Lf)):
  bJ P r ops Q nt D (⟨some d,.call ⟨.value x,args,ts⟩,ty,pos,af,none⟩::rest) fr B L:=by
 rcases hc with ⟨f,caps,hf,hu,hc⟩ | ⟨f,fs,caps,hf,rfl,hc⟩
 ·exact cN hd hn (qC Lc Lf hx hu hv hL hc) fun c L' ⟨L1,h1,h2⟩=>by subst h2;exact h c L1 h1
 ·exact cN hd hn (uW Lc Lf hx hv hL hc) fun c L' ⟨L1,h1,h2⟩=>by subst h2;exact h c L1 h1
end
section
variable {P:Program} {l:List Oper} {fr:cf} {fin:iH} {sk:lp} {acc:cf} {L:AL} {k:Nat} {dd:Option Tmp} {ty:TypeId} {pos:String} {af:Array Edge} {g:Option (Nat×Bool)} {x:Operand} {u:AV}
theorem F0 {args:Array Operand} {ts:Array TypeId} {cs:List AV} {Post:AV→AL→Prop} (Lc Lf:AL) (hc:jm P u cs Lc Post) (hx:br (cE l.toArray acc fr af.toList) x=some u) (hv:eM (cE l.toArray acc fr af.toList) args.toList=some cs) (hL:L.Perm (Lc++Lf)) (hg:iO ⟨dd,.call ⟨.value x,args,ts⟩,ty,pos,af,g⟩ acc) (h:∀c L1,Post c L1→DA P l fr fin sk ((k,c)::acc) (L1++Lf)):
  cG P l fr fin k .e ⟨dd,.call ⟨.value x,args,ts⟩,ty,pos,af,g⟩ sk acc L:=by
 rcases hc with ⟨f,caps,hf,hu,hc⟩ | ⟨f,fs,caps,hf,rfl,hc⟩
 ·exact iX hg (fun B=>qC Lc Lf hx hu hv hL hc) fun c L' ⟨L1,h1,h2⟩=>by subst h2;exact h c L1 h1
 ·exact iX hg (fun B=>uW Lc Lf hx hv hL hc) fun c L' ⟨L1,h1,h2⟩=>by subst h2;exact h c L1 h1
end
end Go.Proofs.YtpmdfoaadejmkaaGreatDoor
namespace Go.Proofs.YtpmdfoaadejmkaaGreatDoor
open Go.RowKit
section
variable {P:Program} {tt:TT} {r:Option Nat} {ops:Array Oper} {Q:Exit→Act→World→Prop} {nt:Nat} {D:List Deferred} {fr:cf} {B:Bs} {L:AL} {rest:List Oper} {d:Nat} {ty t t':TypeId} {pos:String} {af:Array Edge} {x y z:Operand} {u:AV} {g:Option (Nat×Bool)}
theorem C0 {dd:Option Tmp} {e sz by_ s:Nat} {l:List (List AV)} (hc:kv P t e sz by_) (hx:br fr x=some u) (hu:u.im= .imm s l) (hy:br fr y=some (.sc (.slice none 0 0))):
  AO P ⟨dd,.binOp .eql t x y t',ty,pos,af,g⟩ fr B L (fun c L'=>∃b,c= .sc (.bool b)∧(b=true→l=[])∧L'=L):=by
 intro σ ρ w hρ hw
 have hxv:=(hρ x u hx).im
 rw [hu] at hxv
 have hyv:=(hρ y _ hy).sc_inv
 have key:∀v,VR σ (.imm s l) v→∃A cap,v= .slice A l.length cap∧(l≠[]→∃b off,A=some ⟨b,off,none⟩):=by
  intro v hv
  cases hv with
  | imm sz l A cap h1 h2 h3 ha hx2 h4=>exact ⟨A,cap,rfl,ha⟩
 obtain ⟨A,cap,hval,ha⟩:=key _ hxv
 ·have hrun:=Lib.run_eql_slice_nil (P:=P) w t e A l.length cap 0 0 hc.under
  unfold gR
  rw [show (execOp ρ ⟨dd,.binOp .eql t x y t',ty,pos,af,g⟩).run P w= .ok (.value (.bool A.isNone)) w by
   simp [execOp,hval,hyv,eqGuard,hrun]]
  refine ⟨σ,.sc _,L,cr.le_refl σ,.sc _,hw,A.isNone,rfl,fun h=>?_,rfl⟩
  cases A with
  | none=>exact Decidable.byContradiction fun hn=>by obtain ⟨b,o,hh⟩:=ha hn;cases hh
  | some a=>cases h
theorem ue (ok:ez P tt) {e sz by_ s:Nat} {l:List (List AV)} (ht:jN tt t=some (e,sz,by_)) (hx:br fr x=some u) (hu:iL u=some (s,l)) (hy:br fr y=some (.sc (.slice none 0 0))) (hd:Nat.ble nt d=false) (h:∀b,(b=true→l=[])→bJ P r ops Q nt D rest ((d,.sc (.bool b))::fr) B L):
  bJ P r ops Q nt D (⟨some d,.binOp .eql t x y t',ty,pos,af,none⟩::rest) fr B L:=
 cN hd rfl (C0 (bz ok ht).1 hx (d4 hu) hy) fun c L' ⟨b,h1,h2,h3⟩=>by subst h1;subst h3;exact h b h2
end
section
variable {P:Program} {nt:Nat} {fr:cf} {B:Bs} {L L':AL}
theorem i6 (L':AL) {fn:Func} {Post:AV→AL→Prop} {cs:List AV} (hr:pJ P fr L fn.results.toList cs) (hs:L'.Sublist L) (h:Post (sA cs) L'):AX P .ret (bodyPost P fn (jD B Post)) nt [] fr B L:=by
 intro σ a w ha hw
 obtain ⟨v,h1,h2⟩:=jC ha hw hr
 exact ⟨ha.defers,v,h1,v,σ,sA cs,L',rfl,h2,hw.sublist hs,h⟩
end
end Go.Proofs.YtpmdfoaadejmkaaGreatDoor
