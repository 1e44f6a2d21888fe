/-
  Numbers parted into classes by sets: the walk.
-/
import Derived.Test.YtpmdfoaadejmkaaGreatDoorM14
import Derived.Test.YtpmdfoaadejmkaaGreatDoorM13
import Derived.Test.YtpmdfoaadejmkaaGreatDoorM12
import Derived.Laws.BytesString
import Derived.Test.YtpmdfoaadejmkaaGreatDoorM06
import Derived.WalkSpells
namespace Go.Proofs.YtpmdfoaadejmkaaGreatDoor
open Go.RowKit
attribute [local irreducible] AT br AX AO Av Kt b7 dm DA cA
def jI (l:List Int):Prop:=l.Pairwise (· < ·)
theorem Ei {l:List Int} (h:jI l) {i:Nat} {x y:Int} (hx:l[i]?=some x) (hy:l[i+1]?=some y):x < y:=by
 obtain ⟨h1,h2⟩:=Ln hx
 obtain ⟨h3,h4⟩:=Ln hy
 have:=List.pairwise_iff_getElem.1 h i (i+1) h1 h3 (by omega)
 rw [h2,h4] at this
 exact this
theorem gq {l:List Int} (h:jI l):l.Nodup:=h.imp fun hlt=>by omega
theorem uw (l:List Int) (h:jI l):c5 Tryz.prog 253 [.imm 1 (aQ l)] (eo true):=by
 refine aS Tryz.func253 rfl Tryz.ntmps253 rfl fun B=>?_
 refine cW 0 rfl rfl fun hlen=>?_
 have hll:=aX l
 rw [hll] at hlen
 refine W04 ?_
 refine aN [0] (α:=Nat) (fun i=>[(3,aI ((i:Int)+1))]) (fun i=>i≤l.length) (fun _=>[]) (fun i=>l.length - i) 0 rfl ⟨rfl,trivial⟩ (Nat.zero_le _) (fun _ _ h=>h) fun i hi=>?_
 try dsimp only [Lr,Lq,Lp,Li]
 refine W01 ?_
 refine ar rfl (fun h1=>?_) (fun h1=>?_)
 ·have hil:i+1 < l.length:=by have:=Lz h1;omega
  obtain ⟨x,hx⟩:∃z,l[i]?=some z:=⟨_,Iy (by omega)⟩
  obtain ⟨y,hy⟩:∃z,l[i+1]?=some z:=⟨_,Iy hil⟩
  have hxy:=Ei h hx hy
  have e1:((i:Int)+1).toNat=i+1:=by omega
  have e2:((i:Int)+1 - 1).toNat=i:=by omega
  have hxg:(aQ l)[((i:Int)+1 - 1).toNat]?=some [aI x]:=by rw [e2];exact bW hx
  have hyg:(aQ l)[((i:Int)+1).toNat]?=some [aI y]:=by rw [e1];exact bW hy
  clear h1
  refine W0K ?_
  refine bz 9 [(0,.v),(1,.v),(2,.v),(3,.v),(4,.v),(5,.v),(6,.v),(7,.v),(8,.v)] none ?_ trivial rfl (by kernel_rfl) (by kernel_rfl) (by kernel_rfl) bX (by kernel_rfl) rfl
  refine W2c ?_
  refine LQ [0,3,13,18] KZ ?_
  refine W0r ?_
  refine ar rfl (fun h2=>?_) (fun _=>?_)
  ·have:=Lz h2
   omega
  refine W06 ?_
  exact aC (i+1) rfl ⟨by rw [Lv];rfl,trivial⟩ (by omega) (by omega) (fun _ _ h=>h)
 ·refine W02 ?_
  exact LN LA
theorem wm (l:List Int) (h:jI l):c5 Tryz.prog 177 [.imm 1 (aQ l)] (.imm 1 (aQ l)):=by
 refine aS Tryz.func177 rfl Tryz.ntmps177 rfl fun B=>?_
 haveI:=AD.mk (uw l h)
 repeat' (first|refine a9 ?_|refine a4 ?_|refine am ?_|refine a6 ?_|refine aB ?_|refine a7 ?_|refine LG a5 KZ ?_|(apply bw;refine bn ?_)|refine bR rfl ?_)
 exact LN LA
def tM (k:Int) (t:List Int):Value→Option AV
 | .int .i64 z=>if t.contains z=true then some (aI (k+(t.idxOf z:Nat))) else none
 | _=>none
theorem uD (k:Int):tM k []=fun _=>none:=by
 funext v
 unfold tM
 split <;> rfl
theorem o8 {k:Int} {t:List Int} {z:Int} (h:z∈t):tM k t (.int .i64 z)=some (aI (k+(t.idxOf z:Nat))):=if_pos (List.contains_iff_mem.2 h)
theorem qh {k:Int} {t:List Int} {z:Int} (h:z∉t):tM k t (.int .i64 z)=none:=if_neg fun e=>h (List.contains_iff_mem.1 e)
theorem uE {k:Int} {t:List Int} {z:Int} (h:z∉t):tM k (dl t z) (.int .i64 z)=some (aI (k+(t.length:Nat))):=by rw [o8 (kj t z),kl h]
theorem qg {k:Int} {t:List Int} {z:Int} (h:z∉t):∀q,q≠ .int .i64 z→tM k (dl t z) q=tM k t q:=by
 intro q hq
 unfold tM
 split
 ·rename_i y
  have hne:y≠z:=fun e=>hq (by rw [e])
  have hm:(dl t z).contains y=t.contains y:=by
   rw [g7 h,Bool.eq_iff_iff,List.contains_iff_mem,List.contains_iff_mem]
   simp [hne]
  rw [hm]
  split
  ·rename_i hc
   rw [rX z (List.contains_iff_mem.1 hc)]
  ·rfl
 ·rfl
theorem zt (k:Int) (t:List Int):∀v,(tM k t v).isSome=true↔v∈t.map (Value.int .i64):=by
 intro v
 unfold tM
 split
 ·rename_i z
  rw [List.mem_map]
  split
  ·rename_i hc
   exact ⟨fun _=>⟨z,List.contains_iff_mem.1 hc,rfl⟩,fun _=>rfl⟩
  ·rename_i hc
   refine ⟨fun h=>(by cases h),fun ⟨y,hy,he⟩=>?_⟩
   cases he
   exact absurd (List.contains_iff_mem.2 hy) hc
 ·rename_i hv
  refine ⟨fun h=>(by cases h),fun h=>?_⟩
  obtain ⟨y,_,rfl⟩:=List.mem_map.1 h
  exact absurd rfl (hv y)
theorem r5 {t:List Int} (h:t.Nodup):(t.map (Value.int .i64)).Pairwise (·≠ ·):=List.pairwise_map.2 (h.imp fun hne e=>hne (by cases e;rfl))
def cB (l:List Int):List AV:=l.map fun z=>aI z
theorem eH (l:List Int):(cB l).length=l.length:=by simp [cB]
theorem kF {l:List Int} {i:Nat} {z:Int} (h:l[i]?=some z):(cB l)[0+((i:Nat):Int).toNat * 1]?=some (aI z):=by simp [cB,h]
theorem eI {l:List Int} {i:Nat} {z:Int}:fx (cB l) (0+((i:Nat):Int).toNat * 1) [aI z]=cB (l.set i z):=by
 rw [jh]
 unfold cB
 rw [List.map_set]
 simp
theorem jt (n:Nat):(List.replicate n [aI 0]).flatten=cB (List.replicate n 0):=by
 induction n with
 | zero=>rfl
 | succ n ih=>rw [List.replicate_succ,List.flatten_cons,ih,List.replicate_succ];rfl
theorem js (l:List Int):cB l=(aQ l).flatten:=by
 induction l with
 | nil=>rfl
 | cons z l ih=>simp [cB,aQ] at ih ⊢;exact ih
theorem ie {mb cb:Nat} {M:AB} {c c':List AV} (h:c=c'):[(mb,M),(cb,AB.box c 3)]=[(mb,M),(cb,.box c' 3)]:=by rw [h]
theorem yT {l:List Int} {g:Int} {z:Int} (h:l[g.toNat]?=some z):l.getD g.toNat 0=z:=by rw [List.getD_eq_getElem?_getD,h];rfl
theorem tu {l:List Int} {k:Nat} {z:Int} (h:l[k]?=some z):(eZ (l.take k)++l.drop k).set k ((dl (hY (l.take k)) z).idxOf z:Nat)=eZ (l.take (k+1))++l.drop (k+1):=by
 have hk:=(Ln h).1
 rw [List.set_append,if_neg (by rw [fQ,List.length_take];omega),fQ,List.length_take,Nat.min_eq_left (by omega),Nat.sub_self,List.drop_eq_getElem_cons hk,List.set_cons_zero,List.take_add_one,h]
 dsimp only [Option.toList]
 rw [ye,List.append_assoc]
 rfl
theorem zw {l:List Int} {k:Nat} {z:Int} (h:l[k]?=some z):(eZ (l.take k)++l.drop k)[k]?=some z:=by
 have hk:=(Ln h).1
 rw [List.getElem?_append_right (by rw [fQ,List.length_take];omega),fQ,List.length_take,Nat.min_eq_left (by omega),Nat.sub_self,List.getElem?_drop]
 exact h
theorem tp {l:List Int} {k:Nat} {z:Int} (h:l[k]?=some z):hY (l.take (k+1))=dl (hY (l.take k)) z:=by
 rw [List.take_add_one,h]
 exact km _ _
set_option maxHeartbeats 8000000 in
theorem sn (n:Nat) (h0:0 < n) (hn:n≤65536) (sets:List (List Int)) (hs:∀s∈sets,jI s∧∀g∈s,0≤g∧g < (n:Int)) (hsl:sets.length≤1000000):c5 Tryz.prog 98 [aI n,.imm 1 (bj sets)] (.imm 1 (aQ (da n sets))):=by
 refine aS Tryz.func98 rfl Tryz.ntmps98 rfl fun B=>?_
 have hrl:=bZ sets
 refine W01 ?_
 refine ce [0,1] False rfl (fun Q' K=>?_) (fun hC=>hC.elim) (fun _=>?_)
 ·repeat' (first|refine a7 ?_|refine LG a5 KZ ?_|refine LO KZ ?_|refine LP LB ?_|refine LR LA (fun _=>?_) (fun _=>?_))
  all_goals exact K _ _ rfl rfl (by simp_all <;> omega)
 refine W0e ?_
 refine iz a5 n rfl rfl rfl rfl rfl rfl rfl (by omega) (by omega) rfl fun cb=>?_
 rw [show (List.replicate n (List.map AV.sc [Value.int .i64 0])).flatten=cB (List.replicate n 0) from jt n]
 refine W04 ?_
 refine aN [0,5,28,29] (α:=Nat×List Int×Int) (fun s=>[(30,aI s.1),(6,aI s.2.2)]) (fun s=>s.1≤sets.length∧(sets.drop s.1).foldl i6 (s.2.1,s.2.2)=kV n sets∧s.2.1.length=n∧0≤s.2.2∧s.2.2≤1+s.1 * 65536) (fun s=>[(cb,.box (cB s.2.1) 3)]) (fun s=>sets.length - s.1) (0,List.replicate n 0,1) rfl ⟨rfl,rfl,trivial⟩ ⟨Nat.zero_le _,rfl,by simp,by dsimp only;omega,by dsimp only;omega⟩ (fun _ _ h=>h) ?_
 ·rintro ⟨k,cls,k0⟩ ⟨hk,hf,hcl,hk0,hk1⟩
  dsimp only at hk hf hcl hk0 hk1 ⊢
  try dsimp only [Lr,Lq,Lp,Li]
  refine W01 ?_
  refine ar rfl (fun h1=>?_) (fun h1=>?_)
  ·have hk2:k < sets.length:=by have:=Lz h1;omega
   obtain ⟨s,hsk⟩:∃z,sets[k]?=some z:=⟨_,Iy hk2⟩
   have hsg:=gr hsk
   obtain ⟨hri,hdm⟩:=hs s (Lw hsk)
   have hsn:s.length≤n:=fF (gq hri) hdm
   have hil:=aX s
   haveI:=AD.mk (wm s hri)
   rw [List.drop_eq_getElem_cons hk2,(Ln hsk).2,List.foldl_cons] at hf
   clear h1
   refine W08 ?_
   refine eX KJ fun mb=>?_
   rw [←uD k0]
   refine W1t ?_
   refine aN [0,5,9,28,29,30,36,37] (α:=Nat×List Int×List Int) (fun t=>[(38,aI t.1),(6,aI (k0+(t.2.2.length:Nat)))]) (fun t=>t.1≤s.length∧(s.drop t.1).foldl (fU k0) (t.2.1,t.2.2)=s.foldl (fU k0) (cls,[])∧t.2.1.length=n∧t.2.2.length≤t.1) (fun t=>[(mb,cR KJ (tM k0 t.2.2)),(cb,.box (cB t.2.1) 3)]) (fun t=>s.length - t.1) (0,cls,[]) rfl ⟨rfl,by simp;rfl,trivial⟩ ⟨Nat.zero_le _,rfl,hcl,Nat.le_refl _⟩ (fun _ _ h=>h) ?_
   rintro ⟨j,cl1,ap⟩ ⟨hj,hjf,hjl,hja⟩
   dsimp only at hj hjf hjl hja ⊢
   try dsimp only [Lr,Lq,Lp,Li]
   refine W01 ?_
   refine ar rfl (fun h1=>?_) (fun h1=>?_)
   ·have hj2:j < s.length:=by have:=Lz h1;omega
    obtain ⟨g,hg⟩:∃z,s[j]?=some z:=⟨_,Iy hj2⟩
    have hgg:=bW hg
    obtain ⟨hg0,hgn⟩:=hdm g (Lw hg)
    obtain ⟨z,hz⟩:∃z,cl1[g.toNat]?=some z:=⟨_,Iy (by omega)⟩
    have hgt:((g.toNat:Nat):Int)=g:=Int.toNat_of_nonneg hg0
    have hzc:=kF hz
    rw [hgt] at hzc
    have hcc:=eH cl1
    have hput:∀y,fx (cB cl1) (0+g.toNat * 1) [aI y]=cB (cl1.set g.toNat y):=fun y=>by
     have:=eI (l:=cl1) (i:=g.toNat) (z:=y)
     rwa [hgt] at this
    rw [List.drop_eq_getElem_cons hj2,(Ln hg).2,List.foldl_cons] at hjf
    have hmk:fU k0 (cl1,ap) g=(cl1.set g.toNat (k0+((dl ap z).idxOf z:Nat)),dl ap z):=by
     unfold fU
     rw [yT hz]
    rw [hmk] at hjf
    have hal:=o5 ap z
    clear h1
    refine W08 ?_
    refine ce [0,5,6,9,11,28,29,30,36,37,38] False rfl (fun Q' K=>?_) (fun hC=>hC.elim) (fun _=>?_)
    ·repeat' (first|refine a7 ?_|refine LG a5 KZ ?_|refine LO KZ ?_|refine LP LB ?_|refine LR LA (fun _=>?_) (fun _=>?_))
     all_goals exact K _ _ rfl rfl (by simp_all <;> omega)
    refine W0B ?_
    refine gn 0 (.int .i64 0) Tryz.underlying257 Tryz.underlying3 rfl rfl rfl rfl (by kernel_rfl) rfl ?_
    by_cases hm:z∈ap
    ·have hgs:=o8 (k:=k0) hm
     have hta:=fc hm
     rw [hta] at hjf
     rw [hgs]
     refine W0G ?_
     refine io 0 (.int .i64 0) Tryz.underlying257 Tryz.underlying3 rfl rfl rfl rfl (by kernel_rfl) rfl ?_
     rw [hgs]
     refine W0z ?_
     refine LU a5 1 LD (Nat.ble_eq_true_of_le (by rw [hcc];simp;omega)) ?_
     refine aE (aH (L':=[(mb,cR KJ (tM k0 ap)),(cb,.box (cB (cl1.set g.toNat (k0+(ap.idxOf z:Nat)))) 3)]) (List.Perm.of_eq (ie (hput _)))) ?_
     refine W05 ?_
     exact aC (j+1,_,ap) rfl ⟨by rw [Lv];rfl,rfl,trivial⟩ ⟨hj2,hjf,by rw [List.length_set];exact hjl,by dsimp only;omega⟩ (by dsimp only;omega) (fun _ _ h=>h)
    ·have hgn2:=qh (k:=k0) hm
     have hgp:=uE (k:=k0) hm
     have hnew:=kl hm
     have hnl:(dl ap z).length=ap.length+1:=by rw [g7 hm,List.length_append,List.length_singleton]
     rw [hgn2]
     refine W1r ?_
     refine dD 0 (tM k0 (dl ap z)) Tryz.underlying257 Tryz.underlying3 rfl rfl rfl rfl rfl hgp (qg hm) ?_
     refine W1L ?_
     refine io 0 (.int .i64 0) Tryz.underlying257 Tryz.underlying3 rfl rfl rfl rfl (by kernel_rfl) rfl ?_
     rw [hgp]
     refine W0z ?_
     refine LU a5 1 LD (Nat.ble_eq_true_of_le (by rw [hcc];simp;omega)) ?_
     refine aE (aH (L':=[(mb,cR KJ (tM k0 (dl ap z))),(cb,.box (cB (cl1.set g.toNat (k0+(ap.length:Nat)))) 3)]) (List.Perm.of_eq (ie (hput _)))) ?_
     refine W05 ?_
     rw [hnew] at hjf
     refine aC (j+1,_,dl ap z) rfl ⟨by rw [Lv];rfl,?_,trivial⟩ ⟨hj2,hjf,by rw [List.length_set];exact hjl,by dsimp only;omega⟩ (by dsimp only;omega) (fun _ _ h=>h)
     show some (AV.sc (.int .i64 (k0+(ap.length:Nat)+1)))=some (aI (k0+((dl ap z).length:Nat)))
     rw [hnl,Lv,Int.add_assoc]
     rfl
   ·have hj2:j=s.length:=by have:=Ly h1;omega
    subst hj2
    rw [List.drop_length] at hjf
    have hjf2:(cl1,ap)=s.foldl (fU k0) (cls,[]):=hjf
    have hps:i6 (cls,k0) s=(cl1,k0+(ap.length:Nat)):=by
     unfold i6
     dsimp only
     rw [←hjf2]
    rw [hps] at hf
    clear h1
    refine W0y ?_
    exact aC (k+1,cl1,k0+(ap.length:Nat)) rfl ⟨by rw [Lv];rfl,rfl,trivial⟩ ⟨hk2,hf,hjl,by dsimp only;omega,by dsimp only;omega⟩ (by dsimp only;omega) (fun _ _ h=>h.sublist (List.sublist_cons_self ..))
  ·have hk2:k=sets.length:=by have:=Ly h1;omega
   subst hk2
   rw [List.drop_length] at hf
   have hf2:(cls,k0)=kV n sets:=hf
   have hpv:da n sets=eZ cls:=by unfold da;rw [←hf2]
   rw [hpv]
   clear h1
   refine W1p ?_
   refine eX KJ fun tb=>?_
   rw [←uD 0]
   refine W04 ?_
   refine aN [5,15,75,76] (α:=Nat) (fun i=>[(77,aI i)]) (fun i=>i≤cls.length) (fun i=>[(tb,cR KJ (tM 0 (hY (cls.take i)))),(cb,.box (cB (eZ (cls.take i)++cls.drop i)) 3)]) (fun i=>cls.length - i) 0 rfl ⟨rfl,trivial⟩ (Nat.zero_le _) (fun _ _ h=>h) fun i hi=>?_
   try dsimp only [Lr,Lq,Lp,Li]
   refine W01 ?_
   refine ar rfl (fun h1=>?_) (fun h1=>?_)
   ·have hi2:i < cls.length:=by have:=Lz h1;omega
    obtain ⟨z,hz⟩:∃z,cls[i]?=some z:=⟨_,Iy hi2⟩
    have hzc:=kF (zw hz)
    have hcc:=eH (eZ (cls.take i)++cls.drop i)
    have hcl2:(eZ (cls.take i)++cls.drop i).length=cls.length:=by rw [List.length_append,fQ,List.length_take,List.length_drop];omega
    have htc:=tu hz
    have htt:=tp hz
    have hnd:=rY (cls.take i)
    clear h1
    refine W0A ?_
    refine gn 0 (.int .i64 0) Tryz.underlying257 Tryz.underlying3 rfl rfl rfl rfl (by kernel_rfl) rfl ?_
    by_cases hm:z∈hY (cls.take i)
    ·have hgs:=o8 (k:=0) hm
     have hta:=fc hm
     rw [hta] at htc htt
     rw [hgs]
     refine W0G ?_
     refine io 0 (.int .i64 0) Tryz.underlying257 Tryz.underlying3 rfl rfl rfl rfl (by kernel_rfl) rfl ?_
     rw [hgs]
     refine W0z ?_
     refine LU a5 1 LD (Nat.ble_eq_true_of_le (by rw [hcc,hcl2,Int.toNat_natCast];show 0+i * 1+1≤_;omega)) ?_
     refine aE (aH (L':=[(tb,cR KJ (tM 0 (hY (cls.take i)))),(cb,.box (cB (eZ (cls.take (i+1))++cls.drop (i+1))) 3)]) (List.Perm.of_eq (ie (by rw [←htc,←eI,Int.zero_add])))) ?_
     refine W05 ?_
     exact aC (i+1) rfl ⟨by rw [Lv];rfl,trivial⟩ (by omega) (by omega) (fun _ _ h=>by rw [htt];exact h)
    ·have hgn2:=qh (k:=0) hm
     have hgp:=uE (k:=0) hm
     have hnew:=kl hm
     rw [hgn2]
     refine W1r ?_
     refine vZ 0 _ Tryz.underlying257 rfl rfl (r5 hnd) (zt 0 _) rfl ?_
     rw [Lu]
     rw [Int.zero_add] at hgp
     repeat' (first|fail)
     refine dD 0 (tM 0 (dl (hY (cls.take i)) z)) Tryz.underlying257 Tryz.underlying3 rfl rfl rfl rfl rfl hgp (qg hm) ?_
     refine W1a ?_
     refine io 0 (.int .i64 0) Tryz.underlying257 Tryz.underlying3 rfl rfl rfl rfl (by kernel_rfl) rfl ?_
     rw [hgp]
     refine W0z ?_
     refine LU a5 1 LD (Nat.ble_eq_true_of_le (by rw [hcc,hcl2,Int.toNat_natCast];show 0+i * 1+1≤_;omega)) ?_
     refine aE (aH (L':=[(tb,cR KJ (tM 0 (dl (hY (cls.take i)) z))),(cb,.box (cB (eZ (cls.take (i+1))++cls.drop (i+1))) 3)]) (List.Perm.of_eq (ie (by rw [←htc,←eI,hnew])))) ?_
     refine W05 ?_
     exact aC (i+1) rfl ⟨by rw [Lv];rfl,trivial⟩ (by omega) (by omega) (fun _ _ h=>by rw [htt];exact h)
   ·have hi2:i=cls.length:=by have:=Ly h1;omega
    subst hi2
    rw [List.take_length,List.drop_length,List.append_nil]
    clear h1
    refine W02 ?_
    have htl:=fQ cls
    have hcc:=eH (eZ cls)
    refine bc (jl (t:=4) (sz:=1) (n:=n) (cap:=n) (l:=aQ (eZ cls)) 1 rfl rfl ?_ (by omega) (fun e he=>?_) (by rw [aX];omega) (Nat.le_refl _) (by unfold maxLen;omega)) ?_
    ·rw [←js,Nat.mul_one,List.take_of_length_le (by omega)]
    ·unfold aQ at he
     obtain ⟨y,_,rfl⟩:=List.mem_map.1 he
     rfl
    refine dc (List.nil_sublist _) ?_
    exact LN LA
abbrev Pl:=Nat×Nat
section
variable {cls:List Int} {rows:List (List (List Int))} {have_:Nat→Bool} {L:Nat}
theorem tI (hL:∀r∈rows,r.length≤L) {p:Pl} {c:Nat} (h:(bH cls rows p c).2≠0):(bH cls rows p c).1≤L∧(bH cls rows p c).2 < 2 ^ rows.length∧bH cls rows p c=(p.1+1,p.2 &&& jY cls rows p.1 c):=by
 unfold bH at h ⊢
 split
 ·rename_i h0
  rw [if_pos h0] at h
  exact absurd rfl h
 ·rename_i h0
  refine ⟨?_,Nat.lt_of_le_of_lt Nat.and_le_right (nh _ _),rfl⟩
  have hn:jY cls rows p.1 c≠0:=fun e=>h0 (by rw [e,Nat.and_zero])
  have:¬∀i,i < rows.length→mC cls rows p.1 c i=false:=fun hh=>hn (qE.2 hh)
  apply Classical.byContradiction
  intro hlt
  refine this fun i hi=>?_
  unfold mC
  rw [Iy hi]
  dsimp only
  rw [List.getElem?_eq_none (by have:=hL _ (List.getElem_mem hi);dsimp only at hlt;omega)]
structure ia (rows:List (List (List Int))) (have_:Nat→Bool) (L:Nat) (M:List Pl):Prop where
 first:M[0]?=some (lI rows have_)
 nodup:M.Nodup
 small:∀p∈M,p.1≤L∧p.2 < 2 ^ rows.length
theorem ia.start:ia rows have_ L [lI rows have_]:=⟨rfl,by simp,fun p hp=>by
 rw [List.mem_singleton] at hp
 subst hp
 exact ⟨Nat.zero_le _,nh _ _⟩⟩
theorem ia.meet {M:List Pl} (h:ia rows have_ L M) (hL:∀r∈rows,r.length≤L) {p:Pl} {c:Nat} (hne:(bH cls rows p c).2≠0):ia rows have_ L (dl M (bH cls rows p c)):=by
 refine ⟨lW _ h.first,mZ _ h.nodup,fun q hq=>?_⟩
 by_cases hm:bH cls rows p c∈M
 ·rw [fc hm] at hq;exact h.small q hq
 ·rw [g7 hm,List.mem_append,List.mem_singleton] at hq
  rcases hq with hq | rfl
  ·exact h.small q hq
  ·have:=tI hL hne
   exact ⟨this.1,this.2.1⟩
theorem ia.few {M:List Pl} (h:ia rows have_ L M):M.length≤(L+1) * 2 ^ rows.length:=by
 have hk:0 < 2 ^ rows.length:=Nat.pow_pos (by omega)
 have hs:=h.small
 generalize 2 ^ rows.length=K at hk hs
 have h1:(M.map fun p:Pl=>((p.1 * K+p.2:Nat):Int)).Nodup:=by
  refine List.pairwise_map.2 (h.nodup.imp_of_mem fun {a b} ha hb hab=>fun e=>hab ?_)
  have e':a.1 * K+a.2=b.1 * K+b.2:=by omega
  have ha2:=(hs a ha).2
  have hb2:=(hs b hb).2
  have e1:a.1=b.1:=by
   have h3:(a.1 * K+a.2) / K=a.1:=by rw [Nat.mul_comm,Nat.mul_add_div hk,Nat.div_eq_of_lt ha2,Nat.add_zero]
   have h4:(b.1 * K+b.2) / K=b.1:=by rw [Nat.mul_comm,Nat.mul_add_div hk,Nat.div_eq_of_lt hb2,Nat.add_zero]
   rw [←h3,←h4,e']
  exact Prod.ext e1 (by rw [e1] at e';omega)
 have h2:=fF (n:=(L+1) * K) h1 fun z hz=>by
  obtain ⟨p,hp,rfl⟩:=List.mem_map.1 hz
  obtain ⟨a1,a2⟩:=hs p hp
  have:p.1 * K+p.2 < (L+1) * K:=by
   have:p.1 * K≤L * K:=Nat.mul_le_mul_right _ a1
   rw [Nat.add_mul,Nat.one_mul]
   omega
  exact ⟨by omega,by omega⟩
 rwa [Lu] at h2
def gS (cls:List Int) (rows:List (List (List Int))) (M:List Pl) (p:Pl) (c:Nat) (z:Int):Prop:=
 ((bH cls rows p c).2=0∧z= -1)∨((bH cls rows p c).2≠0∧0≤z∧M[z.toNat]?=some (bH cls rows p c))
theorem gS.more {M:List Pl} {p q:Pl} {c:Nat} {z:Int} (h:gS cls rows M p c z):gS cls rows (dl M q) p c z:=by
 rcases h with h | ⟨h1,h2,h3⟩
 ·exact Or.inl h
 ·exact Or.inr ⟨h1,h2,lW _ h3⟩
theorem gS.new {M:List Pl} {p:Pl} {c:Nat} (h:(bH cls rows p c).2≠0):gS cls rows (dl M (bH cls rows p c)) p c ((dl M (bH cls rows p c)).idxOf (bH cls rows p c):Nat):=
 Or.inr ⟨h,by omega,by rw [Int.toNat_natCast];exact GD⟩
structure fS (cls:List Int) (rows:List (List (List Int))) (C:Nat) (M:List Pl) (tab:List (List Int)) (ends:List Nat):Prop where
 len:ends.length=tab.length
 ends:∀(i:Nat) p,i < tab.length→M[i]?=some p→ends[i]?=some (ii rows p)
 tab:∀(i:Nat) p q,M[i]?=some p→tab[i]?=some q→q.length=C∧∀(c:Nat) z,q[c]?=some z→gS cls rows M p c z
theorem fS.nil {C:Nat} {M:List Pl}:fS cls rows C M [] []:=⟨rfl,fun i p h=>by simp at h,fun i p q _ h=>by simp at h⟩
theorem fS.more {C:Nat} {M:List Pl} {tab:List (List Int)} {ends:List Nat} (h:fS cls rows C M tab ends) (hl:tab.length≤M.length) (q:Pl):fS cls rows C (dl M q) tab ends:=by
 have hb:∀(i:Nat) p,i < tab.length→(dl M q)[i]?=some p→M[i]?=some p:=fun i p hi hp=>by
  obtain ⟨x,hx⟩:∃x,M[i]?=some x:=⟨_,Iy (by omega)⟩
  have:=lW q hx
  rw [hp] at this
  cases this
  exact hx
 refine ⟨h.len,fun i p hi hp=>h.ends i p hi (hb i p hi hp),fun i p r hp hr=>?_⟩
 obtain ⟨h1,h2⟩:=h.tab i p r (hb i p (Ln hr).1 hp) hr
 exact ⟨h1,fun c z hz=>(h2 c z hz).more⟩
theorem fS.snoc {C:Nat} {M:List Pl} {tab:List (List Int)} {ends:List Nat} (h:fS cls rows C M tab ends) {p:Pl} {ea:List Int} (hp:M[tab.length]?=some p) (hr:ea.length=C) (hc:∀(c:Nat) z,ea[c]?=some z→gS cls rows M p c z):fS cls rows C M (tab++[ea]) (ends++[ii rows p]):=by
 refine ⟨by simp [h.len],fun i q hi hq=>?_,fun i q r hq hr'=>?_⟩
 ·rw [List.length_append,List.length_singleton] at hi
  by_cases hit:i < tab.length
  ·rw [List.getElem?_append_left (by rw [h.len];exact hit)]
   exact h.ends i q hit hq
  ·have e:i=tab.length:=by omega
   subst e
   rw [hp] at hq
   cases hq
   rw [List.getElem?_append_right (by rw [h.len];exact Nat.le_refl _),h.len,Nat.sub_self]
   rfl
 ·by_cases hit:i < tab.length
  ·rw [List.getElem?_append_left hit] at hr'
   exact h.tab i q r hq hr'
  ·rw [List.getElem?_append_right (by omega)] at hr'
   have hi0:i - tab.length=0:=by
    have:=(Ln hr').1
    simp at this
    omega
   have e:i=tab.length:=by omega
   subst e
   rw [Nat.sub_self] at hr'
   simp at hr'
   subst hr'
   rw [hp] at hq
   cases hq
   exact ⟨hr,hc⟩
theorem fS.done {C:Nat} {M:List Pl} {tab:List (List Int)} {ends:List Nat} (h:fS cls rows C M tab ends) (hs:ia rows have_ L M) (hl:tab.length=M.length):qo cls rows have_ C tab ends:=
 ⟨M,hs.first,hl.symm,by rw [h.len,hl],fun i p hp=>h.ends i p (by rw [hl];exact (Ln hp).1) hp,fun i p q hp hq=>h.tab i p q hp hq⟩
end
end Go.Proofs.YtpmdfoaadejmkaaGreatDoor
namespace Go.Proofs.YtpmdfoaadejmkaaGreatDoor
open Go.RowKit
section
variable {P:Program} {fr:bT} {B:Bs} {L:AL} {d:Option Tmp} {ty t t':TypeId} {pos:String} {af:Array Edge} {g:Option (Nat×Bool)} {x y z:Operand} {u:AV}
theorem HG {dd:Option Tmp} {k kk:IntKind} {a b:Int} (i:Nat) (hx:bh fr x=some (.sc (.int k a))) (hy:bh fr y=some (.sc (.int kk b))) (hb:b=(i:Int)):Av P ⟨dd,.binOp .shl t x y t',ty,pos,af,g⟩ fr (.sc (.int k (k.wrap (a * 2 ^ min i k.bits)))):=by
 intro σ ρ w hρ _
 subst hb
 refine ⟨_,?_,.sc _⟩
 have h:=shift_shl_any k kk a (i:Int) (Int.natCast_nonneg i)
 simp [execOp,(hρ x _ hx).sc_inv,(hρ y _ hy).sc_inv,eqGuard,binOp,h]
theorem Cd {dd:Option Tmp} {n e sz b:Nat} (ha:P.underlying t=some (.array n e)) (hs:(P.info? e).map (·.size)=some sz) (hx:bh fr x=some (.sc (.pointer (some ⟨b,0,none⟩)))):Av P ⟨dd,.slice t x none none none,ty,pos,af,g⟩ fr (.sc (.slice (some ⟨b,0,none⟩) n n)):=by
 intro σ ρ w hρ _
 refine ⟨_,?_,.sc _⟩
 obtain ⟨i,hi,hi2⟩:∃i,P.info? e=some i∧i.size=sz:=by
  cases hi:P.info? e with
  | none=>rw [hi] at hs;cases hs
  | some i=>rw [hi] at hs;exact ⟨i,rfl,by simpa using hs⟩
 simp [execOp,(hρ x _ hx).sc_inv,Instr.sliceAt,Instr.sliceBounds,Instr.sureAddr,run_underlying ha,sizeOf,typeInfo,hi,dJ]
theorem zO (i:Nat) {dd:Option Tmp} {e sz by_ b n cap:Nat} {e':TypeId} (ns:List Int) (hs:ln P t e sz by_) (he:C0 P e .u8) (hd:C2 P t') (hx:bh fr x=some (.sc (.slice (some ⟨b,0,none⟩) n cap))) (hL:L[i]?=some (b,.box (ns.map fun z=> .sc (.int .u8 z)) e')) (hn:ns.length=n):
  AO P ⟨dd,.convert t t' x,ty,pos,af,g⟩ fr B L (fun c L'=>c= .sc (.string (ns.foldl (fun r n=>r.push (UInt8.ofNat n.toNat)) ByteArray.empty))∧L'=L):=by
 intro σ ρ w hρ hw
 obtain ⟨o,ho,vs,rfl,hvs,h1⟩:=hw.here _ (Lw hL)
 have hvs':vs=ns.map (Value.int .u8):=by
  have hl:=hvs.1
  rw [Lu] at hl
  apply List.ext_getElem?
  intro j
  by_cases hj:j < ns.length
  ·obtain ⟨z,hz⟩:∃z,ns[j]?=some z:=⟨_,Iy hj⟩
   obtain ⟨v,hv⟩:∃v,vs[j]?=some v:=⟨_,Iy (by omega)⟩
   have:=hvs.2 j _ v (by rw [List.getElem?_map,hz];rfl) hv
   rw [hv,List.getElem?_map,hz,this.sc_inv]
   rfl
  ·rw [List.getElem?_eq_none (by omega),List.getElem?_eq_none (by rw [Lu];omega)]
 have hload:(loadCells ⟨b,0,none⟩ n).run P w= .ok (ns.map (Value.int .u8)).toArray w:=by
  have:=run_loadCells_list (P:=P) w ⟨b,0,none⟩ vs fun j v hj=>by
   rw [dJ,Nat.zero_add,cX ho]
   simpa using hj
  rw [←hvs.1,Lu,hn] at this
  rw [this,hvs']
 have hr:=run_bytesToString (P:=P) w ⟨b,0,none⟩ n cap ns hload
 haveI:=hs
 unfold gT
 rw [show (execOp ρ ⟨dd,.convert t t' x,ty,pos,af,g⟩).run P w= .ok (.value (.string (ns.foldl (fun r n=>r.push (UInt8.ofNat n.toNat)) ByteArray.empty))) w by
  simp [execOp,(hρ x _ hx).sc_inv,run_convert_bytes_string w t t' e _ _ _ hs.under he.under hd.under,hr]]
 exact ⟨σ,.sc _,_,Mem.le_refl _,.sc _,hw,rfl,rfl⟩
end
section
variable {P:Program} {tt:TT} {r:Option Nat} {ops:Array Oper} {Q:Exit→Act→World→Prop} {nt:Nat} {D:List Deferred} {fr:bT} {B:Bs} {L:AL} {rest:List Oper} {d:Nat} {ty t t':TypeId} {pos:String} {af:Array Edge} {x y z:Operand} {u:AV}
theorem DW (ok:eu P tt) {n e sz b:Nat} (ha:zT tt t=some (n,e,sz)) (hx:bh fr x=some (.sc (.pointer (some ⟨b,0,none⟩)))) (hd:Nat.ble nt d=false) (h:br P r ops Q nt D rest ((d,.sc (.slice (some ⟨b,0,none⟩) n n))::fr) B L):br P r ops Q nt D (⟨some d,.slice t x none none none,ty,pos,af,none⟩::rest) fr B L:=
 ci (Cd (iN ok ha).1 (iN ok ha).2 hx) hd rfl h
theorem DT (ok:eu P tt) (i:Nat) (ns:List Int) {e sz by_ b n cap:Nat} {e':TypeId} {ti ti':TI} (ht:kr tt t=some (e,sz,by_)) (he:dw tt e=some ti) (hk:ti.k= .int .u8) (ht':dw tt t'=some ti') (hk':ti'.k= .str) (hx:bh fr x=some (.sc (.slice (some ⟨b,0,none⟩) n cap))) (hL:L[i]?=some (b,.box (ns.map fun z=> .sc (.int .u8 z)) e')) (hn:ns.length=n) (hd:Nat.ble nt d=false) (h:br P r ops Q nt D rest ((d,.sc (.string (ns.foldl (fun r n=>r.push (UInt8.ofNat n.toNat)) ByteArray.empty)))::fr) B L):br P r ops Q nt D (⟨some d,.convert t t' x,ty,pos,af,none⟩::rest) fr B L:=
 cw hd rfl (zO i ns (bo ok ht).1 (ok.int he hk) (ok.str ht' hk') hx hL hn) fun c L' ⟨h1,h2⟩=>by subst h1;subst h2;exact h
end
section
variable {P:Program} {tt:TT} {l:List Oper} {fr:bT} {fin:iR} {sk:m6} {acc:bT} {L:AL} {k:Nat} {dd:Option Tmp} {ty t t':TypeId} {pos:String} {af:Array Edge} {g:Option (Nat×Bool)} {x y:Operand} {u:AV}
theorem xe (i:Nat) {q q':IntKind} {a b:Int} (hx:bh (cx l.toArray acc fr af.toList) x=some (.sc (.int q a))) (hy:bh (cx l.toArray acc fr af.toList) y=some (.sc (.int q' b))) (hb:b=(i:Int)) (hg:it ⟨dd,.binOp .shl t x y t',ty,pos,af,g⟩ acc) (h:DA P l fr fin sk ((k,.sc (.int q (q.wrap (a * 2 ^ min i q.bits))))::acc) L):cA P l fr fin k .v ⟨dd,.binOp .shl t x y t',ty,pos,af,g⟩ sk acc L:=fA hg (B7 (HG i hx hy hb)) h
theorem Fp {q:IntKind} {a b:Int} (hx:bh (cx l.toArray acc fr af.toList) x=some (.sc (.int q a))) (hy:bh (cx l.toArray acc fr af.toList) y=some (.sc (.int q b))) (hg:it ⟨dd,.binOp .or t x y t',ty,pos,af,g⟩ acc) (h:DA P l fr fin sk ((k,.sc (.int q (bits .or q a b)))::acc) L):cA P l fr fin k .v ⟨dd,.binOp .or t x y t',ty,pos,af,g⟩ sk acc L:=fA hg (B7 (yn hx hy)) h
end
end Go.Proofs.YtpmdfoaadejmkaaGreatDoor
namespace Go.Proofs.YtpmdfoaadejmkaaGreatDoor
open Go.RowKit
def i9 (P:Program) (u:AV) (args:List AV) (L:AL) (Post:AV→AL→Prop):Prop:=(∃f caps,bD P f∧lj u=some (f,caps)∧AC P f (args++caps) L Post)∨∃f fs caps,bD P f∧u= .fnB f fs caps∧AC P f (fs++(args++caps)) L Post
theorem i9.fn {P:Program} {f:FuncId} {caps args:List AV} {L:AL} {Post:AV→AL→Prop} [h:bD P f] (k:AC P f (args++caps) L Post):i9 P (.fn f caps) args L Post:= .inl ⟨f,caps,h,rfl,k⟩
theorem i9.fn0 {P:Program} {f:FuncId} {args:List AV} {L:AL} {Post:AV→AL→Prop} [h:bD P f] (k:AC P f (args++[]) L Post):i9 P (.sc (.func (.func f) #[] #[])) args L Post:= .inl ⟨f,[],h,rfl,k⟩
theorem i9.fnB {P:Program} {f:FuncId} {fs caps args:List AV} {L:AL} {Post:AV→AL→Prop} [h:bD P f] (k:AC P f (fs++(args++caps)) L Post):i9 P (.fnB f fs caps) args L Post:= .inr ⟨f,fs,caps,h,rfl,k⟩
def Kq (u:AV):Bool:=match u with
 | .fn _ _=>true
 | .fnB _ _ _=>true
 | .sc _=>true
 | _=>false
section
variable {P:Program} {r:Option Nat} {ops:Array Oper} {Q:Exit→Act→World→Prop} {nt:Nat} {D:List Deferred} {fr:bT} {B:Bs} {L:AL} {rest:List Oper} {d:Nat} {ty t:TypeId} {pos:String} {af:Array Edge} {x y z:Operand} {u:AV} {g:Option (Nat×Bool)}
theorem Co (Lc Lf:AL) {d:Option Tmp} {f:FuncId} {args:Array Operand} {ts:Array TypeId} {cs fs caps:List AV} {Post:AV→AL→Prop} [hf:bD P f] (hx:bh fr x=some (.fnB f fs caps)) (hv:dy fr args.toList=some cs) (hL:L.Perm (Lc++Lf)) (h:AC P f (fs++(cs++caps)) Lc Post):
  AO P ⟨d,.call ⟨.value x,args,ts⟩,ty,pos,af,g⟩ fr B L (fun c L'=>∃L1,Post c L1∧L'=L1++Lf):=by
 intro σ ρ w hρ hw0
 have hw:=hw0.perm hL
 obtain ⟨qs,ws,hw1,hw0',hw2⟩:=(hρ x _ hx).fnB_inv
 have hvs:=ey hρ _ _ hv
 have e:args.map ρ=(args.toList.map ρ).toArray:=by apply Array.toList_inj.1;simp
 unfold gT
 rw [show (execOp ρ ⟨d,.call ⟨.value x,args,ts⟩,ty,pos,af,g⟩).run P w= .ok (.enter f (qs++(args.toList.map ρ++ws)).toArray) w by
  simp [execOp,resolve,hw1,Deferred.ofValue,invoke,hf.enters]]
 have happ:∀{ps bs:List AV} {us vs:List Value},cS σ ps us→cS σ bs vs→cS σ (ps++bs) (us++vs):=by
  intro ps bs us vs ha hb
  refine ⟨by rw [List.length_append,List.length_append,ha.1,hb.1],fun i c u hc hu=>?_⟩
  have hq:=ha.1
  by_cases hi:i < ps.length
  ·rw [List.getElem?_append_left hi] at hc
   rw [List.getElem?_append_left (by omega)] at hu
   exact ha.2 i c u hc hu
  ·rw [List.getElem?_append_right (by omega)] at hc
   rw [List.getElem?_append_right (by omega),←hq] at hu
   exact hb.2 _ c u hc hu
 have hall:=happ hw0' (happ hvs hw2)
 refine (h σ w _ hall hw.enter).mono fun en w' ⟨v,τ,c,L',h1,h2,h3,h4⟩=>⟨v,h1,τ,c,L'++Lf,h3.grow,h2,hw.leave h3,L',h4,rfl⟩
theorem fN {args:Array Operand} {ts:Array TypeId} {cs:List AV} {Post:AV→AL→Prop} (Lc Lf:AL) (hc:i9 P u cs Lc Post) (hx:bh fr x=some u) (hv:dy fr args.toList=some cs) (hL:L.Perm (Lc++Lf)) (hn:Oper.noDefer ⟨some d,.call ⟨.value x,args,ts⟩,ty,pos,af,none⟩=true) (hd:Nat.ble nt d=false) (h:∀c L1,Post c L1→br P r ops Q nt D rest ((d,c)::fr) B (L1++Lf)):
  br P r ops Q nt D (⟨some d,.call ⟨.value x,args,ts⟩,ty,pos,af,none⟩::rest) fr B L:=by
 rcases hc with ⟨f,caps,hf,hu,hc⟩ | ⟨f,fs,caps,hf,rfl,hc⟩
 ·exact cw hd hn (uY Lc Lf hx hu hv hL hc) fun c L' ⟨L1,h1,h2⟩=>by subst h2;exact h c L1 h1
 ·exact cw hd hn (Co Lc Lf hx hv hL hc) fun c L' ⟨L1,h1,h2⟩=>by subst h2;exact h c L1 h1
end
end Go.Proofs.YtpmdfoaadejmkaaGreatDoor
namespace Go.Proofs.YtpmdfoaadejmkaaGreatDoor
open Go.RowKit
section
variable {P:Program} {tt:TT} {r:Option Nat} {ops:Array Oper} {Q:Exit→Act→World→Prop} {nt:Nat} {D:List Deferred} {fr:bT} {B:Bs} {L:AL} {rest:List Oper} {d:Nat} {ty t t':TypeId} {pos:String} {af:Array Edge} {x y z:Operand} {u:AV} {g:Option (Nat×Bool)}
theorem Cq {dd:Option Tmp} {e sz by_ s:Nat} {l:List (List AV)} (hc:ln P t e sz by_) (hx:bh fr x=some u) (hu:u.im= .imm s l) (hy:bh fr y=some (.sc (.slice none 0 0))):
  AO P ⟨dd,.binOp .eql t x y t',ty,pos,af,g⟩ fr B L (fun c L'=>∃b,c= .sc (.bool b)∧(b=true→l=[])∧L'=L):=by
 intro σ ρ w hρ hw
 have hxv:=(hρ x u hx).im
 rw [hu] at hxv
 have hyv:=(hρ y _ hy).sc_inv
 have key:∀v,VR σ (.imm s l) v→∃A cap,v= .slice A l.length cap∧(l≠[]→∃b off,A=some ⟨b,off,none⟩):=by
  intro v hv
  cases hv with
  | imm sz l A cap h1 h2 h3 ha hx2 h4=>exact ⟨A,cap,rfl,ha⟩
 obtain ⟨A,cap,hval,ha⟩:=key _ hxv
 ·have hrun:=Lib.run_eql_slice_nil (P:=P) w t e A l.length cap 0 0 hc.under
  unfold gT
  rw [show (execOp ρ ⟨dd,.binOp .eql t x y t',ty,pos,af,g⟩).run P w= .ok (.value (.bool A.isNone)) w by
   simp [execOp,hval,hyv,eqGuard,hrun]]
  refine ⟨σ,.sc _,L,Mem.le_refl σ,.sc _,hw,A.isNone,rfl,fun h=>?_,rfl⟩
  cases A with
  | none=>exact Decidable.byContradiction fun hn=>by obtain ⟨b,o,hh⟩:=ha hn;cases hh
  | some a=>cases h
theorem nO (ok:eu P tt) {e sz by_ s:Nat} {l:List (List AV)} (ht:kr tt t=some (e,sz,by_)) (hx:bh fr x=some u) (hu:j6 u=some (s,l)) (hy:bh fr y=some (.sc (.slice none 0 0))) (hd:Nat.ble nt d=false) (h:∀b,(b=true→l=[])→br P r ops Q nt D rest ((d,.sc (.bool b))::fr) B L):
  br P r ops Q nt D (⟨some d,.binOp .eql t x y t',ty,pos,af,none⟩::rest) fr B L:=
 cw hd rfl (Cq (bo ok ht).1 hx (cY hu) hy) fun c L' ⟨b,h1,h2,h3⟩=>by subst h1;subst h3;exact h b h2
end
section
variable {P:Program} {nt:Nat} {fr:bT} {B:Bs} {L L':AL}
theorem fY (L':AL) {fn:Func} {Post:AV→AL→Prop} {cs:List AV} (hr:rG P fr L fn.results.toList cs) (hs:L'.Sublist L) (h:Post (w7 cs) L'):AX P .ret (bodyPost P fn (i8 B Post)) nt [] fr B L:=by
 intro σ a w ha hw
 obtain ⟨v,h1,h2⟩:=lV ha hw hr
 exact ⟨ha.defers,v,h1,v,σ,w7 cs,L',rfl,h2,hw.sublist hs,h⟩
end
end Go.Proofs.YtpmdfoaadejmkaaGreatDoor
