/-
  Numbers parted into classes by sets: the walk.
-/
import Derived.Test.YtpmdfoaadejmkaaGreatDoorM14
import Derived.Test.YtpmdfoaadejmkaaGreatDoorM13
import Derived.Test.YtpmdfoaadejmkaaGreatDoorM12
import Derived.Laws.BytesString
import Derived.Test.YtpmdfoaadejmkaaGreatDoorM06
import Derived.WalkSpells
namespace Go.Proofs.YtpmdfoaadejmkaaGreatDoor
open Go.RowKit
attribute [local irreducible] AT bK AX AO Av Kt bh dw DA cK
def kx (l:List Int):Prop:=l.Pairwise (· < ·)
theorem D0 {l:List Int} (h:kx l) {i:Nat} {x y:Int} (hx:l[i]?=some x) (hy:l[i+1]?=some y):x < y:=by
 obtain ⟨h1,h2⟩:=Jq hx
 obtain ⟨h3,h4⟩:=Jq hy
 have:=List.pairwise_iff_getElem.1 h i (i+1) h1 h3 (by omega)
 rw [h2,h4] at this
 exact this
theorem gW {l:List Int} (h:kx l):l.Nodup:=h.imp fun hlt=>by omega
theorem tU (l:List Int) (h:kx l):bJ Tryz.prog 253 [.imm 1 (aW l)] (dY true):=by
 refine aN Tryz.func253 rfl Tryz.ntmps253 rfl fun B=>?_
 refine cB 0 rfl rfl fun hlen=>?_
 have hll:=aZ l
 rw [hll] at hlen
 repeat' (first|refine JU ?_|refine am ?_|refine JG a5 JA ?_)
 refine aP [0] (α:=Nat) (fun i=>[(3,aF ((i:Int)+1))]) (fun i=>i≤l.length) (fun _=>[]) (fun i=>l.length - i) 0 rfl ⟨rfl,trivial⟩ (Nat.zero_le _) (fun _ _ h=>h) fun i hi=>?_
 try dsimp only [Jt,Js,Jr,Kz]
 repeat' (first|refine JU ?_|refine JG a5 JA ?_)
 refine ar rfl (fun h1=>?_) (fun h1=>?_)
 ·have hil:i+1 < l.length:=by have:=Jz h1;omega
  obtain ⟨x,hx⟩:∃z,l[i]?=some z:=⟨_,Hb (by omega)⟩
  obtain ⟨y,hy⟩:∃z,l[i+1]?=some z:=⟨_,Hb hil⟩
  have hxy:=D0 h hx hy
  have e1:((i:Int)+1).toNat=i+1:=by omega
  have e2:((i:Int)+1 - 1).toNat=i:=by omega
  have hxg:(aW l)[((i:Int)+1 - 1).toNat]?=some [aF x]:=by rw [e2];exact bO hx
  have hyg:(aW l)[((i:Int)+1).toNat]?=some [aF y]:=by rw [e1];exact bO hy
  clear h1
  repeat' (first|refine JU ?_|refine am ?_)
  refine br 9 [(0,.v),(1,.v),(2,.v),(3,.v),(4,.v),(5,.v),(6,.v),(7,.v),(8,.v)] none ?_ trivial rfl (by kernel_rfl) (by kernel_rfl) (by kernel_rfl) bQ (by kernel_rfl) rfl
  repeat' (first|refine aD ?_|refine b8 a5 ?_|(apply ea;refine fA ?_)|(apply bW;refine ci a5 ?_)|fail)
  refine JQ [0,3,13,18] JA ?_
  repeat' (first|refine JU ?_|refine a7 ?_|refine JG a5 JA ?_)
  refine ar rfl (fun h2=>?_) (fun _=>?_)
  ·have:=Jz h2
   omega
  repeat' (first|refine JU ?_|refine JG a5 JA ?_|(apply aS;refine aQ ?_)|fail)
  exact aC (i+1) rfl ⟨by rw [Jw];rfl,trivial⟩ (by omega) (by omega) (fun _ _ h=>h)
 ·repeat' (first|refine JU ?_|refine JG a5 JA ?_)
  exact JN JB
theorem Dd (l:List Int) (h:kx l):bJ Tryz.prog 177 [.imm 1 (aW l)] (.imm 1 (aW l)):=by
 refine aN Tryz.func177 rfl Tryz.ntmps177 rfl fun B=>?_
 haveI:=AD.mk (tU l h)
 repeat' (first|refine JU ?_|refine JG a5 JA ?_|(apply bw;refine bn ?_)|refine bD rfl ?_)
 exact JN JB
def tM (k:Int) (t:List Int):Value→Option AV
 | .int .i64 z=>if t.contains z=true then some (aF (k+(t.idxOf z:Nat))) else none
 | _=>none
theorem Dl (k:Int):tM k []=fun _=>none:=by
 funext v
 unfold tM
 split <;> rfl
theorem tZ {k:Int} {t:List Int} {z:Int} (h:z∈t):tM k t (.int .i64 z)=some (aF (k+(t.idxOf z:Nat))):=if_pos (List.contains_iff_mem.2 h)
theorem yw {k:Int} {t:List Int} {z:Int} (h:z∉t):tM k t (.int .i64 z)=none:=if_neg fun e=>h (List.contains_iff_mem.1 e)
theorem Dm {k:Int} {t:List Int} {z:Int} (h:z∉t):tM k (ec t z) (.int .i64 z)=some (aF (k+(t.length:Nat))):=by rw [tZ (lu t z),nA h]
theorem yu {k:Int} {t:List Int} {z:Int} (h:z∉t):∀q,q≠ .int .i64 z→tM k (ec t z) q=tM k t q:=by
 intro q hq
 unfold tM
 split
 ·rename_i y
  have hne:y≠z:=fun e=>hq (by rw [e])
  have hm:(ec t z).contains y=t.contains y:=by
   rw [gu h,Bool.eq_iff_iff,List.contains_iff_mem,List.contains_iff_mem]
   simp [hne]
  rw [hm]
  split
  ·rename_i hc
   rw [rp z (List.contains_iff_mem.1 hc)]
  ·rfl
 ·rfl
theorem Fi (k:Int) (t:List Int):∀v,(tM k t v).isSome=true↔v∈t.map (Value.int .i64):=by
 intro v
 unfold tM
 split
 ·rename_i z
  rw [List.mem_map]
  split
  ·rename_i hc
   exact ⟨fun _=>⟨z,List.contains_iff_mem.1 hc,rfl⟩,fun _=>rfl⟩
  ·rename_i hc
   refine ⟨fun h=>(by cases h),fun ⟨y,hy,he⟩=>?_⟩
   cases he
   exact absurd (List.contains_iff_mem.2 hy) hc
 ·rename_i hv
  refine ⟨fun h=>(by cases h),fun h=>?_⟩
  obtain ⟨y,_,rfl⟩:=List.mem_map.1 h
  exact absurd rfl (hv y)
theorem wK {t:List Int} (h:t.Nodup):(t.map (Value.int .i64)).Pairwise (·≠ ·):=List.pairwise_map.2 (h.imp fun hne e=>hne (by cases e;rfl))
def dB (l:List Int):List AV:=l.map fun z=>aF z
theorem ix (l:List Int):(dB l).length=l.length:=by simp [dB]
theorem pV {l:List Int} {i:Nat} {z:Int} (h:l[i]?=some z):(dB l)[0+((i:Nat):Int).toNat * 1]?=some (aF z):=by simp [dB,h]
theorem iy {l:List Int} {i:Nat} {z:Int}:fj (dB l) (0+((i:Nat):Int).toNat * 1) [aF z]=dB (l.set i z):=by
 rw [iP]
 unfold dB
 rw [List.map_set]
 simp
theorem oI (n:Nat):(List.replicate n [aF 0]).flatten=dB (List.replicate n 0):=by
 induction n with
 | zero=>rfl
 | succ n ih=>rw [List.replicate_succ,List.flatten_cons,ih,List.replicate_succ];rfl
theorem oH (l:List Int):dB l=(aW l).flatten:=by
 induction l with
 | nil=>rfl
 | cons z l ih=>simp [dB,aW] at ih ⊢;exact ih
theorem mO {mb cb:Nat} {M:AB} {c c':List AV} (h:c=c'):[(mb,M),(cb,AB.box c 3)]=[(mb,M),(cb,.box c' 3)]:=by rw [h]
theorem ED {l:List Int} {g:Int} {z:Int} (h:l[g.toNat]?=some z):l.getD g.toNat 0=z:=by rw [List.getD_eq_getElem?_getD,h];rfl
theorem Aw {l:List Int} {k:Nat} {z:Int} (h:l[k]?=some z):(gx (l.take k)++l.drop k).set k ((ec (iW (l.take k)) z).idxOf z:Nat)=gx (l.take (k+1))++l.drop (k+1):=by
 have hk:=(Jq h).1
 rw [List.set_append,if_neg (by rw [gL,List.length_take];omega),gL,List.length_take,Nat.min_eq_left (by omega),Nat.sub_self,List.drop_eq_getElem_cons hk,List.set_cons_zero,List.take_add_one,h]
 dsimp only [Option.toList]
 rw [xt,List.append_assoc]
 rfl
theorem Fl {l:List Int} {k:Nat} {z:Int} (h:l[k]?=some z):(gx (l.take k)++l.drop k)[k]?=some z:=by
 have hk:=(Jq h).1
 rw [List.getElem?_append_right (by rw [gL,List.length_take];omega),gL,List.length_take,Nat.min_eq_left (by omega),Nat.sub_self,List.getElem?_drop]
 exact h
theorem Ao {l:List Int} {k:Nat} {z:Int} (h:l[k]?=some z):iW (l.take (k+1))=ec (iW (l.take k)) z:=by
 rw [List.take_add_one,h]
 exact jK _ _
set_option maxHeartbeats 8000000 in
theorem rJ (n:Nat) (h0:0 < n) (hn:n≤65536) (sets:List (List Int)) (hs:∀s∈sets,kx s∧∀g∈s,0≤g∧g < (n:Int)) (hsl:sets.length≤1000000):bJ Tryz.prog 98 [aF n,.imm 1 (b6 sets)] (.imm 1 (aW (dU n sets))):=by
 refine aN Tryz.func98 rfl Tryz.ntmps98 rfl fun B=>?_
 have hrl:=c6 sets
 repeat' (first|refine JU ?_|refine JG a5 JA ?_)
 refine bX [0,1] False rfl (fun Q' K=>?_) (fun hC=>hC.elim) (fun _=>?_)
 ·repeat' (first|refine JU ?_|refine JG a5 JA ?_|refine JO JA ?_|refine JP JC ?_|refine JS JB (fun _=>?_) (fun _=>?_))
  all_goals exact K _ _ rfl rfl (by simp_all <;> omega)
 repeat' (first|refine JU ?_|refine JG a5 JA ?_)
 refine li a5 n rfl rfl rfl rfl rfl rfl rfl (by omega) (by omega) rfl fun cb=>?_
 rw [show (List.replicate n (List.map AV.sc [Value.int .i64 0])).flatten=dB (List.replicate n 0) from oI n]
 repeat' (first|refine JU ?_|refine am ?_|refine JG a5 JA ?_)
 refine aP [0,5,28,29] (α:=Nat×List Int×Int) (fun s=>[(30,aF s.1),(6,aF s.2.2)]) (fun s=>s.1≤sets.length∧(sets.drop s.1).foldl kl (s.2.1,s.2.2)=ni n sets∧s.2.1.length=n∧0≤s.2.2∧s.2.2≤1+s.1 * 65536) (fun s=>[(cb,.box (dB s.2.1) 3)]) (fun s=>sets.length - s.1) (0,List.replicate n 0,1) rfl ⟨rfl,rfl,trivial⟩ ⟨Nat.zero_le _,rfl,by simp,by dsimp only;omega,by dsimp only;omega⟩ (fun _ _ h=>h) ?_
 ·rintro ⟨k,cls,k0⟩ ⟨hk,hf,hcl,hk0,hk1⟩
  dsimp only at hk hf hcl hk0 hk1 ⊢
  try dsimp only [Jt,Js,Jr,Kz]
  repeat' (first|refine JU ?_|refine JG a5 JA ?_)
  refine ar rfl (fun h1=>?_) (fun h1=>?_)
  ·have hk2:k < sets.length:=by have:=Jz h1;omega
   obtain ⟨s,hsk⟩:∃z,sets[k]?=some z:=⟨_,Hb hk2⟩
   have hsg:=eR hsk
   obtain ⟨hri,hdm⟩:=hs s (Jx hsk)
   have hsn:s.length≤n:=fE (gW hri) hdm
   have hil:=aZ s
   haveI:=AD.mk (Dd s hri)
   rw [List.drop_eq_getElem_cons hk2,(Jq hsk).2,List.foldl_cons] at hf
   clear h1
   repeat' (first|refine JU ?_|refine am ?_|refine JG a5 JA ?_|(apply aL;first|refine aK a5 ?_|refine aG a5 ?_)|fail)
   refine fW KJ fun mb=>?_
   rw [←Dl k0]
   repeat' (first|refine JU ?_|refine am ?_|refine JG a5 JA ?_|(apply bw;refine bn ?_)|fail)
   refine aP [0,5,9,28,29,30,36,37] (α:=Nat×List Int×List Int) (fun t=>[(38,aF t.1),(6,aF (k0+(t.2.2.length:Nat)))]) (fun t=>t.1≤s.length∧(s.drop t.1).foldl (iI k0) (t.2.1,t.2.2)=s.foldl (iI k0) (cls,[])∧t.2.1.length=n∧t.2.2.length≤t.1) (fun t=>[(mb,cX KJ (tM k0 t.2.2)),(cb,.box (dB t.2.1) 3)]) (fun t=>s.length - t.1) (0,cls,[]) rfl ⟨rfl,by simp;rfl,trivial⟩ ⟨Nat.zero_le _,rfl,hcl,Nat.le_refl _⟩ (fun _ _ h=>h) ?_
   rintro ⟨j,cl1,ap⟩ ⟨hj,hjf,hjl,hja⟩
   dsimp only at hj hjf hjl hja ⊢
   try dsimp only [Jt,Js,Jr,Kz]
   repeat' (first|refine JU ?_|refine JG a5 JA ?_)
   refine ar rfl (fun h1=>?_) (fun h1=>?_)
   ·have hj2:j < s.length:=by have:=Jz h1;omega
    obtain ⟨g,hg⟩:∃z,s[j]?=some z:=⟨_,Hb hj2⟩
    have hgg:=bO hg
    obtain ⟨hg0,hgn⟩:=hdm g (Jx hg)
    obtain ⟨z,hz⟩:∃z,cl1[g.toNat]?=some z:=⟨_,Hb (by omega)⟩
    have hgt:((g.toNat:Nat):Int)=g:=Int.toNat_of_nonneg hg0
    have hzc:=pV hz
    rw [hgt] at hzc
    have hcc:=ix cl1
    have hput:∀y,fj (dB cl1) (0+g.toNat * 1) [aF y]=dB (cl1.set g.toNat y):=fun y=>by
     have:=iy (l:=cl1) (i:=g.toNat) (z:=y)
     rwa [hgt] at this
    rw [List.drop_eq_getElem_cons hj2,(Jq hg).2,List.foldl_cons] at hjf
    have hmk:iI k0 (cl1,ap) g=(cl1.set g.toNat (k0+((ec ap z).idxOf z:Nat)),ec ap z):=by
     unfold iI
     rw [ED hz]
    rw [hmk] at hjf
    have hal:=rq ap z
    clear h1
    repeat' (first|refine JU ?_|refine am ?_|refine JG a5 JA ?_|(apply aL;first|refine aK a5 ?_|refine aG a5 ?_)|fail)
    refine bX [0,5,6,9,11,28,29,30,36,37,38] False rfl (fun Q' K=>?_) (fun hC=>hC.elim) (fun _=>?_)
    ·repeat' (first|refine JU ?_|refine JG a5 JA ?_|refine JO JA ?_|refine JP JC ?_|refine JS JB (fun _=>?_) (fun _=>?_))
     all_goals exact K _ _ rfl rfl (by simp_all <;> omega)
    repeat' (first|refine JU ?_|refine JG a5 JA ?_|(apply bF;first|refine JJ a5 0 JD ?_|refine JJ a5 1 JD ?_|refine JJ a5 2 JD ?_|refine JJ a5 3 JD ?_|refine JK a5 0 JD ?_|refine JK a5 1 JD ?_|refine JK a5 2 JD ?_|refine JL a5 1 JB (by assumption) rfl ?_|refine JL a5 0 JB (by assumption) rfl ?_|fail)|(apply aL;first|refine aK a5 ?_|refine aG a5 ?_)|fail)
    refine it 0 (.int .i64 0) Tryz.underlying257 Tryz.underlying3 rfl rfl rfl rfl (by kernel_rfl) rfl ?_
    by_cases hm:z∈ap
    ·have hgs:=tZ (k:=k0) hm
     have hta:=fH hm
     rw [hta] at hjf
     rw [hgs]
     repeat' (first|refine JU ?_|refine JG a5 JA ?_|refine bC rfl ?_)
     refine nc 0 (.int .i64 0) Tryz.underlying257 Tryz.underlying3 rfl rfl rfl rfl (by kernel_rfl) rfl ?_
     rw [hgs]
     repeat' (first|(apply aL;first|refine aK a5 ?_|refine aG a5 ?_)|fail)
     refine aa a5 1 rfl rfl rfl rfl rfl rfl (Nat.ble_eq_true_of_le (by rw [hcc];simp;omega)) ?_
     refine aJ (aR (L':=[(mb,cX KJ (tM k0 ap)),(cb,.box (dB (cl1.set g.toNat (k0+(ap.idxOf z:Nat)))) 3)]) (List.Perm.of_eq (mO (hput _)))) ?_
     repeat' (first|refine JU ?_|refine JG a5 JA ?_|(apply aS;refine aQ ?_)|fail)
     exact aC (j+1,_,ap) rfl ⟨by rw [Jw];rfl,rfl,trivial⟩ ⟨hj2,hjf,by rw [List.length_set];exact hjl,by dsimp only;omega⟩ (by dsimp only;omega) (fun _ _ h=>h)
    ·have hgn2:=yw (k:=k0) hm
     have hgp:=Dm (k:=k0) hm
     have hnew:=nA hm
     have hnl:(ec ap z).length=ap.length+1:=by rw [gu hm,List.length_append,List.length_singleton]
     rw [hgn2]
     repeat' (first|refine JU ?_|refine JG a5 JA ?_|refine bD rfl ?_)
     refine eo 0 (tM k0 (ec ap z)) Tryz.underlying257 Tryz.underlying3 rfl rfl rfl rfl rfl hgp (yu hm) ?_
     repeat' (first|refine JU ?_|refine JG a5 JA ?_|(apply aS;refine aQ ?_)|fail)
     refine nc 0 (.int .i64 0) Tryz.underlying257 Tryz.underlying3 rfl rfl rfl rfl (by kernel_rfl) rfl ?_
     rw [hgp]
     repeat' (first|(apply aL;first|refine aK a5 ?_|refine aG a5 ?_)|fail)
     refine aa a5 1 rfl rfl rfl rfl rfl rfl (Nat.ble_eq_true_of_le (by rw [hcc];simp;omega)) ?_
     refine aJ (aR (L':=[(mb,cX KJ (tM k0 (ec ap z))),(cb,.box (dB (cl1.set g.toNat (k0+(ap.length:Nat)))) 3)]) (List.Perm.of_eq (mO (hput _)))) ?_
     repeat' (first|refine JU ?_|refine JG a5 JA ?_|(apply aS;refine aQ ?_)|fail)
     rw [hnew] at hjf
     refine aC (j+1,_,ec ap z) rfl ⟨by rw [Jw];rfl,?_,trivial⟩ ⟨hj2,hjf,by rw [List.length_set];exact hjl,by dsimp only;omega⟩ (by dsimp only;omega) (fun _ _ h=>h)
     show some (AV.sc (.int .i64 (k0+(ap.length:Nat)+1)))=some (aF (k0+((ec ap z).length:Nat)))
     rw [hnl,Jw,Int.add_assoc]
     rfl
   ·have hj2:j=s.length:=by have:=Jy h1;omega
    subst hj2
    rw [List.drop_length] at hjf
    have hjf2:(cl1,ap)=s.foldl (iI k0) (cls,[]):=hjf
    have hps:kl (cls,k0) s=(cl1,k0+(ap.length:Nat)):=by
     unfold kl
     dsimp only
     rw [←hjf2]
    rw [hps] at hf
    clear h1
    repeat' (first|refine JU ?_|refine JG a5 JA ?_|(apply aS;refine aQ ?_)|fail)
    exact aC (k+1,cl1,k0+(ap.length:Nat)) rfl ⟨by rw [Jw];rfl,rfl,trivial⟩ ⟨hk2,hf,hjl,by dsimp only;omega,by dsimp only;omega⟩ (by dsimp only;omega) (fun _ _ h=>h.sublist (List.sublist_cons_self ..))
  ·have hk2:k=sets.length:=by have:=Jy h1;omega
   subst hk2
   rw [List.drop_length] at hf
   have hf2:(cls,k0)=ni n sets:=hf
   have hpv:dU n sets=gx cls:=by unfold dU;rw [←hf2]
   rw [hpv]
   clear h1
   repeat' (first|refine JU ?_|fail)
   refine fW KJ fun tb=>?_
   rw [←Dl 0]
   repeat' (first|refine JU ?_|refine am ?_|refine JG a5 JA ?_)
   refine aP [5,15,75,76] (α:=Nat) (fun i=>[(77,aF i)]) (fun i=>i≤cls.length) (fun i=>[(tb,cX KJ (tM 0 (iW (cls.take i)))),(cb,.box (dB (gx (cls.take i)++cls.drop i)) 3)]) (fun i=>cls.length - i) 0 rfl ⟨rfl,trivial⟩ (Nat.zero_le _) (fun _ _ h=>h) fun i hi=>?_
   try dsimp only [Jt,Js,Jr,Kz]
   repeat' (first|refine JU ?_|refine JG a5 JA ?_)
   refine ar rfl (fun h1=>?_) (fun h1=>?_)
   ·have hi2:i < cls.length:=by have:=Jz h1;omega
    obtain ⟨z,hz⟩:∃z,cls[i]?=some z:=⟨_,Hb hi2⟩
    have hzc:=pV (Fl hz)
    have hcc:=ix (gx (cls.take i)++cls.drop i)
    have hcl2:(gx (cls.take i)++cls.drop i).length=cls.length:=by rw [List.length_append,gL,List.length_take,List.length_drop];omega
    have htc:=Aw hz
    have htt:=Ao hz
    have hnd:=xn (cls.take i)
    clear h1
    repeat' (first|refine JU ?_|refine am ?_|refine JG a5 JA ?_|(apply bF;first|refine JJ a5 0 JD ?_|refine JJ a5 1 JD ?_|refine JJ a5 2 JD ?_|refine JJ a5 3 JD ?_|refine JK a5 0 JD ?_|refine JK a5 1 JD ?_|refine JK a5 2 JD ?_|refine JL a5 1 JB (by assumption) rfl ?_|refine JL a5 0 JB (by assumption) rfl ?_|fail)|(apply aL;first|refine aK a5 ?_|refine aG a5 ?_)|fail)
    refine it 0 (.int .i64 0) Tryz.underlying257 Tryz.underlying3 rfl rfl rfl rfl (by kernel_rfl) rfl ?_
    by_cases hm:z∈iW (cls.take i)
    ·have hgs:=tZ (k:=0) hm
     have hta:=fH hm
     rw [hta] at htc htt
     rw [hgs]
     repeat' (first|refine JU ?_|refine JG a5 JA ?_|refine bC rfl ?_)
     refine nc 0 (.int .i64 0) Tryz.underlying257 Tryz.underlying3 rfl rfl rfl rfl (by kernel_rfl) rfl ?_
     rw [hgs]
     repeat' (first|(apply aL;first|refine aK a5 ?_|refine aG a5 ?_)|fail)
     refine aa a5 1 rfl rfl rfl rfl rfl rfl (Nat.ble_eq_true_of_le (by rw [hcc,hcl2,Int.toNat_natCast];show 0+i * 1+1≤_;omega)) ?_
     refine aJ (aR (L':=[(tb,cX KJ (tM 0 (iW (cls.take i)))),(cb,.box (dB (gx (cls.take (i+1))++cls.drop (i+1))) 3)]) (List.Perm.of_eq (mO (by rw [←htc,←iy,Int.zero_add])))) ?_
     repeat' (first|refine JU ?_|refine JG a5 JA ?_|(apply aS;refine aQ ?_)|fail)
     exact aC (i+1) rfl ⟨by rw [Jw];rfl,trivial⟩ (by omega) (by omega) (fun _ _ h=>by rw [htt];exact h)
    ·have hgn2:=yw (k:=0) hm
     have hgp:=Dm (k:=0) hm
     have hnew:=nA hm
     rw [hgn2]
     repeat' (first|refine JU ?_|refine JG a5 JA ?_|refine bD rfl ?_)
     refine CJ 0 _ Tryz.underlying257 rfl rfl (wK hnd) (Fi 0 _) rfl ?_
     rw [Jv]
     rw [Int.zero_add] at hgp
     repeat' (first|fail)
     refine eo 0 (tM 0 (ec (iW (cls.take i)) z)) Tryz.underlying257 Tryz.underlying3 rfl rfl rfl rfl rfl hgp (yu hm) ?_
     repeat' (first|refine JU ?_|refine JG a5 JA ?_)
     refine nc 0 (.int .i64 0) Tryz.underlying257 Tryz.underlying3 rfl rfl rfl rfl (by kernel_rfl) rfl ?_
     rw [hgp]
     repeat' (first|(apply aL;first|refine aK a5 ?_|refine aG a5 ?_)|fail)
     refine aa a5 1 rfl rfl rfl rfl rfl rfl (Nat.ble_eq_true_of_le (by rw [hcc,hcl2,Int.toNat_natCast];show 0+i * 1+1≤_;omega)) ?_
     refine aJ (aR (L':=[(tb,cX KJ (tM 0 (ec (iW (cls.take i)) z))),(cb,.box (dB (gx (cls.take (i+1))++cls.drop (i+1))) 3)]) (List.Perm.of_eq (mO (by rw [←htc,←iy,hnew])))) ?_
     repeat' (first|refine JU ?_|refine JG a5 JA ?_|(apply aS;refine aQ ?_)|fail)
     exact aC (i+1) rfl ⟨by rw [Jw];rfl,trivial⟩ (by omega) (by omega) (fun _ _ h=>by rw [htt];exact h)
   ·have hi2:i=cls.length:=by have:=Jy h1;omega
    subst hi2
    rw [List.take_length,List.drop_length,List.append_nil]
    clear h1
    repeat' (first|refine JU ?_|refine JG a5 JA ?_)
    have htl:=gL cls
    have hcc:=ix (gx cls)
    refine bk (lx (t:=4) (sz:=1) (n:=n) (cap:=n) (l:=aW (gx cls)) 1 rfl rfl ?_ (by omega) (fun e he=>?_) (by rw [aZ];omega) (Nat.le_refl _) (by unfold maxLen;omega)) ?_
    ·rw [←oH,Nat.mul_one,List.take_of_length_le (by omega)]
    ·unfold aW at he
     obtain ⟨y,_,rfl⟩:=List.mem_map.1 he
     rfl
    refine dI (List.nil_sublist _) ?_
    exact JN JB
abbrev Pl:=Nat×Nat
section
variable {cls:List Int} {rows:List (List (List Int))} {have_:Nat→Bool} {L:Nat}
theorem t5 (hL:∀r∈rows,r.length≤L) {p:Pl} {c:Nat} (h:(cg cls rows p c).2≠0):(cg cls rows p c).1≤L∧(cg cls rows p c).2 < 2 ^ rows.length∧cg cls rows p c=(p.1+1,p.2 &&& jz cls rows p.1 c):=by
 unfold cg at h ⊢
 split
 ·rename_i h0
  rw [if_pos h0] at h
  exact absurd rfl h
 ·rename_i h0
  refine ⟨?_,Nat.lt_of_le_of_lt Nat.and_le_right (mN _ _),rfl⟩
  have hn:jz cls rows p.1 c≠0:=fun e=>h0 (by rw [e,Nat.and_zero])
  have:¬∀i,i < rows.length→lW cls rows p.1 c i=false:=fun hh=>hn (pR.2 hh)
  apply Classical.byContradiction
  intro hlt
  refine this fun i hi=>?_
  unfold lW
  rw [Hb hi]
  dsimp only
  rw [List.getElem?_eq_none (by have:=hL _ (List.getElem_mem hi);dsimp only at hlt;omega)]
structure jo (rows:List (List (List Int))) (have_:Nat→Bool) (L:Nat) (M:List Pl):Prop where
 first:M[0]?=some (mi rows have_)
 nodup:M.Nodup
 small:∀p∈M,p.1≤L∧p.2 < 2 ^ rows.length
theorem jo.start:jo rows have_ L [mi rows have_]:=⟨rfl,by simp,fun p hp=>by
 rw [List.mem_singleton] at hp
 subst hp
 exact ⟨Nat.zero_le _,mN _ _⟩⟩
theorem jo.meet {M:List Pl} (h:jo rows have_ L M) (hL:∀r∈rows,r.length≤L) {p:Pl} {c:Nat} (hne:(cg cls rows p c).2≠0):jo rows have_ L (ec M (cg cls rows p c)):=by
 refine ⟨nz _ h.first,mA _ h.nodup,fun q hq=>?_⟩
 by_cases hm:cg cls rows p c∈M
 ·rw [fH hm] at hq;exact h.small q hq
 ·rw [gu hm,List.mem_append,List.mem_singleton] at hq
  rcases hq with hq | rfl
  ·exact h.small q hq
  ·have:=t5 hL hne
   exact ⟨this.1,this.2.1⟩
theorem jo.few {M:List Pl} (h:jo rows have_ L M):M.length≤(L+1) * 2 ^ rows.length:=by
 have hk:0 < 2 ^ rows.length:=Nat.pow_pos (by omega)
 have hs:=h.small
 generalize 2 ^ rows.length=K at hk hs
 have h1:(M.map fun p:Pl=>((p.1 * K+p.2:Nat):Int)).Nodup:=by
  refine List.pairwise_map.2 (h.nodup.imp_of_mem fun {a b} ha hb hab=>fun e=>hab ?_)
  have e':a.1 * K+a.2=b.1 * K+b.2:=by omega
  have ha2:=(hs a ha).2
  have hb2:=(hs b hb).2
  have e1:a.1=b.1:=by
   have h3:(a.1 * K+a.2) / K=a.1:=by rw [Nat.mul_comm,Nat.mul_add_div hk,Nat.div_eq_of_lt ha2,Nat.add_zero]
   have h4:(b.1 * K+b.2) / K=b.1:=by rw [Nat.mul_comm,Nat.mul_add_div hk,Nat.div_eq_of_lt hb2,Nat.add_zero]
   rw [←h3,←h4,e']
  exact Prod.ext e1 (by rw [e1] at e';omega)
 have h2:=fE (n:=(L+1) * K) h1 fun z hz=>by
  obtain ⟨p,hp,rfl⟩:=List.mem_map.1 hz
  obtain ⟨a1,a2⟩:=hs p hp
  have:p.1 * K+p.2 < (L+1) * K:=by
   have:p.1 * K≤L * K:=Nat.mul_le_mul_right _ a1
   rw [Nat.add_mul,Nat.one_mul]
   omega
  exact ⟨by omega,by omega⟩
 rwa [Jv] at h2
def ja (cls:List Int) (rows:List (List (List Int))) (M:List Pl) (p:Pl) (c:Nat) (z:Int):Prop:=
 ((cg cls rows p c).2=0∧z= -1)∨((cg cls rows p c).2≠0∧0≤z∧M[z.toNat]?=some (cg cls rows p c))
theorem ja.more {M:List Pl} {p q:Pl} {c:Nat} {z:Int} (h:ja cls rows M p c z):ja cls rows (ec M q) p c z:=by
 rcases h with h | ⟨h1,h2,h3⟩
 ·exact Or.inl h
 ·exact Or.inr ⟨h1,h2,nz _ h3⟩
theorem ja.new {M:List Pl} {p:Pl} {c:Nat} (h:(cg cls rows p c).2≠0):ja cls rows (ec M (cg cls rows p c)) p c ((ec M (cg cls rows p c)).idxOf (cg cls rows p c):Nat):=
 Or.inr ⟨h,by omega,by rw [Int.toNat_natCast];exact Fh⟩
structure gD (cls:List Int) (rows:List (List (List Int))) (C:Nat) (M:List Pl) (tab:List (List Int)) (ends:List Nat):Prop where
 len:ends.length=tab.length
 ends:∀(i:Nat) p,i < tab.length→M[i]?=some p→ends[i]?=some (js rows p)
 tab:∀(i:Nat) p q,M[i]?=some p→tab[i]?=some q→q.length=C∧∀(c:Nat) z,q[c]?=some z→ja cls rows M p c z
theorem gD.nil {C:Nat} {M:List Pl}:gD cls rows C M [] []:=⟨rfl,fun i p h=>by simp at h,fun i p q _ h=>by simp at h⟩
theorem gD.more {C:Nat} {M:List Pl} {tab:List (List Int)} {ends:List Nat} (h:gD cls rows C M tab ends) (hl:tab.length≤M.length) (q:Pl):gD cls rows C (ec M q) tab ends:=by
 have hb:∀(i:Nat) p,i < tab.length→(ec M q)[i]?=some p→M[i]?=some p:=fun i p hi hp=>by
  obtain ⟨x,hx⟩:∃x,M[i]?=some x:=⟨_,Hb (by omega)⟩
  have:=nz q hx
  rw [hp] at this
  cases this
  exact hx
 refine ⟨h.len,fun i p hi hp=>h.ends i p hi (hb i p hi hp),fun i p r hp hr=>?_⟩
 obtain ⟨h1,h2⟩:=h.tab i p r (hb i p (Jq hr).1 hp) hr
 exact ⟨h1,fun c z hz=>(h2 c z hz).more⟩
theorem gD.snoc {C:Nat} {M:List Pl} {tab:List (List Int)} {ends:List Nat} (h:gD cls rows C M tab ends) {p:Pl} {eQ:List Int} (hp:M[tab.length]?=some p) (hr:eQ.length=C) (hc:∀(c:Nat) z,eQ[c]?=some z→ja cls rows M p c z):gD cls rows C M (tab++[eQ]) (ends++[js rows p]):=by
 refine ⟨by simp [h.len],fun i q hi hq=>?_,fun i q r hq hr'=>?_⟩
 ·rw [List.length_append,List.length_singleton] at hi
  by_cases hit:i < tab.length
  ·rw [List.getElem?_append_left (by rw [h.len];exact hit)]
   exact h.ends i q hit hq
  ·have e:i=tab.length:=by omega
   subst e
   rw [hp] at hq
   cases hq
   rw [List.getElem?_append_right (by rw [h.len];exact Nat.le_refl _),h.len,Nat.sub_self]
   rfl
 ·by_cases hit:i < tab.length
  ·rw [List.getElem?_append_left hit] at hr'
   exact h.tab i q r hq hr'
  ·rw [List.getElem?_append_right (by omega)] at hr'
   have hi0:i - tab.length=0:=by
    have:=(Jq hr').1
    simp at this
    omega
   have e:i=tab.length:=by omega
   subst e
   rw [Nat.sub_self] at hr'
   simp at hr'
   subst hr'
   rw [hp] at hq
   cases hq
   exact ⟨hr,hc⟩
theorem gD.done {C:Nat} {M:List Pl} {tab:List (List Int)} {ends:List Nat} (h:gD cls rows C M tab ends) (hs:jo rows have_ L M) (hl:tab.length=M.length):rP cls rows have_ C tab ends:=
 ⟨M,hs.first,hl.symm,by rw [h.len,hl],fun i p hp=>h.ends i p (by rw [hl];exact (Jq hp).1) hp,fun i p q hp hq=>h.tab i p q hp hq⟩
end
end Go.Proofs.YtpmdfoaadejmkaaGreatDoor
namespace Go.Proofs.YtpmdfoaadejmkaaGreatDoor
open Go.RowKit
section
variable {P:Program} {fr:c8} {B:Bs} {L:AL} {d:Option Tmp} {ty t t':TypeId} {pos:String} {af:Array Edge} {g:Option (Nat×Bool)} {x y z:Operand} {u:AV}
theorem Gr {dd:Option Tmp} {k kk:IntKind} {a b:Int} (i:Nat) (hx:bo fr x=some (.sc (.int k a))) (hy:bo fr y=some (.sc (.int kk b))) (hb:b=(i:Int)):Av P ⟨dd,.binOp .shl t x y t',ty,pos,af,g⟩ fr (.sc (.int k (k.wrap (a * 2 ^ min i k.bits)))):=by
 intro σ ρ w hρ _
 subst hb
 refine ⟨_,?_,.sc _⟩
 have h:=shift_shl_any k kk a (i:Int) (Int.natCast_nonneg i)
 simp [execOp,(hρ x _ hx).sc_inv,(hρ y _ hy).sc_inv,eqGuard,binOp,h]
theorem AW {dd:Option Tmp} {n e sz b:Nat} (ha:P.underlying t=some (.array n e)) (hs:(P.info? e).map (·.size)=some sz) (hx:bo fr x=some (.sc (.pointer (some ⟨b,0,none⟩)))):Av P ⟨dd,.slice t x none none none,ty,pos,af,g⟩ fr (.sc (.slice (some ⟨b,0,none⟩) n n)):=by
 intro σ ρ w hρ _
 refine ⟨_,?_,.sc _⟩
 obtain ⟨i,hi,hi2⟩:∃i,P.info? e=some i∧i.size=sz:=by
  cases hi:P.info? e with
  | none=>rw [hi] at hs;cases hs
  | some i=>rw [hi] at hs;exact ⟨i,rfl,by simpa using hs⟩
 simp [execOp,(hρ x _ hx).sc_inv,Instr.sliceAt,Instr.sliceBounds,Instr.sureAddr,run_underlying ha,sizeOf,typeInfo,hi,dy]
theorem yM (i:Nat) {dd:Option Tmp} {e sz by_ b n cap:Nat} {e':TypeId} (ns:List Int) (hs:kG P t e sz by_) (he:AE P e .u8) (hd:AF P t') (hx:bo fr x=some (.sc (.slice (some ⟨b,0,none⟩) n cap))) (hL:L[i]?=some (b,.box (ns.map fun z=> .sc (.int .u8 z)) e')) (hn:ns.length=n):
  AO P ⟨dd,.convert t t' x,ty,pos,af,g⟩ fr B L (fun c L'=>c= .sc (.string (ns.foldl (fun r n=>r.push (UInt8.ofNat n.toNat)) ByteArray.empty))∧L'=L):=by
 intro σ ρ w hρ hw
 obtain ⟨o,ho,vs,rfl,hvs,h1⟩:=hw.here _ (Jx hL)
 have hvs':vs=ns.map (Value.int .u8):=by
  have hl:=hvs.1
  rw [Jv] at hl
  apply List.ext_getElem?
  intro j
  by_cases hj:j < ns.length
  ·obtain ⟨z,hz⟩:∃z,ns[j]?=some z:=⟨_,Hb hj⟩
   obtain ⟨v,hv⟩:∃v,vs[j]?=some v:=⟨_,Hb (by omega)⟩
   have:=hvs.2 j _ v (by rw [List.getElem?_map,hz];rfl) hv
   rw [hv,List.getElem?_map,hz,this.sc_inv]
   rfl
  ·rw [List.getElem?_eq_none (by omega),List.getElem?_eq_none (by rw [Jv];omega)]
 have hload:(loadCells ⟨b,0,none⟩ n).run P w= .ok (ns.map (Value.int .u8)).toArray w:=by
  have:=run_loadCells_list (P:=P) w ⟨b,0,none⟩ vs fun j v hj=>by
   rw [dy,Nat.zero_add,cT ho]
   simpa using hj
  rw [←hvs.1,Jv,hn] at this
  rw [this,hvs']
 have hr:=run_bytesToString (P:=P) w ⟨b,0,none⟩ n cap ns hload
 haveI:=hs
 unfold ia
 rw [show (execOp ρ ⟨dd,.convert t t' x,ty,pos,af,g⟩).run P w= .ok (.value (.string (ns.foldl (fun r n=>r.push (UInt8.ofNat n.toNat)) ByteArray.empty))) w by
  simp [execOp,(hρ x _ hx).sc_inv,run_convert_bytes_string w t t' e _ _ _ hs.under he.under hd.under,hr]]
 exact ⟨σ,.sc _,_,cr.le_refl _,.sc _,hw,rfl,rfl⟩
end
section
variable {P:Program} {tt:TT} {r:Option Nat} {ops:Array Oper} {Q:Exit→Act→World→Prop} {nt:Nat} {D:List Deferred} {fr:c8} {B:Bs} {L:AL} {rest:List Oper} {d:Nat} {ty t t':TypeId} {pos:String} {af:Array Edge} {x y z:Operand} {u:AV}
theorem CH (ok:er P tt) {n e sz b:Nat} (ha:yR tt t=some (n,e,sz)) (hx:bo fr x=some (.sc (.pointer (some ⟨b,0,none⟩)))) (hd:Nat.ble nt d=false) (h:bK P r ops Q nt D rest ((d,.sc (.slice (some ⟨b,0,none⟩) n n))::fr) B L):bK P r ops Q nt D (⟨some d,.slice t x none none none,ty,pos,af,none⟩::rest) fr B L:=
 cf (AW (ip ok ha).1 (ip ok ha).2 hx) hd rfl h
theorem CF (ok:er P tt) (i:Nat) (ns:List Int) {e sz by_ b n cap:Nat} {e':TypeId} {ti ti':TI} (ht:jJ tt t=some (e,sz,by_)) (he:df tt e=some ti) (hk:ti.k= .int .u8) (ht':df tt t'=some ti') (hk':ti'.k= .str) (hx:bo fr x=some (.sc (.slice (some ⟨b,0,none⟩) n cap))) (hL:L[i]?=some (b,.box (ns.map fun z=> .sc (.int .u8 z)) e')) (hn:ns.length=n) (hd:Nat.ble nt d=false) (h:bK P r ops Q nt D rest ((d,.sc (.string (ns.foldl (fun r n=>r.push (UInt8.ofNat n.toNat)) ByteArray.empty)))::fr) B L):bK P r ops Q nt D (⟨some d,.convert t t' x,ty,pos,af,none⟩::rest) fr B L:=
 cP hd rfl (yM i ns (bv ok ht).1 (ok.int he hk) (ok.str ht' hk') hx hL hn) fun c L' ⟨h1,h2⟩=>by subst h1;subst h2;exact h
end
section
variable {P:Program} {tt:TT} {l:List Oper} {fr:c8} {fin:jO} {sk:mE} {acc:c8} {L:AL} {k:Nat} {dd:Option Tmp} {ty t t':TypeId} {pos:String} {af:Array Edge} {g:Option (Nat×Bool)} {x y:Operand} {u:AV}
theorem wp (i:Nat) {q q':IntKind} {a b:Int} (hx:bo (cC l.toArray acc fr af.toList) x=some (.sc (.int q a))) (hy:bo (cC l.toArray acc fr af.toList) y=some (.sc (.int q' b))) (hb:b=(i:Int)) (hg:iV ⟨dd,.binOp .shl t x y t',ty,pos,af,g⟩ acc) (h:DA P l fr fin sk ((k,.sc (.int q (q.wrap (a * 2 ^ min i q.bits))))::acc) L):cK P l fr fin k .v ⟨dd,.binOp .shl t x y t',ty,pos,af,g⟩ sk acc L:=fa hg (zP (Gr i hx hy hb)) h
theorem E8 {q:IntKind} {a b:Int} (hx:bo (cC l.toArray acc fr af.toList) x=some (.sc (.int q a))) (hy:bo (cC l.toArray acc fr af.toList) y=some (.sc (.int q b))) (hg:iV ⟨dd,.binOp .or t x y t',ty,pos,af,g⟩ acc) (h:DA P l fr fin sk ((k,.sc (.int q (bits .or q a b)))::acc) L):cK P l fr fin k .v ⟨dd,.binOp .or t x y t',ty,pos,af,g⟩ sk acc L:=fa hg (zP (xC hx hy)) h
end
end Go.Proofs.YtpmdfoaadejmkaaGreatDoor
namespace Go.Proofs.YtpmdfoaadejmkaaGreatDoor
open Go.RowKit
def jP (P:Program) (u:AV) (args:List AV) (L:AL) (Post:AV→AL→Prop):Prop:=(∃f caps,bM P f∧kH u=some (f,caps)∧AC P f (args++caps) L Post)∨∃f fs caps,bM P f∧u= .fnB f fs caps∧AC P f (fs++(args++caps)) L Post
theorem jP.fn {P:Program} {f:FuncId} {caps args:List AV} {L:AL} {Post:AV→AL→Prop} [h:bM P f] (k:AC P f (args++caps) L Post):jP P (.fn f caps) args L Post:= .inl ⟨f,caps,h,rfl,k⟩
theorem jP.fn0 {P:Program} {f:FuncId} {args:List AV} {L:AL} {Post:AV→AL→Prop} [h:bM P f] (k:AC P f (args++[]) L Post):jP P (.sc (.func (.func f) #[] #[])) args L Post:= .inl ⟨f,[],h,rfl,k⟩
theorem jP.fnB {P:Program} {f:FuncId} {fs caps args:List AV} {L:AL} {Post:AV→AL→Prop} [h:bM P f] (k:AC P f (fs++(args++caps)) L Post):jP P (.fnB f fs caps) args L Post:= .inr ⟨f,fs,caps,h,rfl,k⟩
def J2 (u:AV):Bool:=match u with
 | .fn _ _=>true
 | .fnB _ _ _=>true
 | .sc _=>true
 | _=>false
section
variable {P:Program} {r:Option Nat} {ops:Array Oper} {Q:Exit→Act→World→Prop} {nt:Nat} {D:List Deferred} {fr:c8} {B:Bs} {L:AL} {rest:List Oper} {d:Nat} {ty t:TypeId} {pos:String} {af:Array Edge} {x y z:Operand} {u:AV} {g:Option (Nat×Bool)}
theorem B9 (Lc Lf:AL) {d:Option Tmp} {f:FuncId} {args:Array Operand} {ts:Array TypeId} {cs fs caps:List AV} {Post:AV→AL→Prop} [hf:bM P f] (hx:bo fr x=some (.fnB f fs caps)) (hv:eA fr args.toList=some cs) (hL:L.Perm (Lc++Lf)) (h:AC P f (fs++(cs++caps)) Lc Post):
  AO P ⟨d,.call ⟨.value x,args,ts⟩,ty,pos,af,g⟩ fr B L (fun c L'=>∃L1,Post c L1∧L'=L1++Lf):=by
 intro σ ρ w hρ hw0
 have hw:=hw0.perm hL
 obtain ⟨qs,ws,hw1,hw0',hw2⟩:=(hρ x _ hx).fnB_inv
 have hvs:=f7 hρ _ _ hv
 have e:args.map ρ=(args.toList.map ρ).toArray:=by apply Array.toList_inj.1;simp
 unfold ia
 rw [show (execOp ρ ⟨d,.call ⟨.value x,args,ts⟩,ty,pos,af,g⟩).run P w= .ok (.enter f (qs++(args.toList.map ρ++ws)).toArray) w by
  simp [execOp,resolve,hw1,Deferred.ofValue,invoke,hf.enters]]
 have happ:∀{ps bs:List AV} {us vs:List Value},dh σ ps us→dh σ bs vs→dh σ (ps++bs) (us++vs):=by
  intro ps bs us vs ha hb
  refine ⟨by rw [List.length_append,List.length_append,ha.1,hb.1],fun i c u hc hu=>?_⟩
  have hq:=ha.1
  by_cases hi:i < ps.length
  ·rw [List.getElem?_append_left hi] at hc
   rw [List.getElem?_append_left (by omega)] at hu
   exact ha.2 i c u hc hu
  ·rw [List.getElem?_append_right (by omega)] at hc
   rw [List.getElem?_append_right (by omega),←hq] at hu
   exact hb.2 _ c u hc hu
 have hall:=happ hw0' (happ hvs hw2)
 refine (h σ w _ hall hw.enter).mono fun en w' ⟨v,τ,c,L',h1,h2,h3,h4⟩=>⟨v,h1,τ,c,L'++Lf,h3.grow,h2,hw.leave h3,L',h4,rfl⟩
theorem j8 {args:Array Operand} {ts:Array TypeId} {cs:List AV} {Post:AV→AL→Prop} (Lc Lf:AL) (hc:jP P u cs Lc Post) (hx:bo fr x=some u) (hv:eA fr args.toList=some cs) (hL:L.Perm (Lc++Lf)) (hn:Oper.noDefer ⟨some d,.call ⟨.value x,args,ts⟩,ty,pos,af,none⟩=true) (hd:Nat.ble nt d=false) (h:∀c L1,Post c L1→bK P r ops Q nt D rest ((d,c)::fr) B (L1++Lf)):
  bK P r ops Q nt D (⟨some d,.call ⟨.value x,args,ts⟩,ty,pos,af,none⟩::rest) fr B L:=by
 rcases hc with ⟨f,caps,hf,hu,hc⟩ | ⟨f,fs,caps,hf,rfl,hc⟩
 ·exact cP hd hn (uh Lc Lf hx hu hv hL hc) fun c L' ⟨L1,h1,h2⟩=>by subst h2;exact h c L1 h1
 ·exact cP hd hn (B9 Lc Lf hx hv hL hc) fun c L' ⟨L1,h1,h2⟩=>by subst h2;exact h c L1 h1
end
end Go.Proofs.YtpmdfoaadejmkaaGreatDoor
namespace Go.Proofs.YtpmdfoaadejmkaaGreatDoor
open Go.RowKit
section
variable {P:Program} {tt:TT} {r:Option Nat} {ops:Array Oper} {Q:Exit→Act→World→Prop} {nt:Nat} {D:List Deferred} {fr:c8} {B:Bs} {L:AL} {rest:List Oper} {d:Nat} {ty t t':TypeId} {pos:String} {af:Array Edge} {x y z:Operand} {u:AV} {g:Option (Nat×Bool)}
theorem Bb {dd:Option Tmp} {e sz by_ s:Nat} {l:List (List AV)} (hc:kG P t e sz by_) (hx:bo fr x=some u) (hu:u.im= .imm s l) (hy:bo fr y=some (.sc (.slice none 0 0))):
  AO P ⟨dd,.binOp .eql t x y t',ty,pos,af,g⟩ fr B L (fun c L'=>∃b,c= .sc (.bool b)∧(b=true→l=[])∧L'=L):=by
 intro σ ρ w hρ hw
 have hxv:=(hρ x u hx).im
 rw [hu] at hxv
 have hyv:=(hρ y _ hy).sc_inv
 have key:∀v,VR σ (.imm s l) v→∃A cap,v= .slice A l.length cap∧(l≠[]→∃b off,A=some ⟨b,off,none⟩):=by
  intro v hv
  cases hv with
  | imm sz l A cap h1 h2 h3 ha hx2 h4=>exact ⟨A,cap,rfl,ha⟩
 obtain ⟨A,cap,hval,ha⟩:=key _ hxv
 ·have hrun:=Lib.run_eql_slice_nil (P:=P) w t e A l.length cap 0 0 hc.under
  unfold ia
  rw [show (execOp ρ ⟨dd,.binOp .eql t x y t',ty,pos,af,g⟩).run P w= .ok (.value (.bool A.isNone)) w by
   simp [execOp,hval,hyv,eqGuard,hrun]]
  refine ⟨σ,.sc _,L,cr.le_refl σ,.sc _,hw,A.isNone,rfl,fun h=>?_,rfl⟩
  cases A with
  | none=>exact Decidable.byContradiction fun hn=>by obtain ⟨b,o,hh⟩:=ha hn;cases hh
  | some a=>cases h
theorem tC (ok:er P tt) {e sz by_ s:Nat} {l:List (List AV)} (ht:jJ tt t=some (e,sz,by_)) (hx:bo fr x=some u) (hu:ii u=some (s,l)) (hy:bo fr y=some (.sc (.slice none 0 0))) (hd:Nat.ble nt d=false) (h:∀b,(b=true→l=[])→bK P r ops Q nt D rest ((d,.sc (.bool b))::fr) B L):
  bK P r ops Q nt D (⟨some d,.binOp .eql t x y t',ty,pos,af,none⟩::rest) fr B L:=
 cP hd rfl (Bb (bv ok ht).1 hx (cQ hu) hy) fun c L' ⟨b,h1,h2,h3⟩=>by subst h1;subst h3;exact h b h2
end
section
variable {P:Program} {nt:Nat} {fr:c8} {B:Bs} {L L':AL}
theorem ic (L':AL) {fn:Func} {Post:AV→AL→Prop} {cs:List AV} (hr:r5 P fr L fn.results.toList cs) (hs:L'.Sublist L) (h:Post (ve cs) L'):AX P .ret (bodyPost P fn (jn B Post)) nt [] fr B L:=by
 intro σ a w ha hw
 obtain ⟨v,h1,h2⟩:=lr ha hw hr
 exact ⟨ha.defers,v,h1,v,σ,ve cs,L',rfl,h2,hw.sublist hs,h⟩
end
end Go.Proofs.YtpmdfoaadejmkaaGreatDoor
