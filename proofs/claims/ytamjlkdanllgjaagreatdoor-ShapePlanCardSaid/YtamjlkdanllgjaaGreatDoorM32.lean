/-
  Numbers parted into classes by sets: the walk.
-/
import Derived.Test.YtamjlkdanllgjaaGreatDoorM31
import Derived.Test.YtamjlkdanllgjaaGreatDoorM12
import Derived.Test.YtamjlkdanllgjaaGreatDoorM13
import Derived.Test.YtamjlkdanllgjaaGreatDoorM11
import Derived.Laws.BytesString
namespace Go.Proofs.YtamjlkdanllgjaaGreatDoor
open Go.RowKit
attribute [local irreducible] AT bF AX AO Av Kt b8 d9 DA cu
set_option maxRecDepth 8000
def m9 (l:List Int):Prop:=l.Pairwise (· < ·)
theorem Fv {l:List Int} (h:m9 l) {i:Nat} {x y:Int} (hx:l[i]?=some x) (hy:l[i+1]?=some y):x < y:=by
 obtain ⟨h1,h2⟩:=Ol hx
 obtain ⟨h3,h4⟩:=Ol hy
 have:=List.pairwise_iff_getElem.1 h i (i+1) h1 h3 (by omega)
 rw [h2,h4] at this
 exact this
theorem i6 {l:List Int} (h:m9 l):l.Nodup:=h.imp fun hlt=>by omega
theorem uV (l:List Int) (h:m9 l):bH Tryz.prog 317 [.imm 1 (aL l)] (cU true):=by
 refine aQ Tryz.func317 rfl Tryz.ntmps317 rfl fun B=>?_
 refine cV 0 rfl rfl fun hlen=>?_
 have hll:=aP l
 rw [hll] at hlen
 refine W03 ?_
 refine aJ [0] (α:=Nat) (fun i=>[(3,aG ((i:Int)+1))]) (fun i=>i≤l.length) (fun _=>[]) (fun i=>l.length - i) 0 rfl ⟨rfl,trivial⟩ (Nat.zero_le _) (fun _ _ h=>h) fun i hi=>?_
 try dsimp only [Oq,Oo,Om,Oh]
 refine W01 ?_
 refine aw rfl (fun h1=>?_) (fun h1=>?_)
 ·have hil:i+1 < l.length:=by have:=Oy h1;omega
  obtain ⟨x,hx⟩:∃z,l[i]?=some z:=⟨_,Oz (by omega)⟩
  obtain ⟨y,hy⟩:∃z,l[i+1]?=some z:=⟨_,Oz hil⟩
  have hxy:=Fv h hx hy
  have e1:((i:Int)+1).toNat=i+1:=by omega
  have e2:((i:Int)+1 - 1).toNat=i:=by omega
  have hxg:(aL l)[((i:Int)+1 - 1).toNat]?=some [aG x]:=by rw [e2];exact bD hx
  have hyg:(aL l)[((i:Int)+1).toNat]?=some [aG y]:=by rw [e1];exact bD hy
  clear h1
  refine W0z ?_
  refine bk 9 [(0,.v),(1,.v),(2,.v),(3,.v),(4,.v),(5,.v),(6,.v),(7,.v),(8,.v)] none ?_ trivial rfl (by kernel_rfl) (by kernel_rfl) (by kernel_rfl) mixed (by kernel_rfl) rfl
  refine W1i ?_
  refine OO [0,3,13,18] KN ?_
  refine W0p ?_
  refine aw rfl (fun h2=>?_) (fun _=>?_)
  ·have:=Oy h2
   omega
  refine W02 ?_
  exact aD (i+1) rfl ⟨by rw [Ov];rfl,trivial⟩ (by omega) (by omega) (fun _ _ h=>h)
 ·refine W01 ?_
  exact OL NZ
theorem FG (l:List Int) (h:m9 l):bH Tryz.prog 275 [.imm 1 (aL l)] (.imm 1 (aL l)):=by
 refine aQ Tryz.func275 rfl Tryz.ntmps275 rfl fun B=>?_
 haveI:=AD.mk (uV l h)
 repeat' (first|refine O1 ?_|refine OE a7 KN ?_|(apply bg;refine b9 ?_)|refine bT rfl ?_)
 exact OL NZ
def tM (k:Int) (t:List Int):Value→Option AV
 | .int .i64 z=>if t.contains z=true then some (aG (k+(t.idxOf z:Nat))) else none
 | _=>none
theorem FU (k:Int):tM k []=fun _=>none:=by
 funext v
 unfold tM
 split <;> rfl
theorem vc {k:Int} {t:List Int} {z:Int} (h:z∈t):tM k t (.int .i64 z)=some (aG (k+(t.idxOf z:Nat))):=if_pos (List.contains_iff_mem.2 h)
theorem AE {k:Int} {t:List Int} {z:Int} (h:z∉t):tM k t (.int .i64 z)=none:=if_neg fun e=>h (List.contains_iff_mem.1 e)
theorem FV {k:Int} {t:List Int} {z:Int} (h:z∉t):tM k (ek t z) (.int .i64 z)=some (aG (k+(t.length:Nat))):=by rw [vc (lF t z),o7 h]
theorem AA {k:Int} {t:List Int} {z:Int} (h:z∉t):∀q,q≠ .int .i64 z→tM k (ek t z) q=tM k t q:=by
 intro q hq
 unfold tM
 split
 ·rename_i y
  have hne:y≠z:=fun e=>hq (by rw [e])
  have hm:(ek t z).contains y=t.contains y:=by
   rw [gA h,Bool.eq_iff_iff,List.contains_iff_mem,List.contains_iff_mem]
   simp [hne]
  rw [hm]
  split
  ·rename_i hc
   rw [su z (List.contains_iff_mem.1 hc)]
  ·rfl
 ·rfl
theorem Io (k:Int) (t:List Int):∀v,(tM k t v).isSome=true↔v∈t.map (Value.int .i64):=by
 intro v
 unfold tM
 split
 ·rename_i z
  rw [List.mem_map]
  split
  ·rename_i hc
   exact ⟨fun _=>⟨z,List.contains_iff_mem.1 hc,rfl⟩,fun _=>rfl⟩
  ·rename_i hc
   refine ⟨fun h=>(by cases h),fun ⟨y,hy,he⟩=>?_⟩
   cases he
   exact absurd (List.contains_iff_mem.2 hy) hc
 ·rename_i hv
  refine ⟨fun h=>(by cases h),fun h=>?_⟩
  obtain ⟨y,_,rfl⟩:=List.mem_map.1 h
  exact absurd rfl (hv y)
theorem yb {t:List Int} (h:t.Nodup):(t.map (Value.int .i64)).Pairwise (·≠ ·):=List.pairwise_map.2 (h.imp fun hne e=>hne (by cases e;rfl))
def dP (l:List Int):List AV:=l.map fun z=>aG z
theorem iH (l:List Int):(dP l).length=l.length:=by simp [dP]
theorem r9 {l:List Int} {i:Nat} {z:Int} (h:l[i]?=some z):(dP l)[0+((i:Nat):Int).toNat * 1]?=some (aG z):=by simp [dP,h]
theorem iI {l:List Int} {i:Nat} {z:Int}:eR (dP l) (0+((i:Nat):Int).toNat * 1) [aG z]=dP (l.set i z):=by
 rw [gu]
 unfold dP
 rw [List.map_set]
 simp
theorem px (n:Nat):(List.replicate n [aG 0]).flatten=dP (List.replicate n 0):=by
 induction n with
 | zero=>rfl
 | succ n ih=>rw [List.replicate_succ,List.flatten_cons,ih,List.replicate_succ];rfl
theorem pw (l:List Int):dP l=(aL l).flatten:=by
 induction l with
 | nil=>rfl
 | cons z l ih=>simp [dP,aL] at ih ⊢;exact ih
theorem n7 {mb cb:Nat} {M:AB} {c c':List AV} (h:c=c'):[(mb,M),(cb,AB.box c 3)]=[(mb,M),(cb,.box c' 3)]:=by rw [h]
theorem Hk {l:List Int} {g:Int} {z:Int} (h:l[g.toNat]?=some z):l.getD g.toNat 0=z:=by rw [List.getD_eq_getElem?_getD,h];rfl
theorem CO {l:List Int} {k:Nat} {z:Int} (h:l[k]?=some z):(gB (l.take k)++l.drop k).set k ((ek (j5 (l.take k)) z).idxOf z:Nat)=gB (l.take (k+1))++l.drop (k+1):=by
 have hk:=(Ol h).1
 rw [List.set_append,if_neg (by rw [gV,List.length_take];omega),gV,List.length_take,Nat.min_eq_left (by omega),Nat.sub_self,List.drop_eq_getElem_cons hk,List.set_cons_zero,List.take_add_one,h]
 dsimp only [Option.toList]
 rw [yW,List.append_assoc]
 rfl
theorem Ir {l:List Int} {k:Nat} {z:Int} (h:l[k]?=some z):(gB (l.take k)++l.drop k)[k]?=some z:=by
 have hk:=(Ol h).1
 rw [List.getElem?_append_right (by rw [gV,List.length_take];omega),gV,List.length_take,Nat.min_eq_left (by omega),Nat.sub_self,List.getElem?_drop]
 exact h
theorem CI {l:List Int} {k:Nat} {z:Int} (h:l[k]?=some z):j5 (l.take (k+1))=ek (j5 (l.take k)) z:=by
 rw [List.take_add_one,h]
 exact jT _ _
set_option maxHeartbeats 8000000 in
theorem sO (n:Nat) (h0:0 < n) (hn:n≤65536) (sets:List (List Int)) (hs:∀s∈sets,m9 s∧∀g∈s,0≤g∧g < (n:Int)) (hsl:sets.length≤1000000):bH Tryz.prog 218 [aG n,.imm 1 (aZ sets)] (.imm 1 (aL (eg n sets))):=by
 refine aQ Tryz.func218 rfl Tryz.ntmps218 rfl fun B=>?_
 have hrl:=cr sets
 refine W01 ?_
 refine cH [0,1] False rfl (fun Q' K=>?_) (fun hC=>hC.elim) (fun _=>?_)
 ·repeat' (first|refine O1 ?_|refine OE a7 KN ?_|refine ON KN ?_|refine OP OA ?_|refine OR NZ (fun _=>?_) (fun _=>?_))
  all_goals exact K _ _ rfl rfl (by simp_all <;> omega)
 refine W01 ?_
 refine ej a7 n rfl rfl rfl rfl rfl rfl rfl (by omega) (by omega) rfl fun cb=>?_
 rw [show (List.replicate n (List.map AV.sc [Value.int .i64 0])).flatten=dP (List.replicate n 0) from px n]
 refine W03 ?_
 refine aJ [0,5,28,29] (α:=Nat×List Int×Int) (fun s=>[(30,aG s.1),(6,aG s.2.2)]) (fun s=>s.1≤sets.length∧(sets.drop s.1).foldl ky (s.2.1,s.2.2)=nN n sets∧s.2.1.length=n∧0≤s.2.2∧s.2.2≤1+s.1 * 65536) (fun s=>[(cb,.box (dP s.2.1) 3)]) (fun s=>sets.length - s.1) (0,List.replicate n 0,1) rfl ⟨rfl,rfl,trivial⟩ ⟨Nat.zero_le _,rfl,by simp,by dsimp only;omega,by dsimp only;omega⟩ (fun _ _ h=>h) ?_
 ·rintro ⟨k,cls,k0⟩ ⟨hk,hf,hcl,hk0,hk1⟩
  dsimp only at hk hf hcl hk0 hk1 ⊢
  try dsimp only [Oq,Oo,Om,Oh]
  refine W01 ?_
  refine aw rfl (fun h1=>?_) (fun h1=>?_)
  ·have hk2:k < sets.length:=by have:=Oy h1;omega
   obtain ⟨s,hsk⟩:∃z,sets[k]?=some z:=⟨_,Oz hk2⟩
   have hsg:=iD hsk
   obtain ⟨hri,hdm⟩:=hs s (Ow hsk)
   have hsn:s.length≤n:=fO (i6 hri) hdm
   have hil:=aP s
   haveI:=AD.mk (FG s hri)
   rw [List.drop_eq_getElem_cons hk2,(Ol hsk).2,List.foldl_cons] at hf
   clear h1
   refine W08 ?_
   refine eo KJ fun mb=>?_
   rw [←FU k0]
   refine W0U ?_
   refine aJ [0,5,9,28,29,30,36,37] (α:=Nat×List Int×List Int) (fun t=>[(38,aG t.1),(6,aG (k0+(t.2.2.length:Nat)))]) (fun t=>t.1≤s.length∧(s.drop t.1).foldl (iU k0) (t.2.1,t.2.2)=s.foldl (iU k0) (cls,[])∧t.2.1.length=n∧t.2.2.length≤t.1) (fun t=>[(mb,ci KJ (tM k0 t.2.2)),(cb,.box (dP t.2.1) 3)]) (fun t=>s.length - t.1) (0,cls,[]) rfl ⟨rfl,by simp;rfl,trivial⟩ ⟨Nat.zero_le _,rfl,hcl,Nat.le_refl _⟩ (fun _ _ h=>h) ?_
   rintro ⟨j,cl1,ap⟩ ⟨hj,hjf,hjl,hja⟩
   dsimp only at hj hjf hjl hja ⊢
   try dsimp only [Oq,Oo,Om,Oh]
   refine W01 ?_
   refine aw rfl (fun h1=>?_) (fun h1=>?_)
   ·have hj2:j < s.length:=by have:=Oy h1;omega
    obtain ⟨g,hg⟩:∃z,s[j]?=some z:=⟨_,Oz hj2⟩
    have hgg:=bD hg
    obtain ⟨hg0,hgn⟩:=hdm g (Ow hg)
    obtain ⟨z,hz⟩:∃z,cl1[g.toNat]?=some z:=⟨_,Oz (by omega)⟩
    have hgt:((g.toNat:Nat):Int)=g:=Int.toNat_of_nonneg hg0
    have hzc:=r9 hz
    rw [hgt] at hzc
    have hcc:=iH cl1
    have hput:∀y,eR (dP cl1) (0+g.toNat * 1) [aG y]=dP (cl1.set g.toNat y):=fun y=>by
     have:=iI (l:=cl1) (i:=g.toNat) (z:=y)
     rwa [hgt] at this
    rw [List.drop_eq_getElem_cons hj2,(Ol hg).2,List.foldl_cons] at hjf
    have hmk:iU k0 (cl1,ap) g=(cl1.set g.toNat (k0+((ek ap z).idxOf z:Nat)),ek ap z):=by
     unfold iU
     rw [Hk hz]
    rw [hmk] at hjf
    have hal:=sv ap z
    clear h1
    refine W08 ?_
    refine cH [0,5,6,9,11,28,29,30,36,37,38] False rfl (fun Q' K=>?_) (fun hC=>hC.elim) (fun _=>?_)
    ·repeat' (first|refine O1 ?_|refine OE a7 KN ?_|refine ON KN ?_|refine OP OA ?_|refine OR NZ (fun _=>?_) (fun _=>?_))
     all_goals exact K _ _ rfl rfl (by simp_all <;> omega)
    refine W0h ?_
    refine gQ 0 (.int .i64 0) Tryz.underlying96 Tryz.underlying3 rfl rfl rfl rfl (by kernel_rfl) rfl ?_
    by_cases hm:z∈ap
    ·have hgs:=vc (k:=k0) hm
     have hta:=fS hm
     rw [hta] at hjf
     rw [hgs]
     refine W0m ?_
     refine lu 0 (.int .i64 0) Tryz.underlying96 Tryz.underlying3 rfl rfl rfl rfl (by kernel_rfl) rfl ?_
     rw [hgs]
     refine W0i ?_
     refine ai a7 1 rfl rfl rfl rfl rfl rfl (Nat.ble_eq_true_of_le (by rw [hcc];simp;omega)) ?_
     refine aX (aW (L':=[(mb,ci KJ (tM k0 ap)),(cb,.box (dP (cl1.set g.toNat (k0+(ap.idxOf z:Nat)))) 3)]) (List.Perm.of_eq (n7 (hput _)))) ?_
     refine W02 ?_
     exact aD (j+1,_,ap) rfl ⟨by rw [Ov];rfl,rfl,trivial⟩ ⟨hj2,hjf,by rw [List.length_set];exact hjl,by dsimp only;omega⟩ (by dsimp only;omega) (fun _ _ h=>h)
    ·have hgn2:=AE (k:=k0) hm
     have hgp:=FV (k:=k0) hm
     have hnew:=o7 hm
     have hnl:(ek ap z).length=ap.length+1:=by rw [gA hm,List.length_append,List.length_singleton]
     rw [hgn2]
     refine W0k ?_
     refine dA 0 (tM k0 (ek ap z)) Tryz.underlying96 Tryz.underlying3 rfl rfl rfl rfl rfl hgp (AA hm) ?_
     refine W02 ?_
     refine lu 0 (.int .i64 0) Tryz.underlying96 Tryz.underlying3 rfl rfl rfl rfl (by kernel_rfl) rfl ?_
     rw [hgp]
     refine W0i ?_
     refine ai a7 1 rfl rfl rfl rfl rfl rfl (Nat.ble_eq_true_of_le (by rw [hcc];simp;omega)) ?_
     refine aX (aW (L':=[(mb,ci KJ (tM k0 (ek ap z))),(cb,.box (dP (cl1.set g.toNat (k0+(ap.length:Nat)))) 3)]) (List.Perm.of_eq (n7 (hput _)))) ?_
     refine W02 ?_
     rw [hnew] at hjf
     refine aD (j+1,_,ek ap z) rfl ⟨by rw [Ov];rfl,?_,trivial⟩ ⟨hj2,hjf,by rw [List.length_set];exact hjl,by dsimp only;omega⟩ (by dsimp only;omega) (fun _ _ h=>h)
     show some (AV.sc (.int .i64 (k0+(ap.length:Nat)+1)))=some (aG (k0+((ek ap z).length:Nat)))
     rw [hnl,Ov,Int.add_assoc]
     rfl
   ·have hj2:j=s.length:=by have:=Ox h1;omega
    subst hj2
    rw [List.drop_length] at hjf
    have hjf2:(cl1,ap)=s.foldl (iU k0) (cls,[]):=hjf
    have hps:ky (cls,k0) s=(cl1,k0+(ap.length:Nat)):=by
     unfold ky
     dsimp only
     rw [←hjf2]
    rw [hps] at hf
    clear h1
    refine W02 ?_
    exact aD (k+1,cl1,k0+(ap.length:Nat)) rfl ⟨by rw [Ov];rfl,rfl,trivial⟩ ⟨hk2,hf,hjl,by dsimp only;omega,by dsimp only;omega⟩ (by dsimp only;omega) (fun _ _ h=>h.sublist (List.sublist_cons_self ..))
  ·have hk2:k=sets.length:=by have:=Ox h1;omega
   subst hk2
   rw [List.drop_length] at hf
   have hf2:(cls,k0)=nN n sets:=hf
   have hpv:eg n sets=gB cls:=by unfold eg;rw [←hf2]
   rw [hpv]
   clear h1
   repeat' (first|refine O1 ?_|fail)
   refine eo KJ fun tb=>?_
   rw [←FU 0]
   refine W03 ?_
   refine aJ [5,15,75,76] (α:=Nat) (fun i=>[(77,aG i)]) (fun i=>i≤cls.length) (fun i=>[(tb,ci KJ (tM 0 (j5 (cls.take i)))),(cb,.box (dP (gB (cls.take i)++cls.drop i)) 3)]) (fun i=>cls.length - i) 0 rfl ⟨rfl,trivial⟩ (Nat.zero_le _) (fun _ _ h=>h) fun i hi=>?_
   try dsimp only [Oq,Oo,Om,Oh]
   refine W01 ?_
   refine aw rfl (fun h1=>?_) (fun h1=>?_)
   ·have hi2:i < cls.length:=by have:=Oy h1;omega
    obtain ⟨z,hz⟩:∃z,cls[i]?=some z:=⟨_,Oz hi2⟩
    have hzc:=r9 (Ir hz)
    have hcc:=iH (gB (cls.take i)++cls.drop i)
    have hcl2:(gB (cls.take i)++cls.drop i).length=cls.length:=by rw [List.length_append,gV,List.length_take,List.length_drop];omega
    have htc:=CO hz
    have htt:=CI hz
    have hnd:=yR (cls.take i)
    clear h1
    refine W0n ?_
    refine gQ 0 (.int .i64 0) Tryz.underlying96 Tryz.underlying3 rfl rfl rfl rfl (by kernel_rfl) rfl ?_
    by_cases hm:z∈j5 (cls.take i)
    ·have hgs:=vc (k:=0) hm
     have hta:=fS hm
     rw [hta] at htc htt
     rw [hgs]
     refine W0m ?_
     refine lu 0 (.int .i64 0) Tryz.underlying96 Tryz.underlying3 rfl rfl rfl rfl (by kernel_rfl) rfl ?_
     rw [hgs]
     refine W0i ?_
     refine ai a7 1 rfl rfl rfl rfl rfl rfl (Nat.ble_eq_true_of_le (by rw [hcc,hcl2,Int.toNat_natCast];show 0+i * 1+1≤_;omega)) ?_
     refine aX (aW (L':=[(tb,ci KJ (tM 0 (j5 (cls.take i)))),(cb,.box (dP (gB (cls.take (i+1))++cls.drop (i+1))) 3)]) (List.Perm.of_eq (n7 (by rw [←htc,←iI,Int.zero_add])))) ?_
     refine W02 ?_
     exact aD (i+1) rfl ⟨by rw [Ov];rfl,trivial⟩ (by omega) (by omega) (fun _ _ h=>by rw [htt];exact h)
    ·have hgn2:=AE (k:=0) hm
     have hgp:=FV (k:=0) hm
     have hnew:=o7 hm
     rw [hgn2]
     refine W0k ?_
     refine EU 0 _ Tryz.underlying96 rfl rfl (yb hnd) (Io 0 _) rfl ?_
     rw [Ou]
     rw [Int.zero_add] at hgp
     repeat' (first|fail)
     refine dA 0 (tM 0 (ek (j5 (cls.take i)) z)) Tryz.underlying96 Tryz.underlying3 rfl rfl rfl rfl rfl hgp (AA hm) ?_
     refine W01 ?_
     refine lu 0 (.int .i64 0) Tryz.underlying96 Tryz.underlying3 rfl rfl rfl rfl (by kernel_rfl) rfl ?_
     rw [hgp]
     refine W0i ?_
     refine ai a7 1 rfl rfl rfl rfl rfl rfl (Nat.ble_eq_true_of_le (by rw [hcc,hcl2,Int.toNat_natCast];show 0+i * 1+1≤_;omega)) ?_
     refine aX (aW (L':=[(tb,ci KJ (tM 0 (ek (j5 (cls.take i)) z))),(cb,.box (dP (gB (cls.take (i+1))++cls.drop (i+1))) 3)]) (List.Perm.of_eq (n7 (by rw [←htc,←iI,hnew])))) ?_
     refine W02 ?_
     exact aD (i+1) rfl ⟨by rw [Ov];rfl,trivial⟩ (by omega) (by omega) (fun _ _ h=>by rw [htt];exact h)
   ·have hi2:i=cls.length:=by have:=Ox h1;omega
    subst hi2
    rw [List.take_length,List.drop_length,List.append_nil]
    clear h1
    refine W01 ?_
    have htl:=gV cls
    have hcc:=iH (gB cls)
    refine b7 (dl (t:=4) (sz:=1) (n:=n) (cap:=n) (l:=aL (gB cls)) 1 rfl rfl ?_ (by omega) (fun e he=>?_) (by rw [aP];omega) (Nat.le_refl _) (by unfold maxLen;omega)) ?_
    ·rw [←pw,Nat.mul_one,List.take_of_length_le (by omega)]
    ·unfold aL at he
     obtain ⟨y,_,rfl⟩:=List.mem_map.1 he
     rfl
    refine du (List.nil_sublist _) ?_
    exact OL NZ
set_option maxRecDepth 8000
abbrev Pl:=Nat×Nat
section
variable {cls:List Int} {rows:List (List (List Int))} {have_:Nat→Bool} {L:Nat}
theorem uc (hL:∀r∈rows,r.length≤L) {p:Pl} {c:Nat} (h:(cg cls rows p c).2≠0):(cg cls rows p c).1≤L∧(cg cls rows p c).2 < 2 ^ rows.length∧cg cls rows p c=(p.1+1,p.2 &&& jJ cls rows p.1 c):=by
 unfold cg at h ⊢
 split
 ·rename_i h0
  rw [if_pos h0] at h
  exact absurd rfl h
 ·rename_i h0
  refine ⟨?_,Nat.lt_of_le_of_lt Nat.and_le_right (qY _ _),rfl⟩
  have hn:jJ cls rows p.1 c≠0:=fun e=>h0 (by rw [e,Nat.and_zero])
  have:¬∀i,i < rows.length→mh cls rows p.1 c i=false:=fun hh=>hn (qZ.2 hh)
  apply Classical.byContradiction
  intro hlt
  refine this fun i hi=>?_
  unfold mh
  rw [Oz hi]
  dsimp only
  rw [List.getElem?_eq_none (by have:=hL _ (List.getElem_mem hi);dsimp only at hlt;omega)]
structure jw (rows:List (List (List Int))) (have_:Nat→Bool) (L:Nat) (M:List Pl):Prop where
 first:M[0]?=some (mA rows have_)
 nodup:M.Nodup
 small:∀p∈M,p.1≤L∧p.2 < 2 ^ rows.length
theorem jw.start:jw rows have_ L [mA rows have_]:=⟨rfl,by simp,fun p hp=>by
 rw [List.mem_singleton] at hp
 subst hp
 exact ⟨Nat.zero_le _,qY _ _⟩⟩
theorem jw.meet {M:List Pl} (h:jw rows have_ L M) (hL:∀r∈rows,r.length≤L) {p:Pl} {c:Nat} (hne:(cg cls rows p c).2≠0):jw rows have_ L (ek M (cg cls rows p c)):=by
 refine ⟨o6 _ h.first,mP _ h.nodup,fun q hq=>?_⟩
 by_cases hm:cg cls rows p c∈M
 ·rw [fS hm] at hq;exact h.small q hq
 ·rw [gA hm,List.mem_append,List.mem_singleton] at hq
  rcases hq with hq | rfl
  ·exact h.small q hq
  ·have:=uc hL hne
   exact ⟨this.1,this.2.1⟩
theorem jw.few {M:List Pl} (h:jw rows have_ L M):M.length≤(L+1) * 2 ^ rows.length:=by
 have hk:0 < 2 ^ rows.length:=Nat.pow_pos (by omega)
 have hs:=h.small
 generalize 2 ^ rows.length=K at hk hs
 have h1:(M.map fun p:Pl=>((p.1 * K+p.2:Nat):Int)).Nodup:=by
  refine List.pairwise_map.2 (h.nodup.imp_of_mem fun {a b} ha hb hab=>fun e=>hab ?_)
  have e':a.1 * K+a.2=b.1 * K+b.2:=by omega
  have ha2:=(hs a ha).2
  have hb2:=(hs b hb).2
  have e1:a.1=b.1:=by
   have h3:(a.1 * K+a.2) / K=a.1:=by rw [Nat.mul_comm,Nat.mul_add_div hk,Nat.div_eq_of_lt ha2,Nat.add_zero]
   have h4:(b.1 * K+b.2) / K=b.1:=by rw [Nat.mul_comm,Nat.mul_add_div hk,Nat.div_eq_of_lt hb2,Nat.add_zero]
   rw [←h3,←h4,e']
  exact Prod.ext e1 (by rw [e1] at e';omega)
 have h2:=fO (n:=(L+1) * K) h1 fun z hz=>by
  obtain ⟨p,hp,rfl⟩:=List.mem_map.1 hz
  obtain ⟨a1,a2⟩:=hs p hp
  have:p.1 * K+p.2 < (L+1) * K:=by
   have:p.1 * K≤L * K:=Nat.mul_le_mul_right _ a1
   rw [Nat.add_mul,Nat.one_mul]
   omega
  exact ⟨by omega,by omega⟩
 rwa [Ou] at h2
def jh (cls:List Int) (rows:List (List (List Int))) (M:List Pl) (p:Pl) (c:Nat) (z:Int):Prop:=
 ((cg cls rows p c).2=0∧z= -1)∨((cg cls rows p c).2≠0∧0≤z∧M[z.toNat]?=some (cg cls rows p c))
theorem jh.more {M:List Pl} {p q:Pl} {c:Nat} {z:Int} (h:jh cls rows M p c z):jh cls rows (ek M q) p c z:=by
 rcases h with h | ⟨h1,h2,h3⟩
 ·exact Or.inl h
 ·exact Or.inr ⟨h1,h2,o6 _ h3⟩
theorem jh.new {M:List Pl} {p:Pl} {c:Nat} (h:(cg cls rows p c).2≠0):jh cls rows (ek M (cg cls rows p c)) p c ((ek M (cg cls rows p c)).idxOf (cg cls rows p c):Nat):=
 Or.inr ⟨h,by omega,by rw [Int.toNat_natCast];exact Im⟩
structure gK (cls:List Int) (rows:List (List (List Int))) (C:Nat) (M:List Pl) (tab:List (List Int)) (ends:List Nat):Prop where
 len:ends.length=tab.length
 ends:∀(i:Nat) p,i < tab.length→M[i]?=some p→ends[i]?=some (jz rows p)
 tab:∀(i:Nat) p q,M[i]?=some p→tab[i]?=some q→q.length=C∧∀(c:Nat) z,q[c]?=some z→jh cls rows M p c z
theorem gK.nil {C:Nat} {M:List Pl}:gK cls rows C M [] []:=⟨rfl,fun i p h=>by simp at h,fun i p q _ h=>by simp at h⟩
theorem gK.more {C:Nat} {M:List Pl} {tab:List (List Int)} {ends:List Nat} (h:gK cls rows C M tab ends) (hl:tab.length≤M.length) (q:Pl):gK cls rows C (ek M q) tab ends:=by
 have hb:∀(i:Nat) p,i < tab.length→(ek M q)[i]?=some p→M[i]?=some p:=fun i p hi hp=>by
  obtain ⟨x,hx⟩:∃x,M[i]?=some x:=⟨_,Oz (by omega)⟩
  have:=o6 q hx
  rw [hp] at this
  cases this
  exact hx
 refine ⟨h.len,fun i p hi hp=>h.ends i p hi (hb i p hi hp),fun i p r hp hr=>?_⟩
 obtain ⟨h1,h2⟩:=h.tab i p r (hb i p (Ol hr).1 hp) hr
 exact ⟨h1,fun c z hz=>(h2 c z hz).more⟩
theorem gK.snoc {C:Nat} {M:List Pl} {tab:List (List Int)} {ends:List Nat} (h:gK cls rows C M tab ends) {p:Pl} {fA:List Int} (hp:M[tab.length]?=some p) (hr:fA.length=C) (hc:∀(c:Nat) z,fA[c]?=some z→jh cls rows M p c z):gK cls rows C M (tab++[fA]) (ends++[jz rows p]):=by
 refine ⟨by simp [h.len],fun i q hi hq=>?_,fun i q r hq hr'=>?_⟩
 ·rw [List.length_append,List.length_singleton] at hi
  by_cases hit:i < tab.length
  ·rw [List.getElem?_append_left (by rw [h.len];exact hit)]
   exact h.ends i q hit hq
  ·have e:i=tab.length:=by omega
   subst e
   rw [hp] at hq
   cases hq
   rw [List.getElem?_append_right (by rw [h.len];exact Nat.le_refl _),h.len,Nat.sub_self]
   rfl
 ·by_cases hit:i < tab.length
  ·rw [List.getElem?_append_left hit] at hr'
   exact h.tab i q r hq hr'
  ·rw [List.getElem?_append_right (by omega)] at hr'
   have hi0:i - tab.length=0:=by
    have:=(Ol hr').1
    simp at this
    omega
   have e:i=tab.length:=by omega
   subst e
   rw [Nat.sub_self] at hr'
   simp at hr'
   subst hr'
   rw [hp] at hq
   cases hq
   exact ⟨hr,hc⟩
theorem gK.done {C:Nat} {M:List Pl} {tab:List (List Int)} {ends:List Nat} (h:gK cls rows C M tab ends) (hs:jw rows have_ L M) (hl:tab.length=M.length):sT cls rows have_ C tab ends:=
 ⟨M,hs.first,hl.symm,by rw [h.len,hl],fun i p hp=>h.ends i p (by rw [hl];exact (Ol hp).1) hp,fun i p q hp hq=>h.tab i p q hp hq⟩
end
end Go.Proofs.YtamjlkdanllgjaaGreatDoor
namespace Go.Proofs.YtamjlkdanllgjaaGreatDoor
open Go.RowKit
section
variable {P:Program} {fr:bZ} {B:Bs} {L:AL} {d:Option Tmp} {ty t t':TypeId} {pos:String} {af:Array Edge} {g:Option (Nat×Bool)} {x y z:Operand} {u:AV}
theorem JJ {dd:Option Tmp} {k kk:IntKind} {a b:Int} (i:Nat) (hx:bw fr x=some (.sc (.int k a))) (hy:bw fr y=some (.sc (.int kk b))) (hb:b=(i:Int)):Av P ⟨dd,.binOp .shl t x y t',ty,pos,af,g⟩ fr (.sc (.int k (k.wrap (a * 2 ^ min i k.bits)))):=by
 intro σ ρ w hρ _
 subst hb
 refine ⟨_,?_,.sc _⟩
 have h:=shift_shl_any k kk a (i:Int) (Int.natCast_nonneg i)
 simp [execOp,(hρ x _ hx).sc_inv,(hρ y _ hy).sc_inv,eqGuard,binOp,h]
theorem Da {dd:Option Tmp} {n e sz b:Nat} (ha:P.underlying t=some (.array n e)) (hs:(P.info? e).map (·.size)=some sz) (hx:bw fr x=some (.sc (.pointer (some ⟨b,0,none⟩)))):Av P ⟨dd,.slice t x none none none,ty,pos,af,g⟩ fr (.sc (.slice (some ⟨b,0,none⟩) n n)):=by
 intro σ ρ w hρ _
 refine ⟨_,?_,.sc _⟩
 obtain ⟨i,hi,hi2⟩:∃i,P.info? e=some i∧i.size=sz:=by
  cases hi:P.info? e with
  | none=>rw [hi] at hs;cases hs
  | some i=>rw [hi] at hs;exact ⟨i,rfl,by simpa using hs⟩
 simp [execOp,(hρ x _ hx).sc_inv,Instr.sliceAt,Instr.sliceBounds,Instr.sureAddr,run_underlying ha,sizeOf,typeInfo,hi,eN]
theorem AZ (i:Nat) {dd:Option Tmp} {e sz by_ b n cap:Nat} {e':TypeId} (ns:List Int) (hs:m8 P t e sz by_) (he:CW P e .u8) (hd:CX P t') (hx:bw fr x=some (.sc (.slice (some ⟨b,0,none⟩) n cap))) (hL:L[i]?=some (b,.box (ns.map fun z=> .sc (.int .u8 z)) e')) (hn:ns.length=n):
  AO P ⟨dd,.convert t t' x,ty,pos,af,g⟩ fr B L (fun c L'=>c= .sc (.string (ns.foldl (fun r n=>r.push (UInt8.ofNat n.toNat)) ByteArray.empty))∧L'=L):=by
 intro σ ρ w hρ hw
 obtain ⟨o,ho,vs,rfl,hvs,h1⟩:=hw.here _ (Ow hL)
 have hvs':vs=ns.map (Value.int .u8):=by
  have hl:=hvs.1
  rw [Ou] at hl
  apply List.ext_getElem?
  intro j
  by_cases hj:j < ns.length
  ·obtain ⟨z,hz⟩:∃z,ns[j]?=some z:=⟨_,Oz hj⟩
   obtain ⟨v,hv⟩:∃v,vs[j]?=some v:=⟨_,Oz (by omega)⟩
   have:=hvs.2 j _ v (by rw [List.getElem?_map,hz];rfl) hv
   rw [hv,List.getElem?_map,hz,this.sc_inv]
   rfl
  ·rw [List.getElem?_eq_none (by omega),List.getElem?_eq_none (by rw [Ou];omega)]
 have hload:(loadCells ⟨b,0,none⟩ n).run P w= .ok (ns.map (Value.int .u8)).toArray w:=by
  have:=run_loadCells_list (P:=P) w ⟨b,0,none⟩ vs fun j v hj=>by
   rw [eN,Nat.zero_add,dm ho]
   simpa using hj
  rw [←hvs.1,Ou,hn] at this
  rw [this,hvs']
 have hr:=run_bytesToString (P:=P) w ⟨b,0,none⟩ n cap ns hload
 haveI:=hs
 unfold i8
 rw [show (execOp ρ ⟨dd,.convert t t' x,ty,pos,af,g⟩).run P w= .ok (.value (.string (ns.foldl (fun r n=>r.push (UInt8.ofNat n.toNat)) ByteArray.empty))) w by
  simp [execOp,(hρ x _ hx).sc_inv,run_convert_bytes_string w t t' e _ _ _ hs.under he.under hd.under,hr]]
 exact ⟨σ,.sc _,_,cm.le_refl _,.sc _,hw,rfl,rfl⟩
end
section
variable {P:Program} {tt:TT} {r:Option Nat} {ops:Array Oper} {Q:Exit→Act→World→Prop} {nt:Nat} {D:List Deferred} {fr:bZ} {B:Bs} {L:AL} {rest:List Oper} {d:Nat} {ty t t':TypeId} {pos:String} {af:Array Edge} {x y z:Operand} {u:AV}
theorem ES (ok:eh P tt) {n e sz b:Nat} (ha:vD tt t=some (n,e,sz)) (hx:bw fr x=some (.sc (.pointer (some ⟨b,0,none⟩)))) (hd:Nat.ble nt d=false) (h:bF P r ops Q nt D rest ((d,.sc (.slice (some ⟨b,0,none⟩) n n))::fr) B L):bF P r ops Q nt D (⟨some d,.slice t x none none none,ty,pos,af,none⟩::rest) fr B L:=
 cz (Da (gL ok ha).1 (gL ok ha).2 hx) hd rfl h
theorem EQ (ok:eh P tt) (i:Nat) (ns:List Int) {e sz by_ b n cap:Nat} {e':TypeId} {ti ti':TI} (ht:jW tt t=some (e,sz,by_)) (he:dC tt e=some ti) (hk:ti.k= .int .u8) (ht':dC tt t'=some ti') (hk':ti'.k= .str) (hx:bw fr x=some (.sc (.slice (some ⟨b,0,none⟩) n cap))) (hL:L[i]?=some (b,.box (ns.map fun z=> .sc (.int .u8 z)) e')) (hn:ns.length=n) (hd:Nat.ble nt d=false) (h:bF P r ops Q nt D rest ((d,.sc (.string (ns.foldl (fun r n=>r.push (UInt8.ofNat n.toNat)) ByteArray.empty)))::fr) B L):bF P r ops Q nt D (⟨some d,.convert t t' x,ty,pos,af,none⟩::rest) fr B L:=
 cn hd rfl (AZ i ns (bE ok ht).1 (ok.int he hk) (ok.str ht' hk') hx hL hn) fun c L' ⟨h1,h2⟩=>by subst h1;subst h2;exact h
end
section
variable {P:Program} {tt:TT} {l:List Oper} {fr:bZ} {fin:kV} {sk:mT} {acc:bZ} {L:AL} {k:Nat} {dd:Option Tmp} {ty t t':TypeId} {pos:String} {af:Array Edge} {g:Option (Nat×Bool)} {x y:Operand} {u:AV}
theorem xL (i:Nat) {q q':IntKind} {a b:Int} (hx:bw (cO l.toArray acc fr af.toList) x=some (.sc (.int q a))) (hy:bw (cO l.toArray acc fr af.toList) y=some (.sc (.int q' b))) (hb:b=(i:Int)) (hg:j6 ⟨dd,.binOp .shl t x y t',ty,pos,af,g⟩ acc) (h:DA P l fr fin sk ((k,.sc (.int q (q.wrap (a * 2 ^ min i q.bits))))::acc) L):cu P l fr fin k .v ⟨dd,.binOp .shl t x y t',ty,pos,af,g⟩ sk acc L:=fW hg (F7 (JJ i hx hy hb)) h
theorem GO {q:IntKind} {a b:Int} (hx:bw (cO l.toArray acc fr af.toList) x=some (.sc (.int q a))) (hy:bw (cO l.toArray acc fr af.toList) y=some (.sc (.int q b))) (hg:j6 ⟨dd,.binOp .or t x y t',ty,pos,af,g⟩ acc) (h:DA P l fr fin sk ((k,.sc (.int q (bits .or q a b)))::acc) L):cu P l fr fin k .v ⟨dd,.binOp .or t x y t',ty,pos,af,g⟩ sk acc L:=fW hg (F7 (zd hx hy)) h
end
end Go.Proofs.YtamjlkdanllgjaaGreatDoor
