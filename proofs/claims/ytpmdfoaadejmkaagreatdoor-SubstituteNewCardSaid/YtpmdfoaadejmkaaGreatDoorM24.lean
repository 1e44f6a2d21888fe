/-
  What comes where so many sets were met: the walk.
-/
import Derived.Test.YtpmdfoaadejmkaaGreatDoorM23
namespace Go.Proofs.YtpmdfoaadejmkaaGreatDoor
open Go.RowKit
section
attribute [local irreducible] AT bP AX AO Av Kt bb dh DA cG
def ja (cls:List Int) (n:Nat) (nx:List Nat) (g:Int):List Nat:=nx.set (cls.getD g.toNat 0).toNat (nx.getD (cls.getD g.toNat 0).toNat 0 ||| 2 ^ n)
def fp (cls:List Int) (rows:List (List (List Int))) (m C n:Nat):List Nat:=(List.range C).map fun c=>cE (nj cls rows m c) n
theorem ix {cls:List Int} {rows:List (List (List Int))} {m C n:Nat}:(fp cls rows m C n).length=C:=by simp [fp]
theorem mS {cls:List Int} {rows:List (List (List Int))} {m C n c:Nat} (h:c < C):(fp cls rows m C n)[c]?=some (cE (nj cls rows m c) n):=by simp [fp,h]
theorem vd {cls:List Int} {c:Nat} {s:List Int} {g:Int}:g9 cls c (s++[g])=(g9 cls c s || g9 cls c [g]):=by simp [g9]
theorem mP {cls:List Int} {n:Nat}:∀{s:List Int} {nx:List Nat},(s.foldl (ja cls n) nx).length=nx.length
 | [],_=>rfl
 | g::s,nx=>by rw [List.foldl_cons,mP];unfold ja;rw [List.length_set]
section
variable {cls:List Int} {C:Nat} (hd:∀z∈cls,0≤z∧z < (C:Int))
include hd
theorem wf {g:Int} (hg:0≤g∧g < cls.length):∃c:Nat,cls[g.toNat]?=some (c:Int)∧c < C∧cls.getD g.toNat 0=(c:Int):=by
 obtain ⟨z,hz⟩:∃z,cls[g.toNat]?=some z:=⟨_,Nz (by omega)⟩
 obtain ⟨h0,h1⟩:=hd z (Nw hz)
 refine ⟨z.toNat,by rw [hz];congr 1;omega,by omega,?_⟩
 rw [List.getD_eq_getElem?_getD,hz]
 show z=_
 omega
theorem tV {n:Nat} {nx:List Nat} (hl:nx.length=C):∀{s:List Int},(∀g∈s,0≤g∧g < (cls.length:Int))→∀c,c < C→(s.foldl (ja cls n) nx)[c]?=some (nx.getD c 0 ||| (if g9 cls c s=true then 2 ^ n else 0)):=by
 intro s
 refine p7 (P:=fun s=>(∀g∈s,0≤g∧g < (cls.length:Int))→∀c,c < C→(s.foldl (ja cls n) nx)[c]?=some (nx.getD c 0 ||| (if g9 cls c s=true then 2 ^ n else 0))) ?_ ?_ s
 ·intro _ c hc
  rw [List.foldl_nil,List.getD_eq_getElem?_getD,Nz (by omega)]
  simp [g9]
 ·intro s g ih hs c hc
  have ih':=ih (fun x hx=>hs x (by simp [hx]))
  obtain ⟨k,hk,hkC,hkd⟩:=wf hd (hs g (by simp))
  have hml:=mP (cls:=cls) (n:=n) (s:=s) (nx:=nx)
  rw [List.foldl_append,List.foldl_cons,List.foldl_nil]
  unfold ja at hml ⊢
  rw [hkd,Int.toNat_natCast]
  have hg1:g9 cls c [g]=decide (k=c):=by
   unfold g9
   have hg:=hs g (by simp)
   have hkd2:cls.getD g.toNat (-1)=(k:Int):=by rw [List.getD_eq_getElem?_getD,hk];rfl
   simp only [List.any_cons,List.any_nil,Bool.or_false,hkd2,decide_eq_true hg.1,decide_eq_true hg.2,Bool.true_and]
   exact decide_eq_decide.2 (by omega)
  rw [vd,hg1]
  by_cases hkc:k=c
  ·subst hkc
   rw [List.getElem?_set_self (by omega),List.getD_eq_getElem?_getD]
   have:=ih' k hc
   unfold ja at this
   rw [this]
   simp only [Option.getD_some,decide_true,Bool.or_true,if_true]
   congr 1
   split
   ·rw [Nat.or_assoc,Nat.or_self]
   ·rw [Nat.or_zero]
  ·rw [List.getElem?_set_ne hkc]
   have:=ih' c hc
   unfold ja at this
   rw [this]
   simp [hkc]
theorem zf {rows:List (List (List Int))} {m n:Nat} {eK:List (List Int)} (hr:rows[n]?=some eK) {s:List Int} (hs:eK[m]?=some s) (hg:∀g∈s,0≤g∧g < (cls.length:Int)):s.foldl (ja cls n) (fp cls rows m C n)=fp cls rows m C (n+1):=by
 apply List.ext_getElem?
 intro c
 by_cases hc:c < C
 ·rw [tV hd ix hg c hc,mS hc,List.getD_eq_getElem?_getD,mS hc,cE]
  have:nj cls rows m c n=g9 cls c s:=by
   unfold nj
   rw [hr]
   dsimp only
   rw [hs]
  rw [this]
  rfl
 ·rw [List.getElem?_eq_none (by rw [mP,ix];omega),List.getElem?_eq_none (by rw [ix];omega)]
end
theorem sn {cls:List Int} {rows:List (List (List Int))} {m C n:Nat} {eK:List (List Int)} (hr:rows[n]?=some eK) (hs:eK.length≤m):fp cls rows m C (n+1)=fp cls rows m C n:=by
 unfold fp
 refine List.map_congr_left fun c _=>?_
 rw [cE]
 have:nj cls rows m c n=false:=by
  unfold nj
  rw [hr]
  dsimp only
  rw [List.getElem?_eq_none hs]
 rw [this]
 simp
theorem Bd (n:Nat) (h:n < 64):IntKind.u64.wrap (1 * 2 ^ min n IntKind.u64.bits)=((2 ^ n:Nat):Int):=by
 have e:min n IntKind.u64.bits=n:=by show min n 64=n;omega
 have h1:2 ^ n < 2 ^ 64:=Nat.pow_lt_pow_right (by omega) h
 have e2:(2:Int) ^ n=((2 ^ n:Nat):Int):=(Int.natCast_pow 2 n).symm
 rw [e,Int.one_mul,e2]
 generalize 2 ^ n=k at h1
 have h64:(2:Nat) ^ 64=18446744073709551616:=by decide
 rw [h64] at h1
 rw [IntKind.wrap_u64]
 exact Int.emod_eq_of_lt (by omega) (by omega)
theorem pt {p:Nat→Bool} {n:Nat} (h:n≤64):cE p n < 2 ^ 64:=Nat.lt_of_lt_of_le (oa p n) (Nat.pow_le_pow_right (by omega) h)
theorem IS {n:Nat} (h:n < 64):2 ^ n < 2 ^ 64:=Nat.pow_lt_pow_right (by omega) h
def gX (l:List Nat):List AV:=l.map fun z=>kl z
theorem rF (l:List Nat):(gX l).length=l.length:=by simp [gX]
theorem ya {l:List Nat} {i:Nat} {z:Nat} (h:l[i]?=some z):(gX l)[0+((i:Nat):Int).toNat * 1]?=some (kl z):=by simp [gX,h]
theorem yb {l:List Nat} {i:Nat} {z:Nat}:fS (gX l) (0+((i:Nat):Int).toNat * 1) [kl z]=gX (l.set i z):=by
 rw [fT]
 unfold gX
 rw [List.map_set]
 simp
theorem we (n:Nat):(List.replicate n [kl 0]).flatten=gX (List.replicate n 0):=by
 induction n with
 | zero=>rfl
 | succ n ih=>rw [List.replicate_succ,List.flatten_cons,ih,List.replicate_succ];rfl
theorem Ds (l:List Nat):gX l=(ie l).flatten:=by
 induction l with
 | nil=>rfl
 | cons z l ih=>simp [gX,ie] at ih ⊢;exact ih
def kK (l:List (List (List Int))):List (List AV):=l.map fun r=>[.imm 1 (b6 r)]
theorem u6 (l:List (List (List Int))):(kK l).length=l.length:=by simp [kK]
theorem CV {l:List (List (List Int))} {i:Nat} {r:List (List Int)} (h:l[i]?=some r):(kK l)[i]?=some [.imm 1 (b6 r)]:=by simp [kK,h]
structure RD where
 rows:List (List (List Int))
 have_:Nat
 cls:List Int
 C:Nat
structure DB (R:RD):Prop where
 few:R.rows.length≤6
 dom:∀z∈R.cls,0≤z∧z < (R.C:Int)
 sets:∀r∈R.rows,∀s∈r,(∀g∈s,0≤g∧g < (R.cls.length:Int))∧s.length≤1000000
 long:∀r∈R.rows,r.length≤1000000
 many:R.C≤1000000∧R.cls.length≤1000000
def Hb (R:RD) (lv:AV):List AV:=[.imm 1 (kK R.rows),kl R.have_,.imm 1 (aW R.cls),aK R.C,lv]
def lX (R:RD) (m:Nat):List AV:=[.imm 1 (ie (fp R.cls R.rows m R.C R.rows.length)),kl (cE (ku R.rows m) R.rows.length)]
set_option maxHeartbeats 8000000 in
theorem uU (R:RD) (h:DB R) (rb:Nat) (lv:AV) (m:Nat) (hm:m≤1000000):AC Tryz.prog 285 [gT rb,aK m] [(rb,.box (Hb R lv) 268)] fun c L=>c= .agg (lX R m)∧L=[(rb,.box (Hb R lv) 268)]:=by
 refine aV Tryz.func285 rfl Tryz.ntmps285 rfl fun B=>?_
 have hrl:=u6 R.rows
 have hil:=aJ R.cls
 obtain ⟨hC,hN⟩:=h.many
 have hfew:=h.few
 refine W0P ?_
 intros
 refine lg a5 R.C rfl rfl rfl rfl rfl rfl rfl (by omega) (by omega) rfl fun nb=>?_
 rw [show (List.replicate R.C (List.map AV.sc [Value.int .u64 0])).flatten=gX (List.replicate R.C 0) from we R.C]
 repeat' (first|refine Ng ?_|refine ak ?_|refine NG a5 IG ?_|(apply bz;first|refine NJ a5 0 NC ?_|refine NJ a5 1 NC ?_|refine NJ a5 2 NC ?_|refine NJ a5 3 NC ?_|refine NK a5 0 NC ?_|refine NK a5 1 NC ?_|refine NK a5 2 NC ?_|refine NL a5 1 NA (by assumption) rfl ?_|refine NL a5 0 NA (by assumption) rfl ?_|fail)|(apply aI;first|refine NH a5 0 NE ?_|refine NH a5 1 NE ?_|refine NH a5 2 NE ?_|refine NH a5 3 NE ?_|fail)|refine bn a5 fun _=>?_|fail)
 rename_i r4 l5
 refine aM [0,1,4,5,19,20] (α:=Nat) (fun n=>[(21,aK n)]) (fun n=>n≤R.rows.length) (fun n=>[(l5,.box [.sc (.slice (some ⟨nb,0,none⟩) R.C R.C),kl (cE (ku R.rows m) n)] 330),(nb,.box (gX (fp R.cls R.rows m R.C n)) 246),(r4,.box [.sc (.slice none 0 0),kl 0] 330),(rb,.box (Hb R lv) 268)]) (fun n=>R.rows.length - n) 0 rfl ⟨rfl,trivial⟩ (Nat.zero_le _) (fun _ _ hh=>?_) fun n hn=>?_
 ·rw [show fp R.cls R.rows m R.C 0=List.replicate R.C 0 by unfold fp cE;rw [List.map_const',List.length_range]]
  exact hh
 ·try dsimp only [Ns,Nr,Nq,Nk]
  refine W01 ?_
  refine aj rfl (fun h1=>?_) (fun h1=>?_)
  ·have hn2:n < R.rows.length:=by have:=Ny h1;omega
   obtain ⟨eK,hrow⟩:∃z,R.rows[n]?=some z:=⟨_,Nz hn2⟩
   have hrg:=CV hrow
   have hrwl:=bO eK
   have hrm:=Nw hrow
   have hlong:=h.long eK hrm
   have hends:cE (ku R.rows m) (n+1)=cE (ku R.rows m) n ||| (if eK.length=m then 2 ^ n else 0):=by
    rw [cE]
    unfold ku
    rw [hrow]
    simp only [decide_eq_true_eq]
   have hb1:=pt (p:=ku R.rows m) (n:=n) (by omega)
   have hb2:=IS (n:=n) (by omega)
   have hub:=Bd n (by omega)
   clear h1
   refine W0a ?_
   refine aj rfl (fun h1=>?_) (fun h1=>?_)
   ·have hlm:eK.length=m:=by have:=Ny h1;omega
    rw [if_pos hlm] at hends
    have hsk:=sn (cls:=R.cls) (C:=R.C) hrow (Nat.le_of_eq hlm)
    clear h1
    refine bv 4 [(0,.v),(1,.l),(2,.v),(3,.v)] none ?_ trivial rfl (by kernel_rfl) (by kernel_rfl) (by kernel_rfl) bQ (by kernel_rfl) rfl
    refine W0m ?_
    refine yj n rfl rfl rfl trivial ?_
    refine NP [0,1,4,5,6,7,19,20,21,31,33] IG ?_
    refine v4 rfl rfl rfl ?_
    rw [hub,u64_or_nat _ _ hb1 hb2,←hends]
    refine W05 ?_
    refine aj rfl (fun h2=>?_) (fun h2=>?_)
    ·refine W02 ?_
     exact aC (n+1) rfl ⟨by rw [Nv];rfl,trivial⟩ hn2 (by omega) (fun _ _ hh=>by rw [hsk];exact hh)
    ·have:=Nx h2
     omega
   ·have hlm:¬eK.length=m:=by have:=Nx h1;omega
    rw [if_neg hlm,Nat.or_zero] at hends
    clear h1
    refine W01 ?_
    refine aj rfl (fun h2=>?_) (fun h2=>?_)
    ·have hsk:=sn (cls:=R.cls) (C:=R.C) (m:=m) hrow (by have:=Ny h2;omega)
     refine W02 ?_
     exact aC (n+1) rfl ⟨by rw [Nv];rfl,trivial⟩ hn2 (by omega) (fun _ _ hh=>by rw [hsk,hends];exact hh)
    ·have hml:m < eK.length:=by have:=Nx h2;omega
     obtain ⟨s,hs⟩:∃z,eK[m]?=some z:=⟨_,Nz hml⟩
     have hsg:=fv hs
     obtain ⟨hsd,hsl⟩:=h.sets eK hrm s (Nw hs)
     have hsil:=aJ s
     have hst:=zf h.dom hrow hs hsd
     clear h2
     refine W0a ?_
     refine aM [0,1,4,5,6,19,20,21,43,44] (α:=Nat) (fun j=>[(45,aK j)]) (fun j=>j≤s.length) (fun j=>[(l5,.box [.sc (.slice (some ⟨nb,0,none⟩) R.C R.C),kl (cE (ku R.rows m) n)] 330),(nb,.box (gX ((s.take j).foldl (ja R.cls n) (fp R.cls R.rows m R.C n))) 246),(r4,.box [.sc (.slice none 0 0),kl 0] 330),(rb,.box (Hb R lv) 268)]) (fun j=>s.length - j) 0 rfl ⟨rfl,trivial⟩ (Nat.zero_le _) (fun _ _ hh=>hh) fun j hj=>?_
     try dsimp only [Ns,Nr,Nq,Nk]
     refine W01 ?_
     refine aj rfl (fun h2=>?_) (fun h2=>?_)
     ·have hj2:j < s.length:=by have:=Ny h2;omega
      obtain ⟨g,hg⟩:∃z,s[j]?=some z:=⟨_,Nz hj2⟩
      have hgg:=bK hg
      have hgd:=hsd g (Nw hg)
      obtain ⟨c,hc,hcC,hcd⟩:=wf h.dom hgd
      have hcg:(aW R.cls)[g.toNat]?=some [aK c]:=bK hc
      have hnl:((s.take j).foldl (ja R.cls n) (fp R.cls R.rows m R.C n)).length=R.C:=by rw [mP,ix]
      obtain ⟨v,hv⟩:∃z,((s.take j).foldl (ja R.cls n) (fp R.cls R.rows m R.C n))[c]?=some z:=⟨_,Nz (by omega)⟩
      have hv64:v < 2 ^ 64:=by
       have:=tV h.dom (n:=n) (nx:=fp R.cls R.rows m R.C n) ix (s:=s.take j) (fun x hx=>hsd x (List.mem_of_mem_take hx)) c hcC
       rw [hv,List.getD_eq_getElem?_getD,mS hcC] at this
       cases this
       exact FX (pt (by omega)) (by split;exact hb2;omega)
      have htk:s.take (j+1)=s.take j++[g]:=by rw [List.take_add_one,hg];rfl
      have hfs:(s.take (j+1)).foldl (ja R.cls n) (fp R.cls R.rows m R.C n)=((s.take j).foldl (ja R.cls n) (fp R.cls R.rows m R.C n)).set c (v ||| 2 ^ n):=by
       rw [htk,List.foldl_append,List.foldl_cons,List.foldl_nil]
       generalize (s.take j).foldl (ja R.cls n) (fp R.cls R.rows m R.C n)=nx at hv
       unfold ja
       rw [hcd,Int.toNat_natCast,List.getD_eq_getElem?_getD,hv]
       rfl
      generalize (s.take j).foldl (ja R.cls n) (fp R.cls R.rows m R.C n)=nx at *
      have hvc:=ya hv
      have hul:=rF nx
      clear h2
      refine W0a ?_
      refine cu [0,1,4,5,6,9,19,20,21,43,44,45] True rfl (fun Q' K=>?_) (fun _=>?_) (fun hC=>absurd trivial hC)
      ·repeat' (first|refine Ng ?_|refine NG a5 IG ?_|refine NN IG ?_|refine NO NB ?_|(apply bz;first|refine NJ a5 0 NC ?_|refine NJ a5 1 NC ?_|refine NJ a5 2 NC ?_|refine NJ a5 3 NC ?_|refine NK a5 0 NC ?_|refine NK a5 1 NC ?_|refine NK a5 2 NC ?_|refine NL a5 1 NA (by assumption) rfl ?_|refine NL a5 0 NA (by assumption) rfl ?_|fail)|refine NR NA (fun _=>?_) (fun _=>?_))
       all_goals exact K _ _ rfl rfl (by simp_all <;> omega)
      refine bv 14 [(0,.v),(1,.l),(2,.v),(3,.v),(4,.v),(5,.l),(6,.v),(7,.v),(8,.v),(9,.v),(10,.l),(11,.v),(12,.v),(13,.v)] none ?_ trivial rfl (by kernel_rfl) (by kernel_rfl) (by kernel_rfl) bQ (by kernel_rfl) rfl
      refine W0m ?_
      refine ce a5 3 rfl rfl rfl rfl trivial ?_
      refine W0b ?_
      refine du a5 rfl rfl rfl ⟨by omega,by omega⟩ trivial ?_
      repeat' (first|refine aD ?_|fail)
      refine ce a5 1 rfl rfl rfl hvc trivial ?_
      refine W09 ?_
      refine yj n rfl rfl rfl trivial ?_
      repeat' (first|refine aD ?_|fail)
      refine Hg rfl rfl trivial ?_
      refine NP [0,1,4,5,6,19,20,21,43,44,45,61,68,73] IG ?_
      rw [hub,u64_or_nat _ _ hv64 hb2]
      refine W0F ?_
      refine NV a5 1 ND (Nat.ble_eq_true_of_le (by rw [hul,hnl,Int.toNat_natCast];show 0+c * 1+1≤_;omega)) ?_
      rw [yb]
      refine W02 ?_
      exact aC (j+1) rfl ⟨by rw [Nv];rfl,trivial⟩ hj2 (by omega) (fun _ _ hh=>by rw [hfs];exact hh)
     ·have hj2:j=s.length:=by have:=Nx h2;omega
      subst hj2
      rw [List.take_length,hst]
      clear h2
      refine W02 ?_
      exact aC (n+1) rfl ⟨by rw [Nv];rfl,trivial⟩ hn2 (by omega) (fun _ _ hh=>by rw [hends];exact hh)
  ·have hn2:n=R.rows.length:=by have:=Nx h1;omega
   subst hn2
   clear h1
   refine W07 ?_
   have hcu:=rF (fp R.cls R.rows m R.C R.rows.length)
   rw [ix] at hcu
   refine ea (L':=[(nb,.box (gX (fp R.cls R.rows m R.C R.rows.length)) 246),(r4,.box [.sc (.slice (some ⟨nb,0,none⟩) R.C R.C),kl (cE (ku R.rows m) R.rows.length)] 330),(rb,.box (Hb R lv) 268)]) (List.sublist_cons_self ..) ?_
   refine bf (n4 (k:=0) (sz:=1) (n:=R.C) (cap:=R.C) (l:=ie (fp R.cls R.rows m R.C R.rows.length)) rfl (by rw [←Ds,List.take_of_length_le (by omega)]) (by omega) (fun e he=>by unfold ie at he;obtain ⟨z,_,rfl⟩:=List.mem_map.1 he;rfl) (by rw [pa,ix]) (Nat.le_refl _) (by unfold maxLen;omega)) ?_
   exact gG (cs:=[.agg (lX R m)]) [(rb,.box (Hb R lv) 268)] ⟨⟨_,0,_,_,rfl,rfl,.inr ⟨eL a5 rfl,rfl⟩⟩,trivial⟩ (List.sublist_cons_self ..) ⟨rfl,rfl⟩
def Cv (R:RD) (k:Nat):List (List AV):=(List.range k).map (lX R)
theorem AF (R:RD) (k:Nat):(Cv R k).length=k:=by simp [Cv]
theorem wQ (R:RD) (k:Nat):Cv R k++[lX R k]=Cv R (k+1):=by simp [Cv,List.range_succ]
theorem HX (R:RD) {k m:Nat} (h:m < k):(Cv R k)[m]?=some (lX R m):=by simp [Cv,h]
abbrev sD (R:RD) (rb k:Nat) (q:Option (Nat×Nat)):Nat×AB:=(rb,.box (Hb R (.vec q 2 (Cv R k))) 268)
abbrev fI (R:RD) (rb k:Nat) (q:Option (Nat×Nat)):AL:=sD R rb k q::tok q 330 2 k
def qX (R:RD) (rb:Nat) (u:AV):AV→AL→Prop:=fun c L=>c=u∧∃k q,k≤1000001∧L=fI R rb k q
theorem LD {a b:Nat×AB} {X:AL}:(a::b::X).Perm (b::a::X):=List.Perm.swap ..
set_option maxHeartbeats 4000000 in
theorem wK (R:RD) (h:DB R) (rb k:Nat) (q:Option (Nat×Nat)) (hk:k≤1000001) (m:Nat) (hm:m≤1000000):AC Tryz.prog 255 [gT rb,aK m] (fI R rb k q) (qX R rb (.agg (lX R m))):=by
 refine aV Tryz.func255 rfl Tryz.ntmps255 rfl fun B=>?_
 repeat' (first|refine Ng ?_|refine ak ?_|refine bn a5 fun _=>?_|fail)
 rename_i r4
 refine aM [0,1,4] (α:=Nat×Option (Nat×Nat)) (fun _=>[]) (fun s=>s.1≤1000001) (fun s=>(r4,.box [.sc (.slice none 0 0),kl 0] 330)::fI R rb s.1 s.2) (fun s=>m+1 - s.1) (k,q) rfl trivial hk (fun _ _ hh=>hh) ?_
 rintro ⟨k1,q1⟩ hk1
 dsimp only at hk1 ⊢
 try dsimp only [Ns,Nr,Nq,Nk]
 have hlen:=AF R k1
 refine W04 ?_
 refine aj rfl (fun h1=>?_) (fun h1=>?_)
 ·have hkm:k1≤m:=by have:=Ny h1;omega
  have hml:=uU R h rb (.vec q1 2 (Cv R k1)) k1 (by omega)
  clear h1
  refine W1S ?_
  refine dM [.cell (rb,4,.vec q1 2 (Cv R k1))] 14 [(0,.v),(1,.v),(2,.v),(3,.v),(4,.k),(5,.v),(6,.v),(7,.v),(8,.v),(9,.l),(10,.v),(11,.f),(12,.v),(13,.e)] none ?_ trivial rfl (by kernel_rfl) (by kernel_rfl) (by kernel_rfl) bQ (by kernel_rfl) rfl
  refine W09 ?_
  refine eo a5 0 rfl rfl rfl (oC 1 rfl rfl) trivial ?_
  refine W1D ?_
  refine Ae [sD R rb k1 q1] ((r4,.box [.sc (.slice none 0 0),kl 0] 330)::tok q1 330 2 k1) hml rfl (by rw [hlen];rfl) LD trivial (fun c L1 ⟨hc,hL⟩ hK=>by subst hL;exact oC 0 rfl rfl) fun c L1 ⟨hc,hL⟩=>?_
  subst hc;subst hL
  refine W0M ?_
  refine dP a5 [sD R rb k1 q1,(r4,.box [.sc (.slice none 0 0),kl 0] 330)] rfl rfl rfl rfl ?_ (by rw [hlen];simp;omega) (by rw [hlen];simp;omega) trivial fun q'=>?_
  ·rw [hlen]
   exact List.perm_append_comm (l₁:=[_,_])
  refine NP [0,1,4,12,25] IG ?_
  refine aL (aQ (L':=sD R rb k1 q1::(r4,.box [.sc (.slice none 0 0),kl 0] 330)::tok q' 330 2 (Cv R k1++[lX R k1]).length) (List.perm_append_comm (l₂:=[_,_]))) ?_
  refine W05 ?_
  refine aC (k1+1,q') rfl trivial (by dsimp only;omega) (by dsimp only;omega) (fun σ w hh=>?_)
  rw [wQ,AF] at hh
  refine dw.perm (L:=sD R rb (k1+1) q'::(r4,.box [.sc (.slice none 0 0),kl 0] 330)::tok q' 330 2 (k1+1)) ?_ LD
  unfold sD
  rw [←wQ]
  exact hh
 ·have hkm:m < k1:=by have:=Nx h1;omega
  have hlg:=HX R hkm
  clear h1
  repeat' (first|refine Ng ?_|refine NG a5 IG ?_|(apply bz;first|refine NJ a5 0 NC ?_|refine NJ a5 1 NC ?_|refine NJ a5 2 NC ?_|refine NJ a5 3 NC ?_|refine NK a5 0 NC ?_|refine NK a5 1 NC ?_|refine NK a5 2 NC ?_|refine NL a5 1 NA (by assumption) rfl ?_|refine NL a5 0 NA (by assumption) rfl ?_|fail)|(apply aO;first|refine aN a5 ?_|refine aF a5 ?_)|(apply aI;first|refine NH a5 0 NE ?_|refine NH a5 1 NE ?_|refine NH a5 2 NE ?_|refine NH a5 3 NE ?_|fail))
  exact gG (cs:=[.agg (lX R m)]) (fI R rb k1 q1) ⟨⟨_,0,_,_,rfl,rfl,.inr ⟨eL a5 rfl,rfl⟩⟩,trivial⟩ (List.sublist_cons_self ..) ⟨rfl,k1,q1,hk1,rfl⟩
def nA (p:Pl):List AV:=[aK p.1,kl p.2]
theorem CT (R:RD) (rb k:Nat) (q:Option (Nat×Nat)) (hk:k≤1000001):AC Tryz.prog 180 [gT rb] (fI R rb k q) (qX R rb (.agg (nA (0,R.have_)))):=by
 refine aV Tryz.func180 rfl Tryz.ntmps180 rfl fun B=>?_
 refine W0D ?_
 intros
 exact gG (cs:=[.agg (nA (0,R.have_))]) (fI R rb k q) ⟨⟨_,0,_,_,rfl,rfl,.inr ⟨eL a5 rfl,rfl⟩⟩,trivial⟩ (List.sublist_cons_self ..) ⟨rfl,k,q,hk,rfl⟩
theorem FR {R:RD} {m c:Nat} (hc:c < R.C):(ie (fp R.cls R.rows m R.C R.rows.length))[((c:Nat):Int).toNat]?=some [kl (kD R.cls R.rows m c)]:=by
 rw [Int.toNat_natCast]
 exact xF (mS hc)
set_option maxHeartbeats 4000000 in
theorem BD (R:RD) (h:DB R) (rb k:Nat) (q:Option (Nat×Nat)) (hk:k≤1000001) (p:Pl) (hp:p.1≤1000000) (hp2:p.2 < 2 ^ 64) (c:Nat) (hc:c < R.C):AC Tryz.prog 181 [gT rb,.agg (nA p),aK c] (fI R rb k q) (qX R rb (.agg (nA (cz R.cls R.rows p c)))):=by
 refine aV Tryz.func181 rfl Tryz.ntmps181 rfl fun B=>?_
 obtain ⟨pm,pr⟩:=p
 dsimp only at hp hp2
 have hlv:=wK R h rb k q hk pm hp
 have hnl:=FR (R:=R) (m:=pm) hc
 have hn64:kD R.cls R.rows pm c < 2 ^ 64:=pt (by have:=h.few;omega)
 have hbe:cz R.cls R.rows (pm,pr) c=if pr &&& kD R.cls R.rows pm c=0 then (0,0) else (pm+1,pr &&& kD R.cls R.rows pm c):=rfl
 refine W0G ?_
 intros
 rename_i r6
 refine aj rfl (fun h1=>?_) (fun h1=>?_)
 ·clear h1
  refine W01 ?_
  refine b7 (fI R rb k q) [(r6,.box [aK 0,kl 0] 261)] hlv rfl rfl (List.perm_append_comm (l₁:=[_])) rfl fun c1 L1 ⟨hc1,k1,q1,hk1,hL⟩=>?_
  subst hc1;subst hL
  refine aL (aQ (L':=(r6,.box [aK 0,kl 0] 261)::fI R rb k1 q1) (List.perm_append_comm (l₂:=[_]))) ?_
  refine W0r ?_
  refine v3 rfl rfl rfl ?_
  rw [u64_and_nat _ _ hp2 hn64]
  refine W01 ?_
  refine aj rfl (fun h2=>?_) (fun h2=>?_)
  ·have hz:pr &&& kD R.cls R.rows pm c=0:=by have:=Ny h2;omega
   rw [if_pos hz] at hbe
   rw [hbe]
   refine W05 ?_
   exact gG (cs:=[.agg (nA (0,0))]) (fI R rb k1 q1) ⟨⟨_,0,_,_,rfl,rfl,.inr ⟨eL a5 rfl,rfl⟩⟩,trivial⟩ (List.sublist_cons_self ..) ⟨rfl,k1,q1,hk1,rfl⟩
  ·have hz:pr &&& kD R.cls R.rows pm c≠0:=by have:=Nx h2;omega
   rw [if_neg hz] at hbe
   rw [hbe]
   refine W0f ?_
   refine gG (cs:=[.agg (nA (pm+1,pr &&& kD R.cls R.rows pm c))]) (fI R rb k1 q1) ⟨⟨_,0,_,_,rfl,rfl,.inr ⟨eL a5 rfl,rfl⟩⟩,trivial⟩ (List.sublist_cons_self ..) ⟨rfl,k1,q1,hk1,rfl⟩
 ·have hz:pr=0:=by have:=Nx h1;simpa using this
  subst hz
  rw [Nat.zero_and,if_pos rfl] at hbe
  rw [hbe]
  refine W1b ?_
  exact gG (cs:=[.agg (nA (0,0))]) (fI R rb k q) ⟨⟨_,0,_,_,rfl,rfl,.inr ⟨eL a5 rfl,rfl⟩⟩,trivial⟩ (List.sublist_cons_self ..) ⟨rfl,k,q,hk,rfl⟩
set_option maxHeartbeats 4000000 in
theorem HF (R:RD) (h:DB R) (rb k:Nat) (q:Option (Nat×Nat)) (hk:k≤1000001) (p:Pl) (hp:p.1≤1000000) (hp2:p.2 < 2 ^ 64):AC Tryz.prog 182 [gT rb,.agg (nA p)] (fI R rb k q) (qX R rb (kl (kw R.rows p))):=by
 refine aV Tryz.func182 rfl Tryz.ntmps182 rfl fun B=>?_
 obtain ⟨pm,pr⟩:=p
 dsimp only at hp hp2
 have hlv:=wK R h rb k q hk pm hp
 have hn64:cE (ku R.rows pm) R.rows.length < 2 ^ 64:=pt (by have:=h.few;omega)
 have hen:kw R.rows (pm,pr)=if pr=0 then 0 else pr &&& cE (ku R.rows pm) R.rows.length:=rfl
 refine W08 ?_
 refine aj rfl (fun h1=>?_) (fun h1=>?_)
 ·have hz:pr=0:=by have:=Ny h1;omega
  rw [if_pos hz] at hen
  rw [hen]
  refine W01 ?_
  exact NM IG ⟨rfl,k,q,hk,rfl⟩
 ·have hz:pr≠0:=by have:=Nx h1;omega
  rw [if_neg hz] at hen
  rw [hen]
  clear h1
  repeat' (first|refine Ng ?_|fail)
  refine bv 7 [(0,.v),(1,.v),(2,.v),(3,.v),(4,.v),(5,.e),(6,.v)] none ?_ trivial rfl (by kernel_rfl) (by kernel_rfl) (by kernel_rfl) bQ (by kernel_rfl) rfl
  refine W09 ?_
  refine iF (fI R rb k q) [] hlv rfl rfl (by rw [List.append_nil]) trivial fun c1 L1 ⟨hc1,k1,q1,hk1,hL⟩=>?_
  subst hc1;subst hL
  refine W09 ?_
  refine NP [9,14] IG ?_
  refine v3 rfl rfl rfl ?_
  rw [u64_and_nat _ _ hp2 hn64]
  refine W01 ?_
  exact NM IG ⟨rfl,k1,q1,hk1,by rw [List.append_nil]⟩
def rC (m r:Nat):List Int:=[m,0,0,0,0,0,0,0,r,0,0,0,0,0,0,0]
def jQ (p:Pl):ByteArray:=(rC p.1 p.2).foldl (fun r n=>r.push (UInt8.ofNat n.toNat)) ByteArray.empty
def lO (p:Pl):Prop:=p.1 < 256∧p.2 < 256
theorem zL (p:Pl):(jQ p).data.toList=(rC p.1 p.2).map fun n=>UInt8.ofNat n.toNat:=by
 unfold jQ
 have:∀(l:List Int) (b:ByteArray),(l.foldl (fun r n=>r.push (UInt8.ofNat n.toNat)) b).data.toList=b.data.toList++l.map fun n=>UInt8.ofNat n.toNat:=by
  intro l
  induction l with
  | nil=>intro b;simp
  | cons x l ih=>intro b;rw [List.foldl_cons,ih];simp [ByteArray.push]
 rw [this]
 rfl
theorem GC {a b:Nat} (ha:a < 256) (hb:b < 256) (h:UInt8.ofNat a=UInt8.ofNat b):a=b:=by
 have:=congrArg UInt8.toNat h
 simpa [UInt8.toNat_ofNat',Nat.mod_eq_of_lt ha,Nat.mod_eq_of_lt hb] using this
theorem ui {p q:Pl} (hp:lO p) (hq:lO q) (h:jQ p=jQ q):p=q:=by
 have hd:=congrArg (fun b=>b.data.toList) h
 simp only [zL] at hd
 unfold rC at hd
 simp only [Nq,List.cons.injEq,Int.toNat_natCast] at hd
 exact Prod.ext (GC hp.1 hq.1 hd.1) (GC hp.2 hq.2 hd.2.2.2.2.2.2.2.2.1)
def vw (M:List Pl) (v:Value):Option AV:=match v with
 | .string s=>(M.findIdx? fun p=>decide (jQ p=s)).map fun i=>aK (i:Nat)
 | _=>none
theorem Is:vw []=fun _=>none:=by
 funext v
 unfold vw
 split <;> rfl
section
variable {M:List Pl} (hM:∀x∈M,lO x) {p:Pl} (hp:lO p)
include hM hp
theorem xp (h:p∈M):vw M (.string (jQ p))=some (aK (M.idxOf p:Nat)):=by
  have hi:=List.idxOf_lt_length_of_mem h
  have:(M.findIdx? fun x=>decide (jQ x=jQ p))=some (M.idxOf p):=by
    rw [List.findIdx?_eq_some_iff_getElem]
    refine ⟨hi,by simp [List.getElem_idxOf hi],fun j hj=>?_⟩
    have hne:M[j]≠p:=by
      intro e
      have:=List.not_of_lt_findIdx (p:=(·==p)) (xs:=M) hj
      rw [e] at this
      simp at this
    simp only [decide_eq_true_eq]
    exact fun e=>hne (ui (hM _ (List.getElem_mem _)) hp e)
  unfold vw
  dsimp only
  rw [this]
  rfl
theorem Gr (h:p∉M):vw M (.string (jQ p))=none:=by
 have:(M.findIdx? fun x=>decide (jQ x=jQ p))=none:=by
  rw [List.findIdx?_eq_none_iff]
  intro x hx
  rw [decide_eq_false_iff_not]
  exact fun e=>h (ui (hM x hx) hp e▸hx)
 unfold vw
 dsimp only
 rw [this]
 rfl
theorem It (h:p∉M):vw (M++[p]) (.string (jQ p))=some (aK (M.length:Nat)):=by
 rw [xp (fun x hx=>by rw [List.mem_append,List.mem_singleton] at hx;rcases hx with hx | rfl;exact hM x hx;exact hp) hp (by simp),List.idxOf_append,if_neg h,List.idxOf_cons_self,Nat.zero_add]
end
theorem Df {M:List Pl} {p:Pl}:∀v,v≠ .string (jQ p)→vw (M++[p]) v=vw M v:=by
 intro v hv
 unfold vw
 split
 ·rename_i s
  have:decide (jQ p=s)=false:=by rw [decide_eq_false_iff_not];exact fun e=>hv (by rw [e])
  rw [List.findIdx?_append]
  simp [this]
 ·rfl
def rD (l:List Int):List AV:=l.map fun z=> .sc (.int .u8 z)
def sQ (m r i:Nat):List Int:=if i=0 then List.replicate 16 0 else rC m r
theorem LJ {m r:Nat} (hm:m < 256) (hr:r < 256) {i:Nat} (hi:i < 8):fS (fS (rD (sQ m r i)) (0+i * 1) [.sc (.int .u8 (IntKind.u8.wrap ((m:Int) / 2 ^ min (8 * i) IntKind.i64.bits)))]) (0+(8+i) * 1) [.sc (.int .u8 (IntKind.u8.wrap ((r:Int) / 2 ^ min (8 * i) IntKind.u64.bits)))]=rD (sQ m r (i+1)):=by
 have h0:∀z:Nat,z < 256→∀k,0 < k→k < 8→IntKind.u8.wrap ((z:Int) / 2 ^ min (8 * k) 64)=0:=by
  intro z hz k hk hk8
  have:(z:Int) / 2 ^ min (8 * k) 64=0:=by
   have e:min (8 * k) 64=8 * k:=by omega
   rw [e]
   have h1:2 ^ 8≤2 ^ (8 * k):=Nat.pow_le_pow_right (by omega) (by omega)
   have h2:z / 2 ^ (8 * k)=0:=Nat.div_eq_of_lt (by omega)
   have h3:(2:Int) ^ (8 * k)=((2 ^ (8 * k):Nat):Int):=(Int.natCast_pow 2 _).symm
   rw [h3,←Int.natCast_ediv,h2]
   rfl
  rw [this]
  decide
 have h1:∀z:Nat,z < 256→IntKind.u8.wrap ((z:Int) / 2 ^ min (8 * 0) 64)=(z:Int):=by
  intro z hz
  rw [Nat.mul_zero,Nat.zero_min,Int.pow_zero,Int.ediv_one,IntKind.wrap_u8]
  omega
 show fS (fS _ _ [.sc (.int .u8 (IntKind.u8.wrap ((m:Int) / 2 ^ min (8 * i) 64)))]) _ [.sc (.int .u8 (IntKind.u8.wrap ((r:Int) / 2 ^ min (8 * i) 64)))]=_
 match i,hi with
 | 0,_=>rw [h1 m hm,h1 r hr];rfl
 | 1,_=>rw [h0 m hm 1 (by omega) (by omega),h0 r hr 1 (by omega) (by omega)];rfl
 | 2,_=>rw [h0 m hm 2 (by omega) (by omega),h0 r hr 2 (by omega) (by omega)];rfl
 | 3,_=>rw [h0 m hm 3 (by omega) (by omega),h0 r hr 3 (by omega) (by omega)];rfl
 | 4,_=>rw [h0 m hm 4 (by omega) (by omega),h0 r hr 4 (by omega) (by omega)];rfl
 | 5,_=>rw [h0 m hm 5 (by omega) (by omega),h0 r hr 5 (by omega) (by omega)];rfl
 | 6,_=>rw [h0 m hm 6 (by omega) (by omega),h0 r hr 6 (by omega) (by omega)];rfl
 | 7,_=>rw [h0 m hm 7 (by omega) (by omega),h0 r hr 7 (by omega) (by omega)];rfl
set_option maxHeartbeats 4000000 in
theorem Ix (p:Pl) (hp:lO p):bV Tryz.prog 179 [.agg (nA p)] (.sc (.string (jQ p))):=by
 refine aV Tryz.func179 rfl Tryz.ntmps179 rfl fun B=>?_
 obtain ⟨m,r⟩:=p
 obtain ⟨hm,hr⟩:=hp
 dsimp only at hm hr
 repeat' (first|refine Ng ?_|refine ak ?_|refine NG a5 IG ?_|refine bq ?_|refine bn a5 fun _=>?_|fail)
 rename_i ab
 refine aM [1,3] (α:=Nat) (fun i=>[(5,aK i)]) (fun i=>i≤8) (fun i=>[(ab,.box (rD (sQ m r i)) 328)]) (fun i=>8 - i) 0 rfl ⟨rfl,trivial⟩ (Nat.zero_le _) (fun _ _ h=>h) fun i hi=>?_
 try dsimp only [Ns,Nr,Nq,Nk]
 refine W01 ?_
 refine aj rfl (fun h1=>?_) (fun h1=>?_)
 ·have hi8:i < 8:=by have:=Ny h1;omega
  have hst:=LJ hm hr hi8
  have hcl:(rD (sQ m r i)).length=16:=by unfold rD sQ;split <;> rfl
  clear h1
  refine W0B ?_
  refine z5 (8 * i) rfl rfl (by rw [Int.natCast_mul];rfl) rfl ?_
  refine v6 a5 rfl rfl rfl rfl rfl rfl ?_
  refine yZ a5 i rfl rfl rfl rfl (by omega) rfl ?_
  refine NV a5 0 ND (Nat.ble_eq_true_of_le (by rw [hcl];show 0+i * 1+1≤16;omega)) ?_
  refine W02 ?_
  refine z5 (8 * i) rfl rfl (by rw [Int.natCast_mul];rfl) rfl ?_
  refine v6 a5 rfl rfl rfl rfl rfl rfl ?_
  refine yZ a5 (8+i) rfl rfl rfl (by rw [Nv];rfl) (by omega) rfl ?_
  refine NV a5 0 ND (Nat.ble_eq_true_of_le (by rw [jM,hcl];show 0+(8+i) * 1+1≤16;omega)) ?_
  refine W02 ?_
  exact aC (i+1) rfl ⟨by rw [Nv];rfl,trivial⟩ (by omega) (by omega) (fun _ _ h=>by rw [←hst];exact h)
 ·have hi8:i=8:=by have:=Nx h1;omega
  subst hi8
  repeat' (first|refine Ng ?_|fail)
  refine FM a5 rfl rfl rfl ?_
  refine FK a5 0 (rC m r) rfl rfl rfl rfl rfl rfl rfl rfl rfl ?_
  refine W01 ?_
  refine ea (List.nil_sublist _) ?_
  exact NQ NA
section
variable {P:Program} {tt:TT} {r:Option Nat} {ops:Array Oper} {Q:Exit→Act→World→Prop} {nt:Nat} {D:List Deferred} {fr:cf} {B:Bs} {L:AL} {rest:List Oper} {d:Nat} {ty t t':TypeId} {pos:String} {af:Array Edge} {x y z:Operand} {u:AV}
theorem I2 (ok:eF P tt) (n:Nat) {e sz by_:Nat} {k k':IntKind} {b:Int} {zs:List Value} (ht:jP tt t=some (e,sz,by_)) (hz:zI tt e=some zs) (hzl:Nat.beq zs.length sz=true) (hx:bE fr x=some (.sc (.int k 0))) (hy:bE fr y=some (.sc (.int k' b))) (hb:b=(n:Int)) (hby:by_ * n≤281474976710656) (h63:n≤9223372036854775807) (hd:Nat.ble nt d=false)
  (h:∀b,bP P r ops Q nt D rest ((d,.vec (some (b,n)) sz [])::fr) B ((b,.vec e sz 0 n)::L)):bP P r ops Q nt D (⟨some d,.makeSlice t x y,ty,pos,af,none⟩::rest) fr B L:=
 cT hd rfl (E3 (bB ok ht).1 (dX ok hz) (Nat.eq_of_beq_eq_true hzl) (bB ok ht).2 hx hy hb hby h63) fun c L' ⟨b,h1,h2⟩=>by subst h1;subst h2;exact h b
end
def uZ (nb kb mb:Nat) (M:List Pl) (q:Option (Nat×Nat)):AL:=(nb,.box [.sc (.map (some kb))] 129)::(kb,cx .string (vw M))::(mb,.box [.vec q 2 (M.map nA)] 259)::tok q 261 2 M.length
def GN (nb kb mb:Nat) (M:List Pl) (u:AV):AV→AL→Prop:=fun c L=>c=u∧∃q,L=uZ nb kb mb M q
set_option maxHeartbeats 4000000 in
theorem AH (nb kb mb:Nat) (M:List Pl) (hM:∀x∈M,lO x) (hl:M.length≤1000000) (q:Option (Nat×Nat)) (p:Pl) (hp:lO p):AC Tryz.prog 178 ([.agg (nA p)]++[gT nb,gT mb]) (uZ nb kb mb M q) (GN nb kb mb (eJ M p) (aK ((eJ M p).idxOf p:Nat))):=by
 refine aV Tryz.func178 rfl Tryz.ntmps178 rfl fun B=>?_
 haveI:=AD.mk (Ix p hp)
 have hml:(M.map nA).length=M.length:=Nu ..
 unfold uZ
 repeat' (first|refine Ng ?_|refine NG a5 IG ?_|(apply bz;first|refine NJ a5 0 NC ?_|refine NJ a5 1 NC ?_|refine NJ a5 2 NC ?_|refine NJ a5 3 NC ?_|refine NK a5 0 NC ?_|refine NK a5 1 NC ?_|refine NK a5 2 NC ?_|refine NL a5 1 NA (by assumption) rfl ?_|refine NL a5 0 NA (by assumption) rfl ?_|fail)|refine bq ?_|(apply bA;refine bw ?_)|fail)
 refine jq 1 (.int .i64 0) Tryz.underlying129 Tryz.underlying9 rfl rfl trivial rfl (by kernel_rfl) rfl ?_
 by_cases hm:p∈M
 ·have hg:=xp hM hp hm
  have ht:=gE hm
  rw [hg,ht]
  refine W0W ?_
  exact NM IG ⟨rfl,q,rfl⟩
 ·have hg:=Gr hM hp hm
  have hpu:=It hM hp hm
  have ht:=i8 hm
  have hn:=oZ hm
  rw [hg]
  repeat' (first|refine Ng ?_|refine NG a5 IG ?_|(apply bz;first|refine NJ a5 0 NC ?_|refine NJ a5 1 NC ?_|refine NJ a5 2 NC ?_|refine NJ a5 3 NC ?_|refine NK a5 0 NC ?_|refine NK a5 1 NC ?_|refine NK a5 2 NC ?_|refine NL a5 1 NA (by assumption) rfl ?_|refine NL a5 0 NA (by assumption) rfl ?_|fail)|refine bR rfl ?_)
  refine dg 1 (vw (M++[p])) Tryz.underlying129 Tryz.underlying9 rfl rfl trivial (by rw [hml];rfl) rfl hpu Df ?_
  refine W0d ?_
  refine NS a5 [(nb,.box [.sc (.map (some kb))] 129),(kb,cx .string (vw (M++[p]))),(mb,.box [.vec q 2 (M.map nA)] 259)] NB ?_ (by rw [hml];simp;omega) (by rw [hml];simp;omega) rfl fun q'=>?_
  ·rw [hml]
   exact List.perm_append_comm (l₁:=[_,_,_])
  have hsn:M.map nA++[nA p]=(M++[p]).map nA:=by rw [List.map_append];rfl
  refine aL (aQ (L':=(nb,.box [.sc (.map (some kb))] 129)::(kb,cx .string (vw (M++[p])))::(mb,.box [.vec q 2 (M.map nA)] 259)::tok q' 261 2 (M.map nA++[nA p]).length) (List.perm_append_comm (l₂:=[_,_,_]))) ?_
  refine W05 ?_
  refine NM IG ⟨?_,q',?_⟩
  ·rw [hml,hn]
  ·rw [ht,hsn,Nu]
   unfold uZ
   rw [←hsn]
   rfl
theorem BC (r:bk):bV Tryz.prog 185 [.agg (bI r)] (.tup [.imm 1 (b6 r.Back),dy true]):=by
 refine aV Tryz.func185 rfl Tryz.ntmps185 rfl fun B=>?_
 refine W08 ?_
 exact NW NB
set_option maxHeartbeats 4000000 in
theorem Cf (r:bk) (h1:r.In.length≤1000000) (h2:r.Ahead.length≤1000000):bV Tryz.prog 184 [.agg (bI r)] (.tup [.imm 1 (b6 (ep r)),dy (!r.In.isEmpty)]):=by
 refine aV Tryz.func184 rfl Tryz.ntmps184 rfl fun B=>?_
 have hil:=bO r.In
 have hal:=bO r.Ahead
 refine W08 ?_
 refine aj rfl (fun h=>?_) (fun h=>?_)
 ·have hz:r.In=[]:=List.eq_nil_of_length_eq_zero (by have:=Ny h;omega)
  unfold ep
  rw [hz]
  clear h
  refine W01 ?_
  refine bf (bH (t:=2) (c':= .imm 1 []) rfl fun σ v h=>jm 1 h) ?_
  exact NW NB
 ·have hz:r.In≠[]:=fun e=>by have:=Nx h;rw [hil,e] at this;simp at this
  have he:r.In.isEmpty=false:=by cases hr:r.In;exact absurd hr hz;rfl
  unfold ep
  rw [he]
  clear h
  refine W02 ?_
  refine I2 a5 (r.In.length+r.Ahead.length) rfl rfl rfl rfl rfl (by rw [hil,hal,Nv]) (by omega) (by omega) rfl fun b=>?_
  refine W01 ?_
  refine NS a5 [] NB (by rw [List.append_nil];exact Nn _) (by simp;omega) (by simp;omega) rfl fun q1=>?_
  refine W01 ?_
  refine NS a5 [] NB (Nn _) (by simp;omega) (by simp;omega) rfl fun q2=>?_
  refine W01 ?_
  have hra:b6 (r.In++r.Ahead)=[]++b6 r.In++b6 r.Ahead:=by simp [b6]
  refine bf (bH (t:=2) (c':= .imm 1 (b6 (r.In++r.Ahead))) rfl fun σ v h=>by rw [hra];exact VR.im h) ?_
  refine ea (List.nil_sublist _) ?_
  exact NW NB
end
end Go.Proofs.YtpmdfoaadejmkaaGreatDoor
