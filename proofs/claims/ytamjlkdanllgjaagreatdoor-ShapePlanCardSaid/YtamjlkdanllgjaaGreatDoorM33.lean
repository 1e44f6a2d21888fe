/-
  What comes where so many sets were met: the walk.
-/
import Derived.Test.YtamjlkdanllgjaaGreatDoorM32
import Derived.Test.YtamjlkdanllgjaaGreatDoorM13
import Derived.Test.YtamjlkdanllgjaaGreatDoorM12
import Derived.Test.YtamjlkdanllgjaaGreatDoorM06
import Derived.Test.YtamjlkdanllgjaaGreatDoorM10
namespace Go.Proofs.YtamjlkdanllgjaaGreatDoor
open Go.RowKit
attribute [local irreducible] AT bF AX AO Av Kt b8 d9 DA cu
set_option maxRecDepth 8000
def io (cls:List Int) (n:Nat) (nx:List Nat) (g:Int):List Nat:=nx.set (cls.getD g.toNat 0).toNat (nx.getD (cls.getD g.toNat 0).toNat 0 ||| 2 ^ n)
def eZ (cls:List Int) (rows:List (List (List Int))) (m C n:Nat):List Nat:=(List.range C).map fun c=>cw (mh cls rows m c) n
theorem gS {cls:List Int} {rows:List (List (List Int))} {m C n:Nat}:(eZ cls rows m C n).length=C:=by simp [eZ]
theorem lV {cls:List Int} {rows:List (List (List Int))} {m C n c:Nat} (h:c < C):(eZ cls rows m C n)[c]?=some (cw (mh cls rows m c) n):=by simp [eZ,h]
theorem uL {cls:List Int} {c:Nat} {s:List Int} {g:Int}:fH cls c (s++[g])=(fH cls c s || fH cls c [g]):=by simp [fH]
theorem lT {cls:List Int} {n:Nat}:∀{s:List Int} {nx:List Nat},(s.foldl (io cls n) nx).length=nx.length
 | [],_=>rfl
 | g::s,nx=>by rw [List.foldl_cons,lT];unfold io;rw [List.length_set]
section
variable {cls:List Int} {C:Nat} (hd:∀z∈cls,0≤z∧z < (C:Int))
include hd
theorem vJ {g:Int} (hg:0≤g∧g < cls.length):∃c:Nat,cls[g.toNat]?=some (c:Int)∧c < C∧cls.getD g.toNat 0=(c:Int):=by
 obtain ⟨z,hz⟩:∃z,cls[g.toNat]?=some z:=⟨_,Oz (by omega)⟩
 obtain ⟨h0,h1⟩:=hd z (Ow hz)
 refine ⟨z.toNat,by rw [hz];congr 1;omega,by omega,?_⟩
 rw [List.getD_eq_getElem?_getD,hz]
 show z=_
 omega
theorem tG {n:Nat} {nx:List Nat} (hl:nx.length=C):∀{s:List Int},(∀g∈s,0≤g∧g < (cls.length:Int))→∀c,c < C→(s.foldl (io cls n) nx)[c]?=some (nx.getD c 0 ||| (if fH cls c s=true then 2 ^ n else 0)):=by
 intro s
 refine o9 (P:=fun s=>(∀g∈s,0≤g∧g < (cls.length:Int))→∀c,c < C→(s.foldl (io cls n) nx)[c]?=some (nx.getD c 0 ||| (if fH cls c s=true then 2 ^ n else 0))) ?_ ?_ s
 ·intro _ c hc
  rw [List.foldl_nil,List.getD_eq_getElem?_getD,Oz (by omega)]
  simp [fH]
 ·intro s g ih hs c hc
  have ih':=ih (fun x hx=>hs x (by simp [hx]))
  obtain ⟨k,hk,hkC,hkd⟩:=vJ hd (hs g (by simp))
  have hml:=lT (cls:=cls) (n:=n) (s:=s) (nx:=nx)
  rw [List.foldl_append,List.foldl_cons,List.foldl_nil]
  unfold io at hml ⊢
  rw [hkd,Int.toNat_natCast]
  have hg1:fH cls c [g]=decide (k=c):=by
   unfold fH
   have hg:=hs g (by simp)
   have hkd2:cls.getD g.toNat (-1)=(k:Int):=by rw [List.getD_eq_getElem?_getD,hk];rfl
   simp only [List.any_cons,List.any_nil,Bool.or_false,hkd2,decide_eq_true hg.1,decide_eq_true hg.2,Bool.true_and]
   exact decide_eq_decide.2 (by omega)
  rw [uL,hg1]
  by_cases hkc:k=c
  ·subst hkc
   rw [List.getElem?_set_self (by omega),List.getD_eq_getElem?_getD]
   have:=ih' k hc
   unfold io at this
   rw [this]
   simp only [Option.getD_some,decide_true,Bool.or_true,if_true]
   congr 1
   split
   ·rw [Nat.or_assoc,Nat.or_self]
   ·rw [Nat.or_zero]
  ·rw [List.getElem?_set_ne hkc]
   have:=ih' c hc
   unfold io at this
   rw [this]
   simp [hkc]
theorem yp {rows:List (List (List Int))} {m n:Nat} {fA:List (List Int)} (hr:rows[n]?=some fA) {s:List Int} (hs:fA[m]?=some s) (hg:∀g∈s,0≤g∧g < (cls.length:Int)):s.foldl (io cls n) (eZ cls rows m C n)=eZ cls rows m C (n+1):=by
 apply List.ext_getElem?
 intro c
 by_cases hc:c < C
 ·rw [tG hd gS hg c hc,lV hc,List.getD_eq_getElem?_getD,lV hc,cw]
  have:mh cls rows m c n=fH cls c s:=by
   unfold mh
   rw [hr]
   dsimp only
   rw [hs]
  rw [this]
  rfl
 ·rw [List.getElem?_eq_none (by rw [lT,gS];omega),List.getElem?_eq_none (by rw [gS];omega)]
end
theorem rS {cls:List Int} {rows:List (List (List Int))} {m C n:Nat} {fA:List (List Int)} (hr:rows[n]?=some fA) (hs:fA.length≤m):eZ cls rows m C (n+1)=eZ cls rows m C n:=by
 unfold eZ
 refine List.map_congr_left fun c _=>?_
 rw [cw]
 have:mh cls rows m c n=false:=by
  unfold mh
  rw [hr]
  dsimp only
  rw [List.getElem?_eq_none hs]
 rw [this]
 simp
theorem AH (n:Nat) (h:n < 64):IntKind.u64.wrap (1 * 2 ^ min n IntKind.u64.bits)=((2 ^ n:Nat):Int):=by
 have e:min n IntKind.u64.bits=n:=by show min n 64=n;omega
 have h1:2 ^ n < 2 ^ 64:=Nat.pow_lt_pow_right (by omega) h
 have e2:(2:Int) ^ n=((2 ^ n:Nat):Int):=(Int.natCast_pow 2 n).symm
 rw [e,Int.one_mul,e2]
 generalize 2 ^ n=k at h1
 have h64:(2:Nat) ^ 64=18446744073709551616:=by decide
 rw [h64] at h1
 rw [IntKind.wrap_u64]
 exact Int.emod_eq_of_lt (by omega) (by omega)
theorem ow {p:Nat→Bool} {n:Nat} (h:n≤64):cw p n < 2 ^ 64:=Nat.lt_of_lt_of_le (qY p n) (Nat.pow_le_pow_right (by omega) h)
theorem IG {n:Nat} (h:n < 64):2 ^ n < 2 ^ 64:=Nat.pow_lt_pow_right (by omega) h
def gi (l:List Nat):List AV:=l.map fun z=>lM z
theorem ra (l:List Nat):(gi l).length=l.length:=by simp [gi]
theorem xC {l:List Nat} {i:Nat} {z:Nat} (h:l[i]?=some z):(gi l)[0+((i:Nat):Int).toNat * 1]?=some (lM z):=by simp [gi,h]
theorem xD {l:List Nat} {i:Nat} {z:Nat}:eR (gi l) (0+((i:Nat):Int).toNat * 1) [lM z]=gi (l.set i z):=by
 rw [gu]
 unfold gi
 rw [List.map_set]
 simp
theorem vH (n:Nat):(List.replicate n [lM 0]).flatten=gi (List.replicate n 0):=by
 induction n with
 | zero=>rfl
 | succ n ih=>rw [List.replicate_succ,List.flatten_cons,ih,List.replicate_succ];rfl
theorem CQ (l:List Nat):gi l=(gE l).flatten:=by
 induction l with
 | nil=>rfl
 | cons z l ih=>simp [gi,gE] at ih ⊢;exact ih
def jS (l:List (List (List Int))):List (List AV):=l.map fun r=>[.imm 1 (aZ r)]
theorem tO (l:List (List (List Int))):(jS l).length=l.length:=by simp [jS]
theorem Cp {l:List (List (List Int))} {i:Nat} {r:List (List Int)} (h:l[i]?=some r):(jS l)[i]?=some [.imm 1 (aZ r)]:=by simp [jS,h]
structure RD where
 rows:List (List (List Int))
 have_:Nat
 cls:List Int
 C:Nat
structure D2 (R:RD):Prop where
 few:R.rows.length≤6
 dom:∀z∈R.cls,0≤z∧z < (R.C:Int)
 sets:∀r∈R.rows,∀s∈r,(∀g∈s,0≤g∧g < (R.cls.length:Int))∧s.length≤1000000
 long:∀r∈R.rows,r.length≤1000000
 many:R.C≤1000000∧R.cls.length≤1000000
def GG (R:RD) (lv:AV):List AV:=[.imm 1 (jS R.rows),lM R.have_,.imm 1 (aL R.cls),aG R.C,lv]
def la (R:RD) (m:Nat):List AV:=[.imm 1 (gE (eZ R.cls R.rows m R.C R.rows.length)),lM (cw (jy R.rows m) R.rows.length)]
set_option maxHeartbeats 8000000 in
theorem uz (R:RD) (h:D2 R) (rb:Nat) (lv:AV) (m:Nat) (hm:m≤1000000):AC Tryz.prog 352 [j4 rb,aG m] [(rb,.box (GG R lv) 384)] fun c L=>c= .agg (la R m)∧L=[(rb,.box (GG R lv) 384)]:=by
 refine aQ Tryz.func352 rfl Tryz.ntmps352 rfl fun B=>?_
 have hrl:=tO R.rows
 have hil:=aP R.cls
 obtain ⟨hC,hN⟩:=h.many
 have hfew:=h.few
 refine W0F ?_
 intros
 refine ej a7 R.C rfl rfl rfl rfl rfl rfl rfl (by omega) (by omega) rfl fun nb=>?_
 rw [show (List.replicate R.C (List.map AV.sc [Value.int .u64 0])).flatten=gi (List.replicate R.C 0) from vH R.C]
 repeat' (first|refine O1 ?_|refine ak ?_|refine OE a7 KN ?_|(apply bU;first|refine OH a7 0 OB ?_|refine OH a7 1 OB ?_|refine OH a7 2 OB ?_|refine OH a7 3 OB ?_|refine OJ a7 0 OB ?_|refine OJ a7 1 OB ?_|refine OJ a7 2 OB ?_|refine OM a7 1 NZ (by assumption) rfl ?_|refine OM a7 0 NZ (by assumption) rfl ?_|fail)|(apply aO;first|refine OF a7 0 OC ?_|refine OF a7 1 OC ?_|refine OF a7 2 OC ?_|refine OF a7 3 OC ?_|fail)|refine bi a7 fun _=>?_|fail)
 rename_i r4 l5
 refine aJ [0,1,4,5,19,20] (α:=Nat) (fun n=>[(21,aG n)]) (fun n=>n≤R.rows.length) (fun n=>[(l5,.box [.sc (.slice (some ⟨nb,0,none⟩) R.C R.C),lM (cw (jy R.rows m) n)] 444),(nb,.box (gi (eZ R.cls R.rows m R.C n)) 194),(r4,.box [.sc (.slice none 0 0),lM 0] 444),(rb,.box (GG R lv) 384)]) (fun n=>R.rows.length - n) 0 rfl ⟨rfl,trivial⟩ (Nat.zero_le _) (fun _ _ hh=>?_) fun n hn=>?_
 ·rw [show eZ R.cls R.rows m R.C 0=List.replicate R.C 0 by unfold eZ cw;rw [List.map_const',List.length_range]]
  exact hh
 ·try dsimp only [Oq,Oo,Om,Oh]
  refine W01 ?_
  refine aw rfl (fun h1=>?_) (fun h1=>?_)
  ·have hn2:n < R.rows.length:=by have:=Oy h1;omega
   obtain ⟨fA,hrow⟩:∃z,R.rows[n]?=some z:=⟨_,Oz hn2⟩
   have hrg:=Cp hrow
   have hrwl:=cr fA
   have hrm:=Ow hrow
   have hlong:=h.long fA hrm
   have hends:cw (jy R.rows m) (n+1)=cw (jy R.rows m) n ||| (if fA.length=m then 2 ^ n else 0):=by
    rw [cw]
    unfold jy
    rw [hrow]
    simp only [decide_eq_true_eq]
   have hb1:=ow (p:=jy R.rows m) (n:=n) (by omega)
   have hb2:=IG (n:=n) (by omega)
   have hub:=AH n (by omega)
   clear h1
   refine W08 ?_
   refine aw rfl (fun h1=>?_) (fun h1=>?_)
   ·have hlm:fA.length=m:=by have:=Oy h1;omega
    rw [if_pos hlm] at hends
    have hsk:=rS (cls:=R.cls) (C:=R.C) hrow (Nat.le_of_eq hlm)
    clear h1
    repeat' (first|fail)
    refine bk 4 [(0,.v),(1,.l),(2,.v),(3,.v)] none ?_ trivial rfl (by kernel_rfl) (by kernel_rfl) (by kernel_rfl) mixed (by kernel_rfl) rfl
    refine W0t ?_
    refine xL n rfl rfl rfl trivial ?_
    repeat' (first|fail)
    refine OO [0,1,4,5,6,7,19,20,21,31,33] KN ?_
    refine A3 rfl rfl rfl ?_
    rw [hub,u64_or_nat _ _ hb1 hb2,←hends]
    refine W09 ?_
    refine aw rfl (fun h2=>?_) (fun h2=>?_)
    ·refine W02 ?_
     exact aD (n+1) rfl ⟨by rw [Ov];rfl,trivial⟩ hn2 (by omega) (fun _ _ hh=>by rw [hsk];exact hh)
    ·have:=Ox h2
     omega
   ·have hlm:¬fA.length=m:=by have:=Ox h1;omega
    rw [if_neg hlm,Nat.or_zero] at hends
    clear h1
    refine W01 ?_
    refine aw rfl (fun h2=>?_) (fun h2=>?_)
    ·have hsk:=rS (cls:=R.cls) (C:=R.C) (m:=m) hrow (by have:=Oy h2;omega)
     refine W02 ?_
     exact aD (n+1) rfl ⟨by rw [Ov];rfl,trivial⟩ hn2 (by omega) (fun _ _ hh=>by rw [hsk,hends];exact hh)
    ·have hml:m < fA.length:=by have:=Ox h2;omega
     obtain ⟨s,hs⟩:∃z,fA[m]?=some z:=⟨_,Oz hml⟩
     have hsg:=iD hs
     obtain ⟨hsd,hsl⟩:=h.sets fA hrm s (Ow hs)
     have hsil:=aP s
     have hst:=yp h.dom hrow hs hsd
     clear h2
     refine W08 ?_
     refine aJ [0,1,4,5,6,19,20,21,43,44] (α:=Nat) (fun j=>[(45,aG j)]) (fun j=>j≤s.length) (fun j=>[(l5,.box [.sc (.slice (some ⟨nb,0,none⟩) R.C R.C),lM (cw (jy R.rows m) n)] 444),(nb,.box (gi ((s.take j).foldl (io R.cls n) (eZ R.cls R.rows m R.C n))) 194),(r4,.box [.sc (.slice none 0 0),lM 0] 444),(rb,.box (GG R lv) 384)]) (fun j=>s.length - j) 0 rfl ⟨rfl,trivial⟩ (Nat.zero_le _) (fun _ _ hh=>hh) fun j hj=>?_
     try dsimp only [Oq,Oo,Om,Oh]
     refine W01 ?_
     refine aw rfl (fun h2=>?_) (fun h2=>?_)
     ·have hj2:j < s.length:=by have:=Oy h2;omega
      obtain ⟨g,hg⟩:∃z,s[j]?=some z:=⟨_,Oz hj2⟩
      have hgg:=bD hg
      have hgd:=hsd g (Ow hg)
      obtain ⟨c,hc,hcC,hcd⟩:=vJ h.dom hgd
      have hcg:(aL R.cls)[g.toNat]?=some [aG c]:=bD hc
      have hnl:((s.take j).foldl (io R.cls n) (eZ R.cls R.rows m R.C n)).length=R.C:=by rw [lT,gS]
      obtain ⟨v,hv⟩:∃z,((s.take j).foldl (io R.cls n) (eZ R.cls R.rows m R.C n))[c]?=some z:=⟨_,Oz (by omega)⟩
      have hv64:v < 2 ^ 64:=by
       have:=tG h.dom (n:=n) (nx:=eZ R.cls R.rows m R.C n) gS (s:=s.take j) (fun x hx=>hsd x (List.mem_of_mem_take hx)) c hcC
       rw [hv,List.getD_eq_getElem?_getD,lV hcC] at this
       cases this
       exact M2 (ow (by omega)) (by split;exact hb2;omega)
      have htk:s.take (j+1)=s.take j++[g]:=by rw [List.take_add_one,hg];rfl
      have hfs:(s.take (j+1)).foldl (io R.cls n) (eZ R.cls R.rows m R.C n)=((s.take j).foldl (io R.cls n) (eZ R.cls R.rows m R.C n)).set c (v ||| 2 ^ n):=by
       rw [htk,List.foldl_append,List.foldl_cons,List.foldl_nil]
       generalize (s.take j).foldl (io R.cls n) (eZ R.cls R.rows m R.C n)=nx at hv
       unfold io
       rw [hcd,Int.toNat_natCast,List.getD_eq_getElem?_getD,hv]
       rfl
      generalize (s.take j).foldl (io R.cls n) (eZ R.cls R.rows m R.C n)=nx at *
      have hvc:=xC hv
      have hul:=ra nx
      clear h2
      refine W08 ?_
      refine cH [0,1,4,5,6,9,19,20,21,43,44,45] True rfl (fun Q' K=>?_) (fun _=>?_) (fun hC=>absurd trivial hC)
      ·repeat' (first|refine O1 ?_|refine OE a7 KN ?_|refine ON KN ?_|refine OP OA ?_|(apply bU;first|refine OH a7 0 OB ?_|refine OH a7 1 OB ?_|refine OH a7 2 OB ?_|refine OH a7 3 OB ?_|refine OJ a7 0 OB ?_|refine OJ a7 1 OB ?_|refine OJ a7 2 OB ?_|refine OM a7 1 NZ (by assumption) rfl ?_|refine OM a7 0 NZ (by assumption) rfl ?_|fail)|refine OR NZ (fun _=>?_) (fun _=>?_))
       all_goals exact K _ _ rfl rfl (by simp_all <;> omega)
      repeat' (first|fail)
      refine bk 14 [(0,.v),(1,.l),(2,.v),(3,.v),(4,.v),(5,.l),(6,.v),(7,.v),(8,.v),(9,.v),(10,.l),(11,.v),(12,.v),(13,.v)] none ?_ trivial rfl (by kernel_rfl) (by kernel_rfl) (by kernel_rfl) mixed (by kernel_rfl) rfl
      refine W0t ?_
      refine cW a7 3 rfl rfl rfl rfl trivial ?_
      refine W0l ?_
      refine c5 a7 rfl rfl rfl ⟨by omega,by omega⟩ trivial ?_
      repeat' (first|refine aE ?_|fail)
      refine cW a7 1 rfl rfl rfl hvc trivial ?_
      refine W06 ?_
      refine xL n rfl rfl rfl trivial ?_
      repeat' (first|refine aE ?_|fail)
      refine GO rfl rfl trivial ?_
      repeat' (first|fail)
      refine OO [0,1,4,5,6,19,20,21,43,44,45,61,68,73] KN ?_
      rw [hub,u64_or_nat _ _ hv64 hb2]
      refine W0i ?_
      refine ai a7 1 rfl rfl rfl rfl rfl rfl (Nat.ble_eq_true_of_le (by rw [hul,hnl,Int.toNat_natCast];show 0+c * 1+1≤_;omega)) ?_
      rw [xD]
      refine W02 ?_
      exact aD (j+1) rfl ⟨by rw [Ov];rfl,trivial⟩ hj2 (by omega) (fun _ _ hh=>by rw [hfs];exact hh)
     ·have hj2:j=s.length:=by have:=Ox h2;omega
      subst hj2
      rw [List.take_length,hst]
      clear h2
      refine W02 ?_
      exact aD (n+1) rfl ⟨by rw [Ov];rfl,trivial⟩ hn2 (by omega) (fun _ _ hh=>by rw [hends];exact hh)
  ·have hn2:n=R.rows.length:=by have:=Ox h1;omega
   subst hn2
   clear h1
   refine W0g ?_
   have hcu:=ra (eZ R.cls R.rows m R.C R.rows.length)
   rw [gS] at hcu
   refine du (L':=[(nb,.box (gi (eZ R.cls R.rows m R.C R.rows.length)) 194),(r4,.box [.sc (.slice (some ⟨nb,0,none⟩) R.C R.C),lM (cw (jy R.rows m) R.rows.length)] 444),(rb,.box (GG R lv) 384)]) (List.sublist_cons_self ..) ?_
   refine b7 (p9 (k:=0) (sz:=1) (n:=R.C) (cap:=R.C) (l:=gE (eZ R.cls R.rows m R.C R.rows.length)) rfl (by rw [←CQ,List.take_of_length_le (by omega)]) (by omega) (fun e he=>by unfold gE at he;obtain ⟨z,_,rfl⟩:=List.mem_map.1 he;rfl) (by rw [sw,gS]) (Nat.le_refl _) (by unfold maxLen;omega)) ?_
   exact fT (cs:=[.agg (la R m)]) [(rb,.box (GG R lv) 384)] ⟨⟨_,0,_,_,rfl,rfl,.inr ⟨dZ a7 rfl,rfl⟩⟩,trivial⟩ (List.sublist_cons_self ..) ⟨rfl,rfl⟩
end Go.Proofs.YtamjlkdanllgjaaGreatDoor
namespace Go.Proofs.YtamjlkdanllgjaaGreatDoor
open Go.RowKit
attribute [local irreducible] AT bF AX AO Av Kt b8 d9 DA cu
set_option maxRecDepth 8000
def BX (R:RD) (k:Nat):List (List AV):=(List.range k).map (la R)
theorem zV (R:RD) (k:Nat):(BX R k).length=k:=by simp [BX]
theorem wg (R:RD) (k:Nat):BX R k++[la R k]=BX R (k+1):=by simp [BX,List.range_succ]
theorem HC (R:RD) {k m:Nat} (h:m < k):(BX R k)[m]?=some (la R m):=by simp [BX,h]
abbrev s6 (R:RD) (rb k:Nat) (q:Option (Nat×Nat)):Nat×AB:=(rb,.box (GG R (.vec q 2 (BX R k))) 384)
abbrev fg (R:RD) (rb k:Nat) (q:Option (Nat×Nat)):AL:=s6 R rb k q::tok q 444 2 k
def qi (R:RD) (rb:Nat) (u:AV):AV→AL→Prop:=fun c L=>c=u∧∃k q,k≤1000001∧L=fg R rb k q
theorem M7 {a b:Nat×AB} {X:AL}:(a::b::X).Perm (b::a::X):=List.Perm.swap ..
set_option maxHeartbeats 4000000 in
theorem wd (R:RD) (h:D2 R) (rb k:Nat) (q:Option (Nat×Nat)) (hk:k≤1000001) (m:Nat) (hm:m≤1000000):AC Tryz.prog 321 [j4 rb,aG m] (fg R rb k q) (qi R rb (.agg (la R m))):=by
 refine aQ Tryz.func321 rfl Tryz.ntmps321 rfl fun B=>?_
 repeat' (first|refine O1 ?_|refine ak ?_|refine bi a7 fun _=>?_|fail)
 rename_i r4
 refine aJ [0,1,4] (α:=Nat×Option (Nat×Nat)) (fun _=>[]) (fun s=>s.1≤1000001) (fun s=>(r4,.box [.sc (.slice none 0 0),lM 0] 444)::fg R rb s.1 s.2) (fun s=>m+1 - s.1) (k,q) rfl trivial hk (fun _ _ hh=>hh) ?_
 rintro ⟨k1,q1⟩ hk1
 dsimp only at hk1 ⊢
 try dsimp only [Oq,Oo,Om,Oh]
 have hlen:=zV R k1
 refine W05 ?_
 refine aw rfl (fun h1=>?_) (fun h1=>?_)
 ·have hkm:k1≤m:=by have:=Oy h1;omega
  have hml:=uz R h rb (.vec q1 2 (BX R k1)) k1 (by omega)
  clear h1
  refine W1g ?_
  refine dE [.cell (rb,4,.vec q1 2 (BX R k1))] 14 [(0,.v),(1,.v),(2,.v),(3,.v),(4,.k),(5,.v),(6,.v),(7,.v),(8,.v),(9,.l),(10,.v),(11,.f),(12,.v),(13,.e)] none ?_ trivial rfl (by kernel_rfl) (by kernel_rfl) (by kernel_rfl) mixed (by kernel_rfl) rfl
  refine W06 ?_
  refine dU a7 0 rfl rfl rfl (nB 1 rfl rfl) trivial ?_
  refine W0Z ?_
  refine ue [s6 R rb k1 q1] ((r4,.box [.sc (.slice none 0 0),lM 0] 444)::tok q1 444 2 k1) hml rfl (by rw [hlen];rfl) M7 trivial (fun c L1 ⟨hc,hL⟩ hK=>by subst hL;exact nB 0 rfl rfl) fun c L1 ⟨hc,hL⟩=>?_
  subst hc;subst hL
  refine W0K ?_
  refine fj a7 [s6 R rb k1 q1,(r4,.box [.sc (.slice none 0 0),lM 0] 444)] rfl rfl rfl rfl ?_ (by rw [hlen];simp;omega) (by rw [hlen];simp;omega) trivial fun q'=>?_
  ·rw [hlen]
   exact List.perm_append_comm (l₁:=[_,_])
  repeat' (first|fail)
  refine OO [0,1,4,12,25] KN ?_
  refine aX (aW (L':=s6 R rb k1 q1::(r4,.box [.sc (.slice none 0 0),lM 0] 444)::tok q' 444 2 (BX R k1++[la R k1]).length) (List.perm_append_comm (l₂:=[_,_]))) ?_
  refine W09 ?_
  refine aD (k1+1,q') rfl trivial (by dsimp only;omega) (by dsimp only;omega) (fun σ w hh=>?_)
  rw [wg,zV] at hh
  refine dg.perm (L:=s6 R rb (k1+1) q'::(r4,.box [.sc (.slice none 0 0),lM 0] 444)::tok q' 444 2 (k1+1)) ?_ M7
  unfold s6
  rw [←wg]
  exact hh
 ·have hkm:m < k1:=by have:=Ox h1;omega
  have hlg:=HC R hkm
  clear h1
  repeat' (first|refine O1 ?_|refine OE a7 KN ?_|(apply bU;first|refine OH a7 0 OB ?_|refine OH a7 1 OB ?_|refine OH a7 2 OB ?_|refine OH a7 3 OB ?_|refine OJ a7 0 OB ?_|refine OJ a7 1 OB ?_|refine OJ a7 2 OB ?_|refine OM a7 1 NZ (by assumption) rfl ?_|refine OM a7 0 NZ (by assumption) rfl ?_|fail)|(apply aV;first|refine aU a7 ?_|refine aN a7 ?_)|(apply aO;first|refine OF a7 0 OC ?_|refine OF a7 1 OC ?_|refine OF a7 2 OC ?_|refine OF a7 3 OC ?_|fail))
  exact fT (cs:=[.agg (la R m)]) (fg R rb k1 q1) ⟨⟨_,0,_,_,rfl,rfl,.inr ⟨dZ a7 rfl,rfl⟩⟩,trivial⟩ (List.sublist_cons_self ..) ⟨rfl,k1,q1,hk1,rfl⟩
def mw (p:Pl):List AV:=[aG p.1,lM p.2]
theorem Ck (R:RD) (rb k:Nat) (q:Option (Nat×Nat)) (hk:k≤1000001):AC Tryz.prog 278 [j4 rb] (fg R rb k q) (qi R rb (.agg (mw (0,R.have_)))):=by
 refine aQ Tryz.func278 rfl Tryz.ntmps278 rfl fun B=>?_
 repeat' (first|refine O1 ?_|refine OE a7 KN ?_|(apply bU;first|refine OH a7 0 OB ?_|refine OH a7 1 OB ?_|refine OH a7 2 OB ?_|refine OH a7 3 OB ?_|refine OJ a7 0 OB ?_|refine OJ a7 1 OB ?_|refine OJ a7 2 OB ?_|refine OM a7 1 NZ (by assumption) rfl ?_|refine OM a7 0 NZ (by assumption) rfl ?_|fail)|(apply aO;first|refine OF a7 0 OC ?_|refine OF a7 1 OC ?_|refine OF a7 2 OC ?_|refine OF a7 3 OC ?_|fail)|refine bi a7 fun _=>?_|fail)
 exact fT (cs:=[.agg (mw (0,R.have_))]) (fg R rb k q) ⟨⟨_,0,_,_,rfl,rfl,.inr ⟨dZ a7 rfl,rfl⟩⟩,trivial⟩ (List.sublist_cons_self ..) ⟨rfl,k,q,hk,rfl⟩
theorem EY {R:RD} {m c:Nat} (hc:c < R.C):(gE (eZ R.cls R.rows m R.C R.rows.length))[((c:Nat):Int).toNat]?=some [lM (jJ R.cls R.rows m c)]:=by
 rw [Int.toNat_natCast]
 exact G2 (lV hc)
set_option maxHeartbeats 4000000 in
theorem Ba (R:RD) (h:D2 R) (rb k:Nat) (q:Option (Nat×Nat)) (hk:k≤1000001) (p:Pl) (hp:p.1≤1000000) (hp2:p.2 < 2 ^ 64) (c:Nat) (hc:c < R.C):AC Tryz.prog 279 [j4 rb,.agg (mw p),aG c] (fg R rb k q) (qi R rb (.agg (mw (cg R.cls R.rows p c)))):=by
 refine aQ Tryz.func279 rfl Tryz.ntmps279 rfl fun B=>?_
 obtain ⟨pm,pr⟩:=p
 dsimp only at hp hp2
 have hlv:=wd R h rb k q hk pm hp
 have hnl:=EY (R:=R) (m:=pm) hc
 have hn64:jJ R.cls R.rows pm c < 2 ^ 64:=ow (by have:=h.few;omega)
 have hbe:cg R.cls R.rows (pm,pr) c=if pr &&& jJ R.cls R.rows pm c=0 then (0,0) else (pm+1,pr &&& jJ R.cls R.rows pm c):=rfl
 refine W0O ?_
 intros
 rename_i r6
 refine aw rfl (fun h1=>?_) (fun h1=>?_)
 ·clear h1
  refine W01 ?_
  refine bh (fg R rb k q) [(r6,.box [aG 0,lM 0] 377)] hlv rfl rfl (List.perm_append_comm (l₁:=[_])) rfl fun c1 L1 ⟨hc1,k1,q1,hk1,hL⟩=>?_
  subst hc1;subst hL
  refine aX (aW (L':=(r6,.box [aG 0,lM 0] 377)::fg R rb k1 q1) (List.perm_append_comm (l₂:=[_]))) ?_
  refine W0V ?_
  refine uF rfl rfl rfl ?_
  rw [u64_and_nat _ _ hp2 hn64]
  refine W01 ?_
  refine aw rfl (fun h2=>?_) (fun h2=>?_)
  ·have hz:pr &&& jJ R.cls R.rows pm c=0:=by have:=Oy h2;omega
   rw [if_pos hz] at hbe
   rw [hbe]
   refine W09 ?_
   exact fT (cs:=[.agg (mw (0,0))]) (fg R rb k1 q1) ⟨⟨_,0,_,_,rfl,rfl,.inr ⟨dZ a7 rfl,rfl⟩⟩,trivial⟩ (List.sublist_cons_self ..) ⟨rfl,k1,q1,hk1,rfl⟩
  ·have hz:pr &&& jJ R.cls R.rows pm c≠0:=by have:=Ox h2;omega
   rw [if_neg hz] at hbe
   rw [hbe]
   refine W0d ?_
   refine fT (cs:=[.agg (mw (pm+1,pr &&& jJ R.cls R.rows pm c))]) (fg R rb k1 q1) ⟨⟨_,0,_,_,rfl,rfl,.inr ⟨dZ a7 rfl,rfl⟩⟩,trivial⟩ (List.sublist_cons_self ..) ⟨rfl,k1,q1,hk1,rfl⟩
 ·have hz:pr=0:=by have:=Ox h1;simpa using this
  subst hz
  rw [Nat.zero_and,if_pos rfl] at hbe
  rw [hbe]
  repeat' (first|refine O1 ?_|refine OE a7 KN ?_|(apply aO;first|refine OF a7 0 OC ?_|refine OF a7 1 OC ?_|refine OF a7 2 OC ?_|refine OF a7 3 OC ?_|fail)|refine bT rfl ?_)
  exact fT (cs:=[.agg (mw (0,0))]) (fg R rb k q) ⟨⟨_,0,_,_,rfl,rfl,.inr ⟨dZ a7 rfl,rfl⟩⟩,trivial⟩ (List.sublist_cons_self ..) ⟨rfl,k,q,hk,rfl⟩
set_option maxHeartbeats 4000000 in
theorem Hd (R:RD) (h:D2 R) (rb k:Nat) (q:Option (Nat×Nat)) (hk:k≤1000001) (p:Pl) (hp:p.1≤1000000) (hp2:p.2 < 2 ^ 64):AC Tryz.prog 280 [j4 rb,.agg (mw p)] (fg R rb k q) (qi R rb (lM (jz R.rows p))):=by
 refine aQ Tryz.func280 rfl Tryz.ntmps280 rfl fun B=>?_
 obtain ⟨pm,pr⟩:=p
 dsimp only at hp hp2
 have hlv:=wd R h rb k q hk pm hp
 have hn64:cw (jy R.rows pm) R.rows.length < 2 ^ 64:=ow (by have:=h.few;omega)
 have hen:jz R.rows (pm,pr)=if pr=0 then 0 else pr &&& cw (jy R.rows pm) R.rows.length:=rfl
 refine W07 ?_
 refine aw rfl (fun h1=>?_) (fun h1=>?_)
 ·have hz:pr=0:=by have:=Oy h1;omega
  rw [if_pos hz] at hen
  rw [hen]
  refine W01 ?_
  exact OK KN ⟨rfl,k,q,hk,rfl⟩
 ·have hz:pr≠0:=by have:=Ox h1;omega
  rw [if_neg hz] at hen
  rw [hen]
  clear h1
  repeat' (first|refine O1 ?_|fail)
  refine bk 7 [(0,.v),(1,.v),(2,.v),(3,.v),(4,.v),(5,.e),(6,.v)] none ?_ trivial rfl (by kernel_rfl) (by kernel_rfl) (by kernel_rfl) mixed (by kernel_rfl) rfl
  refine W06 ?_
  refine ki (fg R rb k q) [] hlv rfl rfl (by rw [List.append_nil]) trivial fun c1 L1 ⟨hc1,k1,q1,hk1,hL⟩=>?_
  subst hc1;subst hL
  refine W06 ?_
  refine OO [9,14] KN ?_
  repeat' (first|fail)
  refine uF rfl rfl rfl ?_
  rw [u64_and_nat _ _ hp2 hn64]
  refine W01 ?_
  exact OK KN ⟨rfl,k1,q1,hk1,by rw [List.append_nil]⟩
set_option maxRecDepth 8000
def r5 (m r:Nat):List Int:=[m,0,0,0,0,0,0,0,r,0,0,0,0,0,0,0]
def iZ (p:Pl):ByteArray:=(r5 p.1 p.2).foldl (fun r n=>r.push (UInt8.ofNat n.toNat)) ByteArray.empty
def l7 (p:Pl):Prop:=p.1 < 256∧p.2 < 256
theorem yU (p:Pl):(iZ p).data.toList=(r5 p.1 p.2).map fun n=>UInt8.ofNat n.toNat:=by
 unfold iZ
 have:∀(l:List Int) (b:ByteArray),(l.foldl (fun r n=>r.push (UInt8.ofNat n.toNat)) b).data.toList=b.data.toList++l.map fun n=>UInt8.ofNat n.toNat:=by
  intro l
  induction l with
  | nil=>intro b;simp
  | cons x l ih=>intro b;rw [List.foldl_cons,ih];simp [ByteArray.push]
 rw [this]
 rfl
theorem G3 {a b:Nat} (ha:a < 256) (hb:b < 256) (h:UInt8.ofNat a=UInt8.ofNat b):a=b:=by
 have:=congrArg UInt8.toNat h
 simpa [UInt8.toNat_ofNat',Nat.mod_eq_of_lt ha,Nat.mod_eq_of_lt hb] using this
theorem tV {p q:Pl} (hp:l7 p) (hq:l7 q) (h:iZ p=iZ q):p=q:=by
 have hd:=congrArg (fun b=>b.data.toList) h
 simp only [yU] at hd
 unfold r5 at hd
 simp only [Om,List.cons.injEq,Int.toNat_natCast] at hd
 exact Prod.ext (G3 hp.1 hq.1 hd.1) (G3 hp.2 hq.2 hd.2.2.2.2.2.2.2.2.1)
def v8 (M:List Pl) (v:Value):Option AV:=match v with
 | .string s=>(M.findIdx? fun p=>decide (iZ p=s)).map fun i=>aG (i:Nat)
 | _=>none
theorem If:v8 []=fun _=>none:=by
 funext v
 unfold v8
 split <;> rfl
section
variable {M:List Pl} (hM:∀x∈M,l7 x) {p:Pl} (hp:l7 p)
include hM hp
theorem wT (h:p∈M):v8 M (.string (iZ p))=some (aG (M.idxOf p:Nat)):=by
  have hi:=List.idxOf_lt_length_of_mem h
  have:(M.findIdx? fun x=>decide (iZ x=iZ p))=some (M.idxOf p):=by
    rw [List.findIdx?_eq_some_iff_getElem]
    refine ⟨hi,by simp [List.getElem_idxOf hi],fun j hj=>?_⟩
    have hne:M[j]≠p:=by
      intro e
      have:=List.not_of_lt_findIdx (p:=(·==p)) (xs:=M) hj
      rw [e] at this
      simp at this
    simp only [decide_eq_true_eq]
    exact fun e=>hne (tV (hM _ (List.getElem_mem _)) hp e)
  unfold v8
  dsimp only
  rw [this]
  rfl
theorem FQ (h:p∉M):v8 M (.string (iZ p))=none:=by
 have:(M.findIdx? fun x=>decide (iZ x=iZ p))=none:=by
  rw [List.findIdx?_eq_none_iff]
  intro x hx
  rw [decide_eq_false_iff_not]
  exact fun e=>h (tV (hM x hx) hp e▸hx)
 unfold v8
 dsimp only
 rw [this]
 rfl
theorem Ig (h:p∉M):v8 (M++[p]) (.string (iZ p))=some (aG (M.length:Nat)):=by
 rw [wT (fun x hx=>by rw [List.mem_append,List.mem_singleton] at hx;rcases hx with hx | rfl;exact hM x hx;exact hp) hp (by simp),List.idxOf_append,if_neg h,List.idxOf_cons_self,Nat.zero_add]
end
theorem CG {M:List Pl} {p:Pl}:∀v,v≠ .string (iZ p)→v8 (M++[p]) v=v8 M v:=by
 intro v hv
 unfold v8
 split
 ·rename_i s
  have:decide (iZ p=s)=false:=by rw [decide_eq_false_iff_not];exact fun e=>hv (by rw [e])
  rw [List.findIdx?_append]
  simp [this]
 ·rfl
def r8 (l:List Int):List AV:=l.map fun z=> .sc (.int .u8 z)
def sl (m r i:Nat):List Int:=if i=0 then List.replicate 16 0 else r5 m r
theorem Mk {m r:Nat} (hm:m < 256) (hr:r < 256) {i:Nat} (hi:i < 8):eR (eR (r8 (sl m r i)) (0+i * 1) [.sc (.int .u8 (IntKind.u8.wrap ((m:Int) / 2 ^ min (8 * i) IntKind.i64.bits)))]) (0+(8+i) * 1) [.sc (.int .u8 (IntKind.u8.wrap ((r:Int) / 2 ^ min (8 * i) IntKind.u64.bits)))]=r8 (sl m r (i+1)):=by
 have h0:∀z:Nat,z < 256→∀k,0 < k→k < 8→IntKind.u8.wrap ((z:Int) / 2 ^ min (8 * k) 64)=0:=by
  intro z hz k hk hk8
  have:(z:Int) / 2 ^ min (8 * k) 64=0:=by
   have e:min (8 * k) 64=8 * k:=by omega
   rw [e]
   have h1:2 ^ 8≤2 ^ (8 * k):=Nat.pow_le_pow_right (by omega) (by omega)
   have h2:z / 2 ^ (8 * k)=0:=Nat.div_eq_of_lt (by omega)
   have h3:(2:Int) ^ (8 * k)=((2 ^ (8 * k):Nat):Int):=(Int.natCast_pow 2 _).symm
   rw [h3,←Int.natCast_ediv,h2]
   rfl
  rw [this]
  decide
 have h1:∀z:Nat,z < 256→IntKind.u8.wrap ((z:Int) / 2 ^ min (8 * 0) 64)=(z:Int):=by
  intro z hz
  rw [Nat.mul_zero,Nat.zero_min,Int.pow_zero,Int.ediv_one,IntKind.wrap_u8]
  omega
 show eR (eR _ _ [.sc (.int .u8 (IntKind.u8.wrap ((m:Int) / 2 ^ min (8 * i) 64)))]) _ [.sc (.int .u8 (IntKind.u8.wrap ((r:Int) / 2 ^ min (8 * i) 64)))]=_
 match i,hi with
 | 0,_=>rw [h1 m hm,h1 r hr];rfl
 | 1,_=>rw [h0 m hm 1 (by omega) (by omega),h0 r hr 1 (by omega) (by omega)];rfl
 | 2,_=>rw [h0 m hm 2 (by omega) (by omega),h0 r hr 2 (by omega) (by omega)];rfl
 | 3,_=>rw [h0 m hm 3 (by omega) (by omega),h0 r hr 3 (by omega) (by omega)];rfl
 | 4,_=>rw [h0 m hm 4 (by omega) (by omega),h0 r hr 4 (by omega) (by omega)];rfl
 | 5,_=>rw [h0 m hm 5 (by omega) (by omega),h0 r hr 5 (by omega) (by omega)];rfl
 | 6,_=>rw [h0 m hm 6 (by omega) (by omega),h0 r hr 6 (by omega) (by omega)];rfl
 | 7,_=>rw [h0 m hm 7 (by omega) (by omega),h0 r hr 7 (by omega) (by omega)];rfl
set_option maxHeartbeats 4000000 in
theorem Iq (p:Pl) (hp:l7 p):bH Tryz.prog 277 [.agg (mw p)] (.sc (.string (iZ p))):=by
 refine aQ Tryz.func277 rfl Tryz.ntmps277 rfl fun B=>?_
 obtain ⟨m,r⟩:=p
 obtain ⟨hm,hr⟩:=hp
 dsimp only at hm hr
 repeat' (first|refine O1 ?_|refine ak ?_|refine OE a7 KN ?_|refine br ?_|refine bi a7 fun _=>?_|fail)
 rename_i ab
 refine aJ [1,3] (α:=Nat) (fun i=>[(5,aG i)]) (fun i=>i≤8) (fun i=>[(ab,.box (r8 (sl m r i)) 442)]) (fun i=>8 - i) 0 rfl ⟨rfl,trivial⟩ (Nat.zero_le _) (fun _ _ h=>h) fun i hi=>?_
 try dsimp only [Oq,Oo,Om,Oh]
 refine W01 ?_
 refine aw rfl (fun h1=>?_) (fun h1=>?_)
 ·have hi8:i < 8:=by have:=Oy h1;omega
  have hst:=Mk hm hr hi8
  have hcl:(r8 (sl m r i)).length=16:=by unfold r8 sl;split <;> rfl
  clear h1
  refine W0c ?_
  refine mI (8 * i) rfl rfl (by rw [Int.natCast_mul];rfl) rfl ?_
  repeat' (first|fail)
  refine fG a7 rfl rfl rfl rfl rfl rfl ?_
  refine yk a7 i rfl rfl rfl rfl (by omega) rfl ?_
  refine ai a7 0 rfl rfl rfl rfl rfl rfl (Nat.ble_eq_true_of_le (by rw [hcl];show 0+i * 1+1≤16;omega)) ?_
  refine W02 ?_
  refine mI (8 * i) rfl rfl (by rw [Int.natCast_mul];rfl) rfl ?_
  refine fG a7 rfl rfl rfl rfl rfl rfl ?_
  refine yk a7 (8+i) rfl rfl rfl (by rw [Ov];rfl) (by omega) rfl ?_
  refine ai a7 0 rfl rfl rfl rfl rfl rfl (Nat.ble_eq_true_of_le (by rw [jO,hcl];show 0+(8+i) * 1+1≤16;omega)) ?_
  refine W02 ?_
  exact aD (i+1) rfl ⟨by rw [Ov];rfl,trivial⟩ (by omega) (by omega) (fun _ _ h=>by rw [←hst];exact h)
 ·have hi8:i=8:=by have:=Ox h1;omega
  subst hi8
  repeat' (first|refine O1 ?_|fail)
  refine ES a7 rfl rfl rfl ?_
  refine EQ a7 0 (r5 m r) rfl rfl rfl rfl rfl rfl rfl rfl rfl ?_
  refine W01 ?_
  refine du (List.nil_sublist _) ?_
  exact OL NZ
end Go.Proofs.YtamjlkdanllgjaaGreatDoor
namespace Go.Proofs.YtamjlkdanllgjaaGreatDoor
open Go.RowKit
attribute [local irreducible] AT bF AX AO Av Kt b8 d9 DA cu
set_option maxRecDepth 8000
section
variable {P:Program} {tt:TT} {r:Option Nat} {ops:Array Oper} {Q:Exit→Act→World→Prop} {nt:Nat} {D:List Deferred} {fr:bZ} {B:Bs} {L:AL} {rest:List Oper} {d:Nat} {ty t t':TypeId} {pos:String} {af:Array Edge} {x y z:Operand} {u:AV}
theorem HK (ok:eh P tt) (n:Nat) {e sz by_:Nat} {k k':IntKind} {b:Int} {zs:List Value} (ht:jW tt t=some (e,sz,by_)) (hz:zI tt e=some zs) (hzl:Nat.beq zs.length sz=true) (hx:bw fr x=some (.sc (.int k 0))) (hy:bw fr y=some (.sc (.int k' b))) (hb:b=(n:Int)) (hby:by_ * n≤281474976710656) (h63:n≤9223372036854775807) (hd:Nat.ble nt d=false)
  (h:∀b,bF P r ops Q nt D rest ((d,.vec (some (b,n)) sz [])::fr) B ((b,.vec e sz 0 n)::L)):bF P r ops Q nt D (⟨some d,.makeSlice t x y,ty,pos,af,none⟩::rest) fr B L:=
 cn hd rfl (Ds (bE ok ht).1 (eA ok hz) (Nat.eq_of_beq_eq_true hzl) (bE ok ht).2 hx hy hb hby h63) fun c L' ⟨b,h1,h2⟩=>by subst h1;subst h2;exact h b
end
def uE (nb kb mb:Nat) (M:List Pl) (q:Option (Nat×Nat)):AL:=(nb,.box [.sc (.map (some kb))] 196)::(kb,ci .string (v8 M))::(mb,.box [.vec q 2 (M.map mw)] 375)::tok q 377 2 M.length
def Gd (nb kb mb:Nat) (M:List Pl) (u:AV):AV→AL→Prop:=fun c L=>c=u∧∃q,L=uE nb kb mb M q
set_option maxHeartbeats 4000000 in
theorem zX (nb kb mb:Nat) (M:List Pl) (hM:∀x∈M,l7 x) (hl:M.length≤1000000) (q:Option (Nat×Nat)) (p:Pl) (hp:l7 p):AC Tryz.prog 276 ([.agg (mw p)]++[j4 nb,j4 mb]) (uE nb kb mb M q) (Gd nb kb mb (ek M p) (aG ((ek M p).idxOf p:Nat))):=by
 refine aQ Tryz.func276 rfl Tryz.ntmps276 rfl fun B=>?_
 haveI:=AD.mk (Iq p hp)
 have hml:(M.map mw).length=M.length:=Ou ..
 unfold uE
 repeat' (first|refine O1 ?_|refine OE a7 KN ?_|(apply bU;first|refine OH a7 0 OB ?_|refine OH a7 1 OB ?_|refine OH a7 2 OB ?_|refine OH a7 3 OB ?_|refine OJ a7 0 OB ?_|refine OJ a7 1 OB ?_|refine OJ a7 2 OB ?_|refine OM a7 1 NZ (by assumption) rfl ?_|refine OM a7 0 NZ (by assumption) rfl ?_|fail)|refine br ?_|(apply bg;refine b9 ?_)|fail)
 refine gQ 1 (.int .i64 0) Tryz.underlying196 Tryz.underlying9 rfl rfl trivial rfl (by kernel_rfl) rfl ?_
 by_cases hm:p∈M
 ·have hg:=wT hM hp hm
  have ht:=fS hm
  rw [hg,ht]
  refine W0m ?_
  exact OK KN ⟨rfl,q,rfl⟩
 ·have hg:=FQ hM hp hm
  have hpu:=Ig hM hp hm
  have ht:=gA hm
  have hn:=o7 hm
  rw [hg]
  repeat' (first|refine O1 ?_|refine OE a7 KN ?_|(apply bU;first|refine OH a7 0 OB ?_|refine OH a7 1 OB ?_|refine OH a7 2 OB ?_|refine OH a7 3 OB ?_|refine OJ a7 0 OB ?_|refine OJ a7 1 OB ?_|refine OJ a7 2 OB ?_|refine OM a7 1 NZ (by assumption) rfl ?_|refine OM a7 0 NZ (by assumption) rfl ?_|fail)|refine bT rfl ?_)
  refine dA 1 (v8 (M++[p])) Tryz.underlying196 Tryz.underlying9 rfl rfl trivial (by rw [hml];rfl) rfl hpu CG ?_
  refine W0b ?_
  refine bA a7 [(nb,.box [.sc (.map (some kb))] 196),(kb,ci .string (v8 (M++[p]))),(mb,.box [.vec q 2 (M.map mw)] 375)] rfl rfl rfl rfl ?_ (by rw [hml];simp;omega) (by rw [hml];simp;omega) rfl fun q'=>?_
  ·rw [hml]
   exact List.perm_append_comm (l₁:=[_,_,_])
  have hsn:M.map mw++[mw p]=(M++[p]).map mw:=by rw [List.map_append];rfl
  refine aX (aW (L':=(nb,.box [.sc (.map (some kb))] 196)::(kb,ci .string (v8 (M++[p])))::(mb,.box [.vec q 2 (M.map mw)] 375)::tok q' 377 2 (M.map mw++[mw p]).length) (List.perm_append_comm (l₂:=[_,_,_]))) ?_
  refine W09 ?_
  refine OK KN ⟨?_,q',?_⟩
  ·rw [hml,hn]
  ·rw [ht,hsn,Ou]
   unfold uE
   rw [←hsn]
   rfl
theorem B8 (r:bJ):bH Tryz.prog 283 [.agg (bN r)] (.tup [.imm 1 (aZ r.Back),cU true]):=by
 refine aQ Tryz.func283 rfl Tryz.ntmps283 rfl fun B=>?_
 refine W07 ?_
 exact OS OA
set_option maxHeartbeats 4000000 in
theorem BG (r:bJ) (h1:r.In.length≤1000000) (h2:r.Ahead.length≤1000000):bH Tryz.prog 282 [.agg (bN r)] (.tup [.imm 1 (aZ (fb r)),cU (!r.In.isEmpty)]):=by
 refine aQ Tryz.func282 rfl Tryz.ntmps282 rfl fun B=>?_
 have hil:=cr r.In
 have hal:=cr r.Ahead
 refine W07 ?_
 refine aw rfl (fun h=>?_) (fun h=>?_)
 ·have hz:r.In=[]:=List.eq_nil_of_length_eq_zero (by have:=Oy h;omega)
  unfold fb
  rw [hz]
  clear h
  refine W01 ?_
  refine b7 (bq (t:=2) (c':= .imm 1 []) rfl fun σ v h=>dV 1 h) ?_
  exact OS OA
 ·have hz:r.In≠[]:=fun e=>by have:=Ox h;rw [hil,e] at this;simp at this
  have he:r.In.isEmpty=false:=by cases hr:r.In;exact absurd hr hz;rfl
  unfold fb
  rw [he]
  clear h
  refine W02 ?_
  refine HK a7 (r.In.length+r.Ahead.length) rfl rfl rfl rfl rfl (by rw [hil,hal,Ov]) (by omega) (by omega) rfl fun b=>?_
  refine W01 ?_
  refine bA a7 [] rfl rfl rfl rfl (by rw [List.append_nil];exact Ok _) (by simp;omega) (by simp;omega) rfl fun q1=>?_
  refine W01 ?_
  refine bA a7 [] rfl rfl rfl rfl (Ok _) (by simp;omega) (by simp;omega) rfl fun q2=>?_
  refine W01 ?_
  have hra:aZ (r.In++r.Ahead)=[]++aZ r.In++aZ r.Ahead:=by simp [aZ]
  refine b7 (bq (t:=2) (c':= .imm 1 (aZ (r.In++r.Ahead))) rfl fun σ v h=>by rw [hra];exact VR.im h) ?_
  refine du (List.nil_sublist _) ?_
  exact OS OA
end Go.Proofs.YtamjlkdanllgjaaGreatDoor
