/-
  What comes where so many sets were met: the walk.
-/
import Derived.Test.YtpmdfoaadejmkaaGreatDoorM15
import Derived.Test.YtpmdfoaadejmkaaGreatDoorM13
import Derived.Test.YtpmdfoaadejmkaaGreatDoorM06
import Derived.Test.YtpmdfoaadejmkaaGreatDoorM11
namespace Go.Proofs.YtpmdfoaadejmkaaGreatDoor
open Go.RowKit
attribute [local irreducible] AT bJ AX AO Av Kt bi dq DA cG
def iC (cls:List Int) (n:Nat) (nx:List Nat) (g:Int):List Nat:=nx.set (cls.getD g.toNat 0).toNat (nx.getD (cls.getD g.toNat 0).toNat 0 ||| 2 ^ n)
def f4 (cls:List Int) (rows:List (List (List Int))) (m C n:Nat):List Nat:=(List.range C).map fun c=>cx (mH cls rows m c) n
theorem gZ {cls:List Int} {rows:List (List (List Int))} {m C n:Nat}:(f4 cls rows m C n).length=C:=by simp [f4]
theorem mw {cls:List Int} {rows:List (List (List Int))} {m C n c:Nat} (h:c < C):(f4 cls rows m C n)[c]?=some (cx (mH cls rows m c) n):=by simp [f4,h]
theorem uk {cls:List Int} {c:Nat} {s:List Int} {g:Int}:fK cls c (s++[g])=(fK cls c s || fK cls c [g]):=by simp [fK]
theorem mo {cls:List Int} {n:Nat}:∀{s:List Int} {nx:List Nat},(s.foldl (iC cls n) nx).length=nx.length
 | [],_=>rfl
 | g::s,nx=>by rw [List.foldl_cons,mo];unfold iC;rw [List.length_set]
section
variable {cls:List Int} {C:Nat} (hd:∀z∈cls,0≤z∧z < (C:Int))
include hd
theorem vh {g:Int} (hg:0≤g∧g < cls.length):∃c:Nat,cls[g.toNat]?=some (c:Int)∧c < C∧cls.getD g.toNat 0=(c:Int):=by
 obtain ⟨z,hz⟩:∃z,cls[g.toNat]?=some z:=⟨_,Kz (by omega)⟩
 obtain ⟨h0,h1⟩:=hd z (Kw hz)
 refine ⟨z.toNat,by rw [hz];congr 1;omega,by omega,?_⟩
 rw [List.getD_eq_getElem?_getD,hz]
 show z=_
 omega
theorem td {n:Nat} {nx:List Nat} (hl:nx.length=C):∀{s:List Int},(∀g∈s,0≤g∧g < (cls.length:Int))→∀c,c < C→(s.foldl (iC cls n) nx)[c]?=some (nx.getD c 0 ||| (if fK cls c s=true then 2 ^ n else 0)):=by
 intro s
 refine oo (P:=fun s=>(∀g∈s,0≤g∧g < (cls.length:Int))→∀c,c < C→(s.foldl (iC cls n) nx)[c]?=some (nx.getD c 0 ||| (if fK cls c s=true then 2 ^ n else 0))) ?_ ?_ s
 ·intro _ c hc
  rw [List.foldl_nil,List.getD_eq_getElem?_getD,Kz (by omega)]
  simp [fK]
 ·intro s g ih hs c hc
  have ih':=ih (fun x hx=>hs x (by simp [hx]))
  obtain ⟨k,hk,hkC,hkd⟩:=vh hd (hs g (by simp))
  have hml:=mo (cls:=cls) (n:=n) (s:=s) (nx:=nx)
  rw [List.foldl_append,List.foldl_cons,List.foldl_nil]
  unfold iC at hml ⊢
  rw [hkd,Int.toNat_natCast]
  have hg1:fK cls c [g]=decide (k=c):=by
   unfold fK
   have hg:=hs g (by simp)
   have hkd2:cls.getD g.toNat (-1)=(k:Int):=by rw [List.getD_eq_getElem?_getD,hk];rfl
   simp only [List.any_cons,List.any_nil,Bool.or_false,hkd2,decide_eq_true hg.1,decide_eq_true hg.2,Bool.true_and]
   exact decide_eq_decide.2 (by omega)
  rw [uk,hg1]
  by_cases hkc:k=c
  ·subst hkc
   rw [List.getElem?_set_self (by omega),List.getD_eq_getElem?_getD]
   have:=ih' k hc
   unfold iC at this
   rw [this]
   simp only [Option.getD_some,decide_true,Bool.or_true,if_true]
   congr 1
   split
   ·rw [Nat.or_assoc,Nat.or_self]
   ·rw [Nat.or_zero]
  ·rw [List.getElem?_set_ne hkc]
   have:=ih' c hc
   unfold iC at this
   rw [this]
   simp [hkc]
theorem xR {rows:List (List (List Int))} {m n:Nat} {f9:List (List Int)} (hr:rows[n]?=some f9) {s:List Int} (hs:f9[m]?=some s) (hg:∀g∈s,0≤g∧g < (cls.length:Int)):s.foldl (iC cls n) (f4 cls rows m C n)=f4 cls rows m C (n+1):=by
 apply List.ext_getElem?
 intro c
 by_cases hc:c < C
 ·rw [td hd gZ hg c hc,mw hc,List.getD_eq_getElem?_getD,mw hc,cx]
  have:mH cls rows m c n=fK cls c s:=by
   unfold mH
   rw [hr]
   dsimp only
   rw [hs]
  rw [this]
  rfl
 ·rw [List.getElem?_eq_none (by rw [mo,gZ];omega),List.getElem?_eq_none (by rw [gZ];omega)]
end
theorem rJ {cls:List Int} {rows:List (List (List Int))} {m C n:Nat} {f9:List (List Int)} (hr:rows[n]?=some f9) (hs:f9.length≤m):f4 cls rows m C (n+1)=f4 cls rows m C n:=by
 unfold f4
 refine List.map_congr_left fun c _=>?_
 rw [cx]
 have:mH cls rows m c n=false:=by
  unfold mH
  rw [hr]
  dsimp only
  rw [List.getElem?_eq_none hs]
 rw [this]
 simp
theorem zn (n:Nat) (h:n < 64):IntKind.u64.wrap (1 * 2 ^ min n IntKind.u64.bits)=((2 ^ n:Nat):Int):=by
 have e:min n IntKind.u64.bits=n:=by show min n 64=n;omega
 have h1:2 ^ n < 2 ^ 64:=Nat.pow_lt_pow_right (by omega) h
 have e2:(2:Int) ^ n=((2 ^ n:Nat):Int):=(Int.natCast_pow 2 n).symm
 rw [e,Int.one_mul,e2]
 generalize 2 ^ n=k at h1
 have h64:(2:Nat) ^ 64=18446744073709551616:=by decide
 rw [h64] at h1
 rw [IntKind.wrap_u64]
 exact Int.emod_eq_of_lt (by omega) (by omega)
theorem oH {p:Nat→Bool} {n:Nat} (h:n≤64):cx p n < 2 ^ 64:=Nat.lt_of_lt_of_le (nr p n) (Nat.pow_le_pow_right (by omega) h)
theorem Gv {n:Nat} (h:n < 64):2 ^ n < 2 ^ 64:=Nat.pow_lt_pow_right (by omega) h
def gx (l:List Nat):List AV:=l.map fun z=>jS z
theorem qP (l:List Nat):(gx l).length=l.length:=by simp [gx]
theorem x4 {l:List Nat} {i:Nat} {z:Nat} (h:l[i]?=some z):(gx l)[0+((i:Nat):Int).toNat * 1]?=some (jS z):=by simp [gx,h]
theorem x5 {l:List Nat} {i:Nat} {z:Nat}:f5 (gx l) (0+((i:Nat):Int).toNat * 1) [jS z]=gx (l.set i z):=by
 rw [je]
 unfold gx
 rw [List.map_set]
 simp
theorem ve (n:Nat):(List.replicate n [jS 0]).flatten=gx (List.replicate n 0):=by
 induction n with
 | zero=>rfl
 | succ n ih=>rw [List.replicate_succ,List.flatten_cons,ih,List.replicate_succ];rfl
theorem Bx (l:List Nat):gx l=(gJ l).flatten:=by
 induction l with
 | nil=>rfl
 | cons z l ih=>simp [gx,gJ] at ih ⊢;exact ih
def kp (l:List (List (List Int))):List (List AV):=l.map fun r=>[.imm 1 (bc r)]
theorem to (l:List (List (List Int))):(kp l).length=l.length:=by simp [kp]
theorem B4 {l:List (List (List Int))} {i:Nat} {r:List (List Int)} (h:l[i]?=some r):(kp l)[i]?=some [.imm 1 (bc r)]:=by simp [kp,h]
structure RD where
 rows:List (List (List Int))
 have_:Nat
 cls:List Int
 C:Nat
structure BH (R:RD):Prop where
 few:R.rows.length≤6
 dom:∀z∈R.cls,0≤z∧z < (R.C:Int)
 sets:∀r∈R.rows,∀s∈r,(∀g∈s,0≤g∧g < (R.cls.length:Int))∧s.length≤1000000
 long:∀r∈R.rows,r.length≤1000000
 many:R.C≤1000000∧R.cls.length≤1000000
def EU (R:RD) (lv:AV):List AV:=[.imm 1 (kp R.rows),jS R.have_,.imm 1 (aW R.cls),aF R.C,lv]
def lC (R:RD) (m:Nat):List AV:=[.imm 1 (gJ (f4 R.cls R.rows m R.C R.rows.length)),jS (cx (jT R.rows m) R.rows.length)]
set_option maxHeartbeats 8000000 in
theorem u7 (R:RD) (h:BH R) (rb:Nat) (lv:AV) (m:Nat) (hm:m≤1000000):AC Tryz.prog 285 [dA rb,aF m] [(rb,.box (EU R lv) 268)] fun c L=>c= .agg (lC R m)∧L=[(rb,.box (EU R lv) 268)]:=by
 refine aN Tryz.func285 rfl Tryz.ntmps285 rfl fun B=>?_
 have hrl:=to R.rows
 have hil:=bb R.cls
 obtain ⟨hC,hN⟩:=h.many
 have hfew:=h.few
 repeat' (first|refine L3 ?_|refine KG a4 HY ?_|(apply bo;first|refine KM a4 0 KC ?_|refine KM a4 1 KC ?_|refine KM a4 2 KC ?_|refine KM a4 3 KC ?_|refine KN a4 0 KC ?_|refine KN a4 1 KC ?_|refine KN a4 2 KC ?_|refine KO a4 1 KA (by assumption) rfl ?_|refine KO a4 0 KA (by assumption) rfl ?_|fail)|refine bq a4 fun _=>?_|fail)
 refine j9 a4 R.C rfl rfl rfl rfl rfl rfl rfl (by omega) (by omega) rfl fun nb=>?_
 rw [show (List.replicate R.C (List.map AV.sc [Value.int .u64 0])).flatten=gx (List.replicate R.C 0) from ve R.C]
 repeat' (first|refine L3 ?_|refine ak ?_|refine KG a4 HY ?_|(apply bo;first|refine KM a4 0 KC ?_|refine KM a4 1 KC ?_|refine KM a4 2 KC ?_|refine KM a4 3 KC ?_|refine KN a4 0 KC ?_|refine KN a4 1 KC ?_|refine KN a4 2 KC ?_|refine KO a4 1 KA (by assumption) rfl ?_|refine KO a4 0 KA (by assumption) rfl ?_|fail)|(apply aM;first|refine KH a4 0 KE ?_|refine KH a4 1 KE ?_|refine KH a4 2 KE ?_|refine KH a4 3 KE ?_|fail)|refine bq a4 fun _=>?_|fail)
 rename_i r4 l5
 refine aR [0,1,4,5,19,20] (α:=Nat) (fun n=>[(21,aF n)]) (fun n=>n≤R.rows.length) (fun n=>[(l5,.box [.sc (.slice (some ⟨nb,0,none⟩) R.C R.C),jS (cx (jT R.rows m) n)] 330),(nb,.box (gx (f4 R.cls R.rows m R.C n)) 246),(r4,.box [.sc (.slice none 0 0),jS 0] 330),(rb,.box (EU R lv) 268)]) (fun n=>R.rows.length - n) 0 rfl ⟨rfl,trivial⟩ (Nat.zero_le _) (fun _ _ hh=>?_) fun n hn=>?_
 ·rw [show f4 R.cls R.rows m R.C 0=List.replicate R.C 0 by unfold f4 cx;rw [List.map_const',List.length_range]]
  exact hh
 ·try dsimp only [Kr,Kq,Kp,Lv]
  repeat' (first|refine L3 ?_|refine KG a4 HY ?_)
  refine aw rfl (fun h1=>?_) (fun h1=>?_)
  ·have hn2:n < R.rows.length:=by have:=Ky h1;omega
   obtain ⟨f9,hrow⟩:∃z,R.rows[n]?=some z:=⟨_,Kz hn2⟩
   have hrg:=B4 hrow
   have hrwl:=bY f9
   have hrm:=Kw hrow
   have hlong:=h.long f9 hrm
   have hends:cx (jT R.rows m) (n+1)=cx (jT R.rows m) n ||| (if f9.length=m then 2 ^ n else 0):=by
    rw [cx]
    unfold jT
    rw [hrow]
    simp only [decide_eq_true_eq]
   have hb1:=oH (p:=jT R.rows m) (n:=n) (by omega)
   have hb2:=Gv (n:=n) (by omega)
   have hub:=zn n (by omega)
   clear h1
   repeat' (first|refine L3 ?_|refine ak ?_|refine KG a4 HY ?_|(apply aQ;first|refine aO a4 ?_|refine aG a4 ?_)|fail)
   refine aw rfl (fun h1=>?_) (fun h1=>?_)
   ·have hlm:f9.length=m:=by have:=Ky h1;omega
    rw [if_pos hlm] at hends
    have hsk:=rJ (cls:=R.cls) (C:=R.C) hrow (Nat.le_of_eq hlm)
    clear h1
    repeat' (first|fail)
    refine bn 4 [(0,.v),(1,.l),(2,.v),(3,.v)] none ?_ trivial rfl (by kernel_rfl) (by kernel_rfl) (by kernel_rfl) bI (by kernel_rfl) rfl
    repeat' (first|refine aB ?_|refine aX a4 ?_|refine KY a4 0 KB (by first|trivial|rfl) ?_)
    refine xe n rfl rfl rfl trivial ?_
    repeat' (first|fail)
    refine KU [0,1,4,5,6,7,19,20,21,31,33] HY ?_
    refine ud rfl rfl rfl ?_
    rw [hub,u64_or_nat _ _ hb1 hb2,←hends]
    repeat' (first|refine L3 ?_|refine KG a4 HY ?_|(apply aM;first|refine KH a4 0 KE ?_|refine KH a4 1 KE ?_|refine KH a4 2 KE ?_|refine KH a4 3 KE ?_|fail))
    refine aw rfl (fun h2=>?_) (fun h2=>?_)
    ·repeat' (first|refine L3 ?_|refine KG a4 HY ?_|(apply aU;refine aT ?_)|fail)
     exact aD (n+1) rfl ⟨by rw [Kv];rfl,trivial⟩ hn2 (by omega) (fun _ _ hh=>by rw [hsk];exact hh)
    ·have:=Kx h2
     omega
   ·have hlm:¬f9.length=m:=by have:=Kx h1;omega
    rw [if_neg hlm,Nat.or_zero] at hends
    clear h1
    repeat' (first|refine L3 ?_|refine KG a4 HY ?_)
    refine aw rfl (fun h2=>?_) (fun h2=>?_)
    ·have hsk:=rJ (cls:=R.cls) (C:=R.C) (m:=m) hrow (by have:=Ky h2;omega)
     repeat' (first|refine L3 ?_|refine KG a4 HY ?_|(apply aU;refine aT ?_)|fail)
     exact aD (n+1) rfl ⟨by rw [Kv];rfl,trivial⟩ hn2 (by omega) (fun _ _ hh=>by rw [hsk,hends];exact hh)
    ·have hml:m < f9.length:=by have:=Kx h2;omega
     obtain ⟨s,hs⟩:∃z,f9[m]?=some z:=⟨_,Kz hml⟩
     have hsg:=gn hs
     obtain ⟨hsd,hsl⟩:=h.sets f9 hrm s (Kw hs)
     have hsil:=bb s
     have hst:=xR h.dom hrow hs hsd
     clear h2
     repeat' (first|refine L3 ?_|refine ak ?_|refine KG a4 HY ?_|(apply aQ;first|refine aO a4 ?_|refine aG a4 ?_)|fail)
     refine aR [0,1,4,5,6,19,20,21,43,44] (α:=Nat) (fun j=>[(45,aF j)]) (fun j=>j≤s.length) (fun j=>[(l5,.box [.sc (.slice (some ⟨nb,0,none⟩) R.C R.C),jS (cx (jT R.rows m) n)] 330),(nb,.box (gx ((s.take j).foldl (iC R.cls n) (f4 R.cls R.rows m R.C n))) 246),(r4,.box [.sc (.slice none 0 0),jS 0] 330),(rb,.box (EU R lv) 268)]) (fun j=>s.length - j) 0 rfl ⟨rfl,trivial⟩ (Nat.zero_le _) (fun _ _ hh=>hh) fun j hj=>?_
     try dsimp only [Kr,Kq,Kp,Lv]
     repeat' (first|refine L3 ?_|refine KG a4 HY ?_)
     refine aw rfl (fun h2=>?_) (fun h2=>?_)
     ·have hj2:j < s.length:=by have:=Ky h2;omega
      obtain ⟨g,hg⟩:∃z,s[j]?=some z:=⟨_,Kz hj2⟩
      have hgg:=bP hg
      have hgd:=hsd g (Kw hg)
      obtain ⟨c,hc,hcC,hcd⟩:=vh h.dom hgd
      have hcg:(aW R.cls)[g.toNat]?=some [aF c]:=bP hc
      have hnl:((s.take j).foldl (iC R.cls n) (f4 R.cls R.rows m R.C n)).length=R.C:=by rw [mo,gZ]
      obtain ⟨v,hv⟩:∃z,((s.take j).foldl (iC R.cls n) (f4 R.cls R.rows m R.C n))[c]?=some z:=⟨_,Kz (by omega)⟩
      have hv64:v < 2 ^ 64:=by
       have:=td h.dom (n:=n) (nx:=f4 R.cls R.rows m R.C n) gZ (s:=s.take j) (fun x hx=>hsd x (List.mem_of_mem_take hx)) c hcC
       rw [hv,List.getD_eq_getElem?_getD,mw hcC] at this
       cases this
       exact DL (oH (by omega)) (by split;exact hb2;omega)
      have htk:s.take (j+1)=s.take j++[g]:=by rw [List.take_add_one,hg];rfl
      have hfs:(s.take (j+1)).foldl (iC R.cls n) (f4 R.cls R.rows m R.C n)=((s.take j).foldl (iC R.cls n) (f4 R.cls R.rows m R.C n)).set c (v ||| 2 ^ n):=by
       rw [htk,List.foldl_append,List.foldl_cons,List.foldl_nil]
       generalize (s.take j).foldl (iC R.cls n) (f4 R.cls R.rows m R.C n)=nx at hv
       unfold iC
       rw [hcd,Int.toNat_natCast,List.getD_eq_getElem?_getD,hv]
       rfl
      generalize (s.take j).foldl (iC R.cls n) (f4 R.cls R.rows m R.C n)=nx at *
      have hvc:=x4 hv
      have hul:=qP nx
      clear h2
      repeat' (first|refine L3 ?_|refine ak ?_|refine KG a4 HY ?_|(apply aQ;first|refine aO a4 ?_|refine aG a4 ?_)|fail)
      refine ce [0,1,4,5,6,9,19,20,21,43,44,45] True rfl (fun Q' K=>?_) (fun _=>?_) (fun hC=>absurd trivial hC)
      ·repeat' (first|refine L3 ?_|refine KG a4 HY ?_|refine KR HY ?_|refine KV KB ?_|(apply bo;first|refine KM a4 0 KC ?_|refine KM a4 1 KC ?_|refine KM a4 2 KC ?_|refine KM a4 3 KC ?_|refine KN a4 0 KC ?_|refine KN a4 1 KC ?_|refine KN a4 2 KC ?_|refine KO a4 1 KA (by assumption) rfl ?_|refine KO a4 0 KA (by assumption) rfl ?_|fail)|refine KW KA (fun _=>?_) (fun _=>?_))
       all_goals exact K _ _ rfl rfl (by simp_all <;> omega)
      repeat' (first|fail)
      refine bn 14 [(0,.v),(1,.l),(2,.v),(3,.v),(4,.v),(5,.l),(6,.v),(7,.v),(8,.v),(9,.v),(10,.l),(11,.v),(12,.v),(13,.v)] none ?_ trivial rfl (by kernel_rfl) (by kernel_rfl) (by kernel_rfl) bI (by kernel_rfl) rfl
      repeat' (first|refine aB ?_|refine aX a4 ?_|refine KY a4 0 KB (by first|trivial|rfl) ?_)
      refine KY a4 3 KB trivial ?_
      repeat' (first|refine aB ?_|refine aX a4 ?_|(apply cm;refine cA a4 ?_)|fail)
      refine cR a4 rfl rfl rfl ⟨by omega,by omega⟩ trivial ?_
      repeat' (first|refine aB ?_|fail)
      refine bN a4 1 rfl rfl rfl hvc trivial ?_
      repeat' (first|refine aB ?_|refine aX a4 ?_|fail)
      refine xe n rfl rfl rfl trivial ?_
      repeat' (first|refine aB ?_|fail)
      refine EZ rfl rfl trivial ?_
      repeat' (first|fail)
      refine KU [0,1,4,5,6,19,20,21,43,44,45,61,68,73] HY ?_
      rw [hub,u64_or_nat _ _ hv64 hb2]
      repeat' (first|(apply aQ;first|refine aO a4 ?_|refine aG a4 ?_)|fail)
      refine KZ a4 1 KD (Nat.ble_eq_true_of_le (by rw [hul,hnl,Int.toNat_natCast];show 0+c * 1+1≤_;omega)) ?_
      rw [x5]
      repeat' (first|refine L3 ?_|refine KG a4 HY ?_|(apply aU;refine aT ?_)|fail)
      exact aD (j+1) rfl ⟨by rw [Kv];rfl,trivial⟩ hj2 (by omega) (fun _ _ hh=>by rw [hfs];exact hh)
     ·have hj2:j=s.length:=by have:=Kx h2;omega
      subst hj2
      rw [List.take_length,hst]
      clear h2
      repeat' (first|refine L3 ?_|refine KG a4 HY ?_|(apply aU;refine aT ?_)|fail)
      exact aD (n+1) rfl ⟨by rw [Kv];rfl,trivial⟩ hn2 (by omega) (fun _ _ hh=>by rw [hends];exact hh)
  ·have hn2:n=R.rows.length:=by have:=Kx h1;omega
   subst hn2
   clear h1
   repeat' (first|refine L3 ?_|(apply bo;first|refine KM a4 0 KC ?_|refine KM a4 1 KC ?_|refine KM a4 2 KC ?_|refine KM a4 3 KC ?_|refine KN a4 0 KC ?_|refine KN a4 1 KC ?_|refine KN a4 2 KC ?_|refine KO a4 1 KA (by assumption) rfl ?_|refine KO a4 0 KA (by assumption) rfl ?_|fail)|(apply aM;first|refine KH a4 0 KE ?_|refine KH a4 1 KE ?_|refine KH a4 2 KE ?_|refine KH a4 3 KE ?_|fail))
   have hcu:=qP (f4 R.cls R.rows m R.C R.rows.length)
   rw [gZ] at hcu
   refine dH (L':=[(nb,.box (gx (f4 R.cls R.rows m R.C R.rows.length)) 246),(r4,.box [.sc (.slice (some ⟨nb,0,none⟩) R.C R.C),jS (cx (jT R.rows m) R.rows.length)] 330),(rb,.box (EU R lv) 268)]) (List.sublist_cons_self ..) ?_
   refine bj (tF (k:=0) (sz:=1) (n:=R.C) (cap:=R.C) (l:=gJ (f4 R.cls R.rows m R.C R.rows.length)) rfl (by rw [←Bx,List.take_of_length_le (by omega)]) (by omega) (fun e he=>by unfold gJ at he;obtain ⟨z,_,rfl⟩:=List.mem_map.1 he;rfl) (by rw [ou,gZ]) (Nat.le_refl _) (by unfold maxLen;omega)) ?_
   exact i6 (cs:=[.agg (lC R m)]) [(rb,.box (EU R lv) 268)] ⟨⟨_,0,_,_,rfl,rfl,.inr ⟨eO a4 rfl,rfl⟩⟩,trivial⟩ (List.sublist_cons_self ..) ⟨rfl,rfl⟩
end Go.Proofs.YtpmdfoaadejmkaaGreatDoor
namespace Go.Proofs.YtpmdfoaadejmkaaGreatDoor
open Go.RowKit
attribute [local irreducible] AT bJ AX AO Av Kt bi dq DA cG
def AA (R:RD) (k:Nat):List (List AV):=(List.range k).map (lC R)
theorem yW (R:RD) (k:Nat):(AA R k).length=k:=by simp [AA]
theorem vO (R:RD) (k:Nat):AA R k++[lC R k]=AA R (k+1):=by simp [AA,List.range_succ]
theorem FE (R:RD) {k m:Nat} (h:m < k):(AA R k)[m]?=some (lC R m):=by simp [AA,h]
abbrev rT (R:RD) (rb k:Nat) (q:Option (Nat×Nat)):Nat×AB:=(rb,.box (EU R (.vec q 2 (AA R k))) 268)
abbrev fp (R:RD) (rb k:Nat) (q:Option (Nat×Nat)):AL:=rT R rb k q::tok q 330 2 k
def q8 (R:RD) (rb:Nat) (u:AV):AV→AL→Prop:=fun c L=>c=u∧∃k q,k≤1000001∧L=fp R rb k q
theorem IU {a b:Nat×AB} {X:AL}:(a::b::X).Perm (b::a::X):=List.Perm.swap ..
set_option maxHeartbeats 4000000 in
theorem vL (R:RD) (h:BH R) (rb k:Nat) (q:Option (Nat×Nat)) (hk:k≤1000001) (m:Nat) (hm:m≤1000000):AC Tryz.prog 255 [dA rb,aF m] (fp R rb k q) (q8 R rb (.agg (lC R m))):=by
 refine aN Tryz.func255 rfl Tryz.ntmps255 rfl fun B=>?_
 repeat' (first|refine L3 ?_|refine ak ?_|refine bq a4 fun _=>?_|fail)
 rename_i r4
 refine aR [0,1,4] (α:=Nat×Option (Nat×Nat)) (fun _=>[]) (fun s=>s.1≤1000001) (fun s=>(r4,.box [.sc (.slice none 0 0),jS 0] 330)::fp R rb s.1 s.2) (fun s=>m+1 - s.1) (k,q) rfl trivial hk (fun _ _ hh=>hh) ?_
 rintro ⟨k1,q1⟩ hk1
 dsimp only at hk1 ⊢
 try dsimp only [Kr,Kq,Kp,Lv]
 have hlen:=yW R k1
 repeat' (first|refine L3 ?_|refine KG a4 HY ?_|(apply bo;first|refine KM a4 0 KC ?_|refine KM a4 1 KC ?_|refine KM a4 2 KC ?_|refine KM a4 3 KC ?_|refine KN a4 0 KC ?_|refine KN a4 1 KC ?_|refine KN a4 2 KC ?_|refine KO a4 1 KA (by assumption) rfl ?_|refine KO a4 0 KA (by assumption) rfl ?_|fail)|fail)
 refine aw rfl (fun h1=>?_) (fun h1=>?_)
 ·have hkm:k1≤m:=by have:=Ky h1;omega
  have hml:=u7 R h rb (.vec q1 2 (AA R k1)) k1 (by omega)
  clear h1
  repeat' (first|refine ak ?_|refine L3 ?_|fail)
  refine dC [.cell (rb,4,.vec q1 2 (AA R k1))] 14 [(0,.v),(1,.v),(2,.v),(3,.v),(4,.k),(5,.v),(6,.v),(7,.v),(8,.v),(9,.l),(10,.v),(11,.f),(12,.v),(13,.e)] none ?_ trivial rfl (by kernel_rfl) (by kernel_rfl) (by kernel_rfl) bI (by kernel_rfl) rfl
  repeat' (first|refine aB ?_|refine aX a4 ?_|fail)
  refine dY a4 0 rfl rfl rfl (nJ 1 rfl rfl) trivial ?_
  repeat' (first|refine aB ?_|refine aX a4 ?_|refine KY a4 1 KB (by first|trivial|rfl) ?_)
  refine yC [rT R rb k1 q1] ((r4,.box [.sc (.slice none 0 0),jS 0] 330)::tok q1 330 2 k1) hml rfl (by rw [hlen];rfl) IU trivial (fun c L1 ⟨hc,hL⟩ hK=>by subst hL;exact nJ 0 rfl rfl) fun c L1 ⟨hc,hL⟩=>?_
  subst hc;subst hL
  repeat' (first|refine aB ?_|refine eD a4 ?_|fail)
  refine fx a4 [rT R rb k1 q1,(r4,.box [.sc (.slice none 0 0),jS 0] 330)] rfl rfl rfl rfl ?_ (by rw [hlen];simp;omega) (by rw [hlen];simp;omega) trivial fun q'=>?_
  ·rw [hlen]
   exact List.perm_append_comm (l₁:=[_,_])
  repeat' (first|fail)
  refine KU [0,1,4,12,25] HY ?_
  refine aP (aI (L':=rT R rb k1 q1::(r4,.box [.sc (.slice none 0 0),jS 0] 330)::tok q' 330 2 (AA R k1++[lC R k1]).length) (List.perm_append_comm (l₂:=[_,_]))) ?_
  repeat' (first|refine L3 ?_|refine KG a4 HY ?_|(apply aM;first|refine KH a4 0 KE ?_|refine KH a4 1 KE ?_|refine KH a4 2 KE ?_|refine KH a4 3 KE ?_|fail))
  refine aD (k1+1,q') rfl trivial (by dsimp only;omega) (by dsimp only;omega) (fun σ w hh=>?_)
  rw [vO,yW] at hh
  refine di.perm (L:=rT R rb (k1+1) q'::(r4,.box [.sc (.slice none 0 0),jS 0] 330)::tok q' 330 2 (k1+1)) ?_ IU
  unfold rT
  rw [←vO]
  exact hh
 ·have hkm:m < k1:=by have:=Kx h1;omega
  have hlg:=FE R hkm
  clear h1
  repeat' (first|refine L3 ?_|refine KG a4 HY ?_|(apply bo;first|refine KM a4 0 KC ?_|refine KM a4 1 KC ?_|refine KM a4 2 KC ?_|refine KM a4 3 KC ?_|refine KN a4 0 KC ?_|refine KN a4 1 KC ?_|refine KN a4 2 KC ?_|refine KO a4 1 KA (by assumption) rfl ?_|refine KO a4 0 KA (by assumption) rfl ?_|fail)|(apply aQ;first|refine aO a4 ?_|refine aG a4 ?_)|(apply aM;first|refine KH a4 0 KE ?_|refine KH a4 1 KE ?_|refine KH a4 2 KE ?_|refine KH a4 3 KE ?_|fail))
  exact i6 (cs:=[.agg (lC R m)]) (fp R rb k1 q1) ⟨⟨_,0,_,_,rfl,rfl,.inr ⟨eO a4 rfl,rfl⟩⟩,trivial⟩ (List.sublist_cons_self ..) ⟨rfl,k1,q1,hk1,rfl⟩
def mU (p:Pl):List AV:=[aF p.1,jS p.2]
theorem B3 (R:RD) (rb k:Nat) (q:Option (Nat×Nat)) (hk:k≤1000001):AC Tryz.prog 180 [dA rb] (fp R rb k q) (q8 R rb (.agg (mU (0,R.have_)))):=by
 refine aN Tryz.func180 rfl Tryz.ntmps180 rfl fun B=>?_
 repeat' (first|refine L3 ?_|refine KG a4 HY ?_|(apply bo;first|refine KM a4 0 KC ?_|refine KM a4 1 KC ?_|refine KM a4 2 KC ?_|refine KM a4 3 KC ?_|refine KN a4 0 KC ?_|refine KN a4 1 KC ?_|refine KN a4 2 KC ?_|refine KO a4 1 KA (by assumption) rfl ?_|refine KO a4 0 KA (by assumption) rfl ?_|fail)|(apply aM;first|refine KH a4 0 KE ?_|refine KH a4 1 KE ?_|refine KH a4 2 KE ?_|refine KH a4 3 KE ?_|fail)|refine bq a4 fun _=>?_|fail)
 exact i6 (cs:=[.agg (mU (0,R.have_))]) (fp R rb k q) ⟨⟨_,0,_,_,rfl,rfl,.inr ⟨eO a4 rfl,rfl⟩⟩,trivial⟩ (List.sublist_cons_self ..) ⟨rfl,k,q,hk,rfl⟩
theorem DG {R:RD} {m c:Nat} (hc:c < R.C):(gJ (f4 R.cls R.rows m R.C R.rows.length))[((c:Nat):Int).toNat]?=some [jS (kf R.cls R.rows m c)]:=by
 rw [Int.toNat_natCast]
 exact wv (mw hc)
set_option maxHeartbeats 4000000 in
theorem zM (R:RD) (h:BH R) (rb k:Nat) (q:Option (Nat×Nat)) (hk:k≤1000001) (p:Pl) (hp:p.1≤1000000) (hp2:p.2 < 2 ^ 64) (c:Nat) (hc:c < R.C):AC Tryz.prog 181 [dA rb,.agg (mU p),aF c] (fp R rb k q) (q8 R rb (.agg (mU (cq R.cls R.rows p c)))):=by
 refine aN Tryz.func181 rfl Tryz.ntmps181 rfl fun B=>?_
 obtain ⟨pm,pr⟩:=p
 dsimp only at hp hp2
 have hlv:=vL R h rb k q hk pm hp
 have hnl:=DG (R:=R) (m:=pm) hc
 have hn64:kf R.cls R.rows pm c < 2 ^ 64:=oH (by have:=h.few;omega)
 have hbe:cq R.cls R.rows (pm,pr) c=if pr &&& kf R.cls R.rows pm c=0 then (0,0) else (pm+1,pr &&& kf R.cls R.rows pm c):=rfl
 repeat' (first|refine L3 ?_|refine KG a4 HY ?_|refine bA ?_|refine bq a4 fun _=>?_|fail)
 rename_i r6
 refine aw rfl (fun h1=>?_) (fun h1=>?_)
 ·clear h1
  repeat' (first|refine L3 ?_|refine KG a4 HY ?_)
  refine b6 (fp R rb k q) [(r6,.box [aF 0,jS 0] 261)] hlv rfl rfl (List.perm_append_comm (l₁:=[_])) rfl fun c1 L1 ⟨hc1,k1,q1,hk1,hL⟩=>?_
  subst hc1;subst hL
  refine aP (aI (L':=(r6,.box [aF 0,jS 0] 261)::fp R rb k1 q1) (List.perm_append_comm (l₂:=[_]))) ?_
  repeat' (first|refine KG a4 HY ?_|(apply aQ;first|refine aO a4 ?_|refine aG a4 ?_)|fail)
  refine rA rfl rfl rfl ?_
  rw [u64_and_nat _ _ hp2 hn64]
  repeat' (first|refine L3 ?_|refine KG a4 HY ?_)
  refine aw rfl (fun h2=>?_) (fun h2=>?_)
  ·have hz:pr &&& kf R.cls R.rows pm c=0:=by have:=Ky h2;omega
   rw [if_pos hz] at hbe
   rw [hbe]
   repeat' (first|refine L3 ?_|refine KG a4 HY ?_|(apply aM;first|refine KH a4 0 KE ?_|refine KH a4 1 KE ?_|refine KH a4 2 KE ?_|refine KH a4 3 KE ?_|fail))
   exact i6 (cs:=[.agg (mU (0,0))]) (fp R rb k1 q1) ⟨⟨_,0,_,_,rfl,rfl,.inr ⟨eO a4 rfl,rfl⟩⟩,trivial⟩ (List.sublist_cons_self ..) ⟨rfl,k1,q1,hk1,rfl⟩
  ·have hz:pr &&& kf R.cls R.rows pm c≠0:=by have:=Kx h2;omega
   rw [if_neg hz] at hbe
   rw [hbe]
   repeat' (first|refine L3 ?_|refine KG a4 HY ?_|(apply aU;refine aT ?_)|(apply aM;first|refine KH a4 0 KE ?_|refine KH a4 1 KE ?_|refine KH a4 2 KE ?_|refine KH a4 3 KE ?_|fail))
   refine i6 (cs:=[.agg (mU (pm+1,pr &&& kf R.cls R.rows pm c))]) (fp R rb k1 q1) ⟨⟨_,0,_,_,rfl,rfl,.inr ⟨eO a4 rfl,rfl⟩⟩,trivial⟩ (List.sublist_cons_self ..) ⟨rfl,k1,q1,hk1,rfl⟩
 ·have hz:pr=0:=by have:=Kx h1;simpa using this
  subst hz
  rw [Nat.zero_and,if_pos rfl] at hbe
  rw [hbe]
  repeat' (first|refine L3 ?_|refine KG a4 HY ?_|(apply aM;first|refine KH a4 0 KE ?_|refine KH a4 1 KE ?_|refine KH a4 2 KE ?_|refine KH a4 3 KE ?_|fail)|refine bH rfl ?_)
  exact i6 (cs:=[.agg (mU (0,0))]) (fp R rb k q) ⟨⟨_,0,_,_,rfl,rfl,.inr ⟨eO a4 rfl,rfl⟩⟩,trivial⟩ (List.sublist_cons_self ..) ⟨rfl,k,q,hk,rfl⟩
set_option maxHeartbeats 4000000 in
theorem Fm (R:RD) (h:BH R) (rb k:Nat) (q:Option (Nat×Nat)) (hk:k≤1000001) (p:Pl) (hp:p.1≤1000000) (hp2:p.2 < 2 ^ 64):AC Tryz.prog 182 [dA rb,.agg (mU p)] (fp R rb k q) (q8 R rb (jS (jU R.rows p))):=by
 refine aN Tryz.func182 rfl Tryz.ntmps182 rfl fun B=>?_
 obtain ⟨pm,pr⟩:=p
 dsimp only at hp hp2
 have hlv:=vL R h rb k q hk pm hp
 have hn64:cx (jT R.rows pm) R.rows.length < 2 ^ 64:=oH (by have:=h.few;omega)
 have hen:jU R.rows (pm,pr)=if pr=0 then 0 else pr &&& cx (jT R.rows pm) R.rows.length:=rfl
 repeat' (first|refine L3 ?_|refine KG a4 HY ?_|refine bA ?_|fail)
 refine aw rfl (fun h1=>?_) (fun h1=>?_)
 ·have hz:pr=0:=by have:=Ky h1;omega
  rw [if_pos hz] at hen
  rw [hen]
  repeat' (first|refine L3 ?_|refine KG a4 HY ?_)
  exact KP HY ⟨rfl,k,q,hk,rfl⟩
 ·have hz:pr≠0:=by have:=Kx h1;omega
  rw [if_neg hz] at hen
  rw [hen]
  clear h1
  repeat' (first|refine L3 ?_|fail)
  refine bn 7 [(0,.v),(1,.v),(2,.v),(3,.v),(4,.v),(5,.e),(6,.v)] none ?_ trivial rfl (by kernel_rfl) (by kernel_rfl) (by kernel_rfl) bI (by kernel_rfl) rfl
  repeat' (first|refine aB ?_|refine aX a4 ?_|fail)
  refine fG (fp R rb k q) [] hlv rfl rfl (by rw [List.append_nil]) trivial fun c1 L1 ⟨hc1,k1,q1,hk1,hL⟩=>?_
  subst hc1;subst hL
  repeat' (first|refine aB ?_|refine aX a4 ?_|fail)
  refine KU [9,14] HY ?_
  repeat' (first|fail)
  refine rA rfl rfl rfl ?_
  rw [u64_and_nat _ _ hp2 hn64]
  repeat' (first|refine L3 ?_|refine KG a4 HY ?_)
  exact KP HY ⟨rfl,k1,q1,hk1,by rw [List.append_nil]⟩
def qM (m r:Nat):List Int:=[m,0,0,0,0,0,0,0,r,0,0,0,0,0,0,0]
def jk (p:Pl):ByteArray:=(qM p.1 p.2).foldl (fun r n=>r.push (UInt8.ofNat n.toNat)) ByteArray.empty
def lx (p:Pl):Prop:=p.1 < 256∧p.2 < 256
theorem yb (p:Pl):(jk p).data.toList=(qM p.1 p.2).map fun n=>UInt8.ofNat n.toNat:=by
 unfold jk
 have:∀(l:List Int) (b:ByteArray),(l.foldl (fun r n=>r.push (UInt8.ofNat n.toNat)) b).data.toList=b.data.toList++l.map fun n=>UInt8.ofNat n.toNat:=by
  intro l
  induction l with
  | nil=>intro b;simp
  | cons x l ih=>intro b;rw [List.foldl_cons,ih];simp [ByteArray.push]
 rw [this]
 rfl
theorem Ep {a b:Nat} (ha:a < 256) (hb:b < 256) (h:UInt8.ofNat a=UInt8.ofNat b):a=b:=by
 have:=congrArg UInt8.toNat h
 simpa [UInt8.toNat_ofNat',Nat.mod_eq_of_lt ha,Nat.mod_eq_of_lt hb] using this
theorem tE {p q:Pl} (hp:lx p) (hq:lx q) (h:jk p=jk q):p=q:=by
 have hd:=congrArg (fun b=>b.data.toList) h
 simp only [yb] at hd
 unfold qM at hd
 simp only [Kp,List.cons.injEq,Int.toNat_natCast] at hd
 exact Prod.ext (Ep hp.1 hq.1 hd.1) (Ep hp.2 hq.2 hd.2.2.2.2.2.2.2.2.1)
def uC (M:List Pl) (v:Value):Option AV:=match v with
 | .string s=>(M.findIdx? fun p=>decide (jk p=s)).map fun i=>aF (i:Nat)
 | _=>none
theorem G9:uC []=fun _=>none:=by
 funext v
 unfold uC
 split <;> rfl
section
variable {M:List Pl} (hM:∀x∈M,lx x) {p:Pl} (hp:lx p)
include hM hp
theorem wm (h:p∈M):uC M (.string (jk p))=some (aF (M.idxOf p:Nat)):=by
  have hi:=List.idxOf_lt_length_of_mem h
  have:(M.findIdx? fun x=>decide (jk x=jk p))=some (M.idxOf p):=by
    rw [List.findIdx?_eq_some_iff_getElem]
    refine ⟨hi,by simp [List.getElem_idxOf hi],fun j hj=>?_⟩
    have hne:M[j]≠p:=by
      intro e
      have:=List.not_of_lt_findIdx (p:=(·==p)) (xs:=M) hj
      rw [e] at this
      simp at this
    simp only [decide_eq_true_eq]
    exact fun e=>hne (tE (hM _ (List.getElem_mem _)) hp e)
  unfold uC
  dsimp only
  rw [this]
  rfl
theorem Ed (h:p∉M):uC M (.string (jk p))=none:=by
 have:(M.findIdx? fun x=>decide (jk x=jk p))=none:=by
  rw [List.findIdx?_eq_none_iff]
  intro x hx
  rw [decide_eq_false_iff_not]
  exact fun e=>h (tE (hM x hx) hp e▸hx)
 unfold uC
 dsimp only
 rw [this]
 rfl
theorem Ga (h:p∉M):uC (M++[p]) (.string (jk p))=some (aF (M.length:Nat)):=by
 rw [wm (fun x hx=>by rw [List.mem_append,List.mem_singleton] at hx;rcases hx with hx | rfl;exact hM x hx;exact hp) hp (by simp),List.idxOf_append,if_neg h,List.idxOf_cons_self,Nat.zero_add]
end
theorem Bo {M:List Pl} {p:Pl}:∀v,v≠ .string (jk p)→uC (M++[p]) v=uC M v:=by
 intro v hv
 unfold uC
 split
 ·rename_i s
  have:decide (jk p=s)=false:=by rw [decide_eq_false_iff_not];exact fun e=>hv (by rw [e])
  rw [List.findIdx?_append]
  simp [this]
 ·rfl
def qN (l:List Int):List AV:=l.map fun z=> .sc (.int .u8 z)
def s9 (m r i:Nat):List Int:=if i=0 then List.replicate 16 0 else qM m r
theorem J1 {m r:Nat} (hm:m < 256) (hr:r < 256) {i:Nat} (hi:i < 8):f5 (f5 (qN (s9 m r i)) (0+i * 1) [.sc (.int .u8 (IntKind.u8.wrap ((m:Int) / 2 ^ min (8 * i) IntKind.i64.bits)))]) (0+(8+i) * 1) [.sc (.int .u8 (IntKind.u8.wrap ((r:Int) / 2 ^ min (8 * i) IntKind.u64.bits)))]=qN (s9 m r (i+1)):=by
 have h0:∀z:Nat,z < 256→∀k,0 < k→k < 8→IntKind.u8.wrap ((z:Int) / 2 ^ min (8 * k) 64)=0:=by
  intro z hz k hk hk8
  have:(z:Int) / 2 ^ min (8 * k) 64=0:=by
   have e:min (8 * k) 64=8 * k:=by omega
   rw [e]
   have h1:2 ^ 8≤2 ^ (8 * k):=Nat.pow_le_pow_right (by omega) (by omega)
   have h2:z / 2 ^ (8 * k)=0:=Nat.div_eq_of_lt (by omega)
   have h3:(2:Int) ^ (8 * k)=((2 ^ (8 * k):Nat):Int):=(Int.natCast_pow 2 _).symm
   rw [h3,←Int.natCast_ediv,h2]
   rfl
  rw [this]
  decide
 have h1:∀z:Nat,z < 256→IntKind.u8.wrap ((z:Int) / 2 ^ min (8 * 0) 64)=(z:Int):=by
  intro z hz
  rw [Nat.mul_zero,Nat.zero_min,Int.pow_zero,Int.ediv_one,IntKind.wrap_u8]
  omega
 show f5 (f5 _ _ [.sc (.int .u8 (IntKind.u8.wrap ((m:Int) / 2 ^ min (8 * i) 64)))]) _ [.sc (.int .u8 (IntKind.u8.wrap ((r:Int) / 2 ^ min (8 * i) 64)))]=_
 match i,hi with
 | 0,_=>rw [h1 m hm,h1 r hr];rfl
 | 1,_=>rw [h0 m hm 1 (by omega) (by omega),h0 r hr 1 (by omega) (by omega)];rfl
 | 2,_=>rw [h0 m hm 2 (by omega) (by omega),h0 r hr 2 (by omega) (by omega)];rfl
 | 3,_=>rw [h0 m hm 3 (by omega) (by omega),h0 r hr 3 (by omega) (by omega)];rfl
 | 4,_=>rw [h0 m hm 4 (by omega) (by omega),h0 r hr 4 (by omega) (by omega)];rfl
 | 5,_=>rw [h0 m hm 5 (by omega) (by omega),h0 r hr 5 (by omega) (by omega)];rfl
 | 6,_=>rw [h0 m hm 6 (by omega) (by omega),h0 r hr 6 (by omega) (by omega)];rfl
 | 7,_=>rw [h0 m hm 7 (by omega) (by omega),h0 r hr 7 (by omega) (by omega)];rfl
set_option maxHeartbeats 4000000 in
theorem Gd (p:Pl) (hp:lx p):bU Tryz.prog 179 [.agg (mU p)] (.sc (.string (jk p))):=by
 refine aN Tryz.func179 rfl Tryz.ntmps179 rfl fun B=>?_
 obtain ⟨m,r⟩:=p
 obtain ⟨hm,hr⟩:=hp
 dsimp only at hm hr
 repeat' (first|refine L3 ?_|refine ak ?_|refine KG a4 HY ?_|refine bA ?_|refine bq a4 fun _=>?_|fail)
 rename_i ab
 refine aR [1,3] (α:=Nat) (fun i=>[(5,aF i)]) (fun i=>i≤8) (fun i=>[(ab,.box (qN (s9 m r i)) 328)]) (fun i=>8 - i) 0 rfl ⟨rfl,trivial⟩ (Nat.zero_le _) (fun _ _ h=>h) fun i hi=>?_
 try dsimp only [Kr,Kq,Kp,Lv]
 repeat' (first|refine L3 ?_|refine KG a4 HY ?_)
 refine aw rfl (fun h1=>?_) (fun h1=>?_)
 ·have hi8:i < 8:=by have:=Ky h1;omega
  have hst:=J1 hm hr hi8
  have hcl:(qN (s9 m r i)).length=16:=by unfold qN s9;split <;> rfl
  clear h1
  repeat' (first|refine L3 ?_|refine ak ?_|refine KG a4 HY ?_|(apply aU;refine aT ?_)|fail)
  refine uh (8 * i) rfl rfl (by rw [Int.natCast_mul];rfl) rfl ?_
  repeat' (first|fail)
  refine nP a4 rfl rfl rfl rfl rfl rfl ?_
  refine xM a4 i rfl rfl rfl rfl (by omega) rfl ?_
  refine KZ a4 0 KD (Nat.ble_eq_true_of_le (by rw [hcl];show 0+i * 1+1≤16;omega)) ?_
  repeat' (first|refine L3 ?_|refine KG a4 HY ?_|(apply aU;refine aT ?_)|fail)
  refine uh (8 * i) rfl rfl (by rw [Int.natCast_mul];rfl) rfl ?_
  refine nP a4 rfl rfl rfl rfl rfl rfl ?_
  refine xM a4 (8+i) rfl rfl rfl (by rw [Kv];rfl) (by omega) rfl ?_
  refine KZ a4 0 KD (Nat.ble_eq_true_of_le (by rw [gE,hcl];show 0+(8+i) * 1+1≤16;omega)) ?_
  repeat' (first|refine L3 ?_|refine KG a4 HY ?_|(apply aU;refine aT ?_)|fail)
  exact aD (i+1) rfl ⟨by rw [Kv];rfl,trivial⟩ (by omega) (by omega) (fun _ _ h=>by rw [←hst];exact h)
 ·have hi8:i=8:=by have:=Kx h1;omega
  subst hi8
  repeat' (first|refine L3 ?_|fail)
  refine Dz a4 rfl rfl rfl ?_
  refine Dw a4 0 (qM m r) rfl rfl rfl rfl rfl rfl rfl rfl rfl ?_
  repeat' (first|refine L3 ?_|refine KG a4 HY ?_)
  refine dH (List.nil_sublist _) ?_
  exact KQ KA
end Go.Proofs.YtpmdfoaadejmkaaGreatDoor
namespace Go.Proofs.YtpmdfoaadejmkaaGreatDoor
open Go.RowKit
attribute [local irreducible] AT bJ AX AO Av Kt bi dq DA cG
section
variable {P:Program} {tt:TT} {r:Option Nat} {ops:Array Oper} {Q:Exit→Act→World→Prop} {nt:Nat} {D:List Deferred} {fr:cf} {B:Bs} {L:AL} {rest:List Oper} {d:Nat} {ty t t':TypeId} {pos:String} {af:Array Edge} {x y z:Operand} {u:AV}
theorem FH (ok:ez P tt) (n:Nat) {e sz by_:Nat} {k k':IntKind} {b:Int} {zs:List Value} (ht:jN tt t=some (e,sz,by_)) (hz:zI tt e=some zs) (hzl:Nat.beq zs.length sz=true) (hx:br fr x=some (.sc (.int k 0))) (hy:br fr y=some (.sc (.int k' b))) (hb:b=(n:Int)) (hby:by_ * n≤281474976710656) (h63:n≤9223372036854775807) (hd:Nat.ble nt d=false)
  (h:∀b,bJ P r ops Q nt D rest ((d,.vec (some (b,n)) sz [])::fr) B ((b,.vec e sz 0 n)::L)):bJ P r ops Q nt D (⟨some d,.makeSlice t x y,ty,pos,af,none⟩::rest) fr B L:=
 cN hd rfl (C2 (bz ok ht).1 (eX ok hz) (Nat.eq_of_beq_eq_true hzl) (bz ok ht).2 hx hy hb hby h63) fun c L' ⟨b,h1,h2⟩=>by subst h1;subst h2;exact h b
end
def uc (nb kb mb:Nat) (M:List Pl) (q:Option (Nat×Nat)):AL:=(nb,.box [.sc (.map (some kb))] 129)::(kb,dc .string (uC M))::(mb,.box [.vec q 2 (M.map mU)] 259)::tok q 261 2 M.length
def Ez (nb kb mb:Nat) (M:List Pl) (u:AV):AV→AL→Prop:=fun c L=>c=u∧∃q,L=uc nb kb mb M q
set_option maxHeartbeats 4000000 in
theorem yY (nb kb mb:Nat) (M:List Pl) (hM:∀x∈M,lx x) (hl:M.length≤1000000) (q:Option (Nat×Nat)) (p:Pl) (hp:lx p):AC Tryz.prog 178 ([.agg (mU p)]++[dA nb,dA mb]) (uc nb kb mb M q) (Ez nb kb mb (ew M p) (aF ((ew M p).idxOf p:Nat))):=by
 refine aN Tryz.func178 rfl Tryz.ntmps178 rfl fun B=>?_
 haveI:=AD.mk (Gd p hp)
 have hml:(M.map mU).length=M.length:=Ku ..
 unfold uc
 repeat' (first|refine L3 ?_|refine KG a4 HY ?_|(apply bo;first|refine KM a4 0 KC ?_|refine KM a4 1 KC ?_|refine KM a4 2 KC ?_|refine KM a4 3 KC ?_|refine KN a4 0 KC ?_|refine KN a4 1 KC ?_|refine KN a4 2 KC ?_|refine KO a4 1 KA (by assumption) rfl ?_|refine KO a4 0 KA (by assumption) rfl ?_|fail)|refine bA ?_|(apply bF;refine bv ?_)|fail)
 refine gY 1 (.int .i64 0) Tryz.underlying129 Tryz.underlying9 rfl rfl trivial rfl (by kernel_rfl) rfl ?_
 by_cases hm:p∈M
 ·have hg:=wm hM hp hm
  have ht:=fT hm
  rw [hg,ht]
  repeat' (first|refine L3 ?_|refine KG a4 HY ?_|refine bE rfl ?_)
  exact KP HY ⟨rfl,q,rfl⟩
 ·have hg:=Ed hM hp hm
  have hpu:=Ga hM hp hm
  have ht:=gH hm
  have hn:=ol hm
  rw [hg]
  repeat' (first|refine L3 ?_|refine KG a4 HY ?_|(apply bo;first|refine KM a4 0 KC ?_|refine KM a4 1 KC ?_|refine KM a4 2 KC ?_|refine KM a4 3 KC ?_|refine KN a4 0 KC ?_|refine KN a4 1 KC ?_|refine KN a4 2 KC ?_|refine KO a4 1 KA (by assumption) rfl ?_|refine KO a4 0 KA (by assumption) rfl ?_|fail)|refine bH rfl ?_)
  refine eg 1 (uC (M++[p])) Tryz.underlying129 Tryz.underlying9 rfl rfl trivial (by rw [hml];rfl) rfl hpu Bo ?_
  repeat' (first|refine L3 ?_|refine KG a4 HY ?_|(apply bo;first|refine KM a4 0 KC ?_|refine KM a4 1 KC ?_|refine KM a4 2 KC ?_|refine KM a4 3 KC ?_|refine KN a4 0 KC ?_|refine KN a4 1 KC ?_|refine KN a4 2 KC ?_|refine KO a4 1 KA (by assumption) rfl ?_|refine KO a4 0 KA (by assumption) rfl ?_|fail)|refine bW a4 ?_|fail)
  refine bV a4 [(nb,.box [.sc (.map (some kb))] 129),(kb,dc .string (uC (M++[p]))),(mb,.box [.vec q 2 (M.map mU)] 259)] rfl rfl rfl rfl ?_ (by rw [hml];simp;omega) (by rw [hml];simp;omega) rfl fun q'=>?_
  ·rw [hml]
   exact List.perm_append_comm (l₁:=[_,_,_])
  have hsn:M.map mU++[mU p]=(M++[p]).map mU:=by rw [List.map_append];rfl
  refine aP (aI (L':=(nb,.box [.sc (.map (some kb))] 129)::(kb,dc .string (uC (M++[p])))::(mb,.box [.vec q 2 (M.map mU)] 259)::tok q' 261 2 (M.map mU++[mU p]).length) (List.perm_append_comm (l₂:=[_,_,_]))) ?_
  repeat' (first|refine L3 ?_|refine KG a4 HY ?_|(apply aM;first|refine KH a4 0 KE ?_|refine KH a4 1 KE ?_|refine KH a4 2 KE ?_|refine KH a4 3 KE ?_|fail))
  refine KP HY ⟨?_,q',?_⟩
  ·rw [hml,hn]
  ·rw [ht,hsn,Ku]
   unfold uc
   rw [←hsn]
   rfl
theorem zK (r:bh):bU Tryz.prog 185 [.agg (bC r)] (.tup [.imm 1 (bc r.Back),d6 true]):=by
 refine aN Tryz.func185 rfl Tryz.ntmps185 rfl fun B=>?_
 repeat' (first|refine L3 ?_|refine KG a4 HY ?_|refine bA ?_|fail)
 exact bf rfl rfl rfl rfl
set_option maxHeartbeats 4000000 in
theorem Ah (r:bh) (h1:r.In.length≤1000000) (h2:r.Ahead.length≤1000000):bU Tryz.prog 184 [.agg (bC r)] (.tup [.imm 1 (bc (dZ r)),d6 (!r.In.isEmpty)]):=by
 refine aN Tryz.func184 rfl Tryz.ntmps184 rfl fun B=>?_
 have hil:=bY r.In
 have hal:=bY r.Ahead
 repeat' (first|refine L3 ?_|refine KG a4 HY ?_|refine bA ?_|fail)
 refine aw rfl (fun h=>?_) (fun h=>?_)
 ·have hz:r.In=[]:=List.eq_nil_of_length_eq_zero (by have:=Ky h;omega)
  unfold dZ
  rw [hz]
  clear h
  repeat' (first|refine L3 ?_|refine KG a4 HY ?_)
  refine bj (bS (t:=2) (c':= .imm 1 []) rfl fun σ v h=>i9 1 h) ?_
  exact bf rfl rfl rfl rfl
 ·have hz:r.In≠[]:=fun e=>by have:=Kx h;rw [hil,e] at this;simp at this
  have he:r.In.isEmpty=false:=by cases hr:r.In;exact absurd hr hz;rfl
  unfold dZ
  rw [he]
  clear h
  repeat' (first|refine L3 ?_|refine KG a4 HY ?_|(apply aU;refine aT ?_)|fail)
  refine FH a4 (r.In.length+r.Ahead.length) rfl rfl rfl rfl rfl (by rw [hil,hal,Kv]) (by omega) (by omega) rfl fun b=>?_
  repeat' (first|refine L3 ?_|refine KG a4 HY ?_)
  refine bV a4 [] rfl rfl rfl rfl (by rw [List.append_nil];exact Lz _) (by simp;omega) (by simp;omega) rfl fun q1=>?_
  repeat' (first|refine L3 ?_|refine KG a4 HY ?_)
  refine bV a4 [] rfl rfl rfl rfl (Lz _) (by simp;omega) (by simp;omega) rfl fun q2=>?_
  repeat' (first|refine L3 ?_|refine KG a4 HY ?_)
  have hra:bc (r.In++r.Ahead)=[]++bc r.In++bc r.Ahead:=by simp [bc]
  refine bj (bS (t:=2) (c':= .imm 1 (bc (r.In++r.Ahead))) rfl fun σ v h=>by rw [hra];exact VR.im h) ?_
  refine dH (List.nil_sublist _) ?_
  exact bf rfl rfl rfl rfl
end Go.Proofs.YtpmdfoaadejmkaaGreatDoor
