/-
  What comes where so many sets were met: the walk.
-/
import Derived.Test.YtpmdfoaadejmkaaGreatDoorM15
import Derived.Test.YtpmdfoaadejmkaaGreatDoorM13
import Derived.Test.YtpmdfoaadejmkaaGreatDoorM06
import Derived.Test.YtpmdfoaadejmkaaGreatDoorM11
namespace Go.Proofs.YtpmdfoaadejmkaaGreatDoor
open Go.RowKit
attribute [local irreducible] AT bv AX AO Av Kt b9 dh DA cE
def gR (cls:List Int) (n:Nat) (nx:List Nat) (g:Int):List Nat:=nx.set (cls.getD g.toNat 0).toNat (nx.getD (cls.getD g.toNat 0).toNat 0 ||| 2 ^ n)
def eE (cls:List Int) (rows:List (List (List Int))) (m C n:Nat):List Nat:=(List.range C).map fun c=>ce (lm cls rows m c) n
theorem gt {cls:List Int} {rows:List (List (List Int))} {m C n:Nat}:(eE cls rows m C n).length=C:=by simp [eE]
theorem lc {cls:List Int} {rows:List (List (List Int))} {m C n c:Nat} (h:c < C):(eE cls rows m C n)[c]?=some (ce (lm cls rows m c) n):=by simp [eE,h]
theorem sN {cls:List Int} {c:Nat} {s:List Int} {g:Int}:fh cls c (s++[g])=(fh cls c s || fh cls c [g]):=by simp [fh]
theorem l9 {cls:List Int} {n:Nat}:∀{s:List Int} {nx:List Nat},(s.foldl (gR cls n) nx).length=nx.length
 | [],_=>rfl
 | g::s,nx=>by rw [List.foldl_cons,l9];unfold gR;rw [List.length_set]
section
variable {cls:List Int} {C:Nat} (hd:∀z∈cls,0≤z∧z < (C:Int))
include hd
theorem tI {g:Int} (hg:0≤g∧g < cls.length):∃c:Nat,cls[g.toNat]?=some (c:Int)∧c < C∧cls.getD g.toNat 0=(c:Int):=by
 obtain ⟨z,hz⟩:∃z,cls[g.toNat]?=some z:=⟨_,Iz (by omega)⟩
 obtain ⟨h0,h1⟩:=hd z (Iw hz)
 refine ⟨z.toNat,by rw [hz];congr 1;omega,by omega,?_⟩
 rw [List.getD_eq_getElem?_getD,hz]
 show z=_
 omega
theorem rE {n:Nat} {nx:List Nat} (hl:nx.length=C):∀{s:List Int},(∀g∈s,0≤g∧g < (cls.length:Int))→∀c,c < C→(s.foldl (gR cls n) nx)[c]?=some (nx.getD c 0 ||| (if fh cls c s=true then 2 ^ n else 0)):=by
 intro s
 refine mT (P:=fun s=>(∀g∈s,0≤g∧g < (cls.length:Int))→∀c,c < C→(s.foldl (gR cls n) nx)[c]?=some (nx.getD c 0 ||| (if fh cls c s=true then 2 ^ n else 0))) ?_ ?_ s
 ·intro _ c hc
  rw [List.foldl_nil,List.getD_eq_getElem?_getD,Iz (by omega)]
  simp [fh]
 ·intro s g ih hs c hc
  have ih':=ih (fun x hx=>hs x (by simp [hx]))
  obtain ⟨k,hk,hkC,hkd⟩:=tI hd (hs g (by simp))
  have hml:=l9 (cls:=cls) (n:=n) (s:=s) (nx:=nx)
  rw [List.foldl_append,List.foldl_cons,List.foldl_nil]
  unfold gR at hml ⊢
  rw [hkd,Int.toNat_natCast]
  have hg1:fh cls c [g]=decide (k=c):=by
   unfold fh
   have hg:=hs g (by simp)
   have hkd2:cls.getD g.toNat (-1)=(k:Int):=by rw [List.getD_eq_getElem?_getD,hk];rfl
   simp only [List.any_cons,List.any_nil,Bool.or_false,hkd2,decide_eq_true hg.1,decide_eq_true hg.2,Bool.true_and]
   exact decide_eq_decide.2 (by omega)
  rw [sN,hg1]
  by_cases hkc:k=c
  ·subst hkc
   rw [List.getElem?_set_self (by omega),List.getD_eq_getElem?_getD]
   have:=ih' k hc
   unfold gR at this
   rw [this]
   simp only [Option.getD_some,decide_true,Bool.or_true,if_true]
   congr 1
   split
   ·rw [Nat.or_assoc,Nat.or_self]
   ·rw [Nat.or_zero]
  ·rw [List.getElem?_set_ne hkc]
   have:=ih' c hc
   unfold gR at this
   rw [this]
   simp [hkc]
theorem w8 {rows:List (List (List Int))} {m n:Nat} {eH:List (List Int)} (hr:rows[n]?=some eH) {s:List Int} (hs:eH[m]?=some s) (hg:∀g∈s,0≤g∧g < (cls.length:Int)):s.foldl (gR cls n) (eE cls rows m C n)=eE cls rows m C (n+1):=by
 apply List.ext_getElem?
 intro c
 by_cases hc:c < C
 ·rw [rE hd gt hg c hc,lc hc,List.getD_eq_getElem?_getD,lc hc,ce]
  have:lm cls rows m c n=fh cls c s:=by
   unfold lm
   rw [hr]
   dsimp only
   rw [hs]
  rw [this]
  rfl
 ·rw [List.getElem?_eq_none (by rw [l9,gt];omega),List.getElem?_eq_none (by rw [gt];omega)]
end
theorem q9 {cls:List Int} {rows:List (List (List Int))} {m C n:Nat} {eH:List (List Int)} (hr:rows[n]?=some eH) (hs:eH.length≤m):eE cls rows m C (n+1)=eE cls rows m C n:=by
 unfold eE
 refine List.map_congr_left fun c _=>?_
 rw [ce]
 have:lm cls rows m c n=false:=by
  unfold lm
  rw [hr]
  dsimp only
  rw [List.getElem?_eq_none hs]
 rw [this]
 simp
theorem xr (n:Nat) (h:n < 64):IntKind.u64.wrap (1 * 2 ^ min n IntKind.u64.bits)=((2 ^ n:Nat):Int):=by
 have e:min n IntKind.u64.bits=n:=by show min n 64=n;omega
 have h1:2 ^ n < 2 ^ 64:=Nat.pow_lt_pow_right (by omega) h
 have e2:(2:Int) ^ n=((2 ^ n:Nat):Int):=(Int.natCast_pow 2 n).symm
 rw [e,Int.one_mul,e2]
 generalize 2 ^ n=k at h1
 have h64:(2:Nat) ^ 64=18446744073709551616:=by decide
 rw [h64] at h1
 rw [IntKind.wrap_u64]
 exact Int.emod_eq_of_lt (by omega) (by omega)
theorem nd {p:Nat→Bool} {n:Nat} (h:n≤64):ce p n < 2 ^ 64:=Nat.lt_of_lt_of_le (m6 p n) (Nat.pow_le_pow_right (by omega) h)
theorem EC {n:Nat} (h:n < 64):2 ^ n < 2 ^ 64:=Nat.pow_lt_pow_right (by omega) h
def fV (l:List Nat):List AV:=l.map fun z=>iY z
theorem po (l:List Nat):(fV l).length=l.length:=by simp [fV]
theorem vn {l:List Nat} {i:Nat} {z:Nat} (h:l[i]?=some z):(fV l)[0+((i:Nat):Int).toNat * 1]?=some (iY z):=by simp [fV,h]
theorem vo {l:List Nat} {i:Nat} {z:Nat}:f4 (fV l) (0+((i:Nat):Int).toNat * 1) [iY z]=fV (l.set i z):=by
 rw [iy]
 unfold fV
 rw [List.map_set]
 simp
theorem tG (n:Nat):(List.replicate n [iY 0]).flatten=fV (List.replicate n 0):=by
 induction n with
 | zero=>rfl
 | succ n ih=>rw [List.replicate_succ,List.flatten_cons,ih,List.replicate_succ];rfl
theorem zo (l:List Nat):fV l=(gi l).flatten:=by
 induction l with
 | nil=>rfl
 | cons z l ih=>simp [fV,gi] at ih ⊢;exact ih
def ji (l:List (List (List Int))):List (List AV):=l.map fun r=>[.imm 1 (b7 r)]
theorem rO (l:List (List (List Int))):(ji l).length=l.length:=by simp [ji]
theorem yU {l:List (List (List Int))} {i:Nat} {r:List (List Int)} (h:l[i]?=some r):(ji l)[i]?=some [.imm 1 (b7 r)]:=by simp [ji,h]
structure RD where
 rows:List (List (List Int))
 have_:Nat
 cls:List Int
 C:Nat
structure zA (R:RD):Prop where
 few:R.rows.length≤6
 dom:∀z∈R.cls,0≤z∧z < (R.C:Int)
 sets:∀r∈R.rows,∀s∈r,(∀g∈s,0≤g∧g < (R.cls.length:Int))∧s.length≤1000000
 long:∀r∈R.rows,r.length≤1000000
 many:R.C≤1000000∧R.cls.length≤1000000
def D4 (R:RD) (lv:AV):List AV:=[.imm 1 (ji R.rows),iY R.have_,.imm 1 (aT R.cls),aF R.C,lv]
def kr (R:RD) (m:Nat):List AV:=[.imm 1 (gi (eE R.cls R.rows m R.C R.rows.length)),iY (ce (iZ R.rows m) R.rows.length)]
set_option maxHeartbeats 8000000 in
theorem sA (R:RD) (h:zA R) (rb:Nat) (lv:AV) (m:Nat) (hm:m≤1000000):AC Tryz.prog 285 [fQ rb,aF m] [(rb,.box (D4 R lv) 268)] fun c L=>c= .agg (kr R m)∧L=[(rb,.box (D4 R lv) 268)]:=by
 refine aL Tryz.func285 rfl Tryz.ntmps285 rfl fun B=>?_
 have hrl:=rO R.rows
 have hil:=b6 R.cls
 obtain ⟨hC,hN⟩:=h.many
 have hfew:=h.few
 repeat' (first|refine IT ?_|refine IF a5 G9 ?_|(apply bw;first|refine II a5 0 IC ?_|refine II a5 1 IC ?_|refine II a5 2 IC ?_|refine II a5 3 IC ?_|refine IJ a5 0 IC ?_|refine IJ a5 1 IC ?_|refine IJ a5 2 IC ?_|refine IK a5 1 IA (by assumption) rfl ?_|refine IK a5 0 IA (by assumption) rfl ?_|fail)|refine bi a5 fun _=>?_|fail)
 refine kJ a5 R.C rfl rfl rfl rfl rfl rfl rfl (by omega) (by omega) rfl fun nb=>?_
 rw [show (List.replicate R.C (List.map AV.sc [Value.int .u64 0])).flatten=fV (List.replicate R.C 0) from tG R.C]
 repeat' (first|refine IT ?_|refine am ?_|refine IF a5 G9 ?_|(apply bw;first|refine II a5 0 IC ?_|refine II a5 1 IC ?_|refine II a5 2 IC ?_|refine II a5 3 IC ?_|refine IJ a5 0 IC ?_|refine IJ a5 1 IC ?_|refine IJ a5 2 IC ?_|refine IK a5 1 IA (by assumption) rfl ?_|refine IK a5 0 IA (by assumption) rfl ?_|fail)|(apply aK;first|refine IG a5 0 ID ?_|refine IG a5 1 ID ?_|refine IG a5 2 ID ?_|refine IG a5 3 ID ?_|fail)|refine bi a5 fun _=>?_|fail)
 rename_i r4 l5
 refine aO [0,1,4,5,19,20] (α:=Nat) (fun n=>[(21,aF n)]) (fun n=>n≤R.rows.length) (fun n=>[(l5,.box [.sc (.slice (some ⟨nb,0,none⟩) R.C R.C),iY (ce (iZ R.rows m) n)] 330),(nb,.box (fV (eE R.cls R.rows m R.C n)) 246),(r4,.box [.sc (.slice none 0 0),iY 0] 330),(rb,.box (D4 R lv) 268)]) (fun n=>R.rows.length - n) 0 rfl ⟨rfl,trivial⟩ (Nat.zero_le _) (fun _ _ hh=>?_) fun n hn=>?_
 ·rw [show eE R.cls R.rows m R.C 0=List.replicate R.C 0 by unfold eE ce;rw [List.map_const',List.length_range]]
  exact hh
 ·try dsimp only [Jx,Jw,Jv,Jq]
  repeat' (first|refine IT ?_|refine IF a5 G9 ?_)
  refine ar rfl (fun h1=>?_) (fun h1=>?_)
  ·have hn2:n < R.rows.length:=by have:=Iy h1;omega
   obtain ⟨eH,hrow⟩:∃z,R.rows[n]?=some z:=⟨_,Iz hn2⟩
   have hrg:=yU hrow
   have hrwl:=cn eH
   have hrm:=Iw hrow
   have hlong:=h.long eH hrm
   have hends:ce (iZ R.rows m) (n+1)=ce (iZ R.rows m) n ||| (if eH.length=m then 2 ^ n else 0):=by
    rw [ce]
    unfold iZ
    rw [hrow]
    simp only [decide_eq_true_eq]
   have hb1:=nd (p:=iZ R.rows m) (n:=n) (by omega)
   have hb2:=EC (n:=n) (by omega)
   have hub:=xr n (by omega)
   clear h1
   repeat' (first|refine IT ?_|refine am ?_|refine IF a5 G9 ?_|(apply aS;first|refine aQ a5 ?_|refine aG a5 ?_)|fail)
   refine ar rfl (fun h1=>?_) (fun h1=>?_)
   ·have hlm:eH.length=m:=by have:=Iy h1;omega
    rw [if_pos hlm] at hends
    have hsk:=q9 (cls:=R.cls) (C:=R.C) hrow (Nat.le_of_eq hlm)
    clear h1
    repeat' (first|fail)
    refine bA 4 [(0,.v),(1,.l),(2,.v),(3,.v)] none ?_ trivial rfl (by kernel_rfl) (by kernel_rfl) (by kernel_rfl) bU (by kernel_rfl) rfl
    repeat' (first|refine aD ?_|refine b8 a5 ?_|refine bZ a5 0 rfl rfl rfl rfl (by first|trivial|rfl) ?_)
    refine vw n rfl rfl rfl trivial ?_
    repeat' (first|fail)
    refine IQ [0,1,4,5,6,7,19,20,21,31,33] G9 ?_
    refine sF rfl rfl rfl ?_
    rw [hub,u64_or_nat _ _ hb1 hb2,←hends]
    repeat' (first|refine IT ?_|refine IF a5 G9 ?_|(apply aK;first|refine IG a5 0 ID ?_|refine IG a5 1 ID ?_|refine IG a5 2 ID ?_|refine IG a5 3 ID ?_|fail))
    refine ar rfl (fun h2=>?_) (fun h2=>?_)
    ·repeat' (first|refine IT ?_|refine IF a5 G9 ?_|(apply aV;refine aU ?_)|fail)
     exact aC (n+1) rfl ⟨by rw [Iv];rfl,trivial⟩ hn2 (by omega) (fun _ _ hh=>by rw [hsk];exact hh)
    ·have:=Ix h2
     omega
   ·have hlm:¬eH.length=m:=by have:=Ix h1;omega
    rw [if_neg hlm,Nat.or_zero] at hends
    clear h1
    repeat' (first|refine IT ?_|refine IF a5 G9 ?_)
    refine ar rfl (fun h2=>?_) (fun h2=>?_)
    ·have hsk:=q9 (cls:=R.cls) (C:=R.C) (m:=m) hrow (by have:=Iy h2;omega)
     repeat' (first|refine IT ?_|refine IF a5 G9 ?_|(apply aV;refine aU ?_)|fail)
     exact aC (n+1) rfl ⟨by rw [Iv];rfl,trivial⟩ hn2 (by omega) (fun _ _ hh=>by rw [hsk,hends];exact hh)
    ·have hml:m < eH.length:=by have:=Ix h2;omega
     obtain ⟨s,hs⟩:∃z,eH[m]?=some z:=⟨_,Iz hml⟩
     have hsg:=gu hs
     obtain ⟨hsd,hsl⟩:=h.sets eH hrm s (Iw hs)
     have hsil:=b6 s
     have hst:=w8 h.dom hrow hs hsd
     clear h2
     repeat' (first|refine IT ?_|refine am ?_|refine IF a5 G9 ?_|(apply aS;first|refine aQ a5 ?_|refine aG a5 ?_)|fail)
     refine aO [0,1,4,5,6,19,20,21,43,44] (α:=Nat) (fun j=>[(45,aF j)]) (fun j=>j≤s.length) (fun j=>[(l5,.box [.sc (.slice (some ⟨nb,0,none⟩) R.C R.C),iY (ce (iZ R.rows m) n)] 330),(nb,.box (fV ((s.take j).foldl (gR R.cls n) (eE R.cls R.rows m R.C n))) 246),(r4,.box [.sc (.slice none 0 0),iY 0] 330),(rb,.box (D4 R lv) 268)]) (fun j=>s.length - j) 0 rfl ⟨rfl,trivial⟩ (Nat.zero_le _) (fun _ _ hh=>hh) fun j hj=>?_
     try dsimp only [Jx,Jw,Jv,Jq]
     repeat' (first|refine IT ?_|refine IF a5 G9 ?_)
     refine ar rfl (fun h2=>?_) (fun h2=>?_)
     ·have hj2:j < s.length:=by have:=Iy h2;omega
      obtain ⟨g,hg⟩:∃z,s[j]?=some z:=⟨_,Iz hj2⟩
      have hgg:=bR hg
      have hgd:=hsd g (Iw hg)
      obtain ⟨c,hc,hcC,hcd⟩:=tI h.dom hgd
      have hcg:(aT R.cls)[g.toNat]?=some [aF c]:=bR hc
      have hnl:((s.take j).foldl (gR R.cls n) (eE R.cls R.rows m R.C n)).length=R.C:=by rw [l9,gt]
      obtain ⟨v,hv⟩:∃z,((s.take j).foldl (gR R.cls n) (eE R.cls R.rows m R.C n))[c]?=some z:=⟨_,Iz (by omega)⟩
      have hv64:v < 2 ^ 64:=by
       have:=rE h.dom (n:=n) (nx:=eE R.cls R.rows m R.C n) gt (s:=s.take j) (fun x hx=>hsd x (List.mem_of_mem_take hx)) c hcC
       rw [hv,List.getD_eq_getElem?_getD,lc hcC] at this
       cases this
       exact BT (nd (by omega)) (by split;exact hb2;omega)
      have htk:s.take (j+1)=s.take j++[g]:=by rw [List.take_add_one,hg];rfl
      have hfs:(s.take (j+1)).foldl (gR R.cls n) (eE R.cls R.rows m R.C n)=((s.take j).foldl (gR R.cls n) (eE R.cls R.rows m R.C n)).set c (v ||| 2 ^ n):=by
       rw [htk,List.foldl_append,List.foldl_cons,List.foldl_nil]
       generalize (s.take j).foldl (gR R.cls n) (eE R.cls R.rows m R.C n)=nx at hv
       unfold gR
       rw [hcd,Int.toNat_natCast,List.getD_eq_getElem?_getD,hv]
       rfl
      generalize (s.take j).foldl (gR R.cls n) (eE R.cls R.rows m R.C n)=nx at *
      have hvc:=vn hv
      have hul:=po nx
      clear h2
      repeat' (first|refine IT ?_|refine am ?_|refine IF a5 G9 ?_|(apply aS;first|refine aQ a5 ?_|refine aG a5 ?_)|fail)
      refine c7 [0,1,4,5,6,9,19,20,21,43,44,45] True rfl (fun Q' K=>?_) (fun _=>?_) (fun hC=>absurd trivial hC)
      ·repeat' (first|refine IT ?_|refine IF a5 G9 ?_|refine IM G9 ?_|refine IP IB ?_|(apply bw;first|refine II a5 0 IC ?_|refine II a5 1 IC ?_|refine II a5 2 IC ?_|refine II a5 3 IC ?_|refine IJ a5 0 IC ?_|refine IJ a5 1 IC ?_|refine IJ a5 2 IC ?_|refine IK a5 1 IA (by assumption) rfl ?_|refine IK a5 0 IA (by assumption) rfl ?_|fail)|refine IR IA (fun _=>?_) (fun _=>?_))
       all_goals exact K _ _ rfl rfl (by simp_all <;> omega)
      repeat' (first|fail)
      refine bA 14 [(0,.v),(1,.l),(2,.v),(3,.v),(4,.v),(5,.l),(6,.v),(7,.v),(8,.v),(9,.v),(10,.l),(11,.v),(12,.v),(13,.v)] none ?_ trivial rfl (by kernel_rfl) (by kernel_rfl) (by kernel_rfl) bU (by kernel_rfl) rfl
      repeat' (first|refine aD ?_|refine b8 a5 ?_|refine bZ a5 0 rfl rfl rfl rfl (by first|trivial|rfl) ?_)
      refine bZ a5 3 rfl rfl rfl rfl trivial ?_
      repeat' (first|refine aD ?_|refine b8 a5 ?_|(apply cB;refine cT a5 ?_)|fail)
      refine d9 a5 rfl rfl rfl ⟨by omega,by omega⟩ trivial ?_
      repeat' (first|refine aD ?_|fail)
      refine bZ a5 1 rfl rfl rfl hvc trivial ?_
      repeat' (first|refine aD ?_|refine b8 a5 ?_|fail)
      refine vw n rfl rfl rfl trivial ?_
      repeat' (first|refine aD ?_|fail)
      refine D9 rfl rfl trivial ?_
      repeat' (first|fail)
      refine IQ [0,1,4,5,6,19,20,21,43,44,45,61,68,73] G9 ?_
      rw [hub,u64_or_nat _ _ hv64 hb2]
      repeat' (first|(apply aS;first|refine aQ a5 ?_|refine aG a5 ?_)|fail)
      refine aa a5 1 rfl rfl rfl rfl rfl rfl (Nat.ble_eq_true_of_le (by rw [hul,hnl,Int.toNat_natCast];show 0+c * 1+1≤_;omega)) ?_
      rw [vo]
      repeat' (first|refine IT ?_|refine IF a5 G9 ?_|(apply aV;refine aU ?_)|fail)
      exact aC (j+1) rfl ⟨by rw [Iv];rfl,trivial⟩ hj2 (by omega) (fun _ _ hh=>by rw [hfs];exact hh)
     ·have hj2:j=s.length:=by have:=Ix h2;omega
      subst hj2
      rw [List.take_length,hst]
      clear h2
      repeat' (first|refine IT ?_|refine IF a5 G9 ?_|(apply aV;refine aU ?_)|fail)
      exact aC (n+1) rfl ⟨by rw [Iv];rfl,trivial⟩ hn2 (by omega) (fun _ _ hh=>by rw [hends];exact hh)
  ·have hn2:n=R.rows.length:=by have:=Ix h1;omega
   subst hn2
   clear h1
   repeat' (first|refine IT ?_|(apply bw;first|refine II a5 0 IC ?_|refine II a5 1 IC ?_|refine II a5 2 IC ?_|refine II a5 3 IC ?_|refine IJ a5 0 IC ?_|refine IJ a5 1 IC ?_|refine IJ a5 2 IC ?_|refine IK a5 1 IA (by assumption) rfl ?_|refine IK a5 0 IA (by assumption) rfl ?_|fail)|(apply aK;first|refine IG a5 0 ID ?_|refine IG a5 1 ID ?_|refine IG a5 2 ID ?_|refine IG a5 3 ID ?_|fail))
   have hcu:=po (eE R.cls R.rows m R.C R.rows.length)
   rw [gt] at hcu
   refine eP (L':=[(nb,.box (fV (eE R.cls R.rows m R.C R.rows.length)) 246),(r4,.box [.sc (.slice (some ⟨nb,0,none⟩) R.C R.C),iY (ce (iZ R.rows m) R.rows.length)] 330),(rb,.box (D4 R lv) 268)]) (List.sublist_cons_self ..) ?_
   refine bh (rZ (k:=0) (sz:=1) (n:=R.C) (cap:=R.C) (l:=gi (eE R.cls R.rows m R.C R.rows.length)) rfl (by rw [←zo,List.take_of_length_le (by omega)]) (by omega) (fun e he=>by unfold gi at he;obtain ⟨z,_,rfl⟩:=List.mem_map.1 he;rfl) (by rw [mV,gt]) (Nat.le_refl _) (by unfold maxLen;omega)) ?_
   exact gW (cs:=[.agg (kr R m)]) [(rb,.box (D4 R lv) 268)] ⟨⟨_,0,_,_,rfl,rfl,.inr ⟨eA a5 rfl,rfl⟩⟩,trivial⟩ (List.sublist_cons_self ..) ⟨rfl,rfl⟩
end Go.Proofs.YtpmdfoaadejmkaaGreatDoor
namespace Go.Proofs.YtpmdfoaadejmkaaGreatDoor
open Go.RowKit
attribute [local irreducible] AT bv AX AO Av Kt b9 dh DA cE
def yB (R:RD) (k:Nat):List (List AV):=(List.range k).map (kr R)
theorem x7 (R:RD) (k:Nat):(yB R k).length=k:=by simp [yB]
theorem ud (R:RD) (k:Nat):yB R k++[kr R k]=yB R (k+1):=by simp [yB,List.range_succ]
theorem DN (R:RD) {k m:Nat} (h:m < k):(yB R k)[m]?=some (kr R m):=by simp [yB,h]
abbrev qj (R:RD) (rb k:Nat) (q:Option (Nat×Nat)):Nat×AB:=(rb,.box (D4 R (.vec q 2 (yB R k))) 268)
abbrev eR (R:RD) (rb k:Nat) (q:Option (Nat×Nat)):AL:=qj R rb k q::tok q 330 2 k
def oI (R:RD) (rb:Nat) (u:AV):AV→AL→Prop:=fun c L=>c=u∧∃k q,k≤1000001∧L=eR R rb k q
theorem H2 {a b:Nat×AB} {X:AL}:(a::b::X).Perm (b::a::X):=List.Perm.swap ..
set_option maxHeartbeats 4000000 in
theorem ua (R:RD) (h:zA R) (rb k:Nat) (q:Option (Nat×Nat)) (hk:k≤1000001) (m:Nat) (hm:m≤1000000):AC Tryz.prog 255 [fQ rb,aF m] (eR R rb k q) (oI R rb (.agg (kr R m))):=by
 refine aL Tryz.func255 rfl Tryz.ntmps255 rfl fun B=>?_
 repeat' (first|refine IT ?_|refine am ?_|refine bi a5 fun _=>?_|fail)
 rename_i r4
 refine aO [0,1,4] (α:=Nat×Option (Nat×Nat)) (fun _=>[]) (fun s=>s.1≤1000001) (fun s=>(r4,.box [.sc (.slice none 0 0),iY 0] 330)::eR R rb s.1 s.2) (fun s=>m+1 - s.1) (k,q) rfl trivial hk (fun _ _ hh=>hh) ?_
 rintro ⟨k1,q1⟩ hk1
 dsimp only at hk1 ⊢
 try dsimp only [Jx,Jw,Jv,Jq]
 have hlen:=x7 R k1
 repeat' (first|refine IT ?_|refine IF a5 G9 ?_|(apply bw;first|refine II a5 0 IC ?_|refine II a5 1 IC ?_|refine II a5 2 IC ?_|refine II a5 3 IC ?_|refine IJ a5 0 IC ?_|refine IJ a5 1 IC ?_|refine IJ a5 2 IC ?_|refine IK a5 1 IA (by assumption) rfl ?_|refine IK a5 0 IA (by assumption) rfl ?_|fail)|fail)
 refine ar rfl (fun h1=>?_) (fun h1=>?_)
 ·have hkm:k1≤m:=by have:=Iy h1;omega
  have hml:=sA R h rb (.vec q1 2 (yB R k1)) k1 (by omega)
  clear h1
  repeat' (first|refine am ?_|refine IT ?_|fail)
  refine d8 [.cell (rb,4,.vec q1 2 (yB R k1))] 14 [(0,.v),(1,.v),(2,.v),(3,.v),(4,.k),(5,.v),(6,.v),(7,.v),(8,.v),(9,.l),(10,.v),(11,.f),(12,.v),(13,.e)] none ?_ trivial rfl (by kernel_rfl) (by kernel_rfl) (by kernel_rfl) bU (by kernel_rfl) rfl
  repeat' (first|refine aD ?_|refine b8 a5 ?_|fail)
  refine dx a5 0 rfl rfl rfl (mr 1 rfl rfl) trivial ?_
  repeat' (first|refine aD ?_|refine b8 a5 ?_|refine bZ a5 1 rfl rfl rfl rfl (by first|trivial|rfl) ?_)
  refine wO [qj R rb k1 q1] ((r4,.box [.sc (.slice none 0 0),iY 0] 330)::tok q1 330 2 k1) hml rfl (by rw [hlen];rfl) H2 trivial (fun c L1 ⟨hc,hL⟩ hK=>by subst hL;exact mr 0 rfl rfl) fun c L1 ⟨hc,hL⟩=>?_
  subst hc;subst hL
  repeat' (first|refine aD ?_|refine dR a5 ?_|fail)
  refine eV a5 [qj R rb k1 q1,(r4,.box [.sc (.slice none 0 0),iY 0] 330)] rfl rfl rfl rfl ?_ (by rw [hlen];simp;omega) (by rw [hlen];simp;omega) trivial fun q'=>?_
  ·rw [hlen]
   exact List.perm_append_comm (l₁:=[_,_])
  repeat' (first|fail)
  refine IQ [0,1,4,12,25] G9 ?_
  refine aJ (aI (L':=qj R rb k1 q1::(r4,.box [.sc (.slice none 0 0),iY 0] 330)::tok q' 330 2 (yB R k1++[kr R k1]).length) (List.perm_append_comm (l₂:=[_,_]))) ?_
  repeat' (first|refine IT ?_|refine IF a5 G9 ?_|(apply aK;first|refine IG a5 0 ID ?_|refine IG a5 1 ID ?_|refine IG a5 2 ID ?_|refine IG a5 3 ID ?_|fail))
  refine aC (k1+1,q') rfl trivial (by dsimp only;omega) (by dsimp only;omega) (fun σ w hh=>?_)
  rw [ud,x7] at hh
  refine cX.perm (L:=qj R rb (k1+1) q'::(r4,.box [.sc (.slice none 0 0),iY 0] 330)::tok q' 330 2 (k1+1)) ?_ H2
  unfold qj
  rw [←ud]
  exact hh
 ·have hkm:m < k1:=by have:=Ix h1;omega
  have hlg:=DN R hkm
  clear h1
  repeat' (first|refine IT ?_|refine IF a5 G9 ?_|(apply bw;first|refine II a5 0 IC ?_|refine II a5 1 IC ?_|refine II a5 2 IC ?_|refine II a5 3 IC ?_|refine IJ a5 0 IC ?_|refine IJ a5 1 IC ?_|refine IJ a5 2 IC ?_|refine IK a5 1 IA (by assumption) rfl ?_|refine IK a5 0 IA (by assumption) rfl ?_|fail)|(apply aS;first|refine aQ a5 ?_|refine aG a5 ?_)|(apply aK;first|refine IG a5 0 ID ?_|refine IG a5 1 ID ?_|refine IG a5 2 ID ?_|refine IG a5 3 ID ?_|fail))
  exact gW (cs:=[.agg (kr R m)]) (eR R rb k1 q1) ⟨⟨_,0,_,_,rfl,rfl,.inr ⟨eA a5 rfl,rfl⟩⟩,trivial⟩ (List.sublist_cons_self ..) ⟨rfl,k1,q1,hk1,rfl⟩
def lD (p:Pl):List AV:=[aF p.1,iY p.2]
theorem yT (R:RD) (rb k:Nat) (q:Option (Nat×Nat)) (hk:k≤1000001):AC Tryz.prog 180 [fQ rb] (eR R rb k q) (oI R rb (.agg (lD (0,R.have_)))):=by
 refine aL Tryz.func180 rfl Tryz.ntmps180 rfl fun B=>?_
 repeat' (first|refine IT ?_|refine IF a5 G9 ?_|(apply bw;first|refine II a5 0 IC ?_|refine II a5 1 IC ?_|refine II a5 2 IC ?_|refine II a5 3 IC ?_|refine IJ a5 0 IC ?_|refine IJ a5 1 IC ?_|refine IJ a5 2 IC ?_|refine IK a5 1 IA (by assumption) rfl ?_|refine IK a5 0 IA (by assumption) rfl ?_|fail)|(apply aK;first|refine IG a5 0 ID ?_|refine IG a5 1 ID ?_|refine IG a5 2 ID ?_|refine IG a5 3 ID ?_|fail)|refine bi a5 fun _=>?_|fail)
 exact gW (cs:=[.agg (lD (0,R.have_))]) (eR R rb k q) ⟨⟨_,0,_,_,rfl,rfl,.inr ⟨eA a5 rfl,rfl⟩⟩,trivial⟩ (List.sublist_cons_self ..) ⟨rfl,k,q,hk,rfl⟩
theorem BN {R:RD} {m c:Nat} (hc:c < R.C):(gi (eE R.cls R.rows m R.C R.rows.length))[((c:Nat):Int).toNat]?=some [iY (ja R.cls R.rows m c)]:=by
 rw [Int.toNat_natCast]
 exact uP (lc hc)
set_option maxHeartbeats 4000000 in
theorem xS (R:RD) (h:zA R) (rb k:Nat) (q:Option (Nat×Nat)) (hk:k≤1000001) (p:Pl) (hp:p.1≤1000000) (hp2:p.2 < 2 ^ 64) (c:Nat) (hc:c < R.C):AC Tryz.prog 181 [fQ rb,.agg (lD p),aF c] (eR R rb k q) (oI R rb (.agg (lD (c5 R.cls R.rows p c)))):=by
 refine aL Tryz.func181 rfl Tryz.ntmps181 rfl fun B=>?_
 obtain ⟨pm,pr⟩:=p
 dsimp only at hp hp2
 have hlv:=ua R h rb k q hk pm hp
 have hnl:=BN (R:=R) (m:=pm) hc
 have hn64:ja R.cls R.rows pm c < 2 ^ 64:=nd (by have:=h.few;omega)
 have hbe:c5 R.cls R.rows (pm,pr) c=if pr &&& ja R.cls R.rows pm c=0 then (0,0) else (pm+1,pr &&& ja R.cls R.rows pm c):=rfl
 repeat' (first|refine IT ?_|refine IF a5 G9 ?_|refine bo ?_|refine bi a5 fun _=>?_|fail)
 rename_i r6
 refine ar rfl (fun h1=>?_) (fun h1=>?_)
 ·clear h1
  repeat' (first|refine IT ?_|refine IF a5 G9 ?_)
  refine aX (eR R rb k q) [(r6,.box [aF 0,iY 0] 261)] hlv rfl rfl (List.perm_append_comm (l₁:=[_])) rfl fun c1 L1 ⟨hc1,k1,q1,hk1,hL⟩=>?_
  subst hc1;subst hL
  refine aJ (aI (L':=(r6,.box [aF 0,iY 0] 261)::eR R rb k1 q1) (List.perm_append_comm (l₂:=[_]))) ?_
  repeat' (first|refine IF a5 G9 ?_|(apply aS;first|refine aQ a5 ?_|refine aG a5 ?_)|fail)
  refine pX rfl rfl rfl ?_
  rw [u64_and_nat _ _ hp2 hn64]
  repeat' (first|refine IT ?_|refine IF a5 G9 ?_)
  refine ar rfl (fun h2=>?_) (fun h2=>?_)
  ·have hz:pr &&& ja R.cls R.rows pm c=0:=by have:=Iy h2;omega
   rw [if_pos hz] at hbe
   rw [hbe]
   repeat' (first|refine IT ?_|refine IF a5 G9 ?_|(apply aK;first|refine IG a5 0 ID ?_|refine IG a5 1 ID ?_|refine IG a5 2 ID ?_|refine IG a5 3 ID ?_|fail))
   exact gW (cs:=[.agg (lD (0,0))]) (eR R rb k1 q1) ⟨⟨_,0,_,_,rfl,rfl,.inr ⟨eA a5 rfl,rfl⟩⟩,trivial⟩ (List.sublist_cons_self ..) ⟨rfl,k1,q1,hk1,rfl⟩
  ·have hz:pr &&& ja R.cls R.rows pm c≠0:=by have:=Ix h2;omega
   rw [if_neg hz] at hbe
   rw [hbe]
   repeat' (first|refine IT ?_|refine IF a5 G9 ?_|(apply aV;refine aU ?_)|(apply aK;first|refine IG a5 0 ID ?_|refine IG a5 1 ID ?_|refine IG a5 2 ID ?_|refine IG a5 3 ID ?_|fail))
   refine gW (cs:=[.agg (lD (pm+1,pr &&& ja R.cls R.rows pm c))]) (eR R rb k1 q1) ⟨⟨_,0,_,_,rfl,rfl,.inr ⟨eA a5 rfl,rfl⟩⟩,trivial⟩ (List.sublist_cons_self ..) ⟨rfl,k1,q1,hk1,rfl⟩
 ·have hz:pr=0:=by have:=Ix h1;simpa using this
  subst hz
  rw [Nat.zero_and,if_pos rfl] at hbe
  rw [hbe]
  repeat' (first|refine IT ?_|refine IF a5 G9 ?_|(apply aK;first|refine IG a5 0 ID ?_|refine IG a5 1 ID ?_|refine IG a5 2 ID ?_|refine IG a5 3 ID ?_|fail)|refine bQ rfl ?_)
  exact gW (cs:=[.agg (lD (0,0))]) (eR R rb k q) ⟨⟨_,0,_,_,rfl,rfl,.inr ⟨eA a5 rfl,rfl⟩⟩,trivial⟩ (List.sublist_cons_self ..) ⟨rfl,k,q,hk,rfl⟩
set_option maxHeartbeats 4000000 in
theorem Dw (R:RD) (h:zA R) (rb k:Nat) (q:Option (Nat×Nat)) (hk:k≤1000001) (p:Pl) (hp:p.1≤1000000) (hp2:p.2 < 2 ^ 64):AC Tryz.prog 182 [fQ rb,.agg (lD p)] (eR R rb k q) (oI R rb (iY (j3 R.rows p))):=by
 refine aL Tryz.func182 rfl Tryz.ntmps182 rfl fun B=>?_
 obtain ⟨pm,pr⟩:=p
 dsimp only at hp hp2
 have hlv:=ua R h rb k q hk pm hp
 have hn64:ce (iZ R.rows pm) R.rows.length < 2 ^ 64:=nd (by have:=h.few;omega)
 have hen:j3 R.rows (pm,pr)=if pr=0 then 0 else pr &&& ce (iZ R.rows pm) R.rows.length:=rfl
 repeat' (first|refine IT ?_|refine IF a5 G9 ?_|refine bo ?_|fail)
 refine ar rfl (fun h1=>?_) (fun h1=>?_)
 ·have hz:pr=0:=by have:=Iy h1;omega
  rw [if_pos hz] at hen
  rw [hen]
  repeat' (first|refine IT ?_|refine IF a5 G9 ?_)
  exact IL G9 ⟨rfl,k,q,hk,rfl⟩
 ·have hz:pr≠0:=by have:=Ix h1;omega
  rw [if_neg hz] at hen
  rw [hen]
  clear h1
  repeat' (first|refine IT ?_|fail)
  refine bA 7 [(0,.v),(1,.v),(2,.v),(3,.v),(4,.v),(5,.e),(6,.v)] none ?_ trivial rfl (by kernel_rfl) (by kernel_rfl) (by kernel_rfl) bU (by kernel_rfl) rfl
  repeat' (first|refine aD ?_|refine b8 a5 ?_|fail)
  refine jy (eR R rb k q) [] hlv rfl rfl (by rw [List.append_nil]) trivial fun c1 L1 ⟨hc1,k1,q1,hk1,hL⟩=>?_
  subst hc1;subst hL
  repeat' (first|refine aD ?_|refine b8 a5 ?_|fail)
  refine IQ [9,14] G9 ?_
  repeat' (first|fail)
  refine pX rfl rfl rfl ?_
  rw [u64_and_nat _ _ hp2 hn64]
  repeat' (first|refine IT ?_|refine IF a5 G9 ?_)
  exact IL G9 ⟨rfl,k1,q1,hk1,by rw [List.append_nil]⟩
def pj (m r:Nat):List Int:=[m,0,0,0,0,0,0,0,r,0,0,0,0,0,0,0]
def iC (p:Pl):ByteArray:=(pj p.1 p.2).foldl (fun r n=>r.push (UInt8.ofNat n.toNat)) ByteArray.empty
def kl (p:Pl):Prop:=p.1 < 256∧p.2 < 256
theorem wq (p:Pl):(iC p).data.toList=(pj p.1 p.2).map fun n=>UInt8.ofNat n.toNat:=by
 unfold iC
 have:∀(l:List Int) (b:ByteArray),(l.foldl (fun r n=>r.push (UInt8.ofNat n.toNat)) b).data.toList=b.data.toList++l.map fun n=>UInt8.ofNat n.toNat:=by
  intro l
  induction l with
  | nil=>intro b;simp
  | cons x l ih=>intro b;rw [List.foldl_cons,ih];simp [ByteArray.push]
 rw [this]
 rfl
theorem CA {a b:Nat} (ha:a < 256) (hb:b < 256) (h:UInt8.ofNat a=UInt8.ofNat b):a=b:=by
 have:=congrArg UInt8.toNat h
 simpa [UInt8.toNat_ofNat',Nat.mod_eq_of_lt ha,Nat.mod_eq_of_lt hb] using this
theorem rY {p q:Pl} (hp:kl p) (hq:kl q) (h:iC p=iC q):p=q:=by
 have hd:=congrArg (fun b=>b.data.toList) h
 simp only [wq] at hd
 unfold pj at hd
 simp only [Jv,List.cons.injEq,Int.toNat_natCast] at hd
 exact Prod.ext (CA hp.1 hq.1 hd.1) (CA hp.2 hq.2 hd.2.2.2.2.2.2.2.2.1)
def t2 (M:List Pl) (v:Value):Option AV:=match v with
 | .string s=>(M.findIdx? fun p=>decide (iC p=s)).map fun i=>aF (i:Nat)
 | _=>none
theorem Eg:t2 []=fun _=>none:=by
 funext v
 unfold t2
 split <;> rfl
section
variable {M:List Pl} (hM:∀x∈M,kl x) {p:Pl} (hp:kl p)
include hM hp
theorem uH (h:p∈M):t2 M (.string (iC p))=some (aF (M.idxOf p:Nat)):=by
  have hi:=List.idxOf_lt_length_of_mem h
  have:(M.findIdx? fun x=>decide (iC x=iC p))=some (M.idxOf p):=by
    rw [List.findIdx?_eq_some_iff_getElem]
    refine ⟨hi,by simp [List.getElem_idxOf hi],fun j hj=>?_⟩
    have hne:M[j]≠p:=by
      intro e
      have:=List.not_of_lt_findIdx (p:=(·==p)) (xs:=M) hj
      rw [e] at this
      simp at this
    simp only [decide_eq_true_eq]
    exact fun e=>hne (rY (hM _ (List.getElem_mem _)) hp e)
  unfold t2
  dsimp only
  rw [this]
  rfl
theorem Cm (h:p∉M):t2 M (.string (iC p))=none:=by
 have:(M.findIdx? fun x=>decide (iC x=iC p))=none:=by
  rw [List.findIdx?_eq_none_iff]
  intro x hx
  rw [decide_eq_false_iff_not]
  exact fun e=>h (rY (hM x hx) hp e▸hx)
 unfold t2
 dsimp only
 rw [this]
 rfl
theorem Eh (h:p∉M):t2 (M++[p]) (.string (iC p))=some (aF (M.length:Nat)):=by
 rw [uH (fun x hx=>by rw [List.mem_append,List.mem_singleton] at hx;rcases hx with hx | rfl;exact hM x hx;exact hp) hp (by simp),List.idxOf_append,if_neg h,List.idxOf_cons_self,Nat.zero_add]
end
theorem zf {M:List Pl} {p:Pl}:∀v,v≠ .string (iC p)→t2 (M++[p]) v=t2 M v:=by
 intro v hv
 unfold t2
 split
 ·rename_i s
  have:decide (iC p=s)=false:=by rw [decide_eq_false_iff_not];exact fun e=>hv (by rw [e])
  rw [List.findIdx?_append]
  simp [this]
 ·rfl
def pk (l:List Int):List AV:=l.map fun z=> .sc (.int .u8 z)
def qx (m r i:Nat):List Int:=if i=0 then List.replicate 16 0 else pj m r
theorem H9 {m r:Nat} (hm:m < 256) (hr:r < 256) {i:Nat} (hi:i < 8):f4 (f4 (pk (qx m r i)) (0+i * 1) [.sc (.int .u8 (IntKind.u8.wrap ((m:Int) / 2 ^ min (8 * i) IntKind.i64.bits)))]) (0+(8+i) * 1) [.sc (.int .u8 (IntKind.u8.wrap ((r:Int) / 2 ^ min (8 * i) IntKind.u64.bits)))]=pk (qx m r (i+1)):=by
 have h0:∀z:Nat,z < 256→∀k,0 < k→k < 8→IntKind.u8.wrap ((z:Int) / 2 ^ min (8 * k) 64)=0:=by
  intro z hz k hk hk8
  have:(z:Int) / 2 ^ min (8 * k) 64=0:=by
   have e:min (8 * k) 64=8 * k:=by omega
   rw [e]
   have h1:2 ^ 8≤2 ^ (8 * k):=Nat.pow_le_pow_right (by omega) (by omega)
   have h2:z / 2 ^ (8 * k)=0:=Nat.div_eq_of_lt (by omega)
   have h3:(2:Int) ^ (8 * k)=((2 ^ (8 * k):Nat):Int):=(Int.natCast_pow 2 _).symm
   rw [h3,←Int.natCast_ediv,h2]
   rfl
  rw [this]
  decide
 have h1:∀z:Nat,z < 256→IntKind.u8.wrap ((z:Int) / 2 ^ min (8 * 0) 64)=(z:Int):=by
  intro z hz
  rw [Nat.mul_zero,Nat.zero_min,Int.pow_zero,Int.ediv_one,IntKind.wrap_u8]
  omega
 show f4 (f4 _ _ [.sc (.int .u8 (IntKind.u8.wrap ((m:Int) / 2 ^ min (8 * i) 64)))]) _ [.sc (.int .u8 (IntKind.u8.wrap ((r:Int) / 2 ^ min (8 * i) 64)))]=_
 match i,hi with
 | 0,_=>rw [h1 m hm,h1 r hr];rfl
 | 1,_=>rw [h0 m hm 1 (by omega) (by omega),h0 r hr 1 (by omega) (by omega)];rfl
 | 2,_=>rw [h0 m hm 2 (by omega) (by omega),h0 r hr 2 (by omega) (by omega)];rfl
 | 3,_=>rw [h0 m hm 3 (by omega) (by omega),h0 r hr 3 (by omega) (by omega)];rfl
 | 4,_=>rw [h0 m hm 4 (by omega) (by omega),h0 r hr 4 (by omega) (by omega)];rfl
 | 5,_=>rw [h0 m hm 5 (by omega) (by omega),h0 r hr 5 (by omega) (by omega)];rfl
 | 6,_=>rw [h0 m hm 6 (by omega) (by omega),h0 r hr 6 (by omega) (by omega)];rfl
 | 7,_=>rw [h0 m hm 7 (by omega) (by omega),h0 r hr 7 (by omega) (by omega)];rfl
set_option maxHeartbeats 4000000 in
theorem El (p:Pl) (hp:kl p):bN Tryz.prog 179 [.agg (lD p)] (.sc (.string (iC p))):=by
 refine aL Tryz.func179 rfl Tryz.ntmps179 rfl fun B=>?_
 obtain ⟨m,r⟩:=p
 obtain ⟨hm,hr⟩:=hp
 dsimp only at hm hr
 repeat' (first|refine IT ?_|refine am ?_|refine IF a5 G9 ?_|refine bo ?_|refine bi a5 fun _=>?_|fail)
 rename_i ab
 refine aO [1,3] (α:=Nat) (fun i=>[(5,aF i)]) (fun i=>i≤8) (fun i=>[(ab,.box (pk (qx m r i)) 328)]) (fun i=>8 - i) 0 rfl ⟨rfl,trivial⟩ (Nat.zero_le _) (fun _ _ h=>h) fun i hi=>?_
 try dsimp only [Jx,Jw,Jv,Jq]
 repeat' (first|refine IT ?_|refine IF a5 G9 ?_)
 refine ar rfl (fun h1=>?_) (fun h1=>?_)
 ·have hi8:i < 8:=by have:=Iy h1;omega
  have hst:=H9 hm hr hi8
  have hcl:(pk (qx m r i)).length=16:=by unfold pk qx;split <;> rfl
  clear h1
  repeat' (first|refine IT ?_|refine am ?_|refine IF a5 G9 ?_|(apply aV;refine aU ?_)|fail)
  refine w6 (8 * i) rfl rfl (by rw [Int.natCast_mul];rfl) rfl ?_
  repeat' (first|fail)
  refine sH a5 rfl rfl rfl rfl rfl rfl ?_
  refine w3 a5 i rfl rfl rfl rfl (by omega) rfl ?_
  refine aa a5 0 rfl rfl rfl rfl rfl rfl (Nat.ble_eq_true_of_le (by rw [hcl];show 0+i * 1+1≤16;omega)) ?_
  repeat' (first|refine IT ?_|refine IF a5 G9 ?_|(apply aV;refine aU ?_)|fail)
  refine w6 (8 * i) rfl rfl (by rw [Int.natCast_mul];rfl) rfl ?_
  refine sH a5 rfl rfl rfl rfl rfl rfl ?_
  refine w3 a5 (8+i) rfl rfl rfl (by rw [Iv];rfl) (by omega) rfl ?_
  refine aa a5 0 rfl rfl rfl rfl rfl rfl (Nat.ble_eq_true_of_le (by rw [ix,hcl];show 0+(8+i) * 1+1≤16;omega)) ?_
  repeat' (first|refine IT ?_|refine IF a5 G9 ?_|(apply aV;refine aU ?_)|fail)
  exact aC (i+1) rfl ⟨by rw [Iv];rfl,trivial⟩ (by omega) (by omega) (fun _ _ h=>by rw [←hst];exact h)
 ·have hi8:i=8:=by have:=Ix h1;omega
  subst hi8
  repeat' (first|refine IT ?_|fail)
  refine BJ a5 rfl rfl rfl ?_
  refine BH a5 0 (pj m r) rfl rfl rfl rfl rfl rfl rfl rfl rfl ?_
  repeat' (first|refine IT ?_|refine IF a5 G9 ?_)
  refine eP (List.nil_sublist _) ?_
  exact IN IA
end Go.Proofs.YtpmdfoaadejmkaaGreatDoor
namespace Go.Proofs.YtpmdfoaadejmkaaGreatDoor
open Go.RowKit
attribute [local irreducible] AT bv AX AO Av Kt b9 dh DA cE
section
variable {P:Program} {tt:TT} {r:Option Nat} {ops:Array Oper} {Q:Exit→Act→World→Prop} {nt:Nat} {D:List Deferred} {fr:bW} {B:Bs} {L:AL} {rest:List Oper} {d:Nat} {ty t t':TypeId} {pos:String} {af:Array Edge} {x y z:Operand} {u:AV}
theorem DR (ok:dX P tt) (n:Nat) {e sz by_:Nat} {k k':IntKind} {b:Int} {zs:List Value} (ht:jm tt t=some (e,sz,by_)) (hz:zI tt e=some zs) (hzl:Nat.beq zs.length sz=true) (hx:bc fr x=some (.sc (.int k 0))) (hy:bc fr y=some (.sc (.int k' b))) (hb:b=(n:Int)) (hby:by_ * n≤281474976710656) (h63:n≤9223372036854775807) (hd:Nat.ble nt d=false)
  (h:∀b,bv P r ops Q nt D rest ((d,.vec (some (b,n)) sz [])::fr) B ((b,.vec e sz 0 n)::L)):bv P r ops Q nt D (⟨some d,.makeSlice t x y,ty,pos,af,none⟩::rest) fr B L:=
 cK hd rfl (zX (bj ok ht).1 (ez ok hz) (Nat.eq_of_beq_eq_true hzl) (bj ok ht).2 hx hy hb hby h63) fun c L' ⟨b,h1,h2⟩=>by subst h1;subst h2;exact h b
end
def sE (nb kb mb:Nat) (M:List Pl) (q:Option (Nat×Nat)):AL:=(nb,.box [.sc (.map (some kb))] 129)::(kb,cP .string (t2 M))::(mb,.box [.vec q 2 (M.map lD)] 259)::tok q 261 2 M.length
def CH (nb kb mb:Nat) (M:List Pl) (u:AV):AV→AL→Prop:=fun c L=>c=u∧∃q,L=sE nb kb mb M q
set_option maxHeartbeats 4000000 in
theorem x8 (nb kb mb:Nat) (M:List Pl) (hM:∀x∈M,kl x) (hl:M.length≤1000000) (q:Option (Nat×Nat)) (p:Pl) (hp:kl p):AC Tryz.prog 178 ([.agg (lD p)]++[fQ nb,fQ mb]) (sE nb kb mb M q) (CH nb kb mb (dN M p) (aF ((dN M p).idxOf p:Nat))):=by
 refine aL Tryz.func178 rfl Tryz.ntmps178 rfl fun B=>?_
 haveI:=AD.mk (El p hp)
 have hml:(M.map lD).length=M.length:=Jz ..
 unfold sE
 repeat' (first|refine IT ?_|refine IF a5 G9 ?_|(apply bw;first|refine II a5 0 IC ?_|refine II a5 1 IC ?_|refine II a5 2 IC ?_|refine II a5 3 IC ?_|refine IJ a5 0 IC ?_|refine IJ a5 1 IC ?_|refine IJ a5 2 IC ?_|refine IK a5 1 IA (by assumption) rfl ?_|refine IK a5 0 IA (by assumption) rfl ?_|fail)|refine bo ?_|(apply bk;refine bf ?_)|fail)
 refine i3 1 (.int .i64 0) Tryz.underlying129 Tryz.underlying9 rfl rfl trivial rfl (by kernel_rfl) rfl ?_
 by_cases hm:p∈M
 ·have hg:=uH hM hp hm
  have ht:=fx hm
  rw [hg,ht]
  repeat' (first|refine IT ?_|refine IF a5 G9 ?_|refine bK rfl ?_)
  exact IL G9 ⟨rfl,q,rfl⟩
 ·have hg:=Cm hM hp hm
  have hpu:=Eh hM hp hm
  have ht:=gg hm
  have hn:=mR hm
  rw [hg]
  repeat' (first|refine IT ?_|refine IF a5 G9 ?_|(apply bw;first|refine II a5 0 IC ?_|refine II a5 1 IC ?_|refine II a5 2 IC ?_|refine II a5 3 IC ?_|refine IJ a5 0 IC ?_|refine IJ a5 1 IC ?_|refine IJ a5 2 IC ?_|refine IK a5 1 IA (by assumption) rfl ?_|refine IK a5 0 IA (by assumption) rfl ?_|fail)|refine bQ rfl ?_)
  refine dT 1 (t2 (M++[p])) Tryz.underlying129 Tryz.underlying9 rfl rfl trivial (by rw [hml];rfl) rfl hpu zf ?_
  repeat' (first|refine IT ?_|refine IF a5 G9 ?_|(apply bw;first|refine II a5 0 IC ?_|refine II a5 1 IC ?_|refine II a5 2 IC ?_|refine II a5 3 IC ?_|refine IJ a5 0 IC ?_|refine IJ a5 1 IC ?_|refine IJ a5 2 IC ?_|refine IK a5 1 IA (by assumption) rfl ?_|refine IK a5 0 IA (by assumption) rfl ?_|fail)|refine bH a5 ?_|fail)
  refine bM a5 [(nb,.box [.sc (.map (some kb))] 129),(kb,cP .string (t2 (M++[p]))),(mb,.box [.vec q 2 (M.map lD)] 259)] rfl rfl rfl rfl ?_ (by rw [hml];simp;omega) (by rw [hml];simp;omega) rfl fun q'=>?_
  ·rw [hml]
   exact List.perm_append_comm (l₁:=[_,_,_])
  have hsn:M.map lD++[lD p]=(M++[p]).map lD:=by rw [List.map_append];rfl
  refine aJ (aI (L':=(nb,.box [.sc (.map (some kb))] 129)::(kb,cP .string (t2 (M++[p])))::(mb,.box [.vec q 2 (M.map lD)] 259)::tok q' 261 2 (M.map lD++[lD p]).length) (List.perm_append_comm (l₂:=[_,_,_]))) ?_
  repeat' (first|refine IT ?_|refine IF a5 G9 ?_|(apply aK;first|refine IG a5 0 ID ?_|refine IG a5 1 ID ?_|refine IG a5 2 ID ?_|refine IG a5 3 ID ?_|fail))
  refine IL G9 ⟨?_,q',?_⟩
  ·rw [hml,hn]
  ·rw [ht,hsn,Jz]
   unfold sE
   rw [←hsn]
   rfl
theorem xR (r:bb):bN Tryz.prog 185 [.agg (bB r)] (.tup [.imm 1 (b7 r.Back),ec true]):=by
 refine aL Tryz.func185 rfl Tryz.ntmps185 rfl fun B=>?_
 repeat' (first|refine IT ?_|refine IF a5 G9 ?_|refine bo ?_|fail)
 exact aY rfl rfl rfl rfl
set_option maxHeartbeats 4000000 in
theorem yk (r:bb) (h1:r.In.length≤1000000) (h2:r.Ahead.length≤1000000):bN Tryz.prog 184 [.agg (bB r)] (.tup [.imm 1 (b7 (dz r)),ec (!r.In.isEmpty)]):=by
 refine aL Tryz.func184 rfl Tryz.ntmps184 rfl fun B=>?_
 have hil:=cn r.In
 have hal:=cn r.Ahead
 repeat' (first|refine IT ?_|refine IF a5 G9 ?_|refine bo ?_|fail)
 refine ar rfl (fun h=>?_) (fun h=>?_)
 ·have hz:r.In=[]:=List.eq_nil_of_length_eq_zero (by have:=Iy h;omega)
  unfold dz
  rw [hz]
  clear h
  repeat' (first|refine IT ?_|refine IF a5 G9 ?_)
  refine bh (bS (t:=2) (c':= .imm 1 []) rfl fun σ v h=>gZ 1 h) ?_
  exact aY rfl rfl rfl rfl
 ·have hz:r.In≠[]:=fun e=>by have:=Ix h;rw [hil,e] at this;simp at this
  have he:r.In.isEmpty=false:=by cases hr:r.In;exact absurd hr hz;rfl
  unfold dz
  rw [he]
  clear h
  repeat' (first|refine IT ?_|refine IF a5 G9 ?_|(apply aV;refine aU ?_)|fail)
  refine DR a5 (r.In.length+r.Ahead.length) rfl rfl rfl rfl rfl (by rw [hil,hal,Iv]) (by omega) (by omega) rfl fun b=>?_
  repeat' (first|refine IT ?_|refine IF a5 G9 ?_)
  refine bM a5 [] rfl rfl rfl rfl (by rw [List.append_nil];exact Jt _) (by simp;omega) (by simp;omega) rfl fun q1=>?_
  repeat' (first|refine IT ?_|refine IF a5 G9 ?_)
  refine bM a5 [] rfl rfl rfl rfl (Jt _) (by simp;omega) (by simp;omega) rfl fun q2=>?_
  repeat' (first|refine IT ?_|refine IF a5 G9 ?_)
  have hra:b7 (r.In++r.Ahead)=[]++b7 r.In++b7 r.Ahead:=by simp [b7]
  refine bh (bS (t:=2) (c':= .imm 1 (b7 (r.In++r.Ahead))) rfl fun σ v h=>by rw [hra];exact VR.im h) ?_
  refine eP (List.nil_sublist _) ?_
  exact aY rfl rfl rfl rfl
end Go.Proofs.YtpmdfoaadejmkaaGreatDoor
