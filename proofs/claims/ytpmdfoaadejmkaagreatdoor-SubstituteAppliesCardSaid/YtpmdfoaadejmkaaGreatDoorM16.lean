/-
  What comes where so many sets were met: the walk.
-/
import Derived.Test.YtpmdfoaadejmkaaGreatDoorM15
import Derived.Test.YtpmdfoaadejmkaaGreatDoorM13
import Derived.Test.YtpmdfoaadejmkaaGreatDoorM06
import Derived.Test.YtpmdfoaadejmkaaGreatDoorM11
namespace Go.Proofs.YtpmdfoaadejmkaaGreatDoor
open Go.RowKit
attribute [local irreducible] AT bI AX AO Av Kt bi dx DA cK
def i9 (cls:List Int) (n:Nat) (nx:List Nat) (g:Int):List Nat:=nx.set (cls.getD g.toNat 0).toNat (nx.getD (cls.getD g.toNat 0).toNat 0 ||| 2 ^ n)
def eO (cls:List Int) (rows:List (List (List Int))) (m C n:Nat):List Nat:=(List.range C).map fun c=>ck (lZ cls rows m c) n
theorem gH {cls:List Int} {rows:List (List (List Int))} {m C n:Nat}:(eO cls rows m C n).length=C:=by simp [eO]
theorem lO {cls:List Int} {rows:List (List (List Int))} {m C n c:Nat} (h:c < C):(eO cls rows m C n)[c]?=some (ck (lZ cls rows m c) n):=by simp [eO,h]
theorem tJ {cls:List Int} {c:Nat} {s:List Int} {g:Int}:fx cls c (s++[g])=(fx cls c s || fx cls c [g]):=by simp [fx]
theorem lM {cls:List Int} {n:Nat}:∀{s:List Int} {nx:List Nat},(s.foldl (i9 cls n) nx).length=nx.length
 | [],_=>rfl
 | g::s,nx=>by rw [List.foldl_cons,lM];unfold i9;rw [List.length_set]
section
variable {cls:List Int} {C:Nat} (hd:∀z∈cls,0≤z∧z < (C:Int))
include hd
theorem uA {g:Int} (hg:0≤g∧g < cls.length):∃c:Nat,cls[g.toNat]?=some (c:Int)∧c < C∧cls.getD g.toNat 0=(c:Int):=by
 obtain ⟨z,hz⟩:∃z,cls[g.toNat]?=some z:=⟨_,Jz (by omega)⟩
 obtain ⟨h0,h1⟩:=hd z (Jw hz)
 refine ⟨z.toNat,by rw [hz];congr 1;omega,by omega,?_⟩
 rw [List.getD_eq_getElem?_getD,hz]
 show z=_
 omega
theorem sA {n:Nat} {nx:List Nat} (hl:nx.length=C):∀{s:List Int},(∀g∈s,0≤g∧g < (cls.length:Int))→∀c,c < C→(s.foldl (i9 cls n) nx)[c]?=some (nx.getD c 0 ||| (if fx cls c s=true then 2 ^ n else 0)):=by
 intro s
 refine nF (P:=fun s=>(∀g∈s,0≤g∧g < (cls.length:Int))→∀c,c < C→(s.foldl (i9 cls n) nx)[c]?=some (nx.getD c 0 ||| (if fx cls c s=true then 2 ^ n else 0))) ?_ ?_ s
 ·intro _ c hc
  rw [List.foldl_nil,List.getD_eq_getElem?_getD,Jz (by omega)]
  simp [fx]
 ·intro s g ih hs c hc
  have ih':=ih (fun x hx=>hs x (by simp [hx]))
  obtain ⟨k,hk,hkC,hkd⟩:=uA hd (hs g (by simp))
  have hml:=lM (cls:=cls) (n:=n) (s:=s) (nx:=nx)
  rw [List.foldl_append,List.foldl_cons,List.foldl_nil]
  unfold i9 at hml ⊢
  rw [hkd,Int.toNat_natCast]
  have hg1:fx cls c [g]=decide (k=c):=by
   unfold fx
   have hg:=hs g (by simp)
   have hkd2:cls.getD g.toNat (-1)=(k:Int):=by rw [List.getD_eq_getElem?_getD,hk];rfl
   simp only [List.any_cons,List.any_nil,Bool.or_false,hkd2,decide_eq_true hg.1,decide_eq_true hg.2,Bool.true_and]
   exact decide_eq_decide.2 (by omega)
  rw [tJ,hg1]
  by_cases hkc:k=c
  ·subst hkc
   rw [List.getElem?_set_self (by omega),List.getD_eq_getElem?_getD]
   have:=ih' k hc
   unfold i9 at this
   rw [this]
   simp only [Option.getD_some,decide_true,Bool.or_true,if_true]
   congr 1
   split
   ·rw [Nat.or_assoc,Nat.or_self]
   ·rw [Nat.or_zero]
  ·rw [List.getElem?_set_ne hkc]
   have:=ih' c hc
   unfold i9 at this
   rw [this]
   simp [hkc]
theorem x3 {rows:List (List (List Int))} {m n:Nat} {eQ:List (List Int)} (hr:rows[n]?=some eQ) {s:List Int} (hs:eQ[m]?=some s) (hg:∀g∈s,0≤g∧g < (cls.length:Int)):s.foldl (i9 cls n) (eO cls rows m C n)=eO cls rows m C (n+1):=by
 apply List.ext_getElem?
 intro c
 by_cases hc:c < C
 ·rw [sA hd gH hg c hc,lO hc,List.getD_eq_getElem?_getD,lO hc,ck]
  have:lZ cls rows m c n=fx cls c s:=by
   unfold lZ
   rw [hr]
   dsimp only
   rw [hs]
  rw [this]
  rfl
 ·rw [List.getElem?_eq_none (by rw [lM,gH];omega),List.getElem?_eq_none (by rw [gH];omega)]
end
theorem qY {cls:List Int} {rows:List (List (List Int))} {m C n:Nat} {eQ:List (List Int)} (hr:rows[n]?=some eQ) (hs:eQ.length≤m):eO cls rows m C (n+1)=eO cls rows m C n:=by
 unfold eO
 refine List.map_congr_left fun c _=>?_
 rw [ck]
 have:lZ cls rows m c n=false:=by
  unfold lZ
  rw [hr]
  dsimp only
  rw [List.getElem?_eq_none hs]
 rw [this]
 simp
theorem yr (n:Nat) (h:n < 64):IntKind.u64.wrap (1 * 2 ^ min n IntKind.u64.bits)=((2 ^ n:Nat):Int):=by
 have e:min n IntKind.u64.bits=n:=by show min n 64=n;omega
 have h1:2 ^ n < 2 ^ 64:=Nat.pow_lt_pow_right (by omega) h
 have e2:(2:Int) ^ n=((2 ^ n:Nat):Int):=(Int.natCast_pow 2 n).symm
 rw [e,Int.one_mul,e2]
 generalize 2 ^ n=k at h1
 have h64:(2:Nat) ^ 64=18446744073709551616:=by decide
 rw [h64] at h1
 rw [IntKind.wrap_u64]
 exact Int.emod_eq_of_lt (by omega) (by omega)
theorem nV {p:Nat→Bool} {n:Nat} (h:n≤64):ck p n < 2 ^ 64:=Nat.lt_of_lt_of_le (mP p n) (Nat.pow_le_pow_right (by omega) h)
theorem Fy {n:Nat} (h:n < 64):2 ^ n < 2 ^ 64:=Nat.pow_lt_pow_right (by omega) h
def gh (l:List Nat):List AV:=l.map fun z=>jq z
theorem pZ (l:List Nat):(gh l).length=l.length:=by simp [gh]
theorem wh {l:List Nat} {i:Nat} {z:Nat} (h:l[i]?=some z):(gh l)[0+((i:Nat):Int).toNat * 1]?=some (jq z):=by simp [gh,h]
theorem wi {l:List Nat} {i:Nat} {z:Nat}:fi (gh l) (0+((i:Nat):Int).toNat * 1) [jq z]=gh (l.set i z):=by
 rw [iR]
 unfold gh
 rw [List.map_set]
 simp
theorem uy (n:Nat):(List.replicate n [jq 0]).flatten=gh (List.replicate n 0):=by
 induction n with
 | zero=>rfl
 | succ n ih=>rw [List.replicate_succ,List.flatten_cons,ih,List.replicate_succ];rfl
theorem Ap (l:List Nat):gh l=(gx l).flatten:=by
 induction l with
 | nil=>rfl
 | cons z l ih=>simp [gh,gx] at ih ⊢;exact ih
def jG (l:List (List (List Int))):List (List AV):=l.map fun r=>[.imm 1 (b9 r)]
theorem sJ (l:List (List (List Int))):(jG l).length=l.length:=by simp [jG]
theorem zV {l:List (List (List Int))} {i:Nat} {r:List (List Int)} (h:l[i]?=some r):(jG l)[i]?=some [.imm 1 (b9 r)]:=by simp [jG,h]
structure RD where
 rows:List (List (List Int))
 have_:Nat
 cls:List Int
 C:Nat
structure AF (R:RD):Prop where
 few:R.rows.length≤6
 dom:∀z∈R.cls,0≤z∧z < (R.C:Int)
 sets:∀r∈R.rows,∀s∈r,(∀g∈s,0≤g∧g < (R.cls.length:Int))∧s.length≤1000000
 long:∀r∈R.rows,r.length≤1000000
 many:R.C≤1000000∧R.cls.length≤1000000
def DX (R:RD) (lv:AV):List AV:=[.imm 1 (jG R.rows),jq R.have_,.imm 1 (aX R.cls),aF R.C,lv]
def kS (R:RD) (m:Nat):List AV:=[.imm 1 (gx (eO R.cls R.rows m R.C R.rows.length)),jq (ck (js R.rows m) R.rows.length)]
set_option maxHeartbeats 8000000 in
theorem tr (R:RD) (h:AF R) (rb:Nat) (lv:AV) (m:Nat) (hm:m≤1000000):AC Tryz.prog 285 [g8 rb,aF m] [(rb,.box (DX R lv) 268)] fun c L=>c= .agg (kS R m)∧L=[(rb,.box (DX R lv) 268)]:=by
 refine aM Tryz.func285 rfl Tryz.ntmps285 rfl fun B=>?_
 have hrl:=sJ R.rows
 have hil:=aZ R.cls
 obtain ⟨hC,hN⟩:=h.many
 have hfew:=h.few
 repeat' (first|refine Ji ?_|refine JF a5 H6 ?_|(apply bE;first|refine JI a5 0 JC ?_|refine JI a5 1 JC ?_|refine JI a5 2 JC ?_|refine JI a5 3 JC ?_|refine JJ a5 0 JC ?_|refine JJ a5 1 JC ?_|refine JJ a5 2 JC ?_|refine JK a5 1 JA (by assumption) rfl ?_|refine JK a5 0 JA (by assumption) rfl ?_|fail)|refine bj a5 fun _=>?_|fail)
 refine lm a5 R.C rfl rfl rfl rfl rfl rfl rfl (by omega) (by omega) rfl fun nb=>?_
 rw [show (List.replicate R.C (List.map AV.sc [Value.int .u64 0])).flatten=gh (List.replicate R.C 0) from uy R.C]
 repeat' (first|refine Ji ?_|refine am ?_|refine JF a5 H6 ?_|(apply bE;first|refine JI a5 0 JC ?_|refine JI a5 1 JC ?_|refine JI a5 2 JC ?_|refine JI a5 3 JC ?_|refine JJ a5 0 JC ?_|refine JJ a5 1 JC ?_|refine JJ a5 2 JC ?_|refine JK a5 1 JA (by assumption) rfl ?_|refine JK a5 0 JA (by assumption) rfl ?_|fail)|(apply aK;first|refine JG a5 0 JD ?_|refine JG a5 1 JD ?_|refine JG a5 2 JD ?_|refine JG a5 3 JD ?_|fail)|refine bj a5 fun _=>?_|fail)
 rename_i r4 l5
 refine aP [0,1,4,5,19,20] (α:=Nat) (fun n=>[(21,aF n)]) (fun n=>n≤R.rows.length) (fun n=>[(l5,.box [.sc (.slice (some ⟨nb,0,none⟩) R.C R.C),jq (ck (js R.rows m) n)] 330),(nb,.box (gh (eO R.cls R.rows m R.C n)) 246),(r4,.box [.sc (.slice none 0 0),jq 0] 330),(rb,.box (DX R lv) 268)]) (fun n=>R.rows.length - n) 0 rfl ⟨rfl,trivial⟩ (Nat.zero_le _) (fun _ _ hh=>?_) fun n hn=>?_
 ·rw [show eO R.cls R.rows m R.C 0=List.replicate R.C 0 by unfold eO ck;rw [List.map_const',List.length_range]]
  exact hh
 ·try dsimp only [Js,Jr,Jq,Jl]
  repeat' (first|refine Ji ?_|refine JF a5 H6 ?_)
  refine ar rfl (fun h1=>?_) (fun h1=>?_)
  ·have hn2:n < R.rows.length:=by have:=Jy h1;omega
   obtain ⟨eQ,hrow⟩:∃z,R.rows[n]?=some z:=⟨_,Jz hn2⟩
   have hrg:=zV hrow
   have hrwl:=cq eQ
   have hrm:=Jw hrow
   have hlong:=h.long eQ hrm
   have hends:ck (js R.rows m) (n+1)=ck (js R.rows m) n ||| (if eQ.length=m then 2 ^ n else 0):=by
    rw [ck]
    unfold js
    rw [hrow]
    simp only [decide_eq_true_eq]
   have hb1:=nV (p:=js R.rows m) (n:=n) (by omega)
   have hb2:=Fy (n:=n) (by omega)
   have hub:=yr n (by omega)
   clear h1
   repeat' (first|refine Ji ?_|refine am ?_|refine JF a5 H6 ?_|(apply aO;first|refine aN a5 ?_|refine aG a5 ?_)|fail)
   refine ar rfl (fun h1=>?_) (fun h1=>?_)
   ·have hlm:eQ.length=m:=by have:=Jy h1;omega
    rw [if_pos hlm] at hends
    have hsk:=qY (cls:=R.cls) (C:=R.C) hrow (Nat.le_of_eq hlm)
    clear h1
    repeat' (first|fail)
    refine bw 4 [(0,.v),(1,.l),(2,.v),(3,.v)] none ?_ trivial rfl (by kernel_rfl) (by kernel_rfl) (by kernel_rfl) bR (by kernel_rfl) rfl
    repeat' (first|refine aD ?_|refine b7 a5 ?_|refine ca a5 0 rfl rfl rfl rfl (by first|trivial|rfl) ?_)
    refine wp n rfl rfl rfl trivial ?_
    repeat' (first|fail)
    refine JQ [0,1,4,5,6,7,19,20,21,31,33] H6 ?_
    refine tz rfl rfl rfl ?_
    rw [hub,u64_or_nat _ _ hb1 hb2,←hends]
    repeat' (first|refine Ji ?_|refine JF a5 H6 ?_|(apply aK;first|refine JG a5 0 JD ?_|refine JG a5 1 JD ?_|refine JG a5 2 JD ?_|refine JG a5 3 JD ?_|fail))
    refine ar rfl (fun h2=>?_) (fun h2=>?_)
    ·repeat' (first|refine Ji ?_|refine JF a5 H6 ?_|(apply aS;refine aR ?_)|fail)
     exact aC (n+1) rfl ⟨by rw [Jv];rfl,trivial⟩ hn2 (by omega) (fun _ _ hh=>by rw [hsk];exact hh)
    ·have:=Jx h2
     omega
   ·have hlm:¬eQ.length=m:=by have:=Jx h1;omega
    rw [if_neg hlm,Nat.or_zero] at hends
    clear h1
    repeat' (first|refine Ji ?_|refine JF a5 H6 ?_)
    refine ar rfl (fun h2=>?_) (fun h2=>?_)
    ·have hsk:=qY (cls:=R.cls) (C:=R.C) (m:=m) hrow (by have:=Jy h2;omega)
     repeat' (first|refine Ji ?_|refine JF a5 H6 ?_|(apply aS;refine aR ?_)|fail)
     exact aC (n+1) rfl ⟨by rw [Jv];rfl,trivial⟩ hn2 (by omega) (fun _ _ hh=>by rw [hsk,hends];exact hh)
    ·have hml:m < eQ.length:=by have:=Jx h2;omega
     obtain ⟨s,hs⟩:∃z,eQ[m]?=some z:=⟨_,Jz hml⟩
     have hsg:=gI hs
     obtain ⟨hsd,hsl⟩:=h.sets eQ hrm s (Jw hs)
     have hsil:=aZ s
     have hst:=x3 h.dom hrow hs hsd
     clear h2
     repeat' (first|refine Ji ?_|refine am ?_|refine JF a5 H6 ?_|(apply aO;first|refine aN a5 ?_|refine aG a5 ?_)|fail)
     refine aP [0,1,4,5,6,19,20,21,43,44] (α:=Nat) (fun j=>[(45,aF j)]) (fun j=>j≤s.length) (fun j=>[(l5,.box [.sc (.slice (some ⟨nb,0,none⟩) R.C R.C),jq (ck (js R.rows m) n)] 330),(nb,.box (gh ((s.take j).foldl (i9 R.cls n) (eO R.cls R.rows m R.C n))) 246),(r4,.box [.sc (.slice none 0 0),jq 0] 330),(rb,.box (DX R lv) 268)]) (fun j=>s.length - j) 0 rfl ⟨rfl,trivial⟩ (Nat.zero_le _) (fun _ _ hh=>hh) fun j hj=>?_
     try dsimp only [Js,Jr,Jq,Jl]
     repeat' (first|refine Ji ?_|refine JF a5 H6 ?_)
     refine ar rfl (fun h2=>?_) (fun h2=>?_)
     ·have hj2:j < s.length:=by have:=Jy h2;omega
      obtain ⟨g,hg⟩:∃z,s[j]?=some z:=⟨_,Jz hj2⟩
      have hgg:=bP hg
      have hgd:=hsd g (Jw hg)
      obtain ⟨c,hc,hcC,hcd⟩:=uA h.dom hgd
      have hcg:(aX R.cls)[g.toNat]?=some [aF c]:=bP hc
      have hnl:((s.take j).foldl (i9 R.cls n) (eO R.cls R.rows m R.C n)).length=R.C:=by rw [lM,gH]
      obtain ⟨v,hv⟩:∃z,((s.take j).foldl (i9 R.cls n) (eO R.cls R.rows m R.C n))[c]?=some z:=⟨_,Jz (by omega)⟩
      have hv64:v < 2 ^ 64:=by
       have:=sA h.dom (n:=n) (nx:=eO R.cls R.rows m R.C n) gH (s:=s.take j) (fun x hx=>hsd x (List.mem_of_mem_take hx)) c hcC
       rw [hv,List.getD_eq_getElem?_getD,lO hcC] at this
       cases this
       exact CK (nV (by omega)) (by split;exact hb2;omega)
      have htk:s.take (j+1)=s.take j++[g]:=by rw [List.take_add_one,hg];rfl
      have hfs:(s.take (j+1)).foldl (i9 R.cls n) (eO R.cls R.rows m R.C n)=((s.take j).foldl (i9 R.cls n) (eO R.cls R.rows m R.C n)).set c (v ||| 2 ^ n):=by
       rw [htk,List.foldl_append,List.foldl_cons,List.foldl_nil]
       generalize (s.take j).foldl (i9 R.cls n) (eO R.cls R.rows m R.C n)=nx at hv
       unfold i9
       rw [hcd,Int.toNat_natCast,List.getD_eq_getElem?_getD,hv]
       rfl
      generalize (s.take j).foldl (i9 R.cls n) (eO R.cls R.rows m R.C n)=nx at *
      have hvc:=wh hv
      have hul:=pZ nx
      clear h2
      repeat' (first|refine Ji ?_|refine am ?_|refine JF a5 H6 ?_|(apply aO;first|refine aN a5 ?_|refine aG a5 ?_)|fail)
      refine bX [0,1,4,5,6,9,19,20,21,43,44,45] True rfl (fun Q' K=>?_) (fun _=>?_) (fun hC=>absurd trivial hC)
      ·repeat' (first|refine Ji ?_|refine JF a5 H6 ?_|refine JN H6 ?_|refine JO JB ?_|(apply bE;first|refine JI a5 0 JC ?_|refine JI a5 1 JC ?_|refine JI a5 2 JC ?_|refine JI a5 3 JC ?_|refine JJ a5 0 JC ?_|refine JJ a5 1 JC ?_|refine JJ a5 2 JC ?_|refine JK a5 1 JA (by assumption) rfl ?_|refine JK a5 0 JA (by assumption) rfl ?_|fail)|refine JR JA (fun _=>?_) (fun _=>?_))
       all_goals exact K _ _ rfl rfl (by simp_all <;> omega)
      repeat' (first|fail)
      refine bw 14 [(0,.v),(1,.l),(2,.v),(3,.v),(4,.v),(5,.l),(6,.v),(7,.v),(8,.v),(9,.v),(10,.l),(11,.v),(12,.v),(13,.v)] none ?_ trivial rfl (by kernel_rfl) (by kernel_rfl) (by kernel_rfl) bR (by kernel_rfl) rfl
      repeat' (first|refine aD ?_|refine b7 a5 ?_|refine ca a5 0 rfl rfl rfl rfl (by first|trivial|rfl) ?_)
      refine ca a5 3 rfl rfl rfl rfl trivial ?_
      repeat' (first|refine aD ?_|refine b7 a5 ?_|(apply bV;refine cn a5 ?_)|fail)
      refine dl a5 rfl rfl rfl ⟨by omega,by omega⟩ trivial ?_
      repeat' (first|refine aD ?_|fail)
      refine ca a5 1 rfl rfl rfl hvc trivial ?_
      repeat' (first|refine aD ?_|refine b7 a5 ?_|fail)
      refine wp n rfl rfl rfl trivial ?_
      repeat' (first|refine aD ?_|fail)
      refine E2 rfl rfl trivial ?_
      repeat' (first|fail)
      refine JQ [0,1,4,5,6,19,20,21,43,44,45,61,68,73] H6 ?_
      rw [hub,u64_or_nat _ _ hv64 hb2]
      repeat' (first|(apply aO;first|refine aN a5 ?_|refine aG a5 ?_)|fail)
      refine aa a5 1 rfl rfl rfl rfl rfl rfl (Nat.ble_eq_true_of_le (by rw [hul,hnl,Int.toNat_natCast];show 0+c * 1+1≤_;omega)) ?_
      rw [wi]
      repeat' (first|refine Ji ?_|refine JF a5 H6 ?_|(apply aS;refine aR ?_)|fail)
      exact aC (j+1) rfl ⟨by rw [Jv];rfl,trivial⟩ hj2 (by omega) (fun _ _ hh=>by rw [hfs];exact hh)
     ·have hj2:j=s.length:=by have:=Jx h2;omega
      subst hj2
      rw [List.take_length,hst]
      clear h2
      repeat' (first|refine Ji ?_|refine JF a5 H6 ?_|(apply aS;refine aR ?_)|fail)
      exact aC (n+1) rfl ⟨by rw [Jv];rfl,trivial⟩ hn2 (by omega) (fun _ _ hh=>by rw [hends];exact hh)
  ·have hn2:n=R.rows.length:=by have:=Jx h1;omega
   subst hn2
   clear h1
   repeat' (first|refine Ji ?_|(apply bE;first|refine JI a5 0 JC ?_|refine JI a5 1 JC ?_|refine JI a5 2 JC ?_|refine JI a5 3 JC ?_|refine JJ a5 0 JC ?_|refine JJ a5 1 JC ?_|refine JJ a5 2 JC ?_|refine JK a5 1 JA (by assumption) rfl ?_|refine JK a5 0 JA (by assumption) rfl ?_|fail)|(apply aK;first|refine JG a5 0 JD ?_|refine JG a5 1 JD ?_|refine JG a5 2 JD ?_|refine JG a5 3 JD ?_|fail))
   have hcu:=pZ (eO R.cls R.rows m R.C R.rows.length)
   rw [gH] at hcu
   refine dT (L':=[(nb,.box (gh (eO R.cls R.rows m R.C R.rows.length)) 246),(r4,.box [.sc (.slice (some ⟨nb,0,none⟩) R.C R.C),jq (ck (js R.rows m) R.rows.length)] 330),(rb,.box (DX R lv) 268)]) (List.sublist_cons_self ..) ?_
   refine bk (sU (k:=0) (sz:=1) (n:=R.C) (cap:=R.C) (l:=gx (eO R.cls R.rows m R.C R.rows.length)) rfl (by rw [←Ap,List.take_of_length_le (by omega)]) (by omega) (fun e he=>by unfold gx at he;obtain ⟨z,_,rfl⟩:=List.mem_map.1 he;rfl) (by rw [nI,gH]) (Nat.le_refl _) (by unfold maxLen;omega)) ?_
   exact ij (cs:=[.agg (kS R m)]) [(rb,.box (DX R lv) 268)] ⟨⟨_,0,_,_,rfl,rfl,.inr ⟨eK a5 rfl,rfl⟩⟩,trivial⟩ (List.sublist_cons_self ..) ⟨rfl,rfl⟩
end Go.Proofs.YtpmdfoaadejmkaaGreatDoor
namespace Go.Proofs.YtpmdfoaadejmkaaGreatDoor
open Go.RowKit
attribute [local irreducible] AT bI AX AO Av Kt bi dx DA cK
def zB (R:RD) (k:Nat):List (List AV):=(List.range k).map (kS R)
theorem y6 (R:RD) (k:Nat):(zB R k).length=k:=by simp [zB]
theorem v6 (R:RD) (k:Nat):zB R k++[kS R k]=zB R (k+1):=by simp [zB,List.range_succ]
theorem EF (R:RD) {k m:Nat} (h:m < k):(zB R k)[m]?=some (kS R m):=by simp [zB,h]
abbrev ra (R:RD) (rb k:Nat) (q:Option (Nat×Nat)):Nat×AB:=(rb,.box (DX R (.vec q 2 (zB R k))) 268)
abbrev f5 (R:RD) (rb k:Nat) (q:Option (Nat×Nat)):AL:=ra R rb k q::tok q 330 2 k
def pq (R:RD) (rb:Nat) (u:AV):AV→AL→Prop:=fun c L=>c=u∧∃k q,k≤1000001∧L=f5 R rb k q
theorem I0 {a b:Nat×AB} {X:AL}:(a::b::X).Perm (b::a::X):=List.Perm.swap ..
set_option maxHeartbeats 4000000 in
theorem uZ (R:RD) (h:AF R) (rb k:Nat) (q:Option (Nat×Nat)) (hk:k≤1000001) (m:Nat) (hm:m≤1000000):AC Tryz.prog 255 [g8 rb,aF m] (f5 R rb k q) (pq R rb (.agg (kS R m))):=by
 refine aM Tryz.func255 rfl Tryz.ntmps255 rfl fun B=>?_
 repeat' (first|refine Ji ?_|refine am ?_|refine bj a5 fun _=>?_|fail)
 rename_i r4
 refine aP [0,1,4] (α:=Nat×Option (Nat×Nat)) (fun _=>[]) (fun s=>s.1≤1000001) (fun s=>(r4,.box [.sc (.slice none 0 0),jq 0] 330)::f5 R rb s.1 s.2) (fun s=>m+1 - s.1) (k,q) rfl trivial hk (fun _ _ hh=>hh) ?_
 rintro ⟨k1,q1⟩ hk1
 dsimp only at hk1 ⊢
 try dsimp only [Js,Jr,Jq,Jl]
 have hlen:=y6 R k1
 repeat' (first|refine Ji ?_|refine JF a5 H6 ?_|(apply bE;first|refine JI a5 0 JC ?_|refine JI a5 1 JC ?_|refine JI a5 2 JC ?_|refine JI a5 3 JC ?_|refine JJ a5 0 JC ?_|refine JJ a5 1 JC ?_|refine JJ a5 2 JC ?_|refine JK a5 1 JA (by assumption) rfl ?_|refine JK a5 0 JA (by assumption) rfl ?_|fail)|fail)
 refine ar rfl (fun h1=>?_) (fun h1=>?_)
 ·have hkm:k1≤m:=by have:=Jy h1;omega
  have hml:=tr R h rb (.vec q1 2 (zB R k1)) k1 (by omega)
  clear h1
  repeat' (first|refine am ?_|refine Ji ?_|fail)
  refine dk [.cell (rb,4,.vec q1 2 (zB R k1))] 14 [(0,.v),(1,.v),(2,.v),(3,.v),(4,.k),(5,.v),(6,.v),(7,.v),(8,.v),(9,.l),(10,.v),(11,.f),(12,.v),(13,.e)] none ?_ trivial rfl (by kernel_rfl) (by kernel_rfl) (by kernel_rfl) bR (by kernel_rfl) rfl
  repeat' (first|refine aD ?_|refine b7 a5 ?_|fail)
  refine dI a5 0 rfl rfl rfl (n7 1 rfl rfl) trivial ?_
  repeat' (first|refine aD ?_|refine b7 a5 ?_|refine ca a5 1 rfl rfl rfl rfl (by first|trivial|rfl) ?_)
  refine xM [ra R rb k1 q1] ((r4,.box [.sc (.slice none 0 0),jq 0] 330)::tok q1 330 2 k1) hml rfl (by rw [hlen];rfl) I0 trivial (fun c L1 ⟨hc,hL⟩ hK=>by subst hL;exact n7 0 rfl rfl) fun c L1 ⟨hc,hL⟩=>?_
  subst hc;subst hL
  repeat' (first|refine aD ?_|refine ej a5 ?_|fail)
  refine f8 a5 [ra R rb k1 q1,(r4,.box [.sc (.slice none 0 0),jq 0] 330)] rfl rfl rfl rfl ?_ (by rw [hlen];simp;omega) (by rw [hlen];simp;omega) trivial fun q'=>?_
  ·rw [hlen]
   exact List.perm_append_comm (l₁:=[_,_])
  repeat' (first|fail)
  refine JQ [0,1,4,12,25] H6 ?_
  refine aI (aQ (L':=ra R rb k1 q1::(r4,.box [.sc (.slice none 0 0),jq 0] 330)::tok q' 330 2 (zB R k1++[kS R k1]).length) (List.perm_append_comm (l₂:=[_,_]))) ?_
  repeat' (first|refine Ji ?_|refine JF a5 H6 ?_|(apply aK;first|refine JG a5 0 JD ?_|refine JG a5 1 JD ?_|refine JG a5 2 JD ?_|refine JG a5 3 JD ?_|fail))
  refine aC (k1+1,q') rfl trivial (by dsimp only;omega) (by dsimp only;omega) (fun σ w hh=>?_)
  rw [v6,y6] at hh
  refine d6.perm (L:=ra R rb (k1+1) q'::(r4,.box [.sc (.slice none 0 0),jq 0] 330)::tok q' 330 2 (k1+1)) ?_ I0
  unfold ra
  rw [←v6]
  exact hh
 ·have hkm:m < k1:=by have:=Jx h1;omega
  have hlg:=EF R hkm
  clear h1
  repeat' (first|refine Ji ?_|refine JF a5 H6 ?_|(apply bE;first|refine JI a5 0 JC ?_|refine JI a5 1 JC ?_|refine JI a5 2 JC ?_|refine JI a5 3 JC ?_|refine JJ a5 0 JC ?_|refine JJ a5 1 JC ?_|refine JJ a5 2 JC ?_|refine JK a5 1 JA (by assumption) rfl ?_|refine JK a5 0 JA (by assumption) rfl ?_|fail)|(apply aO;first|refine aN a5 ?_|refine aG a5 ?_)|(apply aK;first|refine JG a5 0 JD ?_|refine JG a5 1 JD ?_|refine JG a5 2 JD ?_|refine JG a5 3 JD ?_|fail))
  exact ij (cs:=[.agg (kS R m)]) (f5 R rb k1 q1) ⟨⟨_,0,_,_,rfl,rfl,.inr ⟨eK a5 rfl,rfl⟩⟩,trivial⟩ (List.sublist_cons_self ..) ⟨rfl,k1,q1,hk1,rfl⟩
def mh (p:Pl):List AV:=[aF p.1,jq p.2]
theorem zU (R:RD) (rb k:Nat) (q:Option (Nat×Nat)) (hk:k≤1000001):AC Tryz.prog 180 [g8 rb] (f5 R rb k q) (pq R rb (.agg (mh (0,R.have_)))):=by
 refine aM Tryz.func180 rfl Tryz.ntmps180 rfl fun B=>?_
 repeat' (first|refine Ji ?_|refine JF a5 H6 ?_|(apply bE;first|refine JI a5 0 JC ?_|refine JI a5 1 JC ?_|refine JI a5 2 JC ?_|refine JI a5 3 JC ?_|refine JJ a5 0 JC ?_|refine JJ a5 1 JC ?_|refine JJ a5 2 JC ?_|refine JK a5 1 JA (by assumption) rfl ?_|refine JK a5 0 JA (by assumption) rfl ?_|fail)|(apply aK;first|refine JG a5 0 JD ?_|refine JG a5 1 JD ?_|refine JG a5 2 JD ?_|refine JG a5 3 JD ?_|fail)|refine bj a5 fun _=>?_|fail)
 exact ij (cs:=[.agg (mh (0,R.have_))]) (f5 R rb k q) ⟨⟨_,0,_,_,rfl,rfl,.inr ⟨eK a5 rfl,rfl⟩⟩,trivial⟩ (List.sublist_cons_self ..) ⟨rfl,k,q,hk,rfl⟩
theorem CG {R:RD} {m c:Nat} (hc:c < R.C):(gx (eO R.cls R.rows m R.C R.rows.length))[((c:Nat):Int).toNat]?=some [jq (jA R.cls R.rows m c)]:=by
 rw [Int.toNat_natCast]
 exact vG (lO hc)
set_option maxHeartbeats 4000000 in
theorem yP (R:RD) (h:AF R) (rb k:Nat) (q:Option (Nat×Nat)) (hk:k≤1000001) (p:Pl) (hp:p.1≤1000000) (hp2:p.2 < 2 ^ 64) (c:Nat) (hc:c < R.C):AC Tryz.prog 181 [g8 rb,.agg (mh p),aF c] (f5 R rb k q) (pq R rb (.agg (mh (cf R.cls R.rows p c)))):=by
 refine aM Tryz.func181 rfl Tryz.ntmps181 rfl fun B=>?_
 obtain ⟨pm,pr⟩:=p
 dsimp only at hp hp2
 have hlv:=uZ R h rb k q hk pm hp
 have hnl:=CG (R:=R) (m:=pm) hc
 have hn64:jA R.cls R.rows pm c < 2 ^ 64:=nV (by have:=h.few;omega)
 have hbe:cf R.cls R.rows (pm,pr) c=if pr &&& jA R.cls R.rows pm c=0 then (0,0) else (pm+1,pr &&& jA R.cls R.rows pm c):=rfl
 repeat' (first|refine Ji ?_|refine JF a5 H6 ?_|refine bf ?_|refine bj a5 fun _=>?_|fail)
 rename_i r6
 refine ar rfl (fun h1=>?_) (fun h1=>?_)
 ·clear h1
  repeat' (first|refine Ji ?_|refine JF a5 H6 ?_)
  refine b8 (f5 R rb k q) [(r6,.box [aF 0,jq 0] 261)] hlv rfl rfl (List.perm_append_comm (l₁:=[_])) rfl fun c1 L1 ⟨hc1,k1,q1,hk1,hL⟩=>?_
  subst hc1;subst hL
  refine aI (aQ (L':=(r6,.box [aF 0,jq 0] 261)::f5 R rb k1 q1) (List.perm_append_comm (l₂:=[_]))) ?_
  repeat' (first|refine JF a5 H6 ?_|(apply aO;first|refine aN a5 ?_|refine aG a5 ?_)|fail)
  refine qS rfl rfl rfl ?_
  rw [u64_and_nat _ _ hp2 hn64]
  repeat' (first|refine Ji ?_|refine JF a5 H6 ?_)
  refine ar rfl (fun h2=>?_) (fun h2=>?_)
  ·have hz:pr &&& jA R.cls R.rows pm c=0:=by have:=Jy h2;omega
   rw [if_pos hz] at hbe
   rw [hbe]
   repeat' (first|refine Ji ?_|refine JF a5 H6 ?_|(apply aK;first|refine JG a5 0 JD ?_|refine JG a5 1 JD ?_|refine JG a5 2 JD ?_|refine JG a5 3 JD ?_|fail))
   exact ij (cs:=[.agg (mh (0,0))]) (f5 R rb k1 q1) ⟨⟨_,0,_,_,rfl,rfl,.inr ⟨eK a5 rfl,rfl⟩⟩,trivial⟩ (List.sublist_cons_self ..) ⟨rfl,k1,q1,hk1,rfl⟩
  ·have hz:pr &&& jA R.cls R.rows pm c≠0:=by have:=Jx h2;omega
   rw [if_neg hz] at hbe
   rw [hbe]
   repeat' (first|refine Ji ?_|refine JF a5 H6 ?_|(apply aS;refine aR ?_)|(apply aK;first|refine JG a5 0 JD ?_|refine JG a5 1 JD ?_|refine JG a5 2 JD ?_|refine JG a5 3 JD ?_|fail))
   refine ij (cs:=[.agg (mh (pm+1,pr &&& jA R.cls R.rows pm c))]) (f5 R rb k1 q1) ⟨⟨_,0,_,_,rfl,rfl,.inr ⟨eK a5 rfl,rfl⟩⟩,trivial⟩ (List.sublist_cons_self ..) ⟨rfl,k1,q1,hk1,rfl⟩
 ·have hz:pr=0:=by have:=Jx h1;simpa using this
  subst hz
  rw [Nat.zero_and,if_pos rfl] at hbe
  rw [hbe]
  repeat' (first|refine Ji ?_|refine JF a5 H6 ?_|(apply aK;first|refine JG a5 0 JD ?_|refine JG a5 1 JD ?_|refine JG a5 2 JD ?_|refine JG a5 3 JD ?_|fail)|refine bC rfl ?_)
  exact ij (cs:=[.agg (mh (0,0))]) (f5 R rb k q) ⟨⟨_,0,_,_,rfl,rfl,.inr ⟨eK a5 rfl,rfl⟩⟩,trivial⟩ (List.sublist_cons_self ..) ⟨rfl,k,q,hk,rfl⟩
set_option maxHeartbeats 4000000 in
theorem Ep (R:RD) (h:AF R) (rb k:Nat) (q:Option (Nat×Nat)) (hk:k≤1000001) (p:Pl) (hp:p.1≤1000000) (hp2:p.2 < 2 ^ 64):AC Tryz.prog 182 [g8 rb,.agg (mh p)] (f5 R rb k q) (pq R rb (jq (jt R.rows p))):=by
 refine aM Tryz.func182 rfl Tryz.ntmps182 rfl fun B=>?_
 obtain ⟨pm,pr⟩:=p
 dsimp only at hp hp2
 have hlv:=uZ R h rb k q hk pm hp
 have hn64:ck (js R.rows pm) R.rows.length < 2 ^ 64:=nV (by have:=h.few;omega)
 have hen:jt R.rows (pm,pr)=if pr=0 then 0 else pr &&& ck (js R.rows pm) R.rows.length:=rfl
 repeat' (first|refine Ji ?_|refine JF a5 H6 ?_|refine bf ?_|fail)
 refine ar rfl (fun h1=>?_) (fun h1=>?_)
 ·have hz:pr=0:=by have:=Jy h1;omega
  rw [if_pos hz] at hen
  rw [hen]
  repeat' (first|refine Ji ?_|refine JF a5 H6 ?_)
  exact JL H6 ⟨rfl,k,q,hk,rfl⟩
 ·have hz:pr≠0:=by have:=Jx h1;omega
  rw [if_neg hz] at hen
  rw [hen]
  clear h1
  repeat' (first|refine Ji ?_|fail)
  refine bw 7 [(0,.v),(1,.v),(2,.v),(3,.v),(4,.v),(5,.e),(6,.v)] none ?_ trivial rfl (by kernel_rfl) (by kernel_rfl) (by kernel_rfl) bR (by kernel_rfl) rfl
  repeat' (first|refine aD ?_|refine b7 a5 ?_|fail)
  refine il (f5 R rb k q) [] hlv rfl rfl (by rw [List.append_nil]) trivial fun c1 L1 ⟨hc1,k1,q1,hk1,hL⟩=>?_
  subst hc1;subst hL
  repeat' (first|refine aD ?_|refine b7 a5 ?_|fail)
  refine JQ [9,14] H6 ?_
  repeat' (first|fail)
  refine qS rfl rfl rfl ?_
  rw [u64_and_nat _ _ hp2 hn64]
  repeat' (first|refine Ji ?_|refine JF a5 H6 ?_)
  exact JL H6 ⟨rfl,k1,q1,hk1,by rw [List.append_nil]⟩
def pW (m r:Nat):List Int:=[m,0,0,0,0,0,0,0,r,0,0,0,0,0,0,0]
def iV (p:Pl):ByteArray:=(pW p.1 p.2).foldl (fun r n=>r.push (UInt8.ofNat n.toNat)) ByteArray.empty
def kO (p:Pl):Prop:=p.1 < 256∧p.2 < 256
theorem xm (p:Pl):(iV p).data.toList=(pW p.1 p.2).map fun n=>UInt8.ofNat n.toNat:=by
 unfold iV
 have:∀(l:List Int) (b:ByteArray),(l.foldl (fun r n=>r.push (UInt8.ofNat n.toNat)) b).data.toList=b.data.toList++l.map fun n=>UInt8.ofNat n.toNat:=by
  intro l
  induction l with
  | nil=>intro b;simp
  | cons x l ih=>intro b;rw [List.foldl_cons,ih];simp [ByteArray.push]
 rw [this]
 rfl
theorem Dn {a b:Nat} (ha:a < 256) (hb:b < 256) (h:UInt8.ofNat a=UInt8.ofNat b):a=b:=by
 have:=congrArg UInt8.toNat h
 simpa [UInt8.toNat_ofNat',Nat.mod_eq_of_lt ha,Nat.mod_eq_of_lt hb] using this
theorem sT {p q:Pl} (hp:kO p) (hq:kO q) (h:iV p=iV q):p=q:=by
 have hd:=congrArg (fun b=>b.data.toList) h
 simp only [xm] at hd
 unfold pW at hd
 simp only [Jq,List.cons.injEq,Int.toNat_natCast] at hd
 exact Prod.ext (Dn hp.1 hq.1 hd.1) (Dn hp.2 hq.2 hd.2.2.2.2.2.2.2.2.1)
def tZ (M:List Pl) (v:Value):Option AV:=match v with
 | .string s=>(M.findIdx? fun p=>decide (iV p=s)).map fun i=>aF (i:Nat)
 | _=>none
theorem Fa:tZ []=fun _=>none:=by
 funext v
 unfold tZ
 split <;> rfl
section
variable {M:List Pl} (hM:∀x∈M,kO x) {p:Pl} (hp:kO p)
include hM hp
theorem vA (h:p∈M):tZ M (.string (iV p))=some (aF (M.idxOf p:Nat)):=by
  have hi:=List.idxOf_lt_length_of_mem h
  have:(M.findIdx? fun x=>decide (iV x=iV p))=some (M.idxOf p):=by
    rw [List.findIdx?_eq_some_iff_getElem]
    refine ⟨hi,by simp [List.getElem_idxOf hi],fun j hj=>?_⟩
    have hne:M[j]≠p:=by
      intro e
      have:=List.not_of_lt_findIdx (p:=(·==p)) (xs:=M) hj
      rw [e] at this
      simp at this
    simp only [decide_eq_true_eq]
    exact fun e=>hne (sT (hM _ (List.getElem_mem _)) hp e)
  unfold tZ
  dsimp only
  rw [this]
  rfl
theorem Db (h:p∉M):tZ M (.string (iV p))=none:=by
 have:(M.findIdx? fun x=>decide (iV x=iV p))=none:=by
  rw [List.findIdx?_eq_none_iff]
  intro x hx
  rw [decide_eq_false_iff_not]
  exact fun e=>h (sT (hM x hx) hp e▸hx)
 unfold tZ
 dsimp only
 rw [this]
 rfl
theorem Fb (h:p∉M):tZ (M++[p]) (.string (iV p))=some (aF (M.length:Nat)):=by
 rw [vA (fun x hx=>by rw [List.mem_append,List.mem_singleton] at hx;rcases hx with hx | rfl;exact hM x hx;exact hp) hp (by simp),List.idxOf_append,if_neg h,List.idxOf_cons_self,Nat.zero_add]
end
theorem Ae {M:List Pl} {p:Pl}:∀v,v≠ .string (iV p)→tZ (M++[p]) v=tZ M v:=by
 intro v hv
 unfold tZ
 split
 ·rename_i s
  have:decide (iV p=s)=false:=by rw [decide_eq_false_iff_not];exact fun e=>hv (by rw [e])
  rw [List.findIdx?_append]
  simp [this]
 ·rfl
def pX (l:List Int):List AV:=l.map fun z=> .sc (.int .u8 z)
def ro (m r i:Nat):List Int:=if i=0 then List.replicate 16 0 else pW m r
theorem I7 {m r:Nat} (hm:m < 256) (hr:r < 256) {i:Nat} (hi:i < 8):fi (fi (pX (ro m r i)) (0+i * 1) [.sc (.int .u8 (IntKind.u8.wrap ((m:Int) / 2 ^ min (8 * i) IntKind.i64.bits)))]) (0+(8+i) * 1) [.sc (.int .u8 (IntKind.u8.wrap ((r:Int) / 2 ^ min (8 * i) IntKind.u64.bits)))]=pX (ro m r (i+1)):=by
 have h0:∀z:Nat,z < 256→∀k,0 < k→k < 8→IntKind.u8.wrap ((z:Int) / 2 ^ min (8 * k) 64)=0:=by
  intro z hz k hk hk8
  have:(z:Int) / 2 ^ min (8 * k) 64=0:=by
   have e:min (8 * k) 64=8 * k:=by omega
   rw [e]
   have h1:2 ^ 8≤2 ^ (8 * k):=Nat.pow_le_pow_right (by omega) (by omega)
   have h2:z / 2 ^ (8 * k)=0:=Nat.div_eq_of_lt (by omega)
   have h3:(2:Int) ^ (8 * k)=((2 ^ (8 * k):Nat):Int):=(Int.natCast_pow 2 _).symm
   rw [h3,←Int.natCast_ediv,h2]
   rfl
  rw [this]
  decide
 have h1:∀z:Nat,z < 256→IntKind.u8.wrap ((z:Int) / 2 ^ min (8 * 0) 64)=(z:Int):=by
  intro z hz
  rw [Nat.mul_zero,Nat.zero_min,Int.pow_zero,Int.ediv_one,IntKind.wrap_u8]
  omega
 show fi (fi _ _ [.sc (.int .u8 (IntKind.u8.wrap ((m:Int) / 2 ^ min (8 * i) 64)))]) _ [.sc (.int .u8 (IntKind.u8.wrap ((r:Int) / 2 ^ min (8 * i) 64)))]=_
 match i,hi with
 | 0,_=>rw [h1 m hm,h1 r hr];rfl
 | 1,_=>rw [h0 m hm 1 (by omega) (by omega),h0 r hr 1 (by omega) (by omega)];rfl
 | 2,_=>rw [h0 m hm 2 (by omega) (by omega),h0 r hr 2 (by omega) (by omega)];rfl
 | 3,_=>rw [h0 m hm 3 (by omega) (by omega),h0 r hr 3 (by omega) (by omega)];rfl
 | 4,_=>rw [h0 m hm 4 (by omega) (by omega),h0 r hr 4 (by omega) (by omega)];rfl
 | 5,_=>rw [h0 m hm 5 (by omega) (by omega),h0 r hr 5 (by omega) (by omega)];rfl
 | 6,_=>rw [h0 m hm 6 (by omega) (by omega),h0 r hr 6 (by omega) (by omega)];rfl
 | 7,_=>rw [h0 m hm 7 (by omega) (by omega),h0 r hr 7 (by omega) (by omega)];rfl
set_option maxHeartbeats 4000000 in
theorem Ff (p:Pl) (hp:kO p):bJ Tryz.prog 179 [.agg (mh p)] (.sc (.string (iV p))):=by
 refine aM Tryz.func179 rfl Tryz.ntmps179 rfl fun B=>?_
 obtain ⟨m,r⟩:=p
 obtain ⟨hm,hr⟩:=hp
 dsimp only at hm hr
 repeat' (first|refine Ji ?_|refine am ?_|refine JF a5 H6 ?_|refine bf ?_|refine bj a5 fun _=>?_|fail)
 rename_i ab
 refine aP [1,3] (α:=Nat) (fun i=>[(5,aF i)]) (fun i=>i≤8) (fun i=>[(ab,.box (pX (ro m r i)) 328)]) (fun i=>8 - i) 0 rfl ⟨rfl,trivial⟩ (Nat.zero_le _) (fun _ _ h=>h) fun i hi=>?_
 try dsimp only [Js,Jr,Jq,Jl]
 repeat' (first|refine Ji ?_|refine JF a5 H6 ?_)
 refine ar rfl (fun h1=>?_) (fun h1=>?_)
 ·have hi8:i < 8:=by have:=Jy h1;omega
  have hst:=I7 hm hr hi8
  have hcl:(pX (ro m r i)).length=16:=by unfold pX ro;split <;> rfl
  clear h1
  repeat' (first|refine Ji ?_|refine am ?_|refine JF a5 H6 ?_|(apply aS;refine aR ?_)|fail)
  refine wZ (8 * i) rfl rfl (by rw [Int.natCast_mul];rfl) rfl ?_
  repeat' (first|fail)
  refine tC a5 rfl rfl rfl rfl rfl rfl ?_
  refine wW a5 i rfl rfl rfl rfl (by omega) rfl ?_
  refine aa a5 0 rfl rfl rfl rfl rfl rfl (Nat.ble_eq_true_of_le (by rw [hcl];show 0+i * 1+1≤16;omega)) ?_
  repeat' (first|refine Ji ?_|refine JF a5 H6 ?_|(apply aS;refine aR ?_)|fail)
  refine wZ (8 * i) rfl rfl (by rw [Int.natCast_mul];rfl) rfl ?_
  refine tC a5 rfl rfl rfl rfl rfl rfl ?_
  refine wW a5 (8+i) rfl rfl rfl (by rw [Jv];rfl) (by omega) rfl ?_
  refine aa a5 0 rfl rfl rfl rfl rfl rfl (Nat.ble_eq_true_of_le (by rw [iQ,hcl];show 0+(8+i) * 1+1≤16;omega)) ?_
  repeat' (first|refine Ji ?_|refine JF a5 H6 ?_|(apply aS;refine aR ?_)|fail)
  exact aC (i+1) rfl ⟨by rw [Jv];rfl,trivial⟩ (by omega) (by omega) (fun _ _ h=>by rw [←hst];exact h)
 ·have hi8:i=8:=by have:=Jx h1;omega
  subst hi8
  repeat' (first|refine Ji ?_|fail)
  refine CC a5 rfl rfl rfl ?_
  refine CA a5 0 (pW m r) rfl rfl rfl rfl rfl rfl rfl rfl rfl ?_
  repeat' (first|refine Ji ?_|refine JF a5 H6 ?_)
  refine dT (List.nil_sublist _) ?_
  exact JM JA
end Go.Proofs.YtpmdfoaadejmkaaGreatDoor
namespace Go.Proofs.YtpmdfoaadejmkaaGreatDoor
open Go.RowKit
attribute [local irreducible] AT bI AX AO Av Kt bi dx DA cK
section
variable {P:Program} {tt:TT} {r:Option Nat} {ops:Array Oper} {Q:Exit→Act→World→Prop} {nt:Nat} {D:List Deferred} {fr:c7} {B:Bs} {L:AL} {rest:List Oper} {d:Nat} {ty t t':TypeId} {pos:String} {af:Array Edge} {x y z:Operand} {u:AV}
theorem EI (ok:er P tt) (n:Nat) {e sz by_:Nat} {k k':IntKind} {b:Int} {zs:List Value} (ht:jK tt t=some (e,sz,by_)) (hz:zI tt e=some zs) (hzl:Nat.beq zs.length sz=true) (hx:bn fr x=some (.sc (.int k 0))) (hy:bn fr y=some (.sc (.int k' b))) (hb:b=(n:Int)) (hby:by_ * n≤281474976710656) (h63:n≤9223372036854775807) (hd:Nat.ble nt d=false)
  (h:∀b,bI P r ops Q nt D rest ((d,.vec (some (b,n)) sz [])::fr) B ((b,.vec e sz 0 n)::L)):bI P r ops Q nt D (⟨some d,.makeSlice t x y,ty,pos,af,none⟩::rest) fr B L:=
 cP hd rfl (B8 (br ok ht).1 (eJ ok hz) (Nat.eq_of_beq_eq_true hzl) (br ok ht).2 hx hy hb hby h63) fun c L' ⟨b,h1,h2⟩=>by subst h1;subst h2;exact h b
end
def tx (nb kb mb:Nat) (M:List Pl) (q:Option (Nat×Nat)):AL:=(nb,.box [.sc (.map (some kb))] 129)::(kb,cX .string (tZ M))::(mb,.box [.vec q 2 (M.map mh)] 259)::tok q 261 2 M.length
def Dv (nb kb mb:Nat) (M:List Pl) (u:AV):AV→AL→Prop:=fun c L=>c=u∧∃q,L=tx nb kb mb M q
set_option maxHeartbeats 4000000 in
theorem y7 (nb kb mb:Nat) (M:List Pl) (hM:∀x∈M,kO x) (hl:M.length≤1000000) (q:Option (Nat×Nat)) (p:Pl) (hp:kO p):AC Tryz.prog 178 ([.agg (mh p)]++[g8 nb,g8 mb]) (tx nb kb mb M q) (Dv nb kb mb (ec M p) (aF ((ec M p).idxOf p:Nat))):=by
 refine aM Tryz.func178 rfl Tryz.ntmps178 rfl fun B=>?_
 haveI:=AD.mk (Ff p hp)
 have hml:(M.map mh).length=M.length:=Ju ..
 unfold tx
 repeat' (first|refine Ji ?_|refine JF a5 H6 ?_|(apply bE;first|refine JI a5 0 JC ?_|refine JI a5 1 JC ?_|refine JI a5 2 JC ?_|refine JI a5 3 JC ?_|refine JJ a5 0 JC ?_|refine JJ a5 1 JC ?_|refine JJ a5 2 JC ?_|refine JK a5 1 JA (by assumption) rfl ?_|refine JK a5 0 JA (by assumption) rfl ?_|fail)|refine bf ?_|(apply bz;refine bo ?_)|fail)
 refine ix 1 (.int .i64 0) Tryz.underlying129 Tryz.underlying9 rfl rfl trivial rfl (by kernel_rfl) rfl ?_
 by_cases hm:p∈M
 ·have hg:=vA hM hp hm
  have ht:=fG hm
  rw [hg,ht]
  repeat' (first|refine Ji ?_|refine JF a5 H6 ?_|refine bA rfl ?_)
  exact JL H6 ⟨rfl,q,rfl⟩
 ·have hg:=Db hM hp hm
  have hpu:=Fb hM hp hm
  have ht:=gt hm
  have hn:=nD hm
  rw [hg]
  repeat' (first|refine Ji ?_|refine JF a5 H6 ?_|(apply bE;first|refine JI a5 0 JC ?_|refine JI a5 1 JC ?_|refine JI a5 2 JC ?_|refine JI a5 3 JC ?_|refine JJ a5 0 JC ?_|refine JJ a5 1 JC ?_|refine JJ a5 2 JC ?_|refine JK a5 1 JA (by assumption) rfl ?_|refine JK a5 0 JA (by assumption) rfl ?_|fail)|refine bC rfl ?_)
  refine eo 1 (tZ (M++[p])) Tryz.underlying129 Tryz.underlying9 rfl rfl trivial (by rw [hml];rfl) rfl hpu Ae ?_
  repeat' (first|refine Ji ?_|refine JF a5 H6 ?_|(apply bE;first|refine JI a5 0 JC ?_|refine JI a5 1 JC ?_|refine JI a5 2 JC ?_|refine JI a5 3 JC ?_|refine JJ a5 0 JC ?_|refine JJ a5 1 JC ?_|refine JJ a5 2 JC ?_|refine JK a5 1 JA (by assumption) rfl ?_|refine JK a5 0 JA (by assumption) rfl ?_|fail)|refine bM a5 ?_|fail)
  refine bK a5 [(nb,.box [.sc (.map (some kb))] 129),(kb,cX .string (tZ (M++[p]))),(mb,.box [.vec q 2 (M.map mh)] 259)] rfl rfl rfl rfl ?_ (by rw [hml];simp;omega) (by rw [hml];simp;omega) rfl fun q'=>?_
  ·rw [hml]
   exact List.perm_append_comm (l₁:=[_,_,_])
  have hsn:M.map mh++[mh p]=(M++[p]).map mh:=by rw [List.map_append];rfl
  refine aI (aQ (L':=(nb,.box [.sc (.map (some kb))] 129)::(kb,cX .string (tZ (M++[p])))::(mb,.box [.vec q 2 (M.map mh)] 259)::tok q' 261 2 (M.map mh++[mh p]).length) (List.perm_append_comm (l₂:=[_,_,_]))) ?_
  repeat' (first|refine Ji ?_|refine JF a5 H6 ?_|(apply aK;first|refine JG a5 0 JD ?_|refine JG a5 1 JD ?_|refine JG a5 2 JD ?_|refine JG a5 3 JD ?_|fail))
  refine JL H6 ⟨?_,q',?_⟩
  ·rw [hml,hn]
  ·rw [ht,hsn,Ju]
   unfold tx
   rw [←hsn]
   rfl
theorem yO (r:bc):bJ Tryz.prog 185 [.agg (bB r)] (.tup [.imm 1 (b9 r.Back),dV true]):=by
 refine aM Tryz.func185 rfl Tryz.ntmps185 rfl fun B=>?_
 repeat' (first|refine Ji ?_|refine JF a5 H6 ?_|refine bf ?_|fail)
 exact JS JB
set_option maxHeartbeats 4000000 in
theorem zk (r:bc) (h1:r.In.length≤1000000) (h2:r.Ahead.length≤1000000):bJ Tryz.prog 184 [.agg (bB r)] (.tup [.imm 1 (b9 (dJ r)),dV (!r.In.isEmpty)]):=by
 refine aM Tryz.func184 rfl Tryz.ntmps184 rfl fun B=>?_
 have hil:=cq r.In
 have hal:=cq r.Ahead
 repeat' (first|refine Ji ?_|refine JF a5 H6 ?_|refine bf ?_|fail)
 refine ar rfl (fun h=>?_) (fun h=>?_)
 ·have hz:r.In=[]:=List.eq_nil_of_length_eq_zero (by have:=Jy h;omega)
  unfold dJ
  rw [hz]
  clear h
  repeat' (first|refine Ji ?_|refine JF a5 H6 ?_)
  refine bk (bQ (t:=2) (c':= .imm 1 []) rfl fun σ v h=>it 1 h) ?_
  exact JS JB
 ·have hz:r.In≠[]:=fun e=>by have:=Jx h;rw [hil,e] at this;simp at this
  have he:r.In.isEmpty=false:=by cases hr:r.In;exact absurd hr hz;rfl
  unfold dJ
  rw [he]
  clear h
  repeat' (first|refine Ji ?_|refine JF a5 H6 ?_|(apply aS;refine aR ?_)|fail)
  refine EI a5 (r.In.length+r.Ahead.length) rfl rfl rfl rfl rfl (by rw [hil,hal,Jv]) (by omega) (by omega) rfl fun b=>?_
  repeat' (first|refine Ji ?_|refine JF a5 H6 ?_)
  refine bK a5 [] rfl rfl rfl rfl (by rw [List.append_nil];exact Jo _) (by simp;omega) (by simp;omega) rfl fun q1=>?_
  repeat' (first|refine Ji ?_|refine JF a5 H6 ?_)
  refine bK a5 [] rfl rfl rfl rfl (Jo _) (by simp;omega) (by simp;omega) rfl fun q2=>?_
  repeat' (first|refine Ji ?_|refine JF a5 H6 ?_)
  have hra:b9 (r.In++r.Ahead)=[]++b9 r.In++b9 r.Ahead:=by simp [b9]
  refine bk (bQ (t:=2) (c':= .imm 1 (b9 (r.In++r.Ahead))) rfl fun σ v h=>by rw [hra];exact VR.im h) ?_
  refine dT (List.nil_sublist _) ?_
  exact JS JB
end Go.Proofs.YtpmdfoaadejmkaaGreatDoor
