/-
  What comes where so many sets were met: the walk.
-/
import Derived.Test.YtpmdfoaadejmkaaGreatDoorM15
import Derived.Test.YtpmdfoaadejmkaaGreatDoorM13
import Derived.Test.YtpmdfoaadejmkaaGreatDoorM06
import Derived.Test.YtpmdfoaadejmkaaGreatDoorM11
namespace Go.Proofs.YtpmdfoaadejmkaaGreatDoor
open Go.RowKit
attribute [local irreducible] AT bK AX AO Av Kt bh dw DA cK
def i6 (cls:List Int) (n:Nat) (nx:List Nat) (g:Int):List Nat:=nx.set (cls.getD g.toNat 0).toNat (nx.getD (cls.getD g.toNat 0).toNat 0 ||| 2 ^ n)
def eO (cls:List Int) (rows:List (List (List Int))) (m C n:Nat):List Nat:=(List.range C).map fun c=>cn (lW cls rows m c) n
theorem gI {cls:List Int} {rows:List (List (List Int))} {m C n:Nat}:(eO cls rows m C n).length=C:=by simp [eO]
theorem lM {cls:List Int} {rows:List (List (List Int))} {m C n c:Nat} (h:c < C):(eO cls rows m C n)[c]?=some (cn (lW cls rows m c) n):=by simp [eO,h]
theorem tH {cls:List Int} {c:Nat} {s:List Int} {g:Int}:fy cls c (s++[g])=(fy cls c s || fy cls c [g]):=by simp [fy]
theorem lK {cls:List Int} {n:Nat}:∀{s:List Int} {nx:List Nat},(s.foldl (i6 cls n) nx).length=nx.length
 | [],_=>rfl
 | g::s,nx=>by rw [List.foldl_cons,lK];unfold i6;rw [List.length_set]
section
variable {cls:List Int} {C:Nat} (hd:∀z∈cls,0≤z∧z < (C:Int))
include hd
theorem uy {g:Int} (hg:0≤g∧g < cls.length):∃c:Nat,cls[g.toNat]?=some (c:Int)∧c < C∧cls.getD g.toNat 0=(c:Int):=by
 obtain ⟨z,hz⟩:∃z,cls[g.toNat]?=some z:=⟨_,Hb (by omega)⟩
 obtain ⟨h0,h1⟩:=hd z (Jx hz)
 refine ⟨z.toNat,by rw [hz];congr 1;omega,by omega,?_⟩
 rw [List.getD_eq_getElem?_getD,hz]
 show z=_
 omega
theorem sx {n:Nat} {nx:List Nat} (hl:nx.length=C):∀{s:List Int},(∀g∈s,0≤g∧g < (cls.length:Int))→∀c,c < C→(s.foldl (i6 cls n) nx)[c]?=some (nx.getD c 0 ||| (if fy cls c s=true then 2 ^ n else 0)):=by
 intro s
 refine nC (P:=fun s=>(∀g∈s,0≤g∧g < (cls.length:Int))→∀c,c < C→(s.foldl (i6 cls n) nx)[c]?=some (nx.getD c 0 ||| (if fy cls c s=true then 2 ^ n else 0))) ?_ ?_ s
 ·intro _ c hc
  rw [List.foldl_nil,List.getD_eq_getElem?_getD,Hb (by omega)]
  simp [fy]
 ·intro s g ih hs c hc
  have ih':=ih (fun x hx=>hs x (by simp [hx]))
  obtain ⟨k,hk,hkC,hkd⟩:=uy hd (hs g (by simp))
  have hml:=lK (cls:=cls) (n:=n) (s:=s) (nx:=nx)
  rw [List.foldl_append,List.foldl_cons,List.foldl_nil]
  unfold i6 at hml ⊢
  rw [hkd,Int.toNat_natCast]
  have hg1:fy cls c [g]=decide (k=c):=by
   unfold fy
   have hg:=hs g (by simp)
   have hkd2:cls.getD g.toNat (-1)=(k:Int):=by rw [List.getD_eq_getElem?_getD,hk];rfl
   simp only [List.any_cons,List.any_nil,Bool.or_false,hkd2,decide_eq_true hg.1,decide_eq_true hg.2,Bool.true_and]
   exact decide_eq_decide.2 (by omega)
  rw [tH,hg1]
  by_cases hkc:k=c
  ·subst hkc
   rw [List.getElem?_set_self (by omega),List.getD_eq_getElem?_getD]
   have:=ih' k hc
   unfold i6 at this
   rw [this]
   simp only [Option.getD_some,decide_true,Bool.or_true,if_true]
   congr 1
   split
   ·rw [Nat.or_assoc,Nat.or_self]
   ·rw [Nat.or_zero]
  ·rw [List.getElem?_set_ne hkc]
   have:=ih' c hc
   unfold i6 at this
   rw [this]
   simp [hkc]
theorem x4 {rows:List (List (List Int))} {m n:Nat} {eQ:List (List Int)} (hr:rows[n]?=some eQ) {s:List Int} (hs:eQ[m]?=some s) (hg:∀g∈s,0≤g∧g < (cls.length:Int)):s.foldl (i6 cls n) (eO cls rows m C n)=eO cls rows m C (n+1):=by
 apply List.ext_getElem?
 intro c
 by_cases hc:c < C
 ·rw [sx hd gI hg c hc,lM hc,List.getD_eq_getElem?_getD,lM hc,cn]
  have:lW cls rows m c n=fy cls c s:=by
   unfold lW
   rw [hr]
   dsimp only
   rw [hs]
  rw [this]
  rfl
 ·rw [List.getElem?_eq_none (by rw [lK,gI];omega),List.getElem?_eq_none (by rw [gI];omega)]
end
theorem qU {cls:List Int} {rows:List (List (List Int))} {m C n:Nat} {eQ:List (List Int)} (hr:rows[n]?=some eQ) (hs:eQ.length≤m):eO cls rows m C (n+1)=eO cls rows m C n:=by
 unfold eO
 refine List.map_congr_left fun c _=>?_
 rw [cn]
 have:lW cls rows m c n=false:=by
  unfold lW
  rw [hr]
  dsimp only
  rw [List.getElem?_eq_none hs]
 rw [this]
 simp
theorem yz (n:Nat) (h:n < 64):IntKind.u64.wrap (1 * 2 ^ min n IntKind.u64.bits)=((2 ^ n:Nat):Int):=by
 have e:min n IntKind.u64.bits=n:=by show min n 64=n;omega
 have h1:2 ^ n < 2 ^ 64:=Nat.pow_lt_pow_right (by omega) h
 have e2:(2:Int) ^ n=((2 ^ n:Nat):Int):=(Int.natCast_pow 2 n).symm
 rw [e,Int.one_mul,e2]
 generalize 2 ^ n=k at h1
 have h64:(2:Nat) ^ 64=18446744073709551616:=by decide
 rw [h64] at h1
 rw [IntKind.wrap_u64]
 exact Int.emod_eq_of_lt (by omega) (by omega)
theorem nS {p:Nat→Bool} {n:Nat} (h:n≤64):cn p n < 2 ^ 64:=Nat.lt_of_lt_of_le (mN p n) (Nat.pow_le_pow_right (by omega) h)
theorem FD {n:Nat} (h:n < 64):2 ^ n < 2 ^ 64:=Nat.pow_lt_pow_right (by omega) h
def gi (l:List Nat):List AV:=l.map fun z=>jp z
theorem pW (l:List Nat):(gi l).length=l.length:=by simp [gi]
theorem wh {l:List Nat} {i:Nat} {z:Nat} (h:l[i]?=some z):(gi l)[0+((i:Nat):Int).toNat * 1]?=some (jp z):=by simp [gi,h]
theorem wi {l:List Nat} {i:Nat} {z:Nat}:fj (gi l) (0+((i:Nat):Int).toNat * 1) [jp z]=gi (l.set i z):=by
 rw [iP]
 unfold gi
 rw [List.map_set]
 simp
theorem uw (n:Nat):(List.replicate n [jp 0]).flatten=gi (List.replicate n 0):=by
 induction n with
 | zero=>rfl
 | succ n ih=>rw [List.replicate_succ,List.flatten_cons,ih,List.replicate_succ];rfl
theorem Ax (l:List Nat):gi l=(gy l).flatten:=by
 induction l with
 | nil=>rfl
 | cons z l ih=>simp [gi,gy] at ih ⊢;exact ih
def jF (l:List (List (List Int))):List (List AV):=l.map fun r=>[.imm 1 (b6 r)]
theorem sH (l:List (List (List Int))):(jF l).length=l.length:=by simp [jF]
theorem A3 {l:List (List (List Int))} {i:Nat} {r:List (List Int)} (h:l[i]?=some r):(jF l)[i]?=some [.imm 1 (b6 r)]:=by simp [jF,h]
structure RD where
 rows:List (List (List Int))
 have_:Nat
 cls:List Int
 C:Nat
structure AK (R:RD):Prop where
 few:R.rows.length≤6
 dom:∀z∈R.cls,0≤z∧z < (R.C:Int)
 sets:∀r∈R.rows,∀s∈r,(∀g∈s,0≤g∧g < (R.cls.length:Int))∧s.length≤1000000
 long:∀r∈R.rows,r.length≤1000000
 many:R.C≤1000000∧R.cls.length≤1000000
def E3 (R:RD) (lv:AV):List AV:=[.imm 1 (jF R.rows),jp R.have_,.imm 1 (aW R.cls),aF R.C,lv]
def kR (R:RD) (m:Nat):List AV:=[.imm 1 (gy (eO R.cls R.rows m R.C R.rows.length)),jp (cn (jq R.rows m) R.rows.length)]
set_option maxHeartbeats 8000000 in
theorem tp (R:RD) (h:AK R) (rb:Nat) (lv:AV) (m:Nat) (hm:m≤1000000):AC Tryz.prog 285 [g9 rb,aF m] [(rb,.box (E3 R lv) 268)] fun c L=>c= .agg (kR R m)∧L=[(rb,.box (E3 R lv) 268)]:=by
 refine aN Tryz.func285 rfl Tryz.ntmps285 rfl fun B=>?_
 have hrl:=sH R.rows
 have hil:=aZ R.cls
 obtain ⟨hC,hN⟩:=h.many
 have hfew:=h.few
 repeat' (first|refine JU ?_|refine JG a5 JA ?_|(apply bF;first|refine JJ a5 0 JD ?_|refine JJ a5 1 JD ?_|refine JJ a5 2 JD ?_|refine JJ a5 3 JD ?_|refine JK a5 0 JD ?_|refine JK a5 1 JD ?_|refine JK a5 2 JD ?_|refine JL a5 1 JB (by assumption) rfl ?_|refine JL a5 0 JB (by assumption) rfl ?_|fail)|refine bj a5 fun _=>?_|fail)
 refine li a5 R.C rfl rfl rfl rfl rfl rfl rfl (by omega) (by omega) rfl fun nb=>?_
 rw [show (List.replicate R.C (List.map AV.sc [Value.int .u64 0])).flatten=gi (List.replicate R.C 0) from uw R.C]
 repeat' (first|refine JU ?_|refine am ?_|refine JG a5 JA ?_|(apply bF;first|refine JJ a5 0 JD ?_|refine JJ a5 1 JD ?_|refine JJ a5 2 JD ?_|refine JJ a5 3 JD ?_|refine JK a5 0 JD ?_|refine JK a5 1 JD ?_|refine JK a5 2 JD ?_|refine JL a5 1 JB (by assumption) rfl ?_|refine JL a5 0 JB (by assumption) rfl ?_|fail)|(apply aM;first|refine JH a5 0 JE ?_|refine JH a5 1 JE ?_|refine JH a5 2 JE ?_|refine JH a5 3 JE ?_|fail)|refine bj a5 fun _=>?_|fail)
 rename_i r4 l5
 refine aP [0,1,4,5,19,20] (α:=Nat) (fun n=>[(21,aF n)]) (fun n=>n≤R.rows.length) (fun n=>[(l5,.box [.sc (.slice (some ⟨nb,0,none⟩) R.C R.C),jp (cn (jq R.rows m) n)] 330),(nb,.box (gi (eO R.cls R.rows m R.C n)) 246),(r4,.box [.sc (.slice none 0 0),jp 0] 330),(rb,.box (E3 R lv) 268)]) (fun n=>R.rows.length - n) 0 rfl ⟨rfl,trivial⟩ (Nat.zero_le _) (fun _ _ hh=>?_) fun n hn=>?_
 ·rw [show eO R.cls R.rows m R.C 0=List.replicate R.C 0 by unfold eO cn;rw [List.map_const',List.length_range]]
  exact hh
 ·try dsimp only [Jt,Js,Jr,Kz]
  repeat' (first|refine JU ?_|refine JG a5 JA ?_)
  refine ar rfl (fun h1=>?_) (fun h1=>?_)
  ·have hn2:n < R.rows.length:=by have:=Jz h1;omega
   obtain ⟨eQ,hrow⟩:∃z,R.rows[n]?=some z:=⟨_,Hb hn2⟩
   have hrg:=A3 hrow
   have hrwl:=c6 eQ
   have hrm:=Jx hrow
   have hlong:=h.long eQ hrm
   have hends:cn (jq R.rows m) (n+1)=cn (jq R.rows m) n ||| (if eQ.length=m then 2 ^ n else 0):=by
    rw [cn]
    unfold jq
    rw [hrow]
    simp only [decide_eq_true_eq]
   have hb1:=nS (p:=jq R.rows m) (n:=n) (by omega)
   have hb2:=FD (n:=n) (by omega)
   have hub:=yz n (by omega)
   clear h1
   repeat' (first|refine JU ?_|refine am ?_|refine JG a5 JA ?_|(apply aL;first|refine aK a5 ?_|refine aG a5 ?_)|fail)
   refine ar rfl (fun h1=>?_) (fun h1=>?_)
   ·have hlm:eQ.length=m:=by have:=Jz h1;omega
    rw [if_pos hlm] at hends
    have hsk:=qU (cls:=R.cls) (C:=R.C) hrow (Nat.le_of_eq hlm)
    clear h1
    repeat' (first|fail)
    refine br 4 [(0,.v),(1,.l),(2,.v),(3,.v)] none ?_ trivial rfl (by kernel_rfl) (by kernel_rfl) (by kernel_rfl) bQ (by kernel_rfl) rfl
    repeat' (first|refine aD ?_|refine b8 a5 ?_|refine ce a5 0 rfl rfl rfl rfl (by first|trivial|rfl) ?_)
    refine wp n rfl rfl rfl trivial ?_
    repeat' (first|fail)
    refine JQ [0,1,4,5,6,7,19,20,21,31,33] JA ?_
    refine tw rfl rfl rfl ?_
    rw [hub,u64_or_nat _ _ hb1 hb2,←hends]
    repeat' (first|refine JU ?_|refine JG a5 JA ?_|(apply aM;first|refine JH a5 0 JE ?_|refine JH a5 1 JE ?_|refine JH a5 2 JE ?_|refine JH a5 3 JE ?_|fail))
    refine ar rfl (fun h2=>?_) (fun h2=>?_)
    ·repeat' (first|refine JU ?_|refine JG a5 JA ?_|(apply aS;refine aQ ?_)|fail)
     exact aC (n+1) rfl ⟨by rw [Jw];rfl,trivial⟩ hn2 (by omega) (fun _ _ hh=>by rw [hsk];exact hh)
    ·have:=Jy h2
     omega
   ·have hlm:¬eQ.length=m:=by have:=Jy h1;omega
    rw [if_neg hlm,Nat.or_zero] at hends
    clear h1
    repeat' (first|refine JU ?_|refine JG a5 JA ?_)
    refine ar rfl (fun h2=>?_) (fun h2=>?_)
    ·have hsk:=qU (cls:=R.cls) (C:=R.C) (m:=m) hrow (by have:=Jz h2;omega)
     repeat' (first|refine JU ?_|refine JG a5 JA ?_|(apply aS;refine aQ ?_)|fail)
     exact aC (n+1) rfl ⟨by rw [Jw];rfl,trivial⟩ hn2 (by omega) (fun _ _ hh=>by rw [hsk,hends];exact hh)
    ·have hml:m < eQ.length:=by have:=Jy h2;omega
     obtain ⟨s,hs⟩:∃z,eQ[m]?=some z:=⟨_,Hb hml⟩
     have hsg:=eR hs
     obtain ⟨hsd,hsl⟩:=h.sets eQ hrm s (Jx hs)
     have hsil:=aZ s
     have hst:=x4 h.dom hrow hs hsd
     clear h2
     repeat' (first|refine JU ?_|refine am ?_|refine JG a5 JA ?_|(apply aL;first|refine aK a5 ?_|refine aG a5 ?_)|fail)
     refine aP [0,1,4,5,6,19,20,21,43,44] (α:=Nat) (fun j=>[(45,aF j)]) (fun j=>j≤s.length) (fun j=>[(l5,.box [.sc (.slice (some ⟨nb,0,none⟩) R.C R.C),jp (cn (jq R.rows m) n)] 330),(nb,.box (gi ((s.take j).foldl (i6 R.cls n) (eO R.cls R.rows m R.C n))) 246),(r4,.box [.sc (.slice none 0 0),jp 0] 330),(rb,.box (E3 R lv) 268)]) (fun j=>s.length - j) 0 rfl ⟨rfl,trivial⟩ (Nat.zero_le _) (fun _ _ hh=>hh) fun j hj=>?_
     try dsimp only [Jt,Js,Jr,Kz]
     repeat' (first|refine JU ?_|refine JG a5 JA ?_)
     refine ar rfl (fun h2=>?_) (fun h2=>?_)
     ·have hj2:j < s.length:=by have:=Jz h2;omega
      obtain ⟨g,hg⟩:∃z,s[j]?=some z:=⟨_,Hb hj2⟩
      have hgg:=bO hg
      have hgd:=hsd g (Jx hg)
      obtain ⟨c,hc,hcC,hcd⟩:=uy h.dom hgd
      have hcg:(aW R.cls)[g.toNat]?=some [aF c]:=bO hc
      have hnl:((s.take j).foldl (i6 R.cls n) (eO R.cls R.rows m R.C n)).length=R.C:=by rw [lK,gI]
      obtain ⟨v,hv⟩:∃z,((s.take j).foldl (i6 R.cls n) (eO R.cls R.rows m R.C n))[c]?=some z:=⟨_,Hb (by omega)⟩
      have hv64:v < 2 ^ 64:=by
       have:=sx h.dom (n:=n) (nx:=eO R.cls R.rows m R.C n) gI (s:=s.take j) (fun x hx=>hsd x (List.mem_of_mem_take hx)) c hcC
       rw [hv,List.getD_eq_getElem?_getD,lM hcC] at this
       cases this
       exact CO (nS (by omega)) (by split;exact hb2;omega)
      have htk:s.take (j+1)=s.take j++[g]:=by rw [List.take_add_one,hg];rfl
      have hfs:(s.take (j+1)).foldl (i6 R.cls n) (eO R.cls R.rows m R.C n)=((s.take j).foldl (i6 R.cls n) (eO R.cls R.rows m R.C n)).set c (v ||| 2 ^ n):=by
       rw [htk,List.foldl_append,List.foldl_cons,List.foldl_nil]
       generalize (s.take j).foldl (i6 R.cls n) (eO R.cls R.rows m R.C n)=nx at hv
       unfold i6
       rw [hcd,Int.toNat_natCast,List.getD_eq_getElem?_getD,hv]
       rfl
      generalize (s.take j).foldl (i6 R.cls n) (eO R.cls R.rows m R.C n)=nx at *
      have hvc:=wh hv
      have hul:=pW nx
      clear h2
      repeat' (first|refine JU ?_|refine am ?_|refine JG a5 JA ?_|(apply aL;first|refine aK a5 ?_|refine aG a5 ?_)|fail)
      refine bX [0,1,4,5,6,9,19,20,21,43,44,45] True rfl (fun Q' K=>?_) (fun _=>?_) (fun hC=>absurd trivial hC)
      ·repeat' (first|refine JU ?_|refine JG a5 JA ?_|refine JO JA ?_|refine JP JC ?_|(apply bF;first|refine JJ a5 0 JD ?_|refine JJ a5 1 JD ?_|refine JJ a5 2 JD ?_|refine JJ a5 3 JD ?_|refine JK a5 0 JD ?_|refine JK a5 1 JD ?_|refine JK a5 2 JD ?_|refine JL a5 1 JB (by assumption) rfl ?_|refine JL a5 0 JB (by assumption) rfl ?_|fail)|refine JS JB (fun _=>?_) (fun _=>?_))
       all_goals exact K _ _ rfl rfl (by simp_all <;> omega)
      repeat' (first|fail)
      refine br 14 [(0,.v),(1,.l),(2,.v),(3,.v),(4,.v),(5,.l),(6,.v),(7,.v),(8,.v),(9,.v),(10,.l),(11,.v),(12,.v),(13,.v)] none ?_ trivial rfl (by kernel_rfl) (by kernel_rfl) (by kernel_rfl) bQ (by kernel_rfl) rfl
      repeat' (first|refine aD ?_|refine b8 a5 ?_|refine ce a5 0 rfl rfl rfl rfl (by first|trivial|rfl) ?_)
      refine ce a5 3 rfl rfl rfl rfl trivial ?_
      repeat' (first|refine aD ?_|refine b8 a5 ?_|(apply bW;refine ci a5 ?_)|fail)
      refine dk a5 rfl rfl rfl ⟨by omega,by omega⟩ trivial ?_
      repeat' (first|refine aD ?_|fail)
      refine ce a5 1 rfl rfl rfl hvc trivial ?_
      repeat' (first|refine aD ?_|refine b8 a5 ?_|fail)
      refine wp n rfl rfl rfl trivial ?_
      repeat' (first|refine aD ?_|fail)
      refine E8 rfl rfl trivial ?_
      repeat' (first|fail)
      refine JQ [0,1,4,5,6,19,20,21,43,44,45,61,68,73] JA ?_
      rw [hub,u64_or_nat _ _ hv64 hb2]
      repeat' (first|(apply aL;first|refine aK a5 ?_|refine aG a5 ?_)|fail)
      refine aa a5 1 rfl rfl rfl rfl rfl rfl (Nat.ble_eq_true_of_le (by rw [hul,hnl,Int.toNat_natCast];show 0+c * 1+1≤_;omega)) ?_
      rw [wi]
      repeat' (first|refine JU ?_|refine JG a5 JA ?_|(apply aS;refine aQ ?_)|fail)
      exact aC (j+1) rfl ⟨by rw [Jw];rfl,trivial⟩ hj2 (by omega) (fun _ _ hh=>by rw [hfs];exact hh)
     ·have hj2:j=s.length:=by have:=Jy h2;omega
      subst hj2
      rw [List.take_length,hst]
      clear h2
      repeat' (first|refine JU ?_|refine JG a5 JA ?_|(apply aS;refine aQ ?_)|fail)
      exact aC (n+1) rfl ⟨by rw [Jw];rfl,trivial⟩ hn2 (by omega) (fun _ _ hh=>by rw [hends];exact hh)
  ·have hn2:n=R.rows.length:=by have:=Jy h1;omega
   subst hn2
   clear h1
   repeat' (first|refine JU ?_|(apply bF;first|refine JJ a5 0 JD ?_|refine JJ a5 1 JD ?_|refine JJ a5 2 JD ?_|refine JJ a5 3 JD ?_|refine JK a5 0 JD ?_|refine JK a5 1 JD ?_|refine JK a5 2 JD ?_|refine JL a5 1 JB (by assumption) rfl ?_|refine JL a5 0 JB (by assumption) rfl ?_|fail)|(apply aM;first|refine JH a5 0 JE ?_|refine JH a5 1 JE ?_|refine JH a5 2 JE ?_|refine JH a5 3 JE ?_|fail))
   have hcu:=pW (eO R.cls R.rows m R.C R.rows.length)
   rw [gI] at hcu
   refine dI (L':=[(nb,.box (gi (eO R.cls R.rows m R.C R.rows.length)) 246),(r4,.box [.sc (.slice (some ⟨nb,0,none⟩) R.C R.C),jp (cn (jq R.rows m) R.rows.length)] 330),(rb,.box (E3 R lv) 268)]) (List.sublist_cons_self ..) ?_
   refine bk (sS (k:=0) (sz:=1) (n:=R.C) (cap:=R.C) (l:=gy (eO R.cls R.rows m R.C R.rows.length)) rfl (by rw [←Ax,List.take_of_length_le (by omega)]) (by omega) (fun e he=>by unfold gy at he;obtain ⟨z,_,rfl⟩:=List.mem_map.1 he;rfl) (by rw [nF,gI]) (Nat.le_refl _) (by unfold maxLen;omega)) ?_
   exact ic (cs:=[.agg (kR R m)]) [(rb,.box (E3 R lv) 268)] ⟨⟨_,0,_,_,rfl,rfl,.inr ⟨eK a5 rfl,rfl⟩⟩,trivial⟩ (List.sublist_cons_self ..) ⟨rfl,rfl⟩
end Go.Proofs.YtpmdfoaadejmkaaGreatDoor
namespace Go.Proofs.YtpmdfoaadejmkaaGreatDoor
open Go.RowKit
attribute [local irreducible] AT bK AX AO Av Kt bh dw DA cK
def zG (R:RD) (k:Nat):List (List AV):=(List.range k).map (kR R)
theorem ya (R:RD) (k:Nat):(zG R k).length=k:=by simp [zG]
theorem v4 (R:RD) (k:Nat):zG R k++[kR R k]=zG R (k+1):=by simp [zG,List.range_succ]
theorem EL (R:RD) {k m:Nat} (h:m < k):(zG R k)[m]?=some (kR R m):=by simp [zG,h]
abbrev r7 (R:RD) (rb k:Nat) (q:Option (Nat×Nat)):Nat×AB:=(rb,.box (E3 R (.vec q 2 (zG R k))) 268)
abbrev f6 (R:RD) (rb k:Nat) (q:Option (Nat×Nat)):AL:=r7 R rb k q::tok q 330 2 k
def pn (R:RD) (rb:Nat) (u:AV):AV→AL→Prop:=fun c L=>c=u∧∃k q,k≤1000001∧L=f6 R rb k q
theorem I5 {a b:Nat×AB} {X:AL}:(a::b::X).Perm (b::a::X):=List.Perm.swap ..
set_option maxHeartbeats 4000000 in
theorem uX (R:RD) (h:AK R) (rb k:Nat) (q:Option (Nat×Nat)) (hk:k≤1000001) (m:Nat) (hm:m≤1000000):AC Tryz.prog 255 [g9 rb,aF m] (f6 R rb k q) (pn R rb (.agg (kR R m))):=by
 refine aN Tryz.func255 rfl Tryz.ntmps255 rfl fun B=>?_
 repeat' (first|refine JU ?_|refine am ?_|refine bj a5 fun _=>?_|fail)
 rename_i r4
 refine aP [0,1,4] (α:=Nat×Option (Nat×Nat)) (fun _=>[]) (fun s=>s.1≤1000001) (fun s=>(r4,.box [.sc (.slice none 0 0),jp 0] 330)::f6 R rb s.1 s.2) (fun s=>m+1 - s.1) (k,q) rfl trivial hk (fun _ _ hh=>hh) ?_
 rintro ⟨k1,q1⟩ hk1
 dsimp only at hk1 ⊢
 try dsimp only [Jt,Js,Jr,Kz]
 have hlen:=ya R k1
 repeat' (first|refine JU ?_|refine JG a5 JA ?_|(apply bF;first|refine JJ a5 0 JD ?_|refine JJ a5 1 JD ?_|refine JJ a5 2 JD ?_|refine JJ a5 3 JD ?_|refine JK a5 0 JD ?_|refine JK a5 1 JD ?_|refine JK a5 2 JD ?_|refine JL a5 1 JB (by assumption) rfl ?_|refine JL a5 0 JB (by assumption) rfl ?_|fail)|fail)
 refine ar rfl (fun h1=>?_) (fun h1=>?_)
 ·have hkm:k1≤m:=by have:=Jz h1;omega
  have hml:=tp R h rb (.vec q1 2 (zG R k1)) k1 (by omega)
  clear h1
  repeat' (first|refine am ?_|refine JU ?_|fail)
  refine di [.cell (rb,4,.vec q1 2 (zG R k1))] 14 [(0,.v),(1,.v),(2,.v),(3,.v),(4,.k),(5,.v),(6,.v),(7,.v),(8,.v),(9,.l),(10,.v),(11,.f),(12,.v),(13,.e)] none ?_ trivial rfl (by kernel_rfl) (by kernel_rfl) (by kernel_rfl) bQ (by kernel_rfl) rfl
  repeat' (first|refine aD ?_|refine b8 a5 ?_|fail)
  refine dJ a5 0 rfl rfl rfl (n5 1 rfl rfl) trivial ?_
  repeat' (first|refine aD ?_|refine b8 a5 ?_|refine ce a5 1 rfl rfl rfl rfl (by first|trivial|rfl) ?_)
  refine xQ [r7 R rb k1 q1] ((r4,.box [.sc (.slice none 0 0),jp 0] 330)::tok q1 330 2 k1) hml rfl (by rw [hlen];rfl) I5 trivial (fun c L1 ⟨hc,hL⟩ hK=>by subst hL;exact n5 0 rfl rfl) fun c L1 ⟨hc,hL⟩=>?_
  subst hc;subst hL
  repeat' (first|refine aD ?_|refine ej a5 ?_|fail)
  refine f9 a5 [r7 R rb k1 q1,(r4,.box [.sc (.slice none 0 0),jp 0] 330)] rfl rfl rfl rfl ?_ (by rw [hlen];simp;omega) (by rw [hlen];simp;omega) trivial fun q'=>?_
  ·rw [hlen]
   exact List.perm_append_comm (l₁:=[_,_])
  repeat' (first|fail)
  refine JQ [0,1,4,12,25] JA ?_
  refine aJ (aR (L':=r7 R rb k1 q1::(r4,.box [.sc (.slice none 0 0),jp 0] 330)::tok q' 330 2 (zG R k1++[kR R k1]).length) (List.perm_append_comm (l₂:=[_,_]))) ?_
  repeat' (first|refine JU ?_|refine JG a5 JA ?_|(apply aM;first|refine JH a5 0 JE ?_|refine JH a5 1 JE ?_|refine JH a5 2 JE ?_|refine JH a5 3 JE ?_|fail))
  refine aC (k1+1,q') rfl trivial (by dsimp only;omega) (by dsimp only;omega) (fun σ w hh=>?_)
  rw [v4,ya] at hh
  refine d7.perm (L:=r7 R rb (k1+1) q'::(r4,.box [.sc (.slice none 0 0),jp 0] 330)::tok q' 330 2 (k1+1)) ?_ I5
  unfold r7
  rw [←v4]
  exact hh
 ·have hkm:m < k1:=by have:=Jy h1;omega
  have hlg:=EL R hkm
  clear h1
  repeat' (first|refine JU ?_|refine JG a5 JA ?_|(apply bF;first|refine JJ a5 0 JD ?_|refine JJ a5 1 JD ?_|refine JJ a5 2 JD ?_|refine JJ a5 3 JD ?_|refine JK a5 0 JD ?_|refine JK a5 1 JD ?_|refine JK a5 2 JD ?_|refine JL a5 1 JB (by assumption) rfl ?_|refine JL a5 0 JB (by assumption) rfl ?_|fail)|(apply aL;first|refine aK a5 ?_|refine aG a5 ?_)|(apply aM;first|refine JH a5 0 JE ?_|refine JH a5 1 JE ?_|refine JH a5 2 JE ?_|refine JH a5 3 JE ?_|fail))
  exact ic (cs:=[.agg (kR R m)]) (f6 R rb k1 q1) ⟨⟨_,0,_,_,rfl,rfl,.inr ⟨eK a5 rfl,rfl⟩⟩,trivial⟩ (List.sublist_cons_self ..) ⟨rfl,k1,q1,hk1,rfl⟩
def me (p:Pl):List AV:=[aF p.1,jp p.2]
theorem zZ (R:RD) (rb k:Nat) (q:Option (Nat×Nat)) (hk:k≤1000001):AC Tryz.prog 180 [g9 rb] (f6 R rb k q) (pn R rb (.agg (me (0,R.have_)))):=by
 refine aN Tryz.func180 rfl Tryz.ntmps180 rfl fun B=>?_
 repeat' (first|refine JU ?_|refine JG a5 JA ?_|(apply bF;first|refine JJ a5 0 JD ?_|refine JJ a5 1 JD ?_|refine JJ a5 2 JD ?_|refine JJ a5 3 JD ?_|refine JK a5 0 JD ?_|refine JK a5 1 JD ?_|refine JK a5 2 JD ?_|refine JL a5 1 JB (by assumption) rfl ?_|refine JL a5 0 JB (by assumption) rfl ?_|fail)|(apply aM;first|refine JH a5 0 JE ?_|refine JH a5 1 JE ?_|refine JH a5 2 JE ?_|refine JH a5 3 JE ?_|fail)|refine bj a5 fun _=>?_|fail)
 exact ic (cs:=[.agg (me (0,R.have_))]) (f6 R rb k q) ⟨⟨_,0,_,_,rfl,rfl,.inr ⟨eK a5 rfl,rfl⟩⟩,trivial⟩ (List.sublist_cons_self ..) ⟨rfl,k,q,hk,rfl⟩
theorem CL {R:RD} {m c:Nat} (hc:c < R.C):(gy (eO R.cls R.rows m R.C R.rows.length))[((c:Nat):Int).toNat]?=some [jp (jz R.cls R.rows m c)]:=by
 rw [Int.toNat_natCast]
 exact vH (lM hc)
set_option maxHeartbeats 4000000 in
theorem yU (R:RD) (h:AK R) (rb k:Nat) (q:Option (Nat×Nat)) (hk:k≤1000001) (p:Pl) (hp:p.1≤1000000) (hp2:p.2 < 2 ^ 64) (c:Nat) (hc:c < R.C):AC Tryz.prog 181 [g9 rb,.agg (me p),aF c] (f6 R rb k q) (pn R rb (.agg (me (cg R.cls R.rows p c)))):=by
 refine aN Tryz.func181 rfl Tryz.ntmps181 rfl fun B=>?_
 obtain ⟨pm,pr⟩:=p
 dsimp only at hp hp2
 have hlv:=uX R h rb k q hk pm hp
 have hnl:=CL (R:=R) (m:=pm) hc
 have hn64:jz R.cls R.rows pm c < 2 ^ 64:=nS (by have:=h.few;omega)
 have hbe:cg R.cls R.rows (pm,pr) c=if pr &&& jz R.cls R.rows pm c=0 then (0,0) else (pm+1,pr &&& jz R.cls R.rows pm c):=rfl
 repeat' (first|refine JU ?_|refine JG a5 JA ?_|refine bf ?_|refine bj a5 fun _=>?_|fail)
 rename_i r6
 refine ar rfl (fun h1=>?_) (fun h1=>?_)
 ·clear h1
  repeat' (first|refine JU ?_|refine JG a5 JA ?_)
  refine b9 (f6 R rb k q) [(r6,.box [aF 0,jp 0] 261)] hlv rfl rfl (List.perm_append_comm (l₁:=[_])) rfl fun c1 L1 ⟨hc1,k1,q1,hk1,hL⟩=>?_
  subst hc1;subst hL
  refine aJ (aR (L':=(r6,.box [aF 0,jp 0] 261)::f6 R rb k1 q1) (List.perm_append_comm (l₂:=[_]))) ?_
  repeat' (first|refine JG a5 JA ?_|(apply aL;first|refine aK a5 ?_|refine aG a5 ?_)|fail)
  refine qO rfl rfl rfl ?_
  rw [u64_and_nat _ _ hp2 hn64]
  repeat' (first|refine JU ?_|refine JG a5 JA ?_)
  refine ar rfl (fun h2=>?_) (fun h2=>?_)
  ·have hz:pr &&& jz R.cls R.rows pm c=0:=by have:=Jz h2;omega
   rw [if_pos hz] at hbe
   rw [hbe]
   repeat' (first|refine JU ?_|refine JG a5 JA ?_|(apply aM;first|refine JH a5 0 JE ?_|refine JH a5 1 JE ?_|refine JH a5 2 JE ?_|refine JH a5 3 JE ?_|fail))
   exact ic (cs:=[.agg (me (0,0))]) (f6 R rb k1 q1) ⟨⟨_,0,_,_,rfl,rfl,.inr ⟨eK a5 rfl,rfl⟩⟩,trivial⟩ (List.sublist_cons_self ..) ⟨rfl,k1,q1,hk1,rfl⟩
  ·have hz:pr &&& jz R.cls R.rows pm c≠0:=by have:=Jy h2;omega
   rw [if_neg hz] at hbe
   rw [hbe]
   repeat' (first|refine JU ?_|refine JG a5 JA ?_|(apply aS;refine aQ ?_)|(apply aM;first|refine JH a5 0 JE ?_|refine JH a5 1 JE ?_|refine JH a5 2 JE ?_|refine JH a5 3 JE ?_|fail))
   refine ic (cs:=[.agg (me (pm+1,pr &&& jz R.cls R.rows pm c))]) (f6 R rb k1 q1) ⟨⟨_,0,_,_,rfl,rfl,.inr ⟨eK a5 rfl,rfl⟩⟩,trivial⟩ (List.sublist_cons_self ..) ⟨rfl,k1,q1,hk1,rfl⟩
 ·have hz:pr=0:=by have:=Jy h1;simpa using this
  subst hz
  rw [Nat.zero_and,if_pos rfl] at hbe
  rw [hbe]
  repeat' (first|refine JU ?_|refine JG a5 JA ?_|(apply aM;first|refine JH a5 0 JE ?_|refine JH a5 1 JE ?_|refine JH a5 2 JE ?_|refine JH a5 3 JE ?_|fail)|refine bD rfl ?_)
  exact ic (cs:=[.agg (me (0,0))]) (f6 R rb k q) ⟨⟨_,0,_,_,rfl,rfl,.inr ⟨eK a5 rfl,rfl⟩⟩,trivial⟩ (List.sublist_cons_self ..) ⟨rfl,k,q,hk,rfl⟩
set_option maxHeartbeats 4000000 in
theorem Ew (R:RD) (h:AK R) (rb k:Nat) (q:Option (Nat×Nat)) (hk:k≤1000001) (p:Pl) (hp:p.1≤1000000) (hp2:p.2 < 2 ^ 64):AC Tryz.prog 182 [g9 rb,.agg (me p)] (f6 R rb k q) (pn R rb (jp (js R.rows p))):=by
 refine aN Tryz.func182 rfl Tryz.ntmps182 rfl fun B=>?_
 obtain ⟨pm,pr⟩:=p
 dsimp only at hp hp2
 have hlv:=uX R h rb k q hk pm hp
 have hn64:cn (jq R.rows pm) R.rows.length < 2 ^ 64:=nS (by have:=h.few;omega)
 have hen:js R.rows (pm,pr)=if pr=0 then 0 else pr &&& cn (jq R.rows pm) R.rows.length:=rfl
 repeat' (first|refine JU ?_|refine JG a5 JA ?_|refine bf ?_|fail)
 refine ar rfl (fun h1=>?_) (fun h1=>?_)
 ·have hz:pr=0:=by have:=Jz h1;omega
  rw [if_pos hz] at hen
  rw [hen]
  repeat' (first|refine JU ?_|refine JG a5 JA ?_)
  exact JM JA ⟨rfl,k,q,hk,rfl⟩
 ·have hz:pr≠0:=by have:=Jy h1;omega
  rw [if_neg hz] at hen
  rw [hen]
  clear h1
  repeat' (first|refine JU ?_|fail)
  refine br 7 [(0,.v),(1,.v),(2,.v),(3,.v),(4,.v),(5,.e),(6,.v)] none ?_ trivial rfl (by kernel_rfl) (by kernel_rfl) (by kernel_rfl) bQ (by kernel_rfl) rfl
  repeat' (first|refine aD ?_|refine b8 a5 ?_|fail)
  refine j4 (f6 R rb k q) [] hlv rfl rfl (by rw [List.append_nil]) trivial fun c1 L1 ⟨hc1,k1,q1,hk1,hL⟩=>?_
  subst hc1;subst hL
  repeat' (first|refine aD ?_|refine b8 a5 ?_|fail)
  refine JQ [9,14] JA ?_
  repeat' (first|fail)
  refine qO rfl rfl rfl ?_
  rw [u64_and_nat _ _ hp2 hn64]
  repeat' (first|refine JU ?_|refine JG a5 JA ?_)
  exact JM JA ⟨rfl,k1,q1,hk1,by rw [List.append_nil]⟩
def pT (m r:Nat):List Int:=[m,0,0,0,0,0,0,0,r,0,0,0,0,0,0,0]
def iT (p:Pl):ByteArray:=(pT p.1 p.2).foldl (fun r n=>r.push (UInt8.ofNat n.toNat)) ByteArray.empty
def kN (p:Pl):Prop:=p.1 < 256∧p.2 < 256
theorem xq (p:Pl):(iT p).data.toList=(pT p.1 p.2).map fun n=>UInt8.ofNat n.toNat:=by
 unfold iT
 have:∀(l:List Int) (b:ByteArray),(l.foldl (fun r n=>r.push (UInt8.ofNat n.toNat)) b).data.toList=b.data.toList++l.map fun n=>UInt8.ofNat n.toNat:=by
  intro l
  induction l with
  | nil=>intro b;simp
  | cons x l ih=>intro b;rw [List.foldl_cons,ih];simp [ByteArray.push]
 rw [this]
 rfl
theorem Dt {a b:Nat} (ha:a < 256) (hb:b < 256) (h:UInt8.ofNat a=UInt8.ofNat b):a=b:=by
 have:=congrArg UInt8.toNat h
 simpa [UInt8.toNat_ofNat',Nat.mod_eq_of_lt ha,Nat.mod_eq_of_lt hb] using this
theorem sR {p q:Pl} (hp:kN p) (hq:kN q) (h:iT p=iT q):p=q:=by
 have hd:=congrArg (fun b=>b.data.toList) h
 simp only [xq] at hd
 unfold pT at hd
 simp only [Jr,List.cons.injEq,Int.toNat_natCast] at hd
 exact Prod.ext (Dt hp.1 hq.1 hd.1) (Dt hp.2 hq.2 hd.2.2.2.2.2.2.2.2.1)
def tX (M:List Pl) (v:Value):Option AV:=match v with
 | .string s=>(M.findIdx? fun p=>decide (iT p=s)).map fun i=>aF (i:Nat)
 | _=>none
theorem Ff:tX []=fun _=>none:=by
 funext v
 unfold tX
 split <;> rfl
section
variable {M:List Pl} (hM:∀x∈M,kN x) {p:Pl} (hp:kN p)
include hM hp
theorem vA (h:p∈M):tX M (.string (iT p))=some (aF (M.idxOf p:Nat)):=by
  have hi:=List.idxOf_lt_length_of_mem h
  have:(M.findIdx? fun x=>decide (iT x=iT p))=some (M.idxOf p):=by
    rw [List.findIdx?_eq_some_iff_getElem]
    refine ⟨hi,by simp [List.getElem_idxOf hi],fun j hj=>?_⟩
    have hne:M[j]≠p:=by
      intro e
      have:=List.not_of_lt_findIdx (p:=(·==p)) (xs:=M) hj
      rw [e] at this
      simp at this
    simp only [decide_eq_true_eq]
    exact fun e=>hne (sR (hM _ (List.getElem_mem _)) hp e)
  unfold tX
  dsimp only
  rw [this]
  rfl
theorem Dh (h:p∉M):tX M (.string (iT p))=none:=by
 have:(M.findIdx? fun x=>decide (iT x=iT p))=none:=by
  rw [List.findIdx?_eq_none_iff]
  intro x hx
  rw [decide_eq_false_iff_not]
  exact fun e=>h (sR (hM x hx) hp e▸hx)
 unfold tX
 dsimp only
 rw [this]
 rfl
theorem Fg (h:p∉M):tX (M++[p]) (.string (iT p))=some (aF (M.length:Nat)):=by
 rw [vA (fun x hx=>by rw [List.mem_append,List.mem_singleton] at hx;rcases hx with hx | rfl;exact hM x hx;exact hp) hp (by simp),List.idxOf_append,if_neg h,List.idxOf_cons_self,Nat.zero_add]
end
theorem An {M:List Pl} {p:Pl}:∀v,v≠ .string (iT p)→tX (M++[p]) v=tX M v:=by
 intro v hv
 unfold tX
 split
 ·rename_i s
  have:decide (iT p=s)=false:=by rw [decide_eq_false_iff_not];exact fun e=>hv (by rw [e])
  rw [List.findIdx?_append]
  simp [this]
 ·rfl
def pU (l:List Int):List AV:=l.map fun z=> .sc (.int .u8 z)
def rl (m r i:Nat):List Int:=if i=0 then List.replicate 16 0 else pT m r
theorem Ic {m r:Nat} (hm:m < 256) (hr:r < 256) {i:Nat} (hi:i < 8):fj (fj (pU (rl m r i)) (0+i * 1) [.sc (.int .u8 (IntKind.u8.wrap ((m:Int) / 2 ^ min (8 * i) IntKind.i64.bits)))]) (0+(8+i) * 1) [.sc (.int .u8 (IntKind.u8.wrap ((r:Int) / 2 ^ min (8 * i) IntKind.u64.bits)))]=pU (rl m r (i+1)):=by
 have h0:∀z:Nat,z < 256→∀k,0 < k→k < 8→IntKind.u8.wrap ((z:Int) / 2 ^ min (8 * k) 64)=0:=by
  intro z hz k hk hk8
  have:(z:Int) / 2 ^ min (8 * k) 64=0:=by
   have e:min (8 * k) 64=8 * k:=by omega
   rw [e]
   have h1:2 ^ 8≤2 ^ (8 * k):=Nat.pow_le_pow_right (by omega) (by omega)
   have h2:z / 2 ^ (8 * k)=0:=Nat.div_eq_of_lt (by omega)
   have h3:(2:Int) ^ (8 * k)=((2 ^ (8 * k):Nat):Int):=(Int.natCast_pow 2 _).symm
   rw [h3,←Int.natCast_ediv,h2]
   rfl
  rw [this]
  decide
 have h1:∀z:Nat,z < 256→IntKind.u8.wrap ((z:Int) / 2 ^ min (8 * 0) 64)=(z:Int):=by
  intro z hz
  rw [Nat.mul_zero,Nat.zero_min,Int.pow_zero,Int.ediv_one,IntKind.wrap_u8]
  omega
 show fj (fj _ _ [.sc (.int .u8 (IntKind.u8.wrap ((m:Int) / 2 ^ min (8 * i) 64)))]) _ [.sc (.int .u8 (IntKind.u8.wrap ((r:Int) / 2 ^ min (8 * i) 64)))]=_
 match i,hi with
 | 0,_=>rw [h1 m hm,h1 r hr];rfl
 | 1,_=>rw [h0 m hm 1 (by omega) (by omega),h0 r hr 1 (by omega) (by omega)];rfl
 | 2,_=>rw [h0 m hm 2 (by omega) (by omega),h0 r hr 2 (by omega) (by omega)];rfl
 | 3,_=>rw [h0 m hm 3 (by omega) (by omega),h0 r hr 3 (by omega) (by omega)];rfl
 | 4,_=>rw [h0 m hm 4 (by omega) (by omega),h0 r hr 4 (by omega) (by omega)];rfl
 | 5,_=>rw [h0 m hm 5 (by omega) (by omega),h0 r hr 5 (by omega) (by omega)];rfl
 | 6,_=>rw [h0 m hm 6 (by omega) (by omega),h0 r hr 6 (by omega) (by omega)];rfl
 | 7,_=>rw [h0 m hm 7 (by omega) (by omega),h0 r hr 7 (by omega) (by omega)];rfl
set_option maxHeartbeats 4000000 in
theorem Fk (p:Pl) (hp:kN p):bJ Tryz.prog 179 [.agg (me p)] (.sc (.string (iT p))):=by
 refine aN Tryz.func179 rfl Tryz.ntmps179 rfl fun B=>?_
 obtain ⟨m,r⟩:=p
 obtain ⟨hm,hr⟩:=hp
 dsimp only at hm hr
 repeat' (first|refine JU ?_|refine am ?_|refine JG a5 JA ?_|refine bf ?_|refine bj a5 fun _=>?_|fail)
 rename_i ab
 refine aP [1,3] (α:=Nat) (fun i=>[(5,aF i)]) (fun i=>i≤8) (fun i=>[(ab,.box (pU (rl m r i)) 328)]) (fun i=>8 - i) 0 rfl ⟨rfl,trivial⟩ (Nat.zero_le _) (fun _ _ h=>h) fun i hi=>?_
 try dsimp only [Jt,Js,Jr,Kz]
 repeat' (first|refine JU ?_|refine JG a5 JA ?_)
 refine ar rfl (fun h1=>?_) (fun h1=>?_)
 ·have hi8:i < 8:=by have:=Jz h1;omega
  have hst:=Ic hm hr hi8
  have hcl:(pU (rl m r i)).length=16:=by unfold pU rl;split <;> rfl
  clear h1
  repeat' (first|refine JU ?_|refine am ?_|refine JG a5 JA ?_|(apply aS;refine aQ ?_)|fail)
  refine x2 (8 * i) rfl rfl (by rw [Int.natCast_mul];rfl) rfl ?_
  repeat' (first|fail)
  refine tz a5 rfl rfl rfl rfl rfl rfl ?_
  refine wX a5 i rfl rfl rfl rfl (by omega) rfl ?_
  refine aa a5 0 rfl rfl rfl rfl rfl rfl (Nat.ble_eq_true_of_le (by rw [hcl];show 0+i * 1+1≤16;omega)) ?_
  repeat' (first|refine JU ?_|refine JG a5 JA ?_|(apply aS;refine aQ ?_)|fail)
  refine x2 (8 * i) rfl rfl (by rw [Int.natCast_mul];rfl) rfl ?_
  refine tz a5 rfl rfl rfl rfl rfl rfl ?_
  refine wX a5 (8+i) rfl rfl rfl (by rw [Jw];rfl) (by omega) rfl ?_
  refine aa a5 0 rfl rfl rfl rfl rfl rfl (Nat.ble_eq_true_of_le (by rw [iO,hcl];show 0+(8+i) * 1+1≤16;omega)) ?_
  repeat' (first|refine JU ?_|refine JG a5 JA ?_|(apply aS;refine aQ ?_)|fail)
  exact aC (i+1) rfl ⟨by rw [Jw];rfl,trivial⟩ (by omega) (by omega) (fun _ _ h=>by rw [←hst];exact h)
 ·have hi8:i=8:=by have:=Jy h1;omega
  subst hi8
  repeat' (first|refine JU ?_|fail)
  refine CH a5 rfl rfl rfl ?_
  refine CF a5 0 (pT m r) rfl rfl rfl rfl rfl rfl rfl rfl rfl ?_
  repeat' (first|refine JU ?_|refine JG a5 JA ?_)
  refine dI (List.nil_sublist _) ?_
  exact JN JB
end Go.Proofs.YtpmdfoaadejmkaaGreatDoor
namespace Go.Proofs.YtpmdfoaadejmkaaGreatDoor
open Go.RowKit
attribute [local irreducible] AT bK AX AO Av Kt bh dw DA cK
section
variable {P:Program} {tt:TT} {r:Option Nat} {ops:Array Oper} {Q:Exit→Act→World→Prop} {nt:Nat} {D:List Deferred} {fr:c8} {B:Bs} {L:AL} {rest:List Oper} {d:Nat} {ty t t':TypeId} {pos:String} {af:Array Edge} {x y z:Operand} {u:AV}
theorem EO (ok:er P tt) (n:Nat) {e sz by_:Nat} {k k':IntKind} {b:Int} {zs:List Value} (ht:jJ tt t=some (e,sz,by_)) (hz:zI tt e=some zs) (hzl:Nat.beq zs.length sz=true) (hx:bo fr x=some (.sc (.int k 0))) (hy:bo fr y=some (.sc (.int k' b))) (hb:b=(n:Int)) (hby:by_ * n≤281474976710656) (h63:n≤9223372036854775807) (hd:Nat.ble nt d=false)
  (h:∀b,bK P r ops Q nt D rest ((d,.vec (some (b,n)) sz [])::fr) B ((b,.vec e sz 0 n)::L)):bK P r ops Q nt D (⟨some d,.makeSlice t x y,ty,pos,af,none⟩::rest) fr B L:=
 cP hd rfl (Bd (bv ok ht).1 (eJ ok hz) (Nat.eq_of_beq_eq_true hzl) (bv ok ht).2 hx hy hb hby h63) fun c L' ⟨b,h1,h2⟩=>by subst h1;subst h2;exact h b
end
def tv (nb kb mb:Nat) (M:List Pl) (q:Option (Nat×Nat)):AL:=(nb,.box [.sc (.map (some kb))] 129)::(kb,cX .string (tX M))::(mb,.box [.vec q 2 (M.map me)] 259)::tok q 261 2 M.length
def DD (nb kb mb:Nat) (M:List Pl) (u:AV):AV→AL→Prop:=fun c L=>c=u∧∃q,L=tv nb kb mb M q
set_option maxHeartbeats 4000000 in
theorem yb (nb kb mb:Nat) (M:List Pl) (hM:∀x∈M,kN x) (hl:M.length≤1000000) (q:Option (Nat×Nat)) (p:Pl) (hp:kN p):AC Tryz.prog 178 ([.agg (me p)]++[g9 nb,g9 mb]) (tv nb kb mb M q) (DD nb kb mb (ec M p) (aF ((ec M p).idxOf p:Nat))):=by
 refine aN Tryz.func178 rfl Tryz.ntmps178 rfl fun B=>?_
 haveI:=AD.mk (Fk p hp)
 have hml:(M.map me).length=M.length:=Jv ..
 unfold tv
 repeat' (first|refine JU ?_|refine JG a5 JA ?_|(apply bF;first|refine JJ a5 0 JD ?_|refine JJ a5 1 JD ?_|refine JJ a5 2 JD ?_|refine JJ a5 3 JD ?_|refine JK a5 0 JD ?_|refine JK a5 1 JD ?_|refine JK a5 2 JD ?_|refine JL a5 1 JB (by assumption) rfl ?_|refine JL a5 0 JB (by assumption) rfl ?_|fail)|refine bf ?_|(apply bw;refine bn ?_)|fail)
 refine it 1 (.int .i64 0) Tryz.underlying129 Tryz.underlying9 rfl rfl trivial rfl (by kernel_rfl) rfl ?_
 by_cases hm:p∈M
 ·have hg:=vA hM hp hm
  have ht:=fH hm
  rw [hg,ht]
  repeat' (first|refine JU ?_|refine JG a5 JA ?_|refine bC rfl ?_)
  exact JM JA ⟨rfl,q,rfl⟩
 ·have hg:=Dh hM hp hm
  have hpu:=Fg hM hp hm
  have ht:=gu hm
  have hn:=nA hm
  rw [hg]
  repeat' (first|refine JU ?_|refine JG a5 JA ?_|(apply bF;first|refine JJ a5 0 JD ?_|refine JJ a5 1 JD ?_|refine JJ a5 2 JD ?_|refine JJ a5 3 JD ?_|refine JK a5 0 JD ?_|refine JK a5 1 JD ?_|refine JK a5 2 JD ?_|refine JL a5 1 JB (by assumption) rfl ?_|refine JL a5 0 JB (by assumption) rfl ?_|fail)|refine bD rfl ?_)
  refine eo 1 (tX (M++[p])) Tryz.underlying129 Tryz.underlying9 rfl rfl trivial (by rw [hml];rfl) rfl hpu An ?_
  repeat' (first|refine JU ?_|refine JG a5 JA ?_|(apply bF;first|refine JJ a5 0 JD ?_|refine JJ a5 1 JD ?_|refine JJ a5 2 JD ?_|refine JJ a5 3 JD ?_|refine JK a5 0 JD ?_|refine JK a5 1 JD ?_|refine JK a5 2 JD ?_|refine JL a5 1 JB (by assumption) rfl ?_|refine JL a5 0 JB (by assumption) rfl ?_|fail)|refine bN a5 ?_|fail)
  refine bI a5 [(nb,.box [.sc (.map (some kb))] 129),(kb,cX .string (tX (M++[p]))),(mb,.box [.vec q 2 (M.map me)] 259)] rfl rfl rfl rfl ?_ (by rw [hml];simp;omega) (by rw [hml];simp;omega) rfl fun q'=>?_
  ·rw [hml]
   exact List.perm_append_comm (l₁:=[_,_,_])
  have hsn:M.map me++[me p]=(M++[p]).map me:=by rw [List.map_append];rfl
  refine aJ (aR (L':=(nb,.box [.sc (.map (some kb))] 129)::(kb,cX .string (tX (M++[p])))::(mb,.box [.vec q 2 (M.map me)] 259)::tok q' 261 2 (M.map me++[me p]).length) (List.perm_append_comm (l₂:=[_,_,_]))) ?_
  repeat' (first|refine JU ?_|refine JG a5 JA ?_|(apply aM;first|refine JH a5 0 JE ?_|refine JH a5 1 JE ?_|refine JH a5 2 JE ?_|refine JH a5 3 JE ?_|fail))
  refine JM JA ⟨?_,q',?_⟩
  ·rw [hml,hn]
  ·rw [ht,hsn,Jv]
   unfold tv
   rw [←hsn]
   rfl
theorem yT (r:bc):bJ Tryz.prog 185 [.agg (bB r)] (.tup [.imm 1 (b6 r.Back),dY true]):=by
 refine aN Tryz.func185 rfl Tryz.ntmps185 rfl fun B=>?_
 repeat' (first|refine JU ?_|refine JG a5 JA ?_|refine bf ?_|fail)
 exact JT JC
set_option maxHeartbeats 4000000 in
theorem zp (r:bc) (h1:r.In.length≤1000000) (h2:r.Ahead.length≤1000000):bJ Tryz.prog 184 [.agg (bB r)] (.tup [.imm 1 (b6 (dK r)),dY (!r.In.isEmpty)]):=by
 refine aN Tryz.func184 rfl Tryz.ntmps184 rfl fun B=>?_
 have hil:=c6 r.In
 have hal:=c6 r.Ahead
 repeat' (first|refine JU ?_|refine JG a5 JA ?_|refine bf ?_|fail)
 refine ar rfl (fun h=>?_) (fun h=>?_)
 ·have hz:r.In=[]:=List.eq_nil_of_length_eq_zero (by have:=Jz h;omega)
  unfold dK
  rw [hz]
  clear h
  repeat' (first|refine JU ?_|refine JG a5 JA ?_)
  refine bk (bL (t:=2) (c':= .imm 1 []) rfl fun σ v h=>io 1 h) ?_
  exact JT JC
 ·have hz:r.In≠[]:=fun e=>by have:=Jy h;rw [hil,e] at this;simp at this
  have he:r.In.isEmpty=false:=by cases hr:r.In;exact absurd hr hz;rfl
  unfold dK
  rw [he]
  clear h
  repeat' (first|refine JU ?_|refine JG a5 JA ?_|(apply aS;refine aQ ?_)|fail)
  refine EO a5 (r.In.length+r.Ahead.length) rfl rfl rfl rfl rfl (by rw [hil,hal,Jw]) (by omega) (by omega) rfl fun b=>?_
  repeat' (first|refine JU ?_|refine JG a5 JA ?_)
  refine bI a5 [] rfl rfl rfl rfl (by rw [List.append_nil];exact Jp _) (by simp;omega) (by simp;omega) rfl fun q1=>?_
  repeat' (first|refine JU ?_|refine JG a5 JA ?_)
  refine bI a5 [] rfl rfl rfl rfl (Jp _) (by simp;omega) (by simp;omega) rfl fun q2=>?_
  repeat' (first|refine JU ?_|refine JG a5 JA ?_)
  have hra:b6 (r.In++r.Ahead)=[]++b6 r.In++b6 r.Ahead:=by simp [b6]
  refine bk (bL (t:=2) (c':= .imm 1 (b6 (r.In++r.Ahead))) rfl fun σ v h=>by rw [hra];exact VR.im h) ?_
  refine dI (List.nil_sublist _) ?_
  exact JT JC
end Go.Proofs.YtpmdfoaadejmkaaGreatDoor
