/-
  What comes where so many sets were met: the walk.
-/
import Derived.Test.YtpmdfoaadejmkaaGreatDoorM15
import Derived.Test.YtpmdfoaadejmkaaGreatDoorM13
import Derived.Test.YtpmdfoaadejmkaaGreatDoorM06
import Derived.Test.YtpmdfoaadejmkaaGreatDoorM11
namespace Go.Proofs.YtpmdfoaadejmkaaGreatDoor
open Go.RowKit
attribute [local irreducible] AT br AX AO Av Kt b7 dm DA cA
def iD (cls:List Int) (n:Nat) (nx:List Nat) (g:Int):List Nat:=nx.set (cls.getD g.toNat 0).toNat (nx.getD (cls.getD g.toNat 0).toNat 0 ||| 2 ^ n)
def fa (cls:List Int) (rows:List (List (List Int))) (m C n:Nat):List Nat:=(List.range C).map fun c=>cn (mC cls rows m c) n
theorem gZ {cls:List Int} {rows:List (List (List Int))} {m C n:Nat}:(fa cls rows m C n).length=C:=by simp [fa]
theorem mp {cls:List Int} {rows:List (List (List Int))} {m C n c:Nat} (h:c < C):(fa cls rows m C n)[c]?=some (cn (mC cls rows m c) n):=by simp [fa,h]
theorem uj {cls:List Int} {c:Nat} {s:List Int} {g:Int}:fO cls c (s++[g])=(fO cls c s || fO cls c [g]):=by simp [fO]
theorem mn {cls:List Int} {n:Nat}:∀{s:List Int} {nx:List Nat},(s.foldl (iD cls n) nx).length=nx.length
 | [],_=>rfl
 | g::s,nx=>by rw [List.foldl_cons,mn];unfold iD;rw [List.length_set]
section
variable {cls:List Int} {C:Nat} (hd:∀z∈cls,0≤z∧z < (C:Int))
include hd
theorem vo {g:Int} (hg:0≤g∧g < cls.length):∃c:Nat,cls[g.toNat]?=some (c:Int)∧c < C∧cls.getD g.toNat 0=(c:Int):=by
 obtain ⟨z,hz⟩:∃z,cls[g.toNat]?=some z:=⟨_,Iy (by omega)⟩
 obtain ⟨h0,h1⟩:=hd z (Lw hz)
 refine ⟨z.toNat,by rw [hz];congr 1;omega,by omega,?_⟩
 rw [List.getD_eq_getElem?_getD,hz]
 show z=_
 omega
theorem t2 {n:Nat} {nx:List Nat} (hl:nx.length=C):∀{s:List Int},(∀g∈s,0≤g∧g < (cls.length:Int))→∀c,c < C→(s.foldl (iD cls n) nx)[c]?=some (nx.getD c 0 ||| (if fO cls c s=true then 2 ^ n else 0)):=by
 intro s
 refine o7 (P:=fun s=>(∀g∈s,0≤g∧g < (cls.length:Int))→∀c,c < C→(s.foldl (iD cls n) nx)[c]?=some (nx.getD c 0 ||| (if fO cls c s=true then 2 ^ n else 0))) ?_ ?_ s
 ·intro _ c hc
  rw [List.foldl_nil,List.getD_eq_getElem?_getD,Iy (by omega)]
  simp [fO]
 ·intro s g ih hs c hc
  have ih':=ih (fun x hx=>hs x (by simp [hx]))
  obtain ⟨k,hk,hkC,hkd⟩:=vo hd (hs g (by simp))
  have hml:=mn (cls:=cls) (n:=n) (s:=s) (nx:=nx)
  rw [List.foldl_append,List.foldl_cons,List.foldl_nil]
  unfold iD at hml ⊢
  rw [hkd,Int.toNat_natCast]
  have hg1:fO cls c [g]=decide (k=c):=by
   unfold fO
   have hg:=hs g (by simp)
   have hkd2:cls.getD g.toNat (-1)=(k:Int):=by rw [List.getD_eq_getElem?_getD,hk];rfl
   simp only [List.any_cons,List.any_nil,Bool.or_false,hkd2,decide_eq_true hg.1,decide_eq_true hg.2,Bool.true_and]
   exact decide_eq_decide.2 (by omega)
  rw [uj,hg1]
  by_cases hkc:k=c
  ·subst hkc
   rw [List.getElem?_set_self (by omega),List.getD_eq_getElem?_getD]
   have:=ih' k hc
   unfold iD at this
   rw [this]
   simp only [Option.getD_some,decide_true,Bool.or_true,if_true]
   congr 1
   split
   ·rw [Nat.or_assoc,Nat.or_self]
   ·rw [Nat.or_zero]
  ·rw [List.getElem?_set_ne hkc]
   have:=ih' c hc
   unfold iD at this
   rw [this]
   simp [hkc]
theorem xR {rows:List (List (List Int))} {m n:Nat} {ea:List (List Int)} (hr:rows[n]?=some ea) {s:List Int} (hs:ea[m]?=some s) (hg:∀g∈s,0≤g∧g < (cls.length:Int)):s.foldl (iD cls n) (fa cls rows m C n)=fa cls rows m C (n+1):=by
 apply List.ext_getElem?
 intro c
 by_cases hc:c < C
 ·rw [t2 hd gZ hg c hc,mp hc,List.getD_eq_getElem?_getD,mp hc,cn]
  have:mC cls rows m c n=fO cls c s:=by
   unfold mC
   rw [hr]
   dsimp only
   rw [hs]
  rw [this]
  rfl
 ·rw [List.getElem?_eq_none (by rw [mn,gZ];omega),List.getElem?_eq_none (by rw [gZ];omega)]
end
theorem ru {cls:List Int} {rows:List (List (List Int))} {m C n:Nat} {ea:List (List Int)} (hr:rows[n]?=some ea) (hs:ea.length≤m):fa cls rows m C (n+1)=fa cls rows m C n:=by
 unfold fa
 refine List.map_congr_left fun c _=>?_
 rw [cn]
 have:mC cls rows m c n=false:=by
  unfold mC
  rw [hr]
  dsimp only
  rw [List.getElem?_eq_none hs]
 rw [this]
 simp
theorem zx (n:Nat) (h:n < 64):IntKind.u64.wrap (1 * 2 ^ min n IntKind.u64.bits)=((2 ^ n:Nat):Int):=by
 have e:min n IntKind.u64.bits=n:=by show min n 64=n;omega
 have h1:2 ^ n < 2 ^ 64:=Nat.pow_lt_pow_right (by omega) h
 have e2:(2:Int) ^ n=((2 ^ n:Nat):Int):=(Int.natCast_pow 2 n).symm
 rw [e,Int.one_mul,e2]
 generalize 2 ^ n=k at h1
 have h64:(2:Nat) ^ 64=18446744073709551616:=by decide
 rw [h64] at h1
 rw [IntKind.wrap_u64]
 exact Int.emod_eq_of_lt (by omega) (by omega)
theorem oB {p:Nat→Bool} {n:Nat} (h:n≤64):cn p n < 2 ^ 64:=Nat.lt_of_lt_of_le (nh p n) (Nat.pow_le_pow_right (by omega) h)
theorem GU {n:Nat} (h:n < 64):2 ^ n < 2 ^ 64:=Nat.pow_lt_pow_right (by omega) h
def gD (l:List Nat):List AV:=l.map fun z=>jA z
theorem qJ (l:List Nat):(gD l).length=l.length:=by simp [gD]
theorem x4 {l:List Nat} {i:Nat} {z:Nat} (h:l[i]?=some z):(gD l)[0+((i:Nat):Int).toNat * 1]?=some (jA z):=by simp [gD,h]
theorem x6 {l:List Nat} {i:Nat} {z:Nat}:fx (gD l) (0+((i:Nat):Int).toNat * 1) [jA z]=gD (l.set i z):=by
 rw [jh]
 unfold gD
 rw [List.map_set]
 simp
theorem vm (n:Nat):(List.replicate n [jA 0]).flatten=gD (List.replicate n 0):=by
 induction n with
 | zero=>rfl
 | succ n ih=>rw [List.replicate_succ,List.flatten_cons,ih,List.replicate_succ];rfl
theorem BP (l:List Nat):gD l=(ek l).flatten:=by
 induction l with
 | nil=>rfl
 | cons z l ih=>simp [gD,ek] at ih ⊢;exact ih
def ke (l:List (List (List Int))):List (List AV):=l.map fun r=>[.imm 1 (bj r)]
theorem te (l:List (List (List Int))):(ke l).length=l.length:=by simp [ke]
theorem Bk {l:List (List (List Int))} {i:Nat} {r:List (List Int)} (h:l[i]?=some r):(ke l)[i]?=some [.imm 1 (bj r)]:=by simp [ke,h]
structure RD where
 rows:List (List (List Int))
 have_:Nat
 cls:List Int
 C:Nat
structure C7 (R:RD):Prop where
 few:R.rows.length≤6
 dom:∀z∈R.cls,0≤z∧z < (R.C:Int)
 sets:∀r∈R.rows,∀s∈r,(∀g∈s,0≤g∧g < (R.cls.length:Int))∧s.length≤1000000
 long:∀r∈R.rows,r.length≤1000000
 many:R.C≤1000000∧R.cls.length≤1000000
def Fj (R:RD) (lv:AV):List AV:=[.imm 1 (ke R.rows),jA R.have_,.imm 1 (aQ R.cls),aI R.C,lv]
def lC (R:RD) (m:Nat):List AV:=[.imm 1 (ek (fa R.cls R.rows m R.C R.rows.length)),jA (cn (jM R.rows m) R.rows.length)]
set_option maxHeartbeats 8000000 in
theorem tZ (R:RD) (h:C7 R) (rb:Nat) (lv:AV) (m:Nat) (hm:m≤1000000):AC Tryz.prog 285 [eO rb,aI m] [(rb,.box (Fj R lv) 268)] fun c L=>c= .agg (lC R m)∧L=[(rb,.box (Fj R lv) 268)]:=by
 refine aS Tryz.func285 rfl Tryz.ntmps285 rfl fun B=>?_
 have hrl:=te R.rows
 have hil:=aX R.cls
 obtain ⟨hC,hN⟩:=h.many
 have hfew:=h.few
 refine W13 ?_
 intros
 refine iz a5 R.C rfl rfl rfl rfl rfl rfl rfl (by omega) (by omega) rfl fun nb=>?_
 rw [show (List.replicate R.C (List.map AV.sc [Value.int .u64 0])).flatten=gD (List.replicate R.C 0) from vm R.C]
 repeat' (first|refine a9 ?_|refine a4 ?_|refine ai ?_|refine a6 ?_|refine a7 ?_|refine LG a5 KZ ?_|(apply bq;first|refine LJ a5 0 LC ?_|refine LJ a5 1 LC ?_|refine LJ a5 2 LC ?_|refine LJ a5 3 LC ?_|refine LK a5 0 LC ?_|refine LK a5 1 LC ?_|refine LK a5 2 LC ?_|refine LL a5 1 LA (by assumption) rfl ?_|refine LL a5 0 LA (by assumption) rfl ?_|fail)|(apply aM;first|refine LH a5 0 LE ?_|refine LH a5 1 LE ?_|refine LH a5 2 LE ?_|refine LH a5 3 LE ?_|fail)|refine bf a5 fun _=>?_|fail)
 rename_i r4 l5
 refine aN [0,1,4,5,19,20] (α:=Nat) (fun n=>[(21,aI n)]) (fun n=>n≤R.rows.length) (fun n=>[(l5,.box [.sc (.slice (some ⟨nb,0,none⟩) R.C R.C),jA (cn (jM R.rows m) n)] 330),(nb,.box (gD (fa R.cls R.rows m R.C n)) 246),(r4,.box [.sc (.slice none 0 0),jA 0] 330),(rb,.box (Fj R lv) 268)]) (fun n=>R.rows.length - n) 0 rfl ⟨rfl,trivial⟩ (Nat.zero_le _) (fun _ _ hh=>?_) fun n hn=>?_
 ·rw [show fa R.cls R.rows m R.C 0=List.replicate R.C 0 by unfold fa cn;rw [List.map_const',List.length_range]]
  exact hh
 ·try dsimp only [Lr,Lq,Lp,Li]
  refine W01 ?_
  refine ar rfl (fun h1=>?_) (fun h1=>?_)
  ·have hn2:n < R.rows.length:=by have:=Lz h1;omega
   obtain ⟨ea,hrow⟩:∃z,R.rows[n]?=some z:=⟨_,Iy hn2⟩
   have hrg:=Bk hrow
   have hrwl:=bZ ea
   have hrm:=Lw hrow
   have hlong:=h.long ea hrm
   have hends:cn (jM R.rows m) (n+1)=cn (jM R.rows m) n ||| (if ea.length=m then 2 ^ n else 0):=by
    rw [cn]
    unfold jM
    rw [hrow]
    simp only [decide_eq_true_eq]
   have hb1:=oB (p:=jM R.rows m) (n:=n) (by omega)
   have hb2:=GU (n:=n) (by omega)
   have hub:=zx n (by omega)
   clear h1
   refine W08 ?_
   refine ar rfl (fun h1=>?_) (fun h1=>?_)
   ·have hlm:ea.length=m:=by have:=Lz h1;omega
    rw [if_pos hlm] at hends
    have hsk:=ru (cls:=R.cls) (C:=R.C) hrow (Nat.le_of_eq hlm)
    clear h1
    repeat' (first|fail)
    refine bz 4 [(0,.v),(1,.l),(2,.v),(3,.v)] none ?_ trivial rfl (by kernel_rfl) (by kernel_rfl) (by kernel_rfl) bX (by kernel_rfl) rfl
    refine W0t ?_
    refine xe n rfl rfl rfl trivial ?_
    repeat' (first|fail)
    refine LQ [0,1,4,5,6,7,19,20,21,31,33] KZ ?_
    refine uc rfl rfl rfl ?_
    rw [hub,u64_or_nat _ _ hb1 hb2,←hends]
    refine W0p ?_
    refine ar rfl (fun h2=>?_) (fun h2=>?_)
    ·refine W1g ?_
     exact aC (n+1) rfl ⟨by rw [Lv];rfl,trivial⟩ hn2 (by omega) (fun _ _ hh=>by rw [hsk];exact hh)
    ·have:=Ly h2
     omega
   ·have hlm:¬ea.length=m:=by have:=Ly h1;omega
    rw [if_neg hlm,Nat.or_zero] at hends
    clear h1
    refine W1P ?_
    refine ar rfl (fun h2=>?_) (fun h2=>?_)
    ·have hsk:=ru (cls:=R.cls) (C:=R.C) (m:=m) hrow (by have:=Lz h2;omega)
     refine W1g ?_
     exact aC (n+1) rfl ⟨by rw [Lv];rfl,trivial⟩ hn2 (by omega) (fun _ _ hh=>by rw [hsk,hends];exact hh)
    ·have hml:m < ea.length:=by have:=Ly h2;omega
     obtain ⟨s,hs⟩:∃z,ea[m]?=some z:=⟨_,Iy hml⟩
     have hsg:=gr hs
     obtain ⟨hsd,hsl⟩:=h.sets ea hrm s (Lw hs)
     have hsil:=aX s
     have hst:=xR h.dom hrow hs hsd
     clear h2
     refine W08 ?_
     refine aN [0,1,4,5,6,19,20,21,43,44] (α:=Nat) (fun j=>[(45,aI j)]) (fun j=>j≤s.length) (fun j=>[(l5,.box [.sc (.slice (some ⟨nb,0,none⟩) R.C R.C),jA (cn (jM R.rows m) n)] 330),(nb,.box (gD ((s.take j).foldl (iD R.cls n) (fa R.cls R.rows m R.C n))) 246),(r4,.box [.sc (.slice none 0 0),jA 0] 330),(rb,.box (Fj R lv) 268)]) (fun j=>s.length - j) 0 rfl ⟨rfl,trivial⟩ (Nat.zero_le _) (fun _ _ hh=>hh) fun j hj=>?_
     try dsimp only [Lr,Lq,Lp,Li]
     refine W01 ?_
     refine ar rfl (fun h2=>?_) (fun h2=>?_)
     ·have hj2:j < s.length:=by have:=Lz h2;omega
      obtain ⟨g,hg⟩:∃z,s[j]?=some z:=⟨_,Iy hj2⟩
      have hgg:=bW hg
      have hgd:=hsd g (Lw hg)
      obtain ⟨c,hc,hcC,hcd⟩:=vo h.dom hgd
      have hcg:(aQ R.cls)[g.toNat]?=some [aI c]:=bW hc
      have hnl:((s.take j).foldl (iD R.cls n) (fa R.cls R.rows m R.C n)).length=R.C:=by rw [mn,gZ]
      obtain ⟨v,hv⟩:∃z,((s.take j).foldl (iD R.cls n) (fa R.cls R.rows m R.C n))[c]?=some z:=⟨_,Iy (by omega)⟩
      have hv64:v < 2 ^ 64:=by
       have:=t2 h.dom (n:=n) (nx:=fa R.cls R.rows m R.C n) gZ (s:=s.take j) (fun x hx=>hsd x (List.mem_of_mem_take hx)) c hcC
       rw [hv,List.getD_eq_getElem?_getD,mp hcC] at this
       cases this
       exact E7 (oB (by omega)) (by split;exact hb2;omega)
      have htk:s.take (j+1)=s.take j++[g]:=by rw [List.take_add_one,hg];rfl
      have hfs:(s.take (j+1)).foldl (iD R.cls n) (fa R.cls R.rows m R.C n)=((s.take j).foldl (iD R.cls n) (fa R.cls R.rows m R.C n)).set c (v ||| 2 ^ n):=by
       rw [htk,List.foldl_append,List.foldl_cons,List.foldl_nil]
       generalize (s.take j).foldl (iD R.cls n) (fa R.cls R.rows m R.C n)=nx at hv
       unfold iD
       rw [hcd,Int.toNat_natCast,List.getD_eq_getElem?_getD,hv]
       rfl
      generalize (s.take j).foldl (iD R.cls n) (fa R.cls R.rows m R.C n)=nx at *
      have hvc:=x4 hv
      have hul:=qJ nx
      clear h2
      refine W08 ?_
      refine ce [0,1,4,5,6,9,19,20,21,43,44,45] True rfl (fun Q' K=>?_) (fun _=>?_) (fun hC=>absurd trivial hC)
      ·repeat' (first|refine a7 ?_|refine LG a5 KZ ?_|refine LO KZ ?_|refine LP LB ?_|(apply bq;first|refine LJ a5 0 LC ?_|refine LJ a5 1 LC ?_|refine LJ a5 2 LC ?_|refine LJ a5 3 LC ?_|refine LK a5 0 LC ?_|refine LK a5 1 LC ?_|refine LK a5 2 LC ?_|refine LL a5 1 LA (by assumption) rfl ?_|refine LL a5 0 LA (by assumption) rfl ?_|fail)|refine LR LA (fun _=>?_) (fun _=>?_))
       all_goals exact K _ _ rfl rfl (by simp_all <;> omega)
      repeat' (first|fail)
      refine bz 14 [(0,.v),(1,.l),(2,.v),(3,.v),(4,.v),(5,.l),(6,.v),(7,.v),(8,.v),(9,.v),(10,.l),(11,.v),(12,.v),(13,.v)] none ?_ trivial rfl (by kernel_rfl) (by kernel_rfl) (by kernel_rfl) bX (by kernel_rfl) rfl
      refine W0t ?_
      refine cf a5 3 rfl rfl rfl rfl trivial ?_
      refine W18 ?_
      refine d8 a5 rfl rfl rfl ⟨by omega,by omega⟩ trivial ?_
      repeat' (first|refine aD ?_|fail)
      refine cf a5 1 rfl rfl rfl hvc trivial ?_
      refine W0a ?_
      refine xe n rfl rfl rfl trivial ?_
      repeat' (first|refine aD ?_|fail)
      refine Fp rfl rfl trivial ?_
      repeat' (first|fail)
      refine LQ [0,1,4,5,6,19,20,21,43,44,45,61,68,73] KZ ?_
      rw [hub,u64_or_nat _ _ hv64 hb2]
      refine W0z ?_
      refine LU a5 1 LD (Nat.ble_eq_true_of_le (by rw [hul,hnl,Int.toNat_natCast];show 0+c * 1+1≤_;omega)) ?_
      rw [x6]
      refine W05 ?_
      exact aC (j+1) rfl ⟨by rw [Lv];rfl,trivial⟩ hj2 (by omega) (fun _ _ hh=>by rw [hfs];exact hh)
     ·have hj2:j=s.length:=by have:=Ly h2;omega
      subst hj2
      rw [List.take_length,hst]
      clear h2
      refine W0y ?_
      exact aC (n+1) rfl ⟨by rw [Lv];rfl,trivial⟩ hn2 (by omega) (fun _ _ hh=>by rw [hends];exact hh)
  ·have hn2:n=R.rows.length:=by have:=Ly h1;omega
   subst hn2
   clear h1
   refine W0J ?_
   have hcu:=qJ (fa R.cls R.rows m R.C R.rows.length)
   rw [gZ] at hcu
   refine dc (L':=[(nb,.box (gD (fa R.cls R.rows m R.C R.rows.length)) 246),(r4,.box [.sc (.slice (some ⟨nb,0,none⟩) R.C R.C),jA (cn (jM R.rows m) R.rows.length)] 330),(rb,.box (Fj R lv) 268)]) (List.sublist_cons_self ..) ?_
   refine bc (tv (k:=0) (sz:=1) (n:=R.C) (cap:=R.C) (l:=ek (fa R.cls R.rows m R.C R.rows.length)) rfl (by rw [←BP,List.take_of_length_le (by omega)]) (by omega) (fun e he=>by unfold ek at he;obtain ⟨z,_,rfl⟩:=List.mem_map.1 he;rfl) (by rw [kp,gZ]) (Nat.le_refl _) (by unfold maxLen;omega)) ?_
   exact fY (cs:=[.agg (lC R m)]) [(rb,.box (Fj R lv) 268)] ⟨⟨_,0,_,_,rfl,rfl,.inr ⟨ee a5 rfl,rfl⟩⟩,trivial⟩ (List.sublist_cons_self ..) ⟨rfl,rfl⟩
end Go.Proofs.YtpmdfoaadejmkaaGreatDoor
namespace Go.Proofs.YtpmdfoaadejmkaaGreatDoor
open Go.RowKit
attribute [local irreducible] AT br AX AO Av Kt b7 dm DA cA
def AP (R:RD) (k:Nat):List (List AV):=(List.range k).map (lC R)
theorem z6 (R:RD) (k:Nat):(AP R k).length=k:=by simp [AP]
theorem vW (R:RD) (k:Nat):AP R k++[lC R k]=AP R (k+1):=by simp [AP,List.range_succ]
theorem FZ (R:RD) {k m:Nat} (h:m < k):(AP R k)[m]?=some (lC R m):=by simp [AP,h]
abbrev rH (R:RD) (rb k:Nat) (q:Option (Nat×Nat)):Nat×AB:=(rb,.box (Fj R (.vec q 2 (AP R k))) 268)
abbrev eN (R:RD) (rb k:Nat) (q:Option (Nat×Nat)):AL:=rH R rb k q::tok q 330 2 k
def pR (R:RD) (rb:Nat) (u:AV):AV→AL→Prop:=fun c L=>c=u∧∃k q,k≤1000001∧L=eN R rb k q
theorem Jo {a b:Nat×AB} {X:AL}:(a::b::X).Perm (b::a::X):=List.Perm.swap ..
set_option maxHeartbeats 4000000 in
theorem vR (R:RD) (h:C7 R) (rb k:Nat) (q:Option (Nat×Nat)) (hk:k≤1000001) (m:Nat) (hm:m≤1000000):AC Tryz.prog 255 [eO rb,aI m] (eN R rb k q) (pR R rb (.agg (lC R m))):=by
 refine aS Tryz.func255 rfl Tryz.ntmps255 rfl fun B=>?_
 repeat' (first|refine a9 ?_|refine a4 ?_|refine ai ?_|refine a6 ?_|refine a7 ?_|refine bf a5 fun _=>?_|fail)
 rename_i r4
 refine aN [0,1,4] (α:=Nat×Option (Nat×Nat)) (fun _=>[]) (fun s=>s.1≤1000001) (fun s=>(r4,.box [.sc (.slice none 0 0),jA 0] 330)::eN R rb s.1 s.2) (fun s=>m+1 - s.1) (k,q) rfl trivial hk (fun _ _ hh=>hh) ?_
 rintro ⟨k1,q1⟩ hk1
 dsimp only at hk1 ⊢
 try dsimp only [Lr,Lq,Lp,Li]
 have hlen:=z6 R k1
 refine W0d ?_
 refine ar rfl (fun h1=>?_) (fun h1=>?_)
 ·have hkm:k1≤m:=by have:=Lz h1;omega
  have hml:=tZ R h rb (.vec q1 2 (AP R k1)) k1 (by omega)
  clear h1
  repeat' (first|refine ai ?_|refine aj ?_|refine a6 ?_)
  refine dx [.cell (rb,4,.vec q1 2 (AP R k1))] 14 [(0,.v),(1,.v),(2,.v),(3,.v),(4,.k),(5,.v),(6,.v),(7,.v),(8,.v),(9,.l),(10,.v),(11,.f),(12,.v),(13,.e)] none ?_ trivial rfl (by kernel_rfl) (by kernel_rfl) (by kernel_rfl) bX (by kernel_rfl) rfl
  refine W0a ?_
  refine dP a5 0 rfl rfl rfl (nG 1 rfl rfl) trivial ?_
  refine W2b ?_
  refine yH [rH R rb k1 q1] ((r4,.box [.sc (.slice none 0 0),jA 0] 330)::tok q1 330 2 k1) hml rfl (by rw [hlen];rfl) Jo trivial (fun c L1 ⟨hc,hL⟩ hK=>by subst hL;exact nG 0 rfl rfl) fun c L1 ⟨hc,hL⟩=>?_
  subst hc;subst hL
  refine W1e ?_
  refine eS a5 [rH R rb k1 q1,(r4,.box [.sc (.slice none 0 0),jA 0] 330)] rfl rfl rfl rfl ?_ (by rw [hlen];simp;omega) (by rw [hlen];simp;omega) trivial fun q'=>?_
  ·rw [hlen]
   exact List.perm_append_comm (l₁:=[_,_])
  repeat' (first|fail)
  refine LQ [0,1,4,12,25] KZ ?_
  refine aE (aH (L':=rH R rb k1 q1::(r4,.box [.sc (.slice none 0 0),jA 0] 330)::tok q' 330 2 (AP R k1++[lC R k1]).length) (List.perm_append_comm (l₂:=[_,_]))) ?_
  repeat' (first|refine aK ?_|refine a7 ?_|refine LG a5 KZ ?_|(apply aM;first|refine LH a5 0 LE ?_|refine LH a5 1 LE ?_|refine LH a5 2 LE ?_|refine LH a5 3 LE ?_|fail))
  refine aC (k1+1,q') rfl trivial (by dsimp only;omega) (by dsimp only;omega) (fun σ w hh=>?_)
  rw [vW,z6] at hh
  refine cL.perm (L:=rH R rb (k1+1) q'::(r4,.box [.sc (.slice none 0 0),jA 0] 330)::tok q' 330 2 (k1+1)) ?_ Jo
  unfold rH
  rw [←vW]
  exact hh
 ·have hkm:m < k1:=by have:=Ly h1;omega
  have hlg:=FZ R hkm
  clear h1
  repeat' (first|refine a9 ?_|refine a4 ?_|refine am ?_|refine aP ?_|refine a6 ?_|refine aq ?_|refine ay ?_|refine au ?_|refine a7 ?_|refine LG a5 KZ ?_|(apply bq;first|refine LJ a5 0 LC ?_|refine LJ a5 1 LC ?_|refine LJ a5 2 LC ?_|refine LJ a5 3 LC ?_|refine LK a5 0 LC ?_|refine LK a5 1 LC ?_|refine LK a5 2 LC ?_|refine LL a5 1 LA (by assumption) rfl ?_|refine LL a5 0 LA (by assumption) rfl ?_|fail)|(apply aL;first|refine aJ a5 ?_|refine aF a5 ?_)|(apply aM;first|refine LH a5 0 LE ?_|refine LH a5 1 LE ?_|refine LH a5 2 LE ?_|refine LH a5 3 LE ?_|fail))
  exact fY (cs:=[.agg (lC R m)]) (eN R rb k1 q1) ⟨⟨_,0,_,_,rfl,rfl,.inr ⟨ee a5 rfl,rfl⟩⟩,trivial⟩ (List.sublist_cons_self ..) ⟨rfl,k1,q1,hk1,rfl⟩
def lp (p:Pl):List AV:=[aI p.1,jA p.2]
theorem td (R:RD) (rb k:Nat) (q:Option (Nat×Nat)) (hk:k≤1000001):AC Tryz.prog 180 [eO rb] (eN R rb k q) (pR R rb (.agg (lp (0,R.have_)))):=by
 refine aS Tryz.func180 rfl Tryz.ntmps180 rfl fun B=>?_
 repeat' (first|refine a9 ?_|refine a4 ?_|refine am ?_|refine a6 ?_|refine a7 ?_|refine LG a5 KZ ?_|(apply bq;first|refine LJ a5 0 LC ?_|refine LJ a5 1 LC ?_|refine LJ a5 2 LC ?_|refine LJ a5 3 LC ?_|refine LK a5 0 LC ?_|refine LK a5 1 LC ?_|refine LK a5 2 LC ?_|refine LL a5 1 LA (by assumption) rfl ?_|refine LL a5 0 LA (by assumption) rfl ?_|fail)|(apply aM;first|refine LH a5 0 LE ?_|refine LH a5 1 LE ?_|refine LH a5 2 LE ?_|refine LH a5 3 LE ?_|fail)|refine bf a5 fun _=>?_|fail)
 exact fY (cs:=[.agg (lp (0,R.have_))]) (eN R rb k q) ⟨⟨_,0,_,_,rfl,rfl,.inr ⟨ee a5 rfl,rfl⟩⟩,trivial⟩ (List.sublist_cons_self ..) ⟨rfl,k,q,hk,rfl⟩
theorem E1 {R:RD} {m c:Nat} (hc:c < R.C):(ek (fa R.cls R.rows m R.C R.rows.length))[((c:Nat):Int).toNat]?=some [jA (jY R.cls R.rows m c)]:=by
 rw [Int.toNat_natCast]
 exact wv (mp hc)
set_option maxHeartbeats 4000000 in
theorem sE (R:RD) (h:C7 R) (rb k:Nat) (q:Option (Nat×Nat)) (hk:k≤1000001) (p:Pl) (hp:p.1≤1000000) (hp2:p.2 < 2 ^ 64) (c:Nat) (hc:c < R.C):AC Tryz.prog 181 [eO rb,.agg (lp p),aI c] (eN R rb k q) (pR R rb (.agg (lp (bH R.cls R.rows p c)))):=by
 refine aS Tryz.func181 rfl Tryz.ntmps181 rfl fun B=>?_
 obtain ⟨pm,pr⟩:=p
 dsimp only at hp hp2
 have hlv:=vR R h rb k q hk pm hp
 have hnl:=E1 (R:=R) (m:=pm) hc
 have hn64:jY R.cls R.rows pm c < 2 ^ 64:=oB (by have:=h.few;omega)
 have hbe:bH R.cls R.rows (pm,pr) c=if pr &&& jY R.cls R.rows pm c=0 then (0,0) else (pm+1,pr &&& jY R.cls R.rows pm c):=rfl
 refine W1u ?_
 intros
 rename_i r6
 refine ar rfl (fun h1=>?_) (fun h1=>?_)
 ·clear h1
  refine W1f ?_
  refine b9 (eN R rb k q) [(r6,.box [aI 0,jA 0] 261)] hlv rfl rfl (List.perm_append_comm (l₁:=[_])) rfl fun c1 L1 ⟨hc1,k1,q1,hk1,hL⟩=>?_
  subst hc1;subst hL
  refine aE (aH (L':=(r6,.box [aI 0,jA 0] 261)::eN R rb k1 q1) (List.perm_append_comm (l₂:=[_]))) ?_
  refine W0X ?_
  refine oP rfl rfl rfl ?_
  rw [u64_and_nat _ _ hp2 hn64]
  refine W01 ?_
  refine ar rfl (fun h2=>?_) (fun h2=>?_)
  ·have hz:pr &&& jY R.cls R.rows pm c=0:=by have:=Lz h2;omega
   rw [if_pos hz] at hbe
   rw [hbe]
   repeat' (first|refine a9 ?_|refine a4 ?_|refine am ?_|refine a6 ?_|refine aB ?_|refine a7 ?_|refine LG a5 KZ ?_|(apply aM;first|refine LH a5 0 LE ?_|refine LH a5 1 LE ?_|refine LH a5 2 LE ?_|refine LH a5 3 LE ?_|fail))
   exact fY (cs:=[.agg (lp (0,0))]) (eN R rb k1 q1) ⟨⟨_,0,_,_,rfl,rfl,.inr ⟨ee a5 rfl,rfl⟩⟩,trivial⟩ (List.sublist_cons_self ..) ⟨rfl,k1,q1,hk1,rfl⟩
  ·have hz:pr &&& jY R.cls R.rows pm c≠0:=by have:=Ly h2;omega
   rw [if_neg hz] at hbe
   rw [hbe]
   repeat' (first|refine a9 ?_|refine a4 ?_|refine aj ?_|refine am ?_|refine a6 ?_|refine a7 ?_|refine LG a5 KZ ?_|(apply aU;refine aT ?_)|(apply aM;first|refine LH a5 0 LE ?_|refine LH a5 1 LE ?_|refine LH a5 2 LE ?_|refine LH a5 3 LE ?_|fail))
   refine fY (cs:=[.agg (lp (pm+1,pr &&& jY R.cls R.rows pm c))]) (eN R rb k1 q1) ⟨⟨_,0,_,_,rfl,rfl,.inr ⟨ee a5 rfl,rfl⟩⟩,trivial⟩ (List.sublist_cons_self ..) ⟨rfl,k1,q1,hk1,rfl⟩
 ·have hz:pr=0:=by have:=Ly h1;simpa using this
  subst hz
  rw [Nat.zero_and,if_pos rfl] at hbe
  rw [hbe]
  repeat' (first|refine a9 ?_|refine a4 ?_|refine aj ?_|refine am ?_|refine a6 ?_|refine aB ?_|refine a7 ?_|refine LG a5 KZ ?_|(apply aM;first|refine LH a5 0 LE ?_|refine LH a5 1 LE ?_|refine LH a5 2 LE ?_|refine LH a5 3 LE ?_|fail)|refine bR rfl ?_)
  exact fY (cs:=[.agg (lp (0,0))]) (eN R rb k q) ⟨⟨_,0,_,_,rfl,rfl,.inr ⟨ee a5 rfl,rfl⟩⟩,trivial⟩ (List.sublist_cons_self ..) ⟨rfl,k,q,hk,rfl⟩
set_option maxHeartbeats 4000000 in
theorem yO (R:RD) (h:C7 R) (rb k:Nat) (q:Option (Nat×Nat)) (hk:k≤1000001) (p:Pl) (hp:p.1≤1000000) (hp2:p.2 < 2 ^ 64):AC Tryz.prog 182 [eO rb,.agg (lp p)] (eN R rb k q) (pR R rb (jA (ii R.rows p))):=by
 refine aS Tryz.func182 rfl Tryz.ntmps182 rfl fun B=>?_
 obtain ⟨pm,pr⟩:=p
 dsimp only at hp hp2
 have hlv:=vR R h rb k q hk pm hp
 have hn64:cn (jM R.rows pm) R.rows.length < 2 ^ 64:=oB (by have:=h.few;omega)
 have hen:ii R.rows (pm,pr)=if pr=0 then 0 else pr &&& cn (jM R.rows pm) R.rows.length:=rfl
 refine W0b ?_
 refine ar rfl (fun h1=>?_) (fun h1=>?_)
 ·have hz:pr=0:=by have:=Lz h1;omega
  rw [if_pos hz] at hen
  rw [hen]
  refine W07 ?_
  exact LM KZ ⟨rfl,k,q,hk,rfl⟩
 ·have hz:pr≠0:=by have:=Ly h1;omega
  rw [if_neg hz] at hen
  rw [hen]
  clear h1
  refine W27 ?_
  refine bz 7 [(0,.v),(1,.v),(2,.v),(3,.v),(4,.v),(5,.e),(6,.v)] none ?_ trivial rfl (by kernel_rfl) (by kernel_rfl) (by kernel_rfl) bX (by kernel_rfl) rfl
  refine W0a ?_
  refine kG (eN R rb k q) [] hlv rfl rfl (by rw [List.append_nil]) trivial fun c1 L1 ⟨hc1,k1,q1,hk1,hL⟩=>?_
  subst hc1;subst hL
  refine W0a ?_
  refine LQ [9,14] KZ ?_
  repeat' (first|fail)
  refine oP rfl rfl rfl ?_
  rw [u64_and_nat _ _ hp2 hn64]
  refine W0c ?_
  exact LM KZ ⟨rfl,k1,q1,hk1,by rw [List.append_nil]⟩
def qH (m r:Nat):List Int:=[m,0,0,0,0,0,0,0,r,0,0,0,0,0,0,0]
def jk (p:Pl):ByteArray:=(qH p.1 p.2).foldl (fun r n=>r.push (UInt8.ofNat n.toNat)) ByteArray.empty
def lu (p:Pl):Prop:=p.1 < 256∧p.2 < 256
theorem yc (p:Pl):(jk p).data.toList=(qH p.1 p.2).map fun n=>UInt8.ofNat n.toNat:=by
 unfold jk
 have:∀(l:List Int) (b:ByteArray),(l.foldl (fun r n=>r.push (UInt8.ofNat n.toNat)) b).data.toList=b.data.toList++l.map fun n=>UInt8.ofNat n.toNat:=by
  intro l
  induction l with
  | nil=>intro b;simp
  | cons x l ih=>intro b;rw [List.foldl_cons,ih];simp [ByteArray.push]
 rw [this]
 rfl
theorem EN {a b:Nat} (ha:a < 256) (hb:b < 256) (h:UInt8.ofNat a=UInt8.ofNat b):a=b:=by
 have:=congrArg UInt8.toNat h
 simpa [UInt8.toNat_ofNat',Nat.mod_eq_of_lt ha,Nat.mod_eq_of_lt hb] using this
theorem tr {p q:Pl} (hp:lu p) (hq:lu q) (h:jk p=jk q):p=q:=by
 have hd:=congrArg (fun b=>b.data.toList) h
 simp only [yc] at hd
 unfold qH at hd
 simp only [Lp,List.cons.injEq,Int.toNat_natCast] at hd
 exact Prod.ext (EN hp.1 hq.1 hd.1) (EN hp.2 hq.2 hd.2.2.2.2.2.2.2.2.1)
def uA (M:List Pl) (v:Value):Option AV:=match v with
 | .string s=>(M.findIdx? fun p=>decide (jk p=s)).map fun i=>aI (i:Nat)
 | _=>none
theorem zp:uA []=fun _=>none:=by
 funext v
 unfold uA
 split <;> rfl
section
variable {M:List Pl} (hM:∀x∈M,lu x) {p:Pl} (hp:lu p)
include hM hp
theorem wn (h:p∈M):uA M (.string (jk p))=some (aI (M.idxOf p:Nat)):=by
  have hi:=List.idxOf_lt_length_of_mem h
  have:(M.findIdx? fun x=>decide (jk x=jk p))=some (M.idxOf p):=by
    rw [List.findIdx?_eq_some_iff_getElem]
    refine ⟨hi,by simp [List.getElem_idxOf hi],fun j hj=>?_⟩
    have hne:M[j]≠p:=by
      intro e
      have:=List.not_of_lt_findIdx (p:=(·==p)) (xs:=M) hj
      rw [e] at this
      simp at this
    simp only [decide_eq_true_eq]
    exact fun e=>hne (tr (hM _ (List.getElem_mem _)) hp e)
  unfold uA
  dsimp only
  rw [this]
  rfl
theorem EA (h:p∉M):uA M (.string (jk p))=none:=by
 have:(M.findIdx? fun x=>decide (jk x=jk p))=none:=by
  rw [List.findIdx?_eq_none_iff]
  intro x hx
  rw [decide_eq_false_iff_not]
  exact fun e=>h (tr (hM x hx) hp e▸hx)
 unfold uA
 dsimp only
 rw [this]
 rfl
theorem GC (h:p∉M):uA (M++[p]) (.string (jk p))=some (aI (M.length:Nat)):=by
 rw [wn (fun x hx=>by rw [List.mem_append,List.mem_singleton] at hx;rcases hx with hx | rfl;exact hM x hx;exact hp) hp (by simp),List.idxOf_append,if_neg h,List.idxOf_cons_self,Nat.zero_add]
end
theorem BB {M:List Pl} {p:Pl}:∀v,v≠ .string (jk p)→uA (M++[p]) v=uA M v:=by
 intro v hv
 unfold uA
 split
 ·rename_i s
  have:decide (jk p=s)=false:=by rw [decide_eq_false_iff_not];exact fun e=>hv (by rw [e])
  rw [List.findIdx?_append]
  simp [this]
 ·rfl
def qI (l:List Int):List AV:=l.map fun z=> .sc (.int .u8 z)
def rV (m r i:Nat):List Int:=if i=0 then List.replicate 16 0 else qH m r
theorem Jt {m r:Nat} (hm:m < 256) (hr:r < 256) {i:Nat} (hi:i < 8):fx (fx (qI (rV m r i)) (0+i * 1) [.sc (.int .u8 (IntKind.u8.wrap ((m:Int) / 2 ^ min (8 * i) IntKind.i64.bits)))]) (0+(8+i) * 1) [.sc (.int .u8 (IntKind.u8.wrap ((r:Int) / 2 ^ min (8 * i) IntKind.u64.bits)))]=qI (rV m r (i+1)):=by
 have h0:∀z:Nat,z < 256→∀k,0 < k→k < 8→IntKind.u8.wrap ((z:Int) / 2 ^ min (8 * k) 64)=0:=by
  intro z hz k hk hk8
  have:(z:Int) / 2 ^ min (8 * k) 64=0:=by
   have e:min (8 * k) 64=8 * k:=by omega
   rw [e]
   have h1:2 ^ 8≤2 ^ (8 * k):=Nat.pow_le_pow_right (by omega) (by omega)
   have h2:z / 2 ^ (8 * k)=0:=Nat.div_eq_of_lt (by omega)
   have h3:(2:Int) ^ (8 * k)=((2 ^ (8 * k):Nat):Int):=(Int.natCast_pow 2 _).symm
   rw [h3,←Int.natCast_ediv,h2]
   rfl
  rw [this]
  decide
 have h1:∀z:Nat,z < 256→IntKind.u8.wrap ((z:Int) / 2 ^ min (8 * 0) 64)=(z:Int):=by
  intro z hz
  rw [Nat.mul_zero,Nat.zero_min,Int.pow_zero,Int.ediv_one,IntKind.wrap_u8]
  omega
 show fx (fx _ _ [.sc (.int .u8 (IntKind.u8.wrap ((m:Int) / 2 ^ min (8 * i) 64)))]) _ [.sc (.int .u8 (IntKind.u8.wrap ((r:Int) / 2 ^ min (8 * i) 64)))]=_
 match i,hi with
 | 0,_=>rw [h1 m hm,h1 r hr];rfl
 | 1,_=>rw [h0 m hm 1 (by omega) (by omega),h0 r hr 1 (by omega) (by omega)];rfl
 | 2,_=>rw [h0 m hm 2 (by omega) (by omega),h0 r hr 2 (by omega) (by omega)];rfl
 | 3,_=>rw [h0 m hm 3 (by omega) (by omega),h0 r hr 3 (by omega) (by omega)];rfl
 | 4,_=>rw [h0 m hm 4 (by omega) (by omega),h0 r hr 4 (by omega) (by omega)];rfl
 | 5,_=>rw [h0 m hm 5 (by omega) (by omega),h0 r hr 5 (by omega) (by omega)];rfl
 | 6,_=>rw [h0 m hm 6 (by omega) (by omega),h0 r hr 6 (by omega) (by omega)];rfl
 | 7,_=>rw [h0 m hm 7 (by omega) (by omega),h0 r hr 7 (by omega) (by omega)];rfl
set_option maxHeartbeats 4000000 in
theorem GG (p:Pl) (hp:lu p):c5 Tryz.prog 179 [.agg (lp p)] (.sc (.string (jk p))):=by
 refine aS Tryz.func179 rfl Tryz.ntmps179 rfl fun B=>?_
 obtain ⟨m,r⟩:=p
 obtain ⟨hm,hr⟩:=hp
 dsimp only at hm hr
 repeat' (first|refine a9 ?_|refine a4 ?_|refine ai ?_|refine a6 ?_|refine a7 ?_|refine LG a5 KZ ?_|refine bk ?_|refine bf a5 fun _=>?_|fail)
 rename_i ab
 refine aN [1,3] (α:=Nat) (fun i=>[(5,aI i)]) (fun i=>i≤8) (fun i=>[(ab,.box (qI (rV m r i)) 328)]) (fun i=>8 - i) 0 rfl ⟨rfl,trivial⟩ (Nat.zero_le _) (fun _ _ h=>h) fun i hi=>?_
 try dsimp only [Lr,Lq,Lp,Li]
 refine W01 ?_
 refine ar rfl (fun h1=>?_) (fun h1=>?_)
 ·have hi8:i < 8:=by have:=Lz h1;omega
  have hst:=Jt hm hr hi8
  have hcl:(qI (rV m r i)).length=16:=by unfold qI rV;split <;> rfl
  clear h1
  repeat' (first|refine a9 ?_|refine a4 ?_|refine ai ?_|refine aj ?_|refine a6 ?_|refine a7 ?_|refine LG a5 KZ ?_|(apply aU;refine aT ?_)|fail)
  refine xP (8 * i) rfl rfl (by rw [Int.natCast_mul];rfl) rfl ?_
  repeat' (first|fail)
  refine uf a5 rfl rfl rfl rfl rfl rfl ?_
  refine xK a5 i rfl rfl rfl rfl (by omega) rfl ?_
  refine LU a5 0 LD (Nat.ble_eq_true_of_le (by rw [hcl];show 0+i * 1+1≤16;omega)) ?_
  refine W1L ?_
  refine xP (8 * i) rfl rfl (by rw [Int.natCast_mul];rfl) rfl ?_
  refine uf a5 rfl rfl rfl rfl rfl rfl ?_
  refine xK a5 (8+i) rfl rfl rfl (by rw [Lv];rfl) (by omega) rfl ?_
  refine LU a5 0 LD (Nat.ble_eq_true_of_le (by rw [je,hcl];show 0+(8+i) * 1+1≤16;omega)) ?_
  refine W05 ?_
  exact aC (i+1) rfl ⟨by rw [Lv];rfl,trivial⟩ (by omega) (by omega) (fun _ _ h=>by rw [←hst];exact h)
 ·have hi8:i=8:=by have:=Ly h1;omega
  subst hi8
  refine W1p ?_
  refine DW a5 rfl rfl rfl ?_
  refine DT a5 0 (qH m r) rfl rfl rfl rfl rfl rfl rfl rfl rfl ?_
  refine W0c ?_
  refine dc (List.nil_sublist _) ?_
  exact LN LA
end Go.Proofs.YtpmdfoaadejmkaaGreatDoor
namespace Go.Proofs.YtpmdfoaadejmkaaGreatDoor
open Go.RowKit
attribute [local irreducible] AT br AX AO Av Kt b7 dm DA cA
section
variable {P:Program} {tt:TT} {r:Option Nat} {ops:Array Oper} {Q:Exit→Act→World→Prop} {nt:Nat} {D:List Deferred} {fr:bT} {B:Bs} {L:AL} {rest:List Oper} {d:Nat} {ty t t':TypeId} {pos:String} {af:Array Edge} {x y z:Operand} {u:AV}
theorem G5 (ok:eu P tt) (n:Nat) {e sz by_:Nat} {k k':IntKind} {b:Int} {zs:List Value} (ht:kr tt t=some (e,sz,by_)) (hz:zI tt e=some zs) (hzl:Nat.beq zs.length sz=true) (hx:bh fr x=some (.sc (.int k 0))) (hy:bh fr y=some (.sc (.int k' b))) (hb:b=(n:Int)) (hby:by_ * n≤281474976710656) (h63:n≤9223372036854775807) (hd:Nat.ble nt d=false)
  (h:∀b,br P r ops Q nt D rest ((d,.vec (some (b,n)) sz [])::fr) B ((b,.vec e sz 0 n)::L)):br P r ops Q nt D (⟨some d,.makeSlice t x y,ty,pos,af,none⟩::rest) fr B L:=
 cw hd rfl (Cs (bo ok ht).1 (f5 ok hz) (Nat.eq_of_beq_eq_true hzl) (bo ok ht).2 hx hy hb hby h63) fun c L' ⟨b,h1,h2⟩=>by subst h1;subst h2;exact h b
end
def rl (nb kb mb:Nat) (M:List Pl) (q:Option (Nat×Nat)):AL:=(nb,.box [.sc (.map (some kb))] 129)::(kb,cR .string (uA M))::(mb,.box [.vec q 2 (M.map lp)] 259)::tok q 261 2 M.length
def EZ (nb kb mb:Nat) (M:List Pl) (u:AV):AV→AL→Prop:=fun c L=>c=u∧∃q,L=rl nb kb mb M q
set_option maxHeartbeats 4000000 in
theorem qa (nb kb mb:Nat) (M:List Pl) (hM:∀x∈M,lu x) (hl:M.length≤1000000) (q:Option (Nat×Nat)) (p:Pl) (hp:lu p):AC Tryz.prog 178 ([.agg (lp p)]++[eO nb,eO mb]) (rl nb kb mb M q) (EZ nb kb mb (dl M p) (aI ((dl M p).idxOf p:Nat))):=by
 refine aS Tryz.func178 rfl Tryz.ntmps178 rfl fun B=>?_
 haveI:=AD.mk (GG p hp)
 have hml:(M.map lp).length=M.length:=Lu ..
 unfold rl
 repeat' (first|refine a9 ?_|refine a4 ?_|refine a6 ?_|refine a7 ?_|refine LG a5 KZ ?_|(apply bq;first|refine LJ a5 0 LC ?_|refine LJ a5 1 LC ?_|refine LJ a5 2 LC ?_|refine LJ a5 3 LC ?_|refine LK a5 0 LC ?_|refine LK a5 1 LC ?_|refine LK a5 2 LC ?_|refine LL a5 1 LA (by assumption) rfl ?_|refine LL a5 0 LA (by assumption) rfl ?_|fail)|refine bk ?_|(apply bw;refine bn ?_)|fail)
 refine gn 1 (.int .i64 0) Tryz.underlying129 Tryz.underlying9 rfl rfl trivial rfl (by kernel_rfl) rfl ?_
 by_cases hm:p∈M
 ·have hg:=wn hM hp hm
  have ht:=fc hm
  rw [hg,ht]
  refine W1Z ?_
  exact LM KZ ⟨rfl,q,rfl⟩
 ·have hg:=EA hM hp hm
  have hpu:=GC hM hp hm
  have ht:=g7 hm
  have hn:=kl hm
  rw [hg]
  repeat' (first|refine a9 ?_|refine a4 ?_|refine a6 ?_|refine a7 ?_|refine LG a5 KZ ?_|(apply bq;first|refine LJ a5 0 LC ?_|refine LJ a5 1 LC ?_|refine LJ a5 2 LC ?_|refine LJ a5 3 LC ?_|refine LK a5 0 LC ?_|refine LK a5 1 LC ?_|refine LK a5 2 LC ?_|refine LL a5 1 LA (by assumption) rfl ?_|refine LL a5 0 LA (by assumption) rfl ?_|fail)|refine bR rfl ?_)
  refine dD 1 (uA (M++[p])) Tryz.underlying129 Tryz.underlying9 rfl rfl trivial (by rw [hml];rfl) rfl hpu BB ?_
  repeat' (first|refine a4 ?_|refine a6 ?_|refine a7 ?_|refine LG a5 KZ ?_|(apply bq;first|refine LJ a5 0 LC ?_|refine LJ a5 1 LC ?_|refine LJ a5 2 LC ?_|refine LJ a5 3 LC ?_|refine LK a5 0 LC ?_|refine LK a5 1 LC ?_|refine LK a5 2 LC ?_|refine LL a5 1 LA (by assumption) rfl ?_|refine LL a5 0 LA (by assumption) rfl ?_|fail)|refine bQ a5 ?_|fail)
  refine bE a5 [(nb,.box [.sc (.map (some kb))] 129),(kb,cR .string (uA (M++[p]))),(mb,.box [.vec q 2 (M.map lp)] 259)] rfl rfl rfl rfl ?_ (by rw [hml];simp;omega) (by rw [hml];simp;omega) rfl fun q'=>?_
  ·rw [hml]
   exact List.perm_append_comm (l₁:=[_,_,_])
  have hsn:M.map lp++[lp p]=(M++[p]).map lp:=by rw [List.map_append];rfl
  refine aE (aH (L':=(nb,.box [.sc (.map (some kb))] 129)::(kb,cR .string (uA (M++[p])))::(mb,.box [.vec q 2 (M.map lp)] 259)::tok q' 261 2 (M.map lp++[lp p]).length) (List.perm_append_comm (l₂:=[_,_,_]))) ?_
  repeat' (first|refine a9 ?_|refine a4 ?_|refine am ?_|refine a6 ?_|refine a7 ?_|refine LG a5 KZ ?_|(apply aM;first|refine LH a5 0 LE ?_|refine LH a5 1 LE ?_|refine LH a5 2 LE ?_|refine LH a5 3 LE ?_|fail))
  refine LM KZ ⟨?_,q',?_⟩
  ·rw [hml,hn]
  ·rw [ht,hsn,Lu]
   unfold rl
   rw [←hsn]
   rfl
theorem zV (r:b8):c5 Tryz.prog 185 [.agg (bV r)] (.tup [.imm 1 (bj r.Back),eo true]):=by
 refine aS Tryz.func185 rfl Tryz.ntmps185 rfl fun B=>?_
 refine W0h ?_
 exact aZ rfl rfl rfl rfl
set_option maxHeartbeats 4000000 in
theorem Au (r:b8) (h1:r.In.length≤1000000) (h2:r.Ahead.length≤1000000):c5 Tryz.prog 184 [.agg (bV r)] (.tup [.imm 1 (bj (dT r)),eo (!r.In.isEmpty)]):=by
 refine aS Tryz.func184 rfl Tryz.ntmps184 rfl fun B=>?_
 have hil:=bZ r.In
 have hal:=bZ r.Ahead
 refine W0b ?_
 refine ar rfl (fun h=>?_) (fun h=>?_)
 ·have hz:r.In=[]:=List.eq_nil_of_length_eq_zero (by have:=Lz h;omega)
  unfold dT
  rw [hz]
  clear h
  refine W07 ?_
  refine bc (bA (t:=2) (c':= .imm 1 []) rfl fun σ v h=>jy 1 h) ?_
  exact aZ rfl rfl rfl rfl
 ·have hz:r.In≠[]:=fun e=>by have:=Ly h;rw [hil,e] at this;simp at this
  have he:r.In.isEmpty=false:=by cases hr:r.In;exact absurd hr hz;rfl
  unfold dT
  rw [he]
  clear h
  repeat' (first|refine a9 ?_|refine a4 ?_|refine aj ?_|refine a6 ?_|refine LG a5 KZ ?_|(apply aU;refine aT ?_)|fail)
  refine G5 a5 (r.In.length+r.Ahead.length) rfl rfl rfl rfl rfl (by rw [hil,hal,Lv]) (by omega) (by omega) rfl fun b=>?_
  refine W01 ?_
  refine bE a5 [] rfl rfl rfl rfl (by rw [List.append_nil];exact Lm _) (by simp;omega) (by simp;omega) rfl fun q1=>?_
  refine W01 ?_
  refine bE a5 [] rfl rfl rfl rfl (Lm _) (by simp;omega) (by simp;omega) rfl fun q2=>?_
  refine W0c ?_
  have hra:bj (r.In++r.Ahead)=[]++bj r.In++bj r.Ahead:=by simp [bj]
  refine bc (bA (t:=2) (c':= .imm 1 (bj (r.In++r.Ahead))) rfl fun σ v h=>by rw [hra];exact VR.im h) ?_
  refine dc (List.nil_sublist _) ?_
  exact aZ rfl rfl rfl rfl
end Go.Proofs.YtpmdfoaadejmkaaGreatDoor
