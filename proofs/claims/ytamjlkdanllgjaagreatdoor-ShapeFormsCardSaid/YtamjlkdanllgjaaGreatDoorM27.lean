/-
  What comes where so many sets were met: the walk.
-/
import Derived.Test.YtamjlkdanllgjaaGreatDoorM26
import Derived.Test.YtamjlkdanllgjaaGreatDoorM16
import Derived.Test.YtamjlkdanllgjaaGreatDoorM13
import Derived.Test.YtamjlkdanllgjaaGreatDoorM06
import Derived.Test.YtamjlkdanllgjaaGreatDoorM11
namespace Go.Proofs.YtamjlkdanllgjaaGreatDoor
open Go.RowKit
attribute [local irreducible] AT bz AX AO Av Kt aZ cY DA cu
set_option maxRecDepth 8000
def gD (cls:List Int) (n:Nat) (nx:List Nat) (g:Int):List Nat:=nx.set (cls.getD g.toNat 0).toNat (nx.getD (cls.getD g.toNat 0).toNat 0 ||| 2 ^ n)
def ev (cls:List Int) (rows:List (List (List Int))) (m C n:Nat):List Nat:=(List.range C).map fun c=>c9 (kY cls rows m c) n
theorem gg {cls:List Int} {rows:List (List (List Int))} {m C n:Nat}:(ev cls rows m C n).length=C:=by simp [ev]
theorem kI {cls:List Int} {rows:List (List (List Int))} {m C n c:Nat} (h:c < C):(ev cls rows m C n)[c]?=some (c9 (kY cls rows m c) n):=by simp [ev,h]
theorem sM {cls:List Int} {c:Nat} {s:List Int} {g:Int}:eT cls c (s++[g])=(eT cls c s || eT cls c [g]):=by simp [eT]
theorem kE {cls:List Int} {n:Nat}:∀{s:List Int} {nx:List Nat},(s.foldl (gD cls n) nx).length=nx.length
 | [],_=>rfl
 | g::s,nx=>by rw [List.foldl_cons,kE];unfold gD;rw [List.length_set]
section
variable {cls:List Int} {C:Nat} (hd:∀z∈cls,0≤z∧z < (C:Int))
include hd
theorem tN {g:Int} (hg:0≤g∧g < cls.length):∃c:Nat,cls[g.toNat]?=some (c:Int)∧c < C∧cls.getD g.toNat 0=(c:Int):=by
 obtain ⟨z,hz⟩:∃z,cls[g.toNat]?=some z:=⟨_,Ia (by omega)⟩
 obtain ⟨h0,h1⟩:=hd z (Mx hz)
 refine ⟨z.toNat,by rw [hz];congr 1;omega,by omega,?_⟩
 rw [List.getD_eq_getElem?_getD,hz]
 show z=_
 omega
theorem rC {n:Nat} {nx:List Nat} (hl:nx.length=C):∀{s:List Int},(∀g∈s,0≤g∧g < (cls.length:Int))→∀c,c < C→(s.foldl (gD cls n) nx)[c]?=some (nx.getD c 0 ||| (if eT cls c s=true then 2 ^ n else 0)):=by
 intro s
 refine mG (P:=fun s=>(∀g∈s,0≤g∧g < (cls.length:Int))→∀c,c < C→(s.foldl (gD cls n) nx)[c]?=some (nx.getD c 0 ||| (if eT cls c s=true then 2 ^ n else 0))) ?_ ?_ s
 ·intro _ c hc
  rw [List.foldl_nil,List.getD_eq_getElem?_getD,Ia (by omega)]
  simp [eT]
 ·intro s g ih hs c hc
  have ih':=ih (fun x hx=>hs x (by simp [hx]))
  obtain ⟨k,hk,hkC,hkd⟩:=tN hd (hs g (by simp))
  have hml:=kE (cls:=cls) (n:=n) (s:=s) (nx:=nx)
  rw [List.foldl_append,List.foldl_cons,List.foldl_nil]
  unfold gD at hml ⊢
  rw [hkd,Int.toNat_natCast]
  have hg1:eT cls c [g]=decide (k=c):=by
   unfold eT
   have hg:=hs g (by simp)
   have hkd2:cls.getD g.toNat (-1)=(k:Int):=by rw [List.getD_eq_getElem?_getD,hk];rfl
   simp only [List.any_cons,List.any_nil,Bool.or_false,hkd2,decide_eq_true hg.1,decide_eq_true hg.2,Bool.true_and]
   exact decide_eq_decide.2 (by omega)
  rw [sM,hg1]
  by_cases hkc:k=c
  ·subst hkc
   rw [List.getElem?_set_self (by omega),List.getD_eq_getElem?_getD]
   have:=ih' k hc
   unfold gD at this
   rw [this]
   simp only [Option.getD_some,decide_true,Bool.or_true,if_true]
   congr 1
   split
   ·rw [Nat.or_assoc,Nat.or_self]
   ·rw [Nat.or_zero]
  ·rw [List.getElem?_set_ne hkc]
   have:=ih' c hc
   unfold gD at this
   rw [this]
   simp [hkc]
theorem wj {rows:List (List (List Int))} {m n:Nat} {ey:List (List Int)} (hr:rows[n]?=some ey) {s:List Int} (hs:ey[m]?=some s) (hg:∀g∈s,0≤g∧g < (cls.length:Int)):s.foldl (gD cls n) (ev cls rows m C n)=ev cls rows m C (n+1):=by
 apply List.ext_getElem?
 intro c
 by_cases hc:c < C
 ·rw [rC hd gg hg c hc,kI hc,List.getD_eq_getElem?_getD,kI hc,c9]
  have:kY cls rows m c n=eT cls c s:=by
   unfold kY
   rw [hr]
   dsimp only
   rw [hs]
  rw [this]
  rfl
 ·rw [List.getElem?_eq_none (by rw [kE,gg];omega),List.getElem?_eq_none (by rw [gg];omega)]
end
theorem pW {cls:List Int} {rows:List (List (List Int))} {m C n:Nat} {ey:List (List Int)} (hr:rows[n]?=some ey) (hs:ey.length≤m):ev cls rows m C (n+1)=ev cls rows m C n:=by
 unfold ev
 refine List.map_congr_left fun c _=>?_
 rw [c9]
 have:kY cls rows m c n=false:=by
  unfold kY
  rw [hr]
  dsimp only
  rw [List.getElem?_eq_none hs]
 rw [this]
 simp
theorem xV (n:Nat) (h:n < 64):IntKind.u64.wrap (1 * 2 ^ min n IntKind.u64.bits)=((2 ^ n:Nat):Int):=by
 have e:min n IntKind.u64.bits=n:=by show min n 64=n;omega
 have h1:2 ^ n < 2 ^ 64:=Nat.pow_lt_pow_right (by omega) h
 have e2:(2:Int) ^ n=((2 ^ n:Nat):Int):=(Int.natCast_pow 2 n).symm
 rw [e,Int.one_mul,e2]
 generalize 2 ^ n=k at h1
 have h64:(2:Nat) ^ 64=18446744073709551616:=by decide
 rw [h64] at h1
 rw [IntKind.wrap_u64]
 exact Int.emod_eq_of_lt (by omega) (by omega)
theorem mX {p:Nat→Bool} {n:Nat} (h:n≤64):c9 p n < 2 ^ 64:=Nat.lt_of_lt_of_le (lQ p n) (Nat.pow_le_pow_right (by omega) h)
theorem FR {n:Nat} (h:n < 64):2 ^ n < 2 ^ 64:=Nat.pow_lt_pow_right (by omega) h
def fH (l:List Nat):List AV:=l.map fun z=>iy z
theorem ph (l:List Nat):(fH l).length=l.length:=by simp [fH]
theorem vx {l:List Nat} {i:Nat} {z:Nat} (h:l[i]?=some z):(fH l)[0+((i:Nat):Int).toNat * 1]?=some (iy z):=by simp [fH,h]
theorem vy {l:List Nat} {i:Nat} {z:Nat}:eK (fH l) (0+((i:Nat):Int).toNat * 1) [iy z]=fH (l.set i z):=by
 rw [f8]
 unfold fH
 rw [List.map_set]
 simp
theorem tL (n:Nat):(List.replicate n [iy 0]).flatten=fH (List.replicate n 0):=by
 induction n with
 | zero=>rfl
 | succ n ih=>rw [List.replicate_succ,List.flatten_cons,ih,List.replicate_succ];rfl
theorem zR (l:List Nat):fH l=(fR l).flatten:=by
 induction l with
 | nil=>rfl
 | cons z l ih=>simp [fH,fR] at ih ⊢;exact ih
def iR (l:List (List (List Int))):List (List AV):=l.map fun r=>[.imm 1 (bj r)]
theorem rJ (l:List (List (List Int))):(iR l).length=l.length:=by simp [iR]
theorem zo {l:List (List (List Int))} {i:Nat} {r:List (List Int)} (h:l[i]?=some r):(iR l)[i]?=some [.imm 1 (bj r)]:=by simp [iR,h]
structure RD where
 rows:List (List (List Int))
 have_:Nat
 cls:List Int
 C:Nat
structure zY (R:RD):Prop where
 few:R.rows.length≤6
 dom:∀z∈R.cls,0≤z∧z < (R.C:Int)
 sets:∀r∈R.rows,∀s∈r,(∀g∈s,0≤g∧g < (R.cls.length:Int))∧s.length≤1000000
 long:∀r∈R.rows,r.length≤1000000
 many:R.C≤1000000∧R.cls.length≤1000000
def DZ (R:RD) (lv:AV):List AV:=[.imm 1 (iR R.rows),iy R.have_,.imm 1 (aT R.cls),aF R.C,lv]
def jP (R:RD) (m:Nat):List AV:=[.imm 1 (fR (ev R.cls R.rows m R.C R.rows.length)),iy (c9 (iB R.rows m) R.rows.length)]
set_option maxHeartbeats 8000000 in
theorem sw (R:RD) (h:zY R) (rb:Nat) (lv:AV) (m:Nat) (hm:m≤1000000):AC Tryz.prog 352 [eZ rb,aF m] [(rb,.box (DZ R lv) 384)] fun c L=>c= .agg (jP R m)∧L=[(rb,.box (DZ R lv) 384)]:=by
 refine aI Tryz.func352 rfl Tryz.ntmps352 rfl fun B=>?_
 have hrl:=rJ R.rows
 have hil:=b7 R.cls
 obtain ⟨hC,hN⟩:=h.many
 have hfew:=h.few
 repeat' (first|refine ae ?_|refine a6 ?_|refine a8 ?_|refine aa ?_|refine LR a7 LL ?_|(apply bL;first|refine LV a7 0 LO ?_|refine LV a7 1 LO ?_|refine LV a7 2 LO ?_|refine LV a7 3 LO ?_|refine LW a7 0 LO ?_|refine LW a7 1 LO ?_|refine LW a7 2 LO ?_|refine LZ a7 1 LM (by assumption) rfl ?_|refine LZ a7 0 LM (by assumption) rfl ?_|fail)|refine bf a7 fun _=>?_|fail)
 refine dS a7 R.C rfl rfl rfl rfl rfl rfl rfl (by omega) (by omega) rfl fun nb=>?_
 rw [show (List.replicate R.C (List.map AV.sc [Value.int .u64 0])).flatten=fH (List.replicate R.C 0) from tL R.C]
 repeat' (first|refine ae ?_|refine a6 ?_|refine ar ?_|refine a8 ?_|refine aa ?_|refine LR a7 LL ?_|(apply bL;first|refine LV a7 0 LO ?_|refine LV a7 1 LO ?_|refine LV a7 2 LO ?_|refine LV a7 3 LO ?_|refine LW a7 0 LO ?_|refine LW a7 1 LO ?_|refine LW a7 2 LO ?_|refine LZ a7 1 LM (by assumption) rfl ?_|refine LZ a7 0 LM (by assumption) rfl ?_|fail)|(apply aU;first|refine LU a7 0 LP ?_|refine LU a7 1 LP ?_|refine LU a7 2 LP ?_|refine LU a7 3 LP ?_|fail)|refine bf a7 fun _=>?_|fail)
 rename_i r4 l5
 refine aN [0,1,4,5,19,20] (α:=Nat) (fun n=>[(21,aF n)]) (fun n=>n≤R.rows.length) (fun n=>[(l5,.box [.sc (.slice (some ⟨nb,0,none⟩) R.C R.C),iy (c9 (iB R.rows m) n)] 444),(nb,.box (fH (ev R.cls R.rows m R.C n)) 194),(r4,.box [.sc (.slice none 0 0),iy 0] 444),(rb,.box (DZ R lv) 384)]) (fun n=>R.rows.length - n) 0 rfl ⟨rfl,trivial⟩ (Nat.zero_le _) (fun _ _ hh=>?_) fun n hn=>?_
 ·rw [show ev R.cls R.rows m R.C 0=List.replicate R.C 0 by unfold ev c9;rw [List.map_const',List.length_range]]
  exact hh
 ·try dsimp only [Mt,Ms,Mr,Mn]
  repeat' (first|refine ae ?_|refine a6 ?_|refine a8 ?_|refine aa ?_|refine LR a7 LL ?_)
  refine aB rfl (fun h1=>?_) (fun h1=>?_)
  ·have hn2:n < R.rows.length:=by have:=Mz h1;omega
   obtain ⟨ey,hrow⟩:∃z,R.rows[n]?=some z:=⟨_,Ia hn2⟩
   have hrg:=zo hrow
   have hrwl:=c8 ey
   have hrm:=Mx hrow
   have hlong:=h.long ey hrm
   have hends:c9 (iB R.rows m) (n+1)=c9 (iB R.rows m) n ||| (if ey.length=m then 2 ^ n else 0):=by
    rw [c9]
    unfold iB
    rw [hrow]
    simp only [decide_eq_true_eq]
   have hb1:=mX (p:=iB R.rows m) (n:=n) (by omega)
   have hb2:=FR (n:=n) (by omega)
   have hub:=xV n (by omega)
   clear h1
   repeat' (first|refine ae ?_|refine a6 ?_|refine ar ?_|refine aq ?_|refine a8 ?_|refine aa ?_|refine LR a7 LL ?_|(apply aL;first|refine aK a7 ?_|refine aH a7 ?_)|fail)
   refine aB rfl (fun h1=>?_) (fun h1=>?_)
   ·have hlm:ey.length=m:=by have:=Mz h1;omega
    rw [if_pos hlm] at hends
    have hsk:=pW (cls:=R.cls) (C:=R.C) hrow (Nat.le_of_eq hlm)
    clear h1
    repeat' (first|fail)
    refine bB 4 [(0,.v),(1,.l),(2,.v),(3,.v)] none ?_ trivial rfl (by kernel_rfl) (by kernel_rfl) (by kernel_rfl) mixed (by kernel_rfl) rfl
    repeat' (first|refine aJ ?_|refine bw a7 ?_|refine cn a7 0 rfl rfl rfl rfl (by first|trivial|rfl) ?_)
    refine vE n rfl rfl rfl trivial ?_
    repeat' (first|fail)
    refine MG [0,1,4,5,6,7,19,20,21,31,33] LL ?_
    refine sD rfl rfl rfl ?_
    rw [hub,u64_or_nat _ _ hb1 hb2,←hends]
    repeat' (first|refine ae ?_|refine a6 ?_|refine a8 ?_|refine aa ?_|refine LR a7 LL ?_|(apply aU;first|refine LU a7 0 LP ?_|refine LU a7 1 LP ?_|refine LU a7 2 LP ?_|refine LU a7 3 LP ?_|fail))
    refine aB rfl (fun h2=>?_) (fun h2=>?_)
    ·repeat' (first|refine a6 ?_|refine aO ?_|refine a8 ?_|refine av ?_|refine aC ?_|refine aa ?_|refine LR a7 LL ?_|(apply aY;refine aX ?_)|fail)
     exact aE (n+1) rfl ⟨by rw [Mw];rfl,trivial⟩ hn2 (by omega) (fun _ _ hh=>by rw [hsk];exact hh)
    ·have:=My h2
     omega
   ·have hlm:¬ey.length=m:=by have:=My h1;omega
    rw [if_neg hlm,Nat.or_zero] at hends
    clear h1
    repeat' (first|refine ae ?_|refine a6 ?_|refine aq ?_|refine a8 ?_|refine aa ?_|refine LR a7 LL ?_)
    refine aB rfl (fun h2=>?_) (fun h2=>?_)
    ·have hsk:=pW (cls:=R.cls) (C:=R.C) (m:=m) hrow (by have:=Mz h2;omega)
     repeat' (first|refine a6 ?_|refine aO ?_|refine a8 ?_|refine av ?_|refine aC ?_|refine aa ?_|refine LR a7 LL ?_|(apply aY;refine aX ?_)|fail)
     exact aE (n+1) rfl ⟨by rw [Mw];rfl,trivial⟩ hn2 (by omega) (fun _ _ hh=>by rw [hsk,hends];exact hh)
    ·have hml:m < ey.length:=by have:=My h2;omega
     obtain ⟨s,hs⟩:∃z,ey[m]?=some z:=⟨_,Ia hml⟩
     have hsg:=gh hs
     obtain ⟨hsd,hsl⟩:=h.sets ey hrm s (Mx hs)
     have hsil:=b7 s
     have hst:=wj h.dom hrow hs hsd
     clear h2
     repeat' (first|refine ae ?_|refine a6 ?_|refine ar ?_|refine aq ?_|refine a8 ?_|refine aa ?_|refine LR a7 LL ?_|(apply aL;first|refine aK a7 ?_|refine aH a7 ?_)|fail)
     refine aN [0,1,4,5,6,19,20,21,43,44] (α:=Nat) (fun j=>[(45,aF j)]) (fun j=>j≤s.length) (fun j=>[(l5,.box [.sc (.slice (some ⟨nb,0,none⟩) R.C R.C),iy (c9 (iB R.rows m) n)] 444),(nb,.box (fH ((s.take j).foldl (gD R.cls n) (ev R.cls R.rows m R.C n))) 194),(r4,.box [.sc (.slice none 0 0),iy 0] 444),(rb,.box (DZ R lv) 384)]) (fun j=>s.length - j) 0 rfl ⟨rfl,trivial⟩ (Nat.zero_le _) (fun _ _ hh=>hh) fun j hj=>?_
     try dsimp only [Mt,Ms,Mr,Mn]
     repeat' (first|refine ae ?_|refine a6 ?_|refine a8 ?_|refine aa ?_|refine LR a7 LL ?_)
     refine aB rfl (fun h2=>?_) (fun h2=>?_)
     ·have hj2:j < s.length:=by have:=Mz h2;omega
      obtain ⟨g,hg⟩:∃z,s[j]?=some z:=⟨_,Ia hj2⟩
      have hgg:=bH hg
      have hgd:=hsd g (Mx hg)
      obtain ⟨c,hc,hcC,hcd⟩:=tN h.dom hgd
      have hcg:(aT R.cls)[g.toNat]?=some [aF c]:=bH hc
      have hnl:((s.take j).foldl (gD R.cls n) (ev R.cls R.rows m R.C n)).length=R.C:=by rw [kE,gg]
      obtain ⟨v,hv⟩:∃z,((s.take j).foldl (gD R.cls n) (ev R.cls R.rows m R.C n))[c]?=some z:=⟨_,Ia (by omega)⟩
      have hv64:v < 2 ^ 64:=by
       have:=rC h.dom (n:=n) (nx:=ev R.cls R.rows m R.C n) gg (s:=s.take j) (fun x hx=>hsd x (List.mem_of_mem_take hx)) c hcC
       rw [hv,List.getD_eq_getElem?_getD,kI hcC] at this
       cases this
       exact Cl (mX (by omega)) (by split;exact hb2;omega)
      have htk:s.take (j+1)=s.take j++[g]:=by rw [List.take_add_one,hg];rfl
      have hfs:(s.take (j+1)).foldl (gD R.cls n) (ev R.cls R.rows m R.C n)=((s.take j).foldl (gD R.cls n) (ev R.cls R.rows m R.C n)).set c (v ||| 2 ^ n):=by
       rw [htk,List.foldl_append,List.foldl_cons,List.foldl_nil]
       generalize (s.take j).foldl (gD R.cls n) (ev R.cls R.rows m R.C n)=nx at hv
       unfold gD
       rw [hcd,Int.toNat_natCast,List.getD_eq_getElem?_getD,hv]
       rfl
      generalize (s.take j).foldl (gD R.cls n) (ev R.cls R.rows m R.C n)=nx at *
      have hvc:=vx hv
      have hul:=ph nx
      clear h2
      repeat' (first|refine ae ?_|refine a6 ?_|refine ar ?_|refine aq ?_|refine a8 ?_|refine aa ?_|refine LR a7 LL ?_|(apply aL;first|refine aK a7 ?_|refine aH a7 ?_)|fail)
      refine bN [0,1,4,5,6,9,19,20,21,43,44,45] True rfl (fun Q' K=>?_) (fun _=>?_) (fun hC=>absurd trivial hC)
      ·repeat' (first|refine aa ?_|refine LR a7 LL ?_|refine MB LL ?_|refine MC LN ?_|(apply bL;first|refine LV a7 0 LO ?_|refine LV a7 1 LO ?_|refine LV a7 2 LO ?_|refine LV a7 3 LO ?_|refine LW a7 0 LO ?_|refine LW a7 1 LO ?_|refine LW a7 2 LO ?_|refine LZ a7 1 LM (by assumption) rfl ?_|refine LZ a7 0 LM (by assumption) rfl ?_|fail)|refine MD LM (fun _=>?_) (fun _=>?_))
       all_goals exact K _ _ rfl rfl (by simp_all <;> omega)
      repeat' (first|fail)
      refine bB 14 [(0,.v),(1,.l),(2,.v),(3,.v),(4,.v),(5,.l),(6,.v),(7,.v),(8,.v),(9,.v),(10,.l),(11,.v),(12,.v),(13,.v)] none ?_ trivial rfl (by kernel_rfl) (by kernel_rfl) (by kernel_rfl) mixed (by kernel_rfl) rfl
      repeat' (first|refine aJ ?_|refine bw a7 ?_|refine cn a7 0 rfl rfl rfl rfl (by first|trivial|rfl) ?_)
      refine cn a7 3 rfl rfl rfl rfl trivial ?_
      repeat' (first|refine aJ ?_|refine bw a7 ?_|(apply cq;refine cQ a7 ?_)|fail)
      refine cx a7 rfl rfl rfl ⟨by omega,by omega⟩ trivial ?_
      repeat' (first|refine aJ ?_|fail)
      refine cn a7 1 rfl rfl rfl hvc trivial ?_
      repeat' (first|refine aJ ?_|refine bw a7 ?_|fail)
      refine vE n rfl rfl rfl trivial ?_
      repeat' (first|refine aJ ?_|fail)
      refine E5 rfl rfl trivial ?_
      repeat' (first|fail)
      refine MG [0,1,4,5,6,19,20,21,43,44,45,61,68,73] LL ?_
      rw [hub,u64_or_nat _ _ hv64 hb2]
      repeat' (first|(apply aL;first|refine aK a7 ?_|refine aH a7 ?_)|fail)
      refine aj a7 1 rfl rfl rfl rfl rfl rfl (Nat.ble_eq_true_of_le (by rw [hul,hnl,Int.toNat_natCast];show 0+c * 1+1≤_;omega)) ?_
      rw [vy]
      repeat' (first|refine a6 ?_|refine a8 ?_|refine aP ?_|refine aa ?_|refine LR a7 LL ?_|(apply aY;refine aX ?_)|fail)
      exact aE (j+1) rfl ⟨by rw [Mw];rfl,trivial⟩ hj2 (by omega) (fun _ _ hh=>by rw [hfs];exact hh)
     ·have hj2:j=s.length:=by have:=My h2;omega
      subst hj2
      rw [List.take_length,hst]
      clear h2
      repeat' (first|refine a6 ?_|refine aO ?_|refine a8 ?_|refine av ?_|refine aP ?_|refine aC ?_|refine aA ?_|refine aa ?_|refine LR a7 LL ?_|(apply aY;refine aX ?_)|fail)
      exact aE (n+1) rfl ⟨by rw [Mw];rfl,trivial⟩ hn2 (by omega) (fun _ _ hh=>by rw [hends];exact hh)
  ·have hn2:n=R.rows.length:=by have:=My h1;omega
   subst hn2
   clear h1
   repeat' (first|refine ae ?_|refine a6 ?_|refine am ?_|refine aO ?_|refine a8 ?_|refine av ?_|refine aC ?_|refine aA ?_|refine aa ?_|(apply bL;first|refine LV a7 0 LO ?_|refine LV a7 1 LO ?_|refine LV a7 2 LO ?_|refine LV a7 3 LO ?_|refine LW a7 0 LO ?_|refine LW a7 1 LO ?_|refine LW a7 2 LO ?_|refine LZ a7 1 LM (by assumption) rfl ?_|refine LZ a7 0 LM (by assumption) rfl ?_|fail)|(apply aU;first|refine LU a7 0 LP ?_|refine LU a7 1 LP ?_|refine LU a7 2 LP ?_|refine LU a7 3 LP ?_|fail))
   have hcu:=ph (ev R.cls R.rows m R.C R.rows.length)
   rw [gg] at hcu
   refine cL (L':=[(nb,.box (fH (ev R.cls R.rows m R.C R.rows.length)) 194),(r4,.box [.sc (.slice (some ⟨nb,0,none⟩) R.C R.C),iy (c9 (iB R.rows m) R.rows.length)] 444),(rb,.box (DZ R lv) 384)]) (List.sublist_cons_self ..) ?_
   refine br (rR (k:=0) (sz:=1) (n:=R.C) (cap:=R.C) (l:=fR (ev R.cls R.rows m R.C R.rows.length)) rfl (by rw [←zR,List.take_of_length_le (by omega)]) (by omega) (fun e he=>by unfold fR at he;obtain ⟨z,_,rfl⟩:=List.mem_map.1 he;rfl) (by rw [mI,gg]) (Nat.le_refl _) (by unfold maxLen;omega)) ?_
   exact ff (cs:=[.agg (jP R m)]) [(rb,.box (DZ R lv) 384)] ⟨⟨_,0,_,_,rfl,rfl,.inr ⟨dL a7 rfl,rfl⟩⟩,trivial⟩ (List.sublist_cons_self ..) ⟨rfl,rfl⟩
end Go.Proofs.YtamjlkdanllgjaaGreatDoor
namespace Go.Proofs.YtamjlkdanllgjaaGreatDoor
open Go.RowKit
attribute [local irreducible] AT bz AX AO Av Kt aZ cY DA cu
set_option maxRecDepth 8000
def yW (R:RD) (k:Nat):List (List AV):=(List.range k).map (jP R)
theorem xt (R:RD) (k:Nat):(yW R k).length=k:=by simp [yW]
theorem ug (R:RD) (k:Nat):yW R k++[jP R k]=yW R (k+1):=by simp [yW,List.range_succ]
theorem ES (R:RD) {k m:Nat} (h:m < k):(yW R k)[m]?=some (jP R m):=by simp [yW,h]
abbrev q8 (R:RD) (rb k:Nat) (q:Option (Nat×Nat)):Nat×AB:=(rb,.box (DZ R (.vec q 2 (yW R k))) 384)
abbrev eH (R:RD) (rb k:Nat) (q:Option (Nat×Nat)):AL:=q8 R rb k q::tok q 444 2 k
def oC (R:RD) (rb:Nat) (u:AV):AV→AL→Prop:=fun c L=>c=u∧∃k q,k≤1000001∧L=eH R rb k q
theorem Jh {a b:Nat×AB} {X:AL}:(a::b::X).Perm (b::a::X):=List.Perm.swap ..
set_option maxHeartbeats 4000000 in
theorem uc (R:RD) (h:zY R) (rb k:Nat) (q:Option (Nat×Nat)) (hk:k≤1000001) (m:Nat) (hm:m≤1000000):AC Tryz.prog 321 [eZ rb,aF m] (eH R rb k q) (oC R rb (.agg (jP R m))):=by
 refine aI Tryz.func321 rfl Tryz.ntmps321 rfl fun B=>?_
 repeat' (first|refine ae ?_|refine a6 ?_|refine ar ?_|refine a8 ?_|refine aa ?_|refine bf a7 fun _=>?_|fail)
 rename_i r4
 refine aN [0,1,4] (α:=Nat×Option (Nat×Nat)) (fun _=>[]) (fun s=>s.1≤1000001) (fun s=>(r4,.box [.sc (.slice none 0 0),iy 0] 444)::eH R rb s.1 s.2) (fun s=>m+1 - s.1) (k,q) rfl trivial hk (fun _ _ hh=>hh) ?_
 rintro ⟨k1,q1⟩ hk1
 dsimp only at hk1 ⊢
 try dsimp only [Mt,Ms,Mr,Mn]
 have hlen:=xt R k1
 repeat' (first|refine ae ?_|refine a6 ?_|refine a8 ?_|refine aa ?_|refine LR a7 LL ?_|(apply bL;first|refine LV a7 0 LO ?_|refine LV a7 1 LO ?_|refine LV a7 2 LO ?_|refine LV a7 3 LO ?_|refine LW a7 0 LO ?_|refine LW a7 1 LO ?_|refine LW a7 2 LO ?_|refine LZ a7 1 LM (by assumption) rfl ?_|refine LZ a7 0 LM (by assumption) rfl ?_|fail)|fail)
 refine aB rfl (fun h1=>?_) (fun h1=>?_)
 ·have hkm:k1≤m:=by have:=Mz h1;omega
  have hml:=sw R h rb (.vec q1 2 (yW R k1)) k1 (by omega)
  clear h1
  repeat' (first|refine ar ?_|refine aq ?_|refine a8 ?_)
  refine lL [.cell (rb,4,.vec q1 2 (yW R k1))] 14 [(0,.v),(1,.v),(2,.v),(3,.v),(4,.k),(5,.v),(6,.v),(7,.v),(8,.v),(9,.l),(10,.v),(11,.f),(12,.v),(13,.e)] none ?_ trivial rfl (by kernel_rfl) (by kernel_rfl) (by kernel_rfl) mixed (by kernel_rfl) rfl
  repeat' (first|refine aJ ?_|refine bw a7 ?_|fail)
  refine sd a7 0 rfl rfl rfl (iF 1 rfl rfl) trivial ?_
  repeat' (first|refine aJ ?_|refine bw a7 ?_|refine cn a7 1 rfl rfl rfl rfl (by first|trivial|rfl) ?_)
  refine xa [q8 R rb k1 q1] ((r4,.box [.sc (.slice none 0 0),iy 0] 444)::tok q1 444 2 k1) hml rfl (by rw [hlen];rfl) Jh trivial (fun c L1 ⟨hc,hL⟩ hK=>by subst hL;exact iF 0 rfl rfl) fun c L1 ⟨hc,hL⟩=>?_
  subst hc;subst hL
  repeat' (first|refine aJ ?_|refine kU a7 ?_|fail)
  refine lV a7 [q8 R rb k1 q1,(r4,.box [.sc (.slice none 0 0),iy 0] 444)] rfl rfl rfl rfl ?_ (by rw [hlen];simp;omega) (by rw [hlen];simp;omega) trivial fun q'=>?_
  ·rw [hlen]
   exact List.perm_append_comm (l₁:=[_,_])
  repeat' (first|fail)
  refine MG [0,1,4,12,25] LL ?_
  refine bq (b8 (L':=q8 R rb k1 q1::(r4,.box [.sc (.slice none 0 0),iy 0] 444)::tok q' 444 2 (yW R k1++[jP R k1]).length) (List.perm_append_comm (l₂:=[_,_]))) ?_
  repeat' (first|refine aP ?_|refine aa ?_|refine LR a7 LL ?_|(apply aU;first|refine LU a7 0 LP ?_|refine LU a7 1 LP ?_|refine LU a7 2 LP ?_|refine LU a7 3 LP ?_|fail))
  refine aE (k1+1,q') rfl trivial (by dsimp only;omega) (by dsimp only;omega) (fun σ w hh=>?_)
  rw [ug,xt] at hh
  refine cK.perm (L:=q8 R rb (k1+1) q'::(r4,.box [.sc (.slice none 0 0),iy 0] 444)::tok q' 444 2 (k1+1)) ?_ Jh
  unfold q8
  rw [←ug]
  exact hh
 ·have hkm:m < k1:=by have:=My h1;omega
  have hlg:=ES R hkm
  clear h1
  repeat' (first|refine ae ?_|refine a6 ?_|refine am ?_|refine aO ?_|refine a8 ?_|refine av ?_|refine aC ?_|refine aA ?_|refine aa ?_|refine LR a7 LL ?_|(apply bL;first|refine LV a7 0 LO ?_|refine LV a7 1 LO ?_|refine LV a7 2 LO ?_|refine LV a7 3 LO ?_|refine LW a7 0 LO ?_|refine LW a7 1 LO ?_|refine LW a7 2 LO ?_|refine LZ a7 1 LM (by assumption) rfl ?_|refine LZ a7 0 LM (by assumption) rfl ?_|fail)|(apply aL;first|refine aK a7 ?_|refine aH a7 ?_)|(apply aU;first|refine LU a7 0 LP ?_|refine LU a7 1 LP ?_|refine LU a7 2 LP ?_|refine LU a7 3 LP ?_|fail))
  exact ff (cs:=[.agg (jP R m)]) (eH R rb k1 q1) ⟨⟨_,0,_,_,rfl,rfl,.inr ⟨dL a7 rfl,rfl⟩⟩,trivial⟩ (List.sublist_cons_self ..) ⟨rfl,k1,q1,hk1,rfl⟩
def lf (p:Pl):List AV:=[aF p.1,iy p.2]
theorem zl (R:RD) (rb k:Nat) (q:Option (Nat×Nat)) (hk:k≤1000001):AC Tryz.prog 278 [eZ rb] (eH R rb k q) (oC R rb (.agg (lf (0,R.have_)))):=by
 refine aI Tryz.func278 rfl Tryz.ntmps278 rfl fun B=>?_
 repeat' (first|refine ae ?_|refine a6 ?_|refine am ?_|refine a8 ?_|refine aa ?_|refine LR a7 LL ?_|(apply bL;first|refine LV a7 0 LO ?_|refine LV a7 1 LO ?_|refine LV a7 2 LO ?_|refine LV a7 3 LO ?_|refine LW a7 0 LO ?_|refine LW a7 1 LO ?_|refine LW a7 2 LO ?_|refine LZ a7 1 LM (by assumption) rfl ?_|refine LZ a7 0 LM (by assumption) rfl ?_|fail)|(apply aU;first|refine LU a7 0 LP ?_|refine LU a7 1 LP ?_|refine LU a7 2 LP ?_|refine LU a7 3 LP ?_|fail)|refine bf a7 fun _=>?_|fail)
 exact ff (cs:=[.agg (lf (0,R.have_))]) (eH R rb k q) ⟨⟨_,0,_,_,rfl,rfl,.inr ⟨dL a7 rfl,rfl⟩⟩,trivial⟩ (List.sublist_cons_self ..) ⟨rfl,k,q,hk,rfl⟩
theorem Cd {R:RD} {m c:Nat} (hc:c < R.C):(fR (ev R.cls R.rows m R.C R.rows.length))[((c:Nat):Int).toNat]?=some [iy (iK R.cls R.rows m c)]:=by
 rw [Int.toNat_natCast]
 exact uU (kI hc)
set_option maxHeartbeats 4000000 in
theorem yh (R:RD) (h:zY R) (rb k:Nat) (q:Option (Nat×Nat)) (hk:k≤1000001) (p:Pl) (hp:p.1≤1000000) (hp2:p.2 < 2 ^ 64) (c:Nat) (hc:c < R.C):AC Tryz.prog 279 [eZ rb,.agg (lf p),aF c] (eH R rb k q) (oC R rb (.agg (lf (bU R.cls R.rows p c)))):=by
 refine aI Tryz.func279 rfl Tryz.ntmps279 rfl fun B=>?_
 obtain ⟨pm,pr⟩:=p
 dsimp only at hp hp2
 have hlv:=uc R h rb k q hk pm hp
 have hnl:=Cd (R:=R) (m:=pm) hc
 have hn64:iK R.cls R.rows pm c < 2 ^ 64:=mX (by have:=h.few;omega)
 have hbe:bU R.cls R.rows (pm,pr) c=if pr &&& iK R.cls R.rows pm c=0 then (0,0) else (pm+1,pr &&& iK R.cls R.rows pm c):=rfl
 repeat' (first|refine ae ?_|refine a6 ?_|refine a8 ?_|refine aa ?_|refine LR a7 LL ?_|refine bi ?_|refine bf a7 fun _=>?_|fail)
 rename_i r6
 refine aB rfl (fun h1=>?_) (fun h1=>?_)
 ·clear h1
  repeat' (first|refine a6 ?_|refine LR a7 LL ?_)
  refine aW (eH R rb k q) [(r6,.box [aF 0,iy 0] 377)] hlv rfl rfl (List.perm_append_comm (l₁:=[_])) rfl fun c1 L1 ⟨hc1,k1,q1,hk1,hL⟩=>?_
  subst hc1;subst hL
  refine bq (b8 (L':=(r6,.box [aF 0,iy 0] 377)::eH R rb k1 q1) (List.perm_append_comm (l₂:=[_]))) ?_
  repeat' (first|refine LR a7 LL ?_|(apply aL;first|refine aK a7 ?_|refine aH a7 ?_)|fail)
  refine lq rfl rfl rfl ?_
  rw [u64_and_nat _ _ hp2 hn64]
  repeat' (first|refine ae ?_|refine a6 ?_|refine a8 ?_|refine aa ?_|refine LR a7 LL ?_)
  refine aB rfl (fun h2=>?_) (fun h2=>?_)
  ·have hz:pr &&& iK R.cls R.rows pm c=0:=by have:=Mz h2;omega
   rw [if_pos hz] at hbe
   rw [hbe]
   repeat' (first|refine ae ?_|refine a6 ?_|refine am ?_|refine a8 ?_|refine az ?_|refine aa ?_|refine LR a7 LL ?_|(apply aU;first|refine LU a7 0 LP ?_|refine LU a7 1 LP ?_|refine LU a7 2 LP ?_|refine LU a7 3 LP ?_|fail))
   exact ff (cs:=[.agg (lf (0,0))]) (eH R rb k1 q1) ⟨⟨_,0,_,_,rfl,rfl,.inr ⟨dL a7 rfl,rfl⟩⟩,trivial⟩ (List.sublist_cons_self ..) ⟨rfl,k1,q1,hk1,rfl⟩
  ·have hz:pr &&& iK R.cls R.rows pm c≠0:=by have:=My h2;omega
   rw [if_neg hz] at hbe
   rw [hbe]
   repeat' (first|refine ae ?_|refine a6 ?_|refine aq ?_|refine am ?_|refine a8 ?_|refine aa ?_|refine LR a7 LL ?_|(apply aY;refine aX ?_)|(apply aU;first|refine LU a7 0 LP ?_|refine LU a7 1 LP ?_|refine LU a7 2 LP ?_|refine LU a7 3 LP ?_|fail))
   refine ff (cs:=[.agg (lf (pm+1,pr &&& iK R.cls R.rows pm c))]) (eH R rb k1 q1) ⟨⟨_,0,_,_,rfl,rfl,.inr ⟨dL a7 rfl,rfl⟩⟩,trivial⟩ (List.sublist_cons_self ..) ⟨rfl,k1,q1,hk1,rfl⟩
 ·have hz:pr=0:=by have:=My h1;simpa using this
  subst hz
  rw [Nat.zero_and,if_pos rfl] at hbe
  rw [hbe]
  repeat' (first|refine ae ?_|refine a6 ?_|refine aq ?_|refine am ?_|refine a8 ?_|refine az ?_|refine aa ?_|refine LR a7 LL ?_|(apply aU;first|refine LU a7 0 LP ?_|refine LU a7 1 LP ?_|refine LU a7 2 LP ?_|refine LU a7 3 LP ?_|fail)|refine bI rfl ?_)
  exact ff (cs:=[.agg (lf (0,0))]) (eH R rb k q) ⟨⟨_,0,_,_,rfl,rfl,.inr ⟨dL a7 rfl,rfl⟩⟩,trivial⟩ (List.sublist_cons_self ..) ⟨rfl,k,q,hk,rfl⟩
set_option maxHeartbeats 4000000 in
theorem Eu (R:RD) (h:zY R) (rb k:Nat) (q:Option (Nat×Nat)) (hk:k≤1000001) (p:Pl) (hp:p.1≤1000000) (hp2:p.2 < 2 ^ 64):AC Tryz.prog 280 [eZ rb,.agg (lf p)] (eH R rb k q) (oC R rb (iy (iC R.rows p))):=by
 refine aI Tryz.func280 rfl Tryz.ntmps280 rfl fun B=>?_
 obtain ⟨pm,pr⟩:=p
 dsimp only at hp hp2
 have hlv:=uc R h rb k q hk pm hp
 have hn64:c9 (iB R.rows pm) R.rows.length < 2 ^ 64:=mX (by have:=h.few;omega)
 have hen:iC R.rows (pm,pr)=if pr=0 then 0 else pr &&& c9 (iB R.rows pm) R.rows.length:=rfl
 repeat' (first|refine ae ?_|refine a6 ?_|refine a8 ?_|refine aa ?_|refine LR a7 LL ?_|refine bi ?_|fail)
 refine aB rfl (fun h1=>?_) (fun h1=>?_)
 ·have hz:pr=0:=by have:=Mz h1;omega
  rw [if_pos hz] at hen
  rw [hen]
  repeat' (first|refine ae ?_|refine a6 ?_|refine am ?_|refine a8 ?_|refine az ?_|refine aa ?_|refine LR a7 LL ?_)
  exact MA LL ⟨rfl,k,q,hk,rfl⟩
 ·have hz:pr≠0:=by have:=My h1;omega
  rw [if_neg hz] at hen
  rw [hen]
  clear h1
  repeat' (first|refine ae ?_|refine aq ?_|refine a8 ?_)
  refine bB 7 [(0,.v),(1,.v),(2,.v),(3,.v),(4,.v),(5,.e),(6,.v)] none ?_ trivial rfl (by kernel_rfl) (by kernel_rfl) (by kernel_rfl) mixed (by kernel_rfl) rfl
  repeat' (first|refine aJ ?_|refine bw a7 ?_|fail)
  refine ku (eH R rb k q) [] hlv rfl rfl (by rw [List.append_nil]) trivial fun c1 L1 ⟨hc1,k1,q1,hk1,hL⟩=>?_
  subst hc1;subst hL
  repeat' (first|refine aJ ?_|refine bw a7 ?_|fail)
  refine MG [9,14] LL ?_
  repeat' (first|fail)
  refine lq rfl rfl rfl ?_
  rw [u64_and_nat _ _ hp2 hn64]
  repeat' (first|refine am ?_|refine a8 ?_|refine aa ?_|refine LR a7 LL ?_)
  exact MA LL ⟨rfl,k1,q1,hk1,by rw [List.append_nil]⟩
set_option maxRecDepth 8000
def pe (m r:Nat):List Int:=[m,0,0,0,0,0,0,0,r,0,0,0,0,0,0,0]
def hY (p:Pl):ByteArray:=(pe p.1 p.2).foldl (fun r n=>r.push (UInt8.ofNat n.toNat)) ByteArray.empty
def jL (p:Pl):Prop:=p.1 < 256∧p.2 < 256
theorem wH (p:Pl):(hY p).data.toList=(pe p.1 p.2).map fun n=>UInt8.ofNat n.toNat:=by
 unfold hY
 have:∀(l:List Int) (b:ByteArray),(l.foldl (fun r n=>r.push (UInt8.ofNat n.toNat)) b).data.toList=b.data.toList++l.map fun n=>UInt8.ofNat n.toNat:=by
  intro l
  induction l with
  | nil=>intro b;simp
  | cons x l ih=>intro b;rw [List.foldl_cons,ih];simp [ByteArray.push]
 rw [this]
 rfl
theorem Dk {a b:Nat} (ha:a < 256) (hb:b < 256) (h:UInt8.ofNat a=UInt8.ofNat b):a=b:=by
 have:=congrArg UInt8.toNat h
 simpa [UInt8.toNat_ofNat',Nat.mod_eq_of_lt ha,Nat.mod_eq_of_lt hb] using this
theorem rQ {p q:Pl} (hp:jL p) (hq:jL q) (h:hY p=hY q):p=q:=by
 have hd:=congrArg (fun b=>b.data.toList) h
 simp only [wH] at hd
 unfold pe at hd
 simp only [Mr,List.cons.injEq,Int.toNat_natCast] at hd
 exact Prod.ext (Dk hp.1 hq.1 hd.1) (Dk hp.2 hq.2 hd.2.2.2.2.2.2.2.2.1)
def ta (M:List Pl) (v:Value):Option AV:=match v with
 | .string s=>(M.findIdx? fun p=>decide (hY p=s)).map fun i=>aF (i:Nat)
 | _=>none
theorem Fq:ta []=fun _=>none:=by
 funext v
 unfold ta
 split <;> rfl
section
variable {M:List Pl} (hM:∀x∈M,jL x) {p:Pl} (hp:jL p)
include hM hp
theorem uM (h:p∈M):ta M (.string (hY p))=some (aF (M.idxOf p:Nat)):=by
  have hi:=List.idxOf_lt_length_of_mem h
  have:(M.findIdx? fun x=>decide (hY x=hY p))=some (M.idxOf p):=by
    rw [List.findIdx?_eq_some_iff_getElem]
    refine ⟨hi,by simp [List.getElem_idxOf hi],fun j hj=>?_⟩
    have hne:M[j]≠p:=by
      intro e
      have:=List.not_of_lt_findIdx (p:=(·==p)) (xs:=M) hj
      rw [e] at this
      simp at this
    simp only [decide_eq_true_eq]
    exact fun e=>hne (rQ (hM _ (List.getElem_mem _)) hp e)
  unfold ta
  dsimp only
  rw [this]
  rfl
theorem D7 (h:p∉M):ta M (.string (hY p))=none:=by
 have:(M.findIdx? fun x=>decide (hY x=hY p))=none:=by
  rw [List.findIdx?_eq_none_iff]
  intro x hx
  rw [decide_eq_false_iff_not]
  exact fun e=>h (rQ (hM x hx) hp e▸hx)
 unfold ta
 dsimp only
 rw [this]
 rfl
theorem Fs (h:p∉M):ta (M++[p]) (.string (hY p))=some (aF (M.length:Nat)):=by
 rw [uM (fun x hx=>by rw [List.mem_append,List.mem_singleton] at hx;rcases hx with hx | rfl;exact hM x hx;exact hp) hp (by simp),List.idxOf_append,if_neg h,List.idxOf_cons_self,Nat.zero_add]
end
theorem zH {M:List Pl} {p:Pl}:∀v,v≠ .string (hY p)→ta (M++[p]) v=ta M v:=by
 intro v hv
 unfold ta
 split
 ·rename_i s
  have:decide (hY p=s)=false:=by rw [decide_eq_false_iff_not];exact fun e=>hv (by rw [e])
  rw [List.findIdx?_append]
  simp [this]
 ·rfl
def pf (l:List Int):List AV:=l.map fun z=> .sc (.int .u8 z)
def qm (m r i:Nat):List Int:=if i=0 then List.replicate 16 0 else pe m r
theorem Jw {m r:Nat} (hm:m < 256) (hr:r < 256) {i:Nat} (hi:i < 8):eK (eK (pf (qm m r i)) (0+i * 1) [.sc (.int .u8 (IntKind.u8.wrap ((m:Int) / 2 ^ min (8 * i) IntKind.i64.bits)))]) (0+(8+i) * 1) [.sc (.int .u8 (IntKind.u8.wrap ((r:Int) / 2 ^ min (8 * i) IntKind.u64.bits)))]=pf (qm m r (i+1)):=by
 have h0:∀z:Nat,z < 256→∀k,0 < k→k < 8→IntKind.u8.wrap ((z:Int) / 2 ^ min (8 * k) 64)=0:=by
  intro z hz k hk hk8
  have:(z:Int) / 2 ^ min (8 * k) 64=0:=by
   have e:min (8 * k) 64=8 * k:=by omega
   rw [e]
   have h1:2 ^ 8≤2 ^ (8 * k):=Nat.pow_le_pow_right (by omega) (by omega)
   have h2:z / 2 ^ (8 * k)=0:=Nat.div_eq_of_lt (by omega)
   have h3:(2:Int) ^ (8 * k)=((2 ^ (8 * k):Nat):Int):=(Int.natCast_pow 2 _).symm
   rw [h3,←Int.natCast_ediv,h2]
   rfl
  rw [this]
  decide
 have h1:∀z:Nat,z < 256→IntKind.u8.wrap ((z:Int) / 2 ^ min (8 * 0) 64)=(z:Int):=by
  intro z hz
  rw [Nat.mul_zero,Nat.zero_min,Int.pow_zero,Int.ediv_one,IntKind.wrap_u8]
  omega
 show eK (eK _ _ [.sc (.int .u8 (IntKind.u8.wrap ((m:Int) / 2 ^ min (8 * i) 64)))]) _ [.sc (.int .u8 (IntKind.u8.wrap ((r:Int) / 2 ^ min (8 * i) 64)))]=_
 match i,hi with
 | 0,_=>rw [h1 m hm,h1 r hr];rfl
 | 1,_=>rw [h0 m hm 1 (by omega) (by omega),h0 r hr 1 (by omega) (by omega)];rfl
 | 2,_=>rw [h0 m hm 2 (by omega) (by omega),h0 r hr 2 (by omega) (by omega)];rfl
 | 3,_=>rw [h0 m hm 3 (by omega) (by omega),h0 r hr 3 (by omega) (by omega)];rfl
 | 4,_=>rw [h0 m hm 4 (by omega) (by omega),h0 r hr 4 (by omega) (by omega)];rfl
 | 5,_=>rw [h0 m hm 5 (by omega) (by omega),h0 r hr 5 (by omega) (by omega)];rfl
 | 6,_=>rw [h0 m hm 6 (by omega) (by omega),h0 r hr 6 (by omega) (by omega)];rfl
 | 7,_=>rw [h0 m hm 7 (by omega) (by omega),h0 r hr 7 (by omega) (by omega)];rfl
set_option maxHeartbeats 4000000 in
theorem Fx (p:Pl) (hp:jL p):bD Tryz.prog 277 [.agg (lf p)] (.sc (.string (hY p))):=by
 refine aI Tryz.func277 rfl Tryz.ntmps277 rfl fun B=>?_
 obtain ⟨m,r⟩:=p
 obtain ⟨hm,hr⟩:=hp
 dsimp only at hm hr
 repeat' (first|refine ae ?_|refine a6 ?_|refine ar ?_|refine a8 ?_|refine aa ?_|refine LR a7 LL ?_|refine bi ?_|refine bf a7 fun _=>?_|fail)
 rename_i ab
 refine aN [1,3] (α:=Nat) (fun i=>[(5,aF i)]) (fun i=>i≤8) (fun i=>[(ab,.box (pf (qm m r i)) 442)]) (fun i=>8 - i) 0 rfl ⟨rfl,trivial⟩ (Nat.zero_le _) (fun _ _ h=>h) fun i hi=>?_
 try dsimp only [Mt,Ms,Mr,Mn]
 repeat' (first|refine ae ?_|refine a6 ?_|refine a8 ?_|refine aa ?_|refine LR a7 LL ?_)
 refine aB rfl (fun h1=>?_) (fun h1=>?_)
 ·have hi8:i < 8:=by have:=Mz h1;omega
  have hst:=Jw hm hr hi8
  have hcl:(pf (qm m r i)).length=16:=by unfold pf qm;split <;> rfl
  clear h1
  repeat' (first|refine ae ?_|refine a6 ?_|refine ar ?_|refine aq ?_|refine a8 ?_|refine aa ?_|refine LR a7 LL ?_|(apply aY;refine aX ?_)|fail)
  refine pS (8 * i) rfl rfl (by rw [Int.natCast_mul];rfl) rfl ?_
  repeat' (first|fail)
  refine kF a7 rfl rfl rfl rfl rfl rfl ?_
  refine sC a7 i rfl rfl rfl rfl (by omega) rfl ?_
  refine aj a7 0 rfl rfl rfl rfl rfl rfl (Nat.ble_eq_true_of_le (by rw [hcl];show 0+i * 1+1≤16;omega)) ?_
  repeat' (first|refine a6 ?_|refine a8 ?_|refine aa ?_|refine LR a7 LL ?_|(apply aY;refine aX ?_)|fail)
  refine pS (8 * i) rfl rfl (by rw [Int.natCast_mul];rfl) rfl ?_
  refine kF a7 rfl rfl rfl rfl rfl rfl ?_
  refine sC a7 (8+i) rfl rfl rfl (by rw [Mw];rfl) (by omega) rfl ?_
  refine aj a7 0 rfl rfl rfl rfl rfl rfl (Nat.ble_eq_true_of_le (by rw [gx,hcl];show 0+(8+i) * 1+1≤16;omega)) ?_
  repeat' (first|refine a6 ?_|refine a8 ?_|refine aP ?_|refine aa ?_|refine LR a7 LL ?_|(apply aY;refine aX ?_)|fail)
  exact aE (i+1) rfl ⟨by rw [Mw];rfl,trivial⟩ (by omega) (by omega) (fun _ _ h=>by rw [←hst];exact h)
 ·have hi8:i=8:=by have:=My h1;omega
  subst hi8
  repeat' (first|refine ae ?_|refine a6 ?_|refine aO ?_|refine a8 ?_|refine av ?_|refine aC ?_|refine aA ?_)
  refine C7 a7 rfl rfl rfl ?_
  refine C5 a7 0 (pe m r) rfl rfl rfl rfl rfl rfl rfl rfl rfl ?_
  repeat' (first|refine am ?_|refine a8 ?_|refine aa ?_|refine LR a7 LL ?_)
  refine cL (List.nil_sublist _) ?_
  exact LY LM
end Go.Proofs.YtamjlkdanllgjaaGreatDoor
namespace Go.Proofs.YtamjlkdanllgjaaGreatDoor
open Go.RowKit
attribute [local irreducible] AT bz AX AO Av Kt aZ cY DA cu
set_option maxRecDepth 8000
section
variable {P:Program} {tt:TT} {r:Option Nat} {ops:Array Oper} {Q:Exit→Act→World→Prop} {nt:Nat} {D:List Deferred} {fr:bP} {B:Bs} {L:AL} {rest:List Oper} {d:Nat} {ty t t':TypeId} {pos:String} {af:Array Edge} {x y z:Operand} {u:AV}
theorem EW (ok:dG P tt) (n:Nat) {e sz by_:Nat} {k k':IntKind} {b:Int} {zs:List Value} (ht:iS tt t=some (e,sz,by_)) (hz:zI tt e=some zs) (hzl:Nat.beq zs.length sz=true) (hx:bc fr x=some (.sc (.int k 0))) (hy:bc fr y=some (.sc (.int k' b))) (hb:b=(n:Int)) (hby:by_ * n≤281474976710656) (h63:n≤9223372036854775807) (hd:Nat.ble nt d=false)
  (h:∀b,bz P r ops Q nt D rest ((d,.vec (some (b,n)) sz [])::fr) B ((b,.vec e sz 0 n)::L)):bz P r ops Q nt D (⟨some d,.makeSlice t x y,ty,pos,af,none⟩::rest) fr B L:=
 ce hd rfl (As (bv ok ht).1 (er ok hz) (Nat.eq_of_beq_eq_true hzl) (bv ok ht).2 hx hy hb hby h63) fun c L' ⟨b,h1,h2⟩=>by subst h1;subst h2;exact h b
end
def sB (nb kb mb:Nat) (M:List Pl) (q:Option (Nat×Nat)):AL:=(nb,.box [.sc (.map (some kb))] 196)::(kb,bV .string (ta M))::(mb,.box [.vec q 2 (M.map lf)] 375)::tok q 377 2 M.length
def Dy (nb kb mb:Nat) (M:List Pl) (u:AV):AV→AL→Prop:=fun c L=>c=u∧∃q,L=sB nb kb mb M q
set_option maxHeartbeats 4000000 in
theorem xu (nb kb mb:Nat) (M:List Pl) (hM:∀x∈M,jL x) (hl:M.length≤1000000) (q:Option (Nat×Nat)) (p:Pl) (hp:jL p):AC Tryz.prog 276 ([.agg (lf p)]++[eZ nb,eZ mb]) (sB nb kb mb M q) (Dy nb kb mb (dI M p) (aF ((dI M p).idxOf p:Nat))):=by
 refine aI Tryz.func276 rfl Tryz.ntmps276 rfl fun B=>?_
 haveI:=AD.mk (Fx p hp)
 have hml:(M.map lf).length=M.length:=Mv ..
 unfold sB
 repeat' (first|refine ae ?_|refine a6 ?_|refine a8 ?_|refine aa ?_|refine LR a7 LL ?_|(apply bL;first|refine LV a7 0 LO ?_|refine LV a7 1 LO ?_|refine LV a7 2 LO ?_|refine LV a7 3 LO ?_|refine LW a7 0 LO ?_|refine LW a7 1 LO ?_|refine LW a7 2 LO ?_|refine LZ a7 1 LM (by assumption) rfl ?_|refine LZ a7 0 LM (by assumption) rfl ?_|fail)|refine bi ?_|(apply bk;refine b9 ?_)|fail)
 refine ge 1 (.int .i64 0) Tryz.underlying196 Tryz.underlying9 rfl rfl trivial rfl (by kernel_rfl) rfl ?_
 by_cases hm:p∈M
 ·have hg:=uM hM hp hm
  have ht:=fa hm
  rw [hg,ht]
  repeat' (first|refine ae ?_|refine a6 ?_|refine aq ?_|refine am ?_|refine a8 ?_|refine aa ?_|refine LR a7 LL ?_|refine bo rfl ?_)
  exact MA LL ⟨rfl,q,rfl⟩
 ·have hg:=D7 hM hp hm
  have hpu:=Fs hM hp hm
  have ht:=fP hm
  have hn:=mE hm
  rw [hg]
  repeat' (first|refine ae ?_|refine a6 ?_|refine a8 ?_|refine aa ?_|refine LR a7 LL ?_|(apply bL;first|refine LV a7 0 LO ?_|refine LV a7 1 LO ?_|refine LV a7 2 LO ?_|refine LV a7 3 LO ?_|refine LW a7 0 LO ?_|refine LW a7 1 LO ?_|refine LW a7 2 LO ?_|refine LZ a7 1 LM (by assumption) rfl ?_|refine LZ a7 0 LM (by assumption) rfl ?_|fail)|refine bI rfl ?_)
  refine cZ 1 (ta (M++[p])) Tryz.underlying196 Tryz.underlying9 rfl rfl trivial (by rw [hml];rfl) rfl hpu zH ?_
  repeat' (first|refine a6 ?_|refine a8 ?_|refine aa ?_|refine LR a7 LL ?_|(apply bL;first|refine LV a7 0 LO ?_|refine LV a7 1 LO ?_|refine LV a7 2 LO ?_|refine LV a7 3 LO ?_|refine LW a7 0 LO ?_|refine LW a7 1 LO ?_|refine LW a7 2 LO ?_|refine LZ a7 1 LM (by assumption) rfl ?_|refine LZ a7 0 LM (by assumption) rfl ?_|fail)|refine cA a7 ?_|fail)
  refine cr a7 [(nb,.box [.sc (.map (some kb))] 196),(kb,bV .string (ta (M++[p]))),(mb,.box [.vec q 2 (M.map lf)] 375)] rfl rfl rfl rfl ?_ (by rw [hml];simp;omega) (by rw [hml];simp;omega) rfl fun q'=>?_
  ·rw [hml]
   exact List.perm_append_comm (l₁:=[_,_,_])
  have hsn:M.map lf++[lf p]=(M++[p]).map lf:=by rw [List.map_append];rfl
  refine bq (b8 (L':=(nb,.box [.sc (.map (some kb))] 196)::(kb,bV .string (ta (M++[p])))::(mb,.box [.vec q 2 (M.map lf)] 375)::tok q' 377 2 (M.map lf++[lf p]).length) (List.perm_append_comm (l₂:=[_,_,_]))) ?_
  repeat' (first|refine ae ?_|refine a6 ?_|refine am ?_|refine a8 ?_|refine aa ?_|refine LR a7 LL ?_|(apply aU;first|refine LU a7 0 LP ?_|refine LU a7 1 LP ?_|refine LU a7 2 LP ?_|refine LU a7 3 LP ?_|fail))
  refine MA LL ⟨?_,q',?_⟩
  ·rw [hml,hn]
  ·rw [ht,hsn,Mv]
   unfold sB
   rw [←hsn]
   rfl
theorem yf (r:bh):bD Tryz.prog 283 [.agg (bR r)] (.tup [.imm 1 (bj r.Back),cw true]):=by
 refine aI Tryz.func283 rfl Tryz.ntmps283 rfl fun B=>?_
 repeat' (first|refine ae ?_|refine a6 ?_|refine am ?_|refine a8 ?_|refine aa ?_|refine LR a7 LL ?_|refine bi ?_|fail)
 exact MH LN
set_option maxHeartbeats 4000000 in
theorem yH (r:bh) (h1:r.In.length≤1000000) (h2:r.Ahead.length≤1000000):bD Tryz.prog 282 [.agg (bR r)] (.tup [.imm 1 (bj (du r)),cw (!r.In.isEmpty)]):=by
 refine aI Tryz.func282 rfl Tryz.ntmps282 rfl fun B=>?_
 have hil:=c8 r.In
 have hal:=c8 r.Ahead
 repeat' (first|refine ae ?_|refine a6 ?_|refine a8 ?_|refine aa ?_|refine LR a7 LL ?_|refine bi ?_|fail)
 refine aB rfl (fun h=>?_) (fun h=>?_)
 ·have hz:r.In=[]:=List.eq_nil_of_length_eq_zero (by have:=Mz h;omega)
  unfold du
  rw [hz]
  clear h
  repeat' (first|refine ae ?_|refine a6 ?_|refine am ?_|refine a8 ?_|refine az ?_|refine aa ?_|refine LR a7 LL ?_)
  refine br (bE (t:=2) (c':= .imm 1 []) rfl fun σ v h=>dW 1 h) ?_
  exact MH LN
 ·have hz:r.In≠[]:=fun e=>by have:=My h;rw [hil,e] at this;simp at this
  have he:r.In.isEmpty=false:=by cases hr:r.In;exact absurd hr hz;rfl
  unfold du
  rw [he]
  clear h
  repeat' (first|refine ae ?_|refine a6 ?_|refine aq ?_|refine a8 ?_|refine LR a7 LL ?_|(apply aY;refine aX ?_)|fail)
  refine EW a7 (r.In.length+r.Ahead.length) rfl rfl rfl rfl rfl (by rw [hil,hal,Mw]) (by omega) (by omega) rfl fun b=>?_
  repeat' (first|refine ae ?_|refine a6 ?_|refine a8 ?_|refine aa ?_|refine LR a7 LL ?_)
  refine cr a7 [] rfl rfl rfl rfl (by rw [List.append_nil];exact Mp _) (by simp;omega) (by simp;omega) rfl fun q1=>?_
  repeat' (first|refine ae ?_|refine a6 ?_|refine a8 ?_|refine aa ?_|refine LR a7 LL ?_)
  refine cr a7 [] rfl rfl rfl rfl (Mp _) (by simp;omega) (by simp;omega) rfl fun q2=>?_
  repeat' (first|refine am ?_|refine a8 ?_|refine aa ?_|refine LR a7 LL ?_)
  have hra:bj (r.In++r.Ahead)=[]++bj r.In++bj r.Ahead:=by simp [bj]
  refine br (bE (t:=2) (c':= .imm 1 (bj (r.In++r.Ahead))) rfl fun σ v h=>by rw [hra];exact VR.im h) ?_
  refine cL (List.nil_sublist _) ?_
  exact MH LN
end Go.Proofs.YtamjlkdanllgjaaGreatDoor
