/-
  What comes where so many sets were met: the walk.
-/
import Derived.Test.YtamjlkdanllgjaaGreatDoorM29
import Derived.Test.YtamjlkdanllgjaaGreatDoorM13
import Derived.Test.YtamjlkdanllgjaaGreatDoorM12
import Derived.Test.YtamjlkdanllgjaaGreatDoorM06
import Derived.Test.YtamjlkdanllgjaaGreatDoorM10
namespace Go.Proofs.YtamjlkdanllgjaaGreatDoor
open Go.RowKit
attribute [local irreducible] AT bB AX AO Av Kt ba dt DA cz
set_option maxRecDepth 8000
def i8 (cls:List Int) (n:Nat) (nx:List Nat) (g:Int):List Nat:=nx.set (cls.getD g.toNat 0).toNat (nx.getD (cls.getD g.toNat 0).toNat 0 ||| 2 ^ n)
def eU (cls:List Int) (rows:List (List (List Int))) (m C n:Nat):List Nat:=(List.range C).map fun c=>cn (lG cls rows m c) n
theorem gI {cls:List Int} {rows:List (List (List Int))} {m C n:Nat}:(eU cls rows m C n).length=C:=by simp [eU]
theorem lp {cls:List Int} {rows:List (List (List Int))} {m C n c:Nat} (h:c < C):(eU cls rows m C n)[c]?=some (cn (lG cls rows m c) n):=by simp [eU,h]
theorem tS {cls:List Int} {c:Nat} {s:List Int} {g:Int}:fC cls c (s++[g])=(fC cls c s || fC cls c [g]):=by simp [fC]
theorem lj {cls:List Int} {n:Nat}:∀{s:List Int} {nx:List Nat},(s.foldl (i8 cls n) nx).length=nx.length
 | [],_=>rfl
 | g::s,nx=>by rw [List.foldl_cons,lj];unfold i8;rw [List.length_set]
section
variable {cls:List Int} {C:Nat} (hd:∀z∈cls,0≤z∧z < (C:Int))
include hd
theorem uG {g:Int} (hg:0≤g∧g < cls.length):∃c:Nat,cls[g.toNat]?=some (c:Int)∧c < C∧cls.getD g.toNat 0=(c:Int):=by
 obtain ⟨z,hz⟩:∃z,cls[g.toNat]?=some z:=⟨_,Lz (by omega)⟩
 obtain ⟨h0,h1⟩:=hd z (Lv hz)
 refine ⟨z.toNat,by rw [hz];congr 1;omega,by omega,?_⟩
 rw [List.getD_eq_getElem?_getD,hz]
 show z=_
 omega
theorem sI {n:Nat} {nx:List Nat} (hl:nx.length=C):∀{s:List Int},(∀g∈s,0≤g∧g < (cls.length:Int))→∀c,c < C→(s.foldl (i8 cls n) nx)[c]?=some (nx.getD c 0 ||| (if fC cls c s=true then 2 ^ n else 0)):=by
 intro s
 refine nk (P:=fun s=>(∀g∈s,0≤g∧g < (cls.length:Int))→∀c,c < C→(s.foldl (i8 cls n) nx)[c]?=some (nx.getD c 0 ||| (if fC cls c s=true then 2 ^ n else 0))) ?_ ?_ s
 ·intro _ c hc
  rw [List.foldl_nil,List.getD_eq_getElem?_getD,Lz (by omega)]
  simp [fC]
 ·intro s g ih hs c hc
  have ih':=ih (fun x hx=>hs x (by simp [hx]))
  obtain ⟨k,hk,hkC,hkd⟩:=uG hd (hs g (by simp))
  have hml:=lj (cls:=cls) (n:=n) (s:=s) (nx:=nx)
  rw [List.foldl_append,List.foldl_cons,List.foldl_nil]
  unfold i8 at hml ⊢
  rw [hkd,Int.toNat_natCast]
  have hg1:fC cls c [g]=decide (k=c):=by
   unfold fC
   have hg:=hs g (by simp)
   have hkd2:cls.getD g.toNat (-1)=(k:Int):=by rw [List.getD_eq_getElem?_getD,hk];rfl
   simp only [List.any_cons,List.any_nil,Bool.or_false,hkd2,decide_eq_true hg.1,decide_eq_true hg.2,Bool.true_and]
   exact decide_eq_decide.2 (by omega)
  rw [tS,hg1]
  by_cases hkc:k=c
  ·subst hkc
   rw [List.getElem?_set_self (by omega),List.getD_eq_getElem?_getD]
   have:=ih' k hc
   unfold i8 at this
   rw [this]
   simp only [Option.getD_some,decide_true,Bool.or_true,if_true]
   congr 1
   split
   ·rw [Nat.or_assoc,Nat.or_self]
   ·rw [Nat.or_zero]
  ·rw [List.getElem?_set_ne hkc]
   have:=ih' c hc
   unfold i8 at this
   rw [this]
   simp [hkc]
theorem xb {rows:List (List (List Int))} {m n:Nat} {fw:List (List Int)} (hr:rows[n]?=some fw) {s:List Int} (hs:fw[m]?=some s) (hg:∀g∈s,0≤g∧g < (cls.length:Int)):s.foldl (i8 cls n) (eU cls rows m C n)=eU cls rows m C (n+1):=by
 apply List.ext_getElem?
 intro c
 by_cases hc:c < C
 ·rw [sI hd gI hg c hc,lp hc,List.getD_eq_getElem?_getD,lp hc,cn]
  have:lG cls rows m c n=fC cls c s:=by
   unfold lG
   rw [hr]
   dsimp only
   rw [hs]
  rw [this]
  rfl
 ·rw [List.getElem?_eq_none (by rw [lj,gI];omega),List.getElem?_eq_none (by rw [gI];omega)]
end
theorem qW {cls:List Int} {rows:List (List (List Int))} {m C n:Nat} {fw:List (List Int)} (hr:rows[n]?=some fw) (hs:fw.length≤m):eU cls rows m C (n+1)=eU cls rows m C n:=by
 unfold eU
 refine List.map_congr_left fun c _=>?_
 rw [cn]
 have:lG cls rows m c n=false:=by
  unfold lG
  rw [hr]
  dsimp only
  rw [List.getElem?_eq_none hs]
 rw [this]
 simp
theorem yO (n:Nat) (h:n < 64):IntKind.u64.wrap (1 * 2 ^ min n IntKind.u64.bits)=((2 ^ n:Nat):Int):=by
 have e:min n IntKind.u64.bits=n:=by show min n 64=n;omega
 have h1:2 ^ n < 2 ^ 64:=Nat.pow_lt_pow_right (by omega) h
 have e2:(2:Int) ^ n=((2 ^ n:Nat):Int):=(Int.natCast_pow 2 n).symm
 rw [e,Int.one_mul,e2]
 generalize 2 ^ n=k at h1
 have h64:(2:Nat) ^ 64=18446744073709551616:=by decide
 rw [h64] at h1
 rw [IntKind.wrap_u64]
 exact Int.emod_eq_of_lt (by omega) (by omega)
theorem nC {p:Nat→Bool} {n:Nat} (h:n≤64):cn p n < 2 ^ 64:=Nat.lt_of_lt_of_le (pX p n) (Nat.pow_le_pow_right (by omega) h)
theorem Gg {n:Nat} (h:n < 64):2 ^ n < 2 ^ 64:=Nat.pow_lt_pow_right (by omega) h
def ga (l:List Nat):List AV:=l.map fun z=>lc z
theorem qc (l:List Nat):(ga l).length=l.length:=by simp [ga]
theorem wu {l:List Nat} {i:Nat} {z:Nat} (h:l[i]?=some z):(ga l)[0+((i:Nat):Int).toNat * 1]?=some (lc z):=by simp [ga,h]
theorem wv {l:List Nat} {i:Nat} {z:Nat}:eN (ga l) (0+((i:Nat):Int).toNat * 1) [lc z]=ga (l.set i z):=by
 rw [gm]
 unfold ga
 rw [List.map_set]
 simp
theorem uE (n:Nat):(List.replicate n [lc 0]).flatten=ga (List.replicate n 0):=by
 induction n with
 | zero=>rfl
 | succ n ih=>rw [List.replicate_succ,List.flatten_cons,ih,List.replicate_succ];rfl
theorem B6 (l:List Nat):ga l=(gu l).flatten:=by
 induction l with
 | nil=>rfl
 | cons z l ih=>simp [ga,gu] at ih ⊢;exact ih
def jB (l:List (List (List Int))):List (List AV):=l.map fun r=>[.imm 1 (aZ r)]
theorem sP (l:List (List (List Int))):(jB l).length=l.length:=by simp [jB]
theorem Au {l:List (List (List Int))} {i:Nat} {r:List (List Int)} (h:l[i]?=some r):(jB l)[i]?=some [.imm 1 (aZ r)]:=by simp [jB,h]
structure RD where
 rows:List (List (List Int))
 have_:Nat
 cls:List Int
 C:Nat
structure Bi (R:RD):Prop where
 few:R.rows.length≤6
 dom:∀z∈R.cls,0≤z∧z < (R.C:Int)
 sets:∀r∈R.rows,∀s∈r,(∀g∈s,0≤g∧g < (R.cls.length:Int))∧s.length≤1000000
 long:∀r∈R.rows,r.length≤1000000
 many:R.C≤1000000∧R.cls.length≤1000000
def EA (R:RD) (lv:AV):List AV:=[.imm 1 (jB R.rows),lc R.have_,.imm 1 (aO R.cls),aH R.C,lv]
def kG (R:RD) (m:Nat):List AV:=[.imm 1 (gu (eU R.cls R.rows m R.C R.rows.length)),lc (cn (ji R.rows m) R.rows.length)]
set_option maxHeartbeats 8000000 in
theorem tG (R:RD) (h:Bi R) (rb:Nat) (lv:AV) (m:Nat) (hm:m≤1000000):AC Tryz.prog 352 [iO rb,aH m] [(rb,.box (EA R lv) 384)] fun c L=>c= .agg (kG R m)∧L=[(rb,.box (EA R lv) 384)]:=by
 refine aP Tryz.func352 rfl Tryz.ntmps352 rfl fun B=>?_
 have hrl:=sP R.rows
 have hil:=aW R.cls
 obtain ⟨hC,hN⟩:=h.many
 have hfew:=h.few
 repeat' (first|refine ae ?_|refine a6 ?_|refine a8 ?_|refine aa ?_|refine LF a7 I9 ?_|(apply bL;first|refine LI a7 0 LC ?_|refine LI a7 1 LC ?_|refine LI a7 2 LC ?_|refine LI a7 3 LC ?_|refine LJ a7 0 LC ?_|refine LJ a7 1 LC ?_|refine LJ a7 2 LC ?_|refine LL a7 1 LA (by assumption) rfl ?_|refine LL a7 0 LA (by assumption) rfl ?_|fail)|refine bg a7 fun _=>?_|fail)
 refine ep a7 R.C rfl rfl rfl rfl rfl rfl rfl (by omega) (by omega) rfl fun nb=>?_
 rw [show (List.replicate R.C (List.map AV.sc [Value.int .u64 0])).flatten=ga (List.replicate R.C 0) from uE R.C]
 repeat' (first|refine ae ?_|refine a6 ?_|refine am ?_|refine a8 ?_|refine aa ?_|refine LF a7 I9 ?_|(apply bL;first|refine LI a7 0 LC ?_|refine LI a7 1 LC ?_|refine LI a7 2 LC ?_|refine LI a7 3 LC ?_|refine LJ a7 0 LC ?_|refine LJ a7 1 LC ?_|refine LJ a7 2 LC ?_|refine LL a7 1 LA (by assumption) rfl ?_|refine LL a7 0 LA (by assumption) rfl ?_|fail)|(apply aK;first|refine LG a7 0 LD ?_|refine LG a7 1 LD ?_|refine LG a7 2 LD ?_|refine LG a7 3 LD ?_|fail)|refine bg a7 fun _=>?_|fail)
 rename_i r4 l5
 refine aJ [0,1,4,5,19,20] (α:=Nat) (fun n=>[(21,aH n)]) (fun n=>n≤R.rows.length) (fun n=>[(l5,.box [.sc (.slice (some ⟨nb,0,none⟩) R.C R.C),lc (cn (ji R.rows m) n)] 444),(nb,.box (ga (eU R.cls R.rows m R.C n)) 194),(r4,.box [.sc (.slice none 0 0),lc 0] 444),(rb,.box (EA R lv) 384)]) (fun n=>R.rows.length - n) 0 rfl ⟨rfl,trivial⟩ (Nat.zero_le _) (fun _ _ hh=>?_) fun n hn=>?_
 ·rw [show eU R.cls R.rows m R.C 0=List.replicate R.C 0 by unfold eU cn;rw [List.map_const',List.length_range]]
  exact hh
 ·try dsimp only [Lp,Lo,Ln,Lh]
  repeat' (first|refine ae ?_|refine a6 ?_|refine a8 ?_|refine aa ?_|refine LF a7 I9 ?_)
  refine ay rfl (fun h1=>?_) (fun h1=>?_)
  ·have hn2:n < R.rows.length:=by have:=Ly h1;omega
   obtain ⟨fw,hrow⟩:∃z,R.rows[n]?=some z:=⟨_,Lz hn2⟩
   have hrg:=Au hrow
   have hrwl:=cw fw
   have hrm:=Lv hrow
   have hlong:=h.long fw hrm
   have hends:cn (ji R.rows m) (n+1)=cn (ji R.rows m) n ||| (if fw.length=m then 2 ^ n else 0):=by
    rw [cn]
    unfold ji
    rw [hrow]
    simp only [decide_eq_true_eq]
   have hb1:=nC (p:=ji R.rows m) (n:=n) (by omega)
   have hb2:=Gg (n:=n) (by omega)
   have hub:=yO n (by omega)
   clear h1
   repeat' (first|refine ae ?_|refine a6 ?_|refine am ?_|refine au ?_|refine a8 ?_|refine aa ?_|refine LF a7 I9 ?_|(apply aU;first|refine aT a7 ?_|refine aN a7 ?_)|fail)
   refine ay rfl (fun h1=>?_) (fun h1=>?_)
   ·have hlm:fw.length=m:=by have:=Ly h1;omega
    rw [if_pos hlm] at hends
    have hsk:=qW (cls:=R.cls) (C:=R.C) hrow (Nat.le_of_eq hlm)
    clear h1
    repeat' (first|fail)
    refine bI 4 [(0,.v),(1,.l),(2,.v),(3,.v)] none ?_ trivial rfl (by kernel_rfl) (by kernel_rfl) (by kernel_rfl) mixed (by kernel_rfl) rfl
    repeat' (first|refine aF ?_|refine b9 a7 ?_|refine cS a7 0 rfl rfl rfl rfl (by first|trivial|rfl) ?_)
    refine wC n rfl rfl rfl trivial ?_
    repeat' (first|fail)
    refine LP [0,1,4,5,6,7,19,20,21,31,33] I9 ?_
    refine yq rfl rfl rfl ?_
    rw [hub,u64_or_nat _ _ hb1 hb2,←hends]
    repeat' (first|refine ae ?_|refine a6 ?_|refine a8 ?_|refine aa ?_|refine LF a7 I9 ?_|(apply aK;first|refine LG a7 0 LD ?_|refine LG a7 1 LD ?_|refine LG a7 2 LD ?_|refine LG a7 3 LD ?_|fail))
    refine ay rfl (fun h2=>?_) (fun h2=>?_)
    ·repeat' (first|refine a6 ?_|refine aL ?_|refine a8 ?_|refine av ?_|refine aA ?_|refine aa ?_|refine LF a7 I9 ?_|(apply aY;refine aX ?_)|fail)
     exact aE (n+1) rfl ⟨by rw [Ls];rfl,trivial⟩ hn2 (by omega) (fun _ _ hh=>by rw [hsk];exact hh)
    ·have:=Lw h2
     omega
   ·have hlm:¬fw.length=m:=by have:=Lw h1;omega
    rw [if_neg hlm,Nat.or_zero] at hends
    clear h1
    repeat' (first|refine ae ?_|refine a6 ?_|refine au ?_|refine a8 ?_|refine aa ?_|refine LF a7 I9 ?_)
    refine ay rfl (fun h2=>?_) (fun h2=>?_)
    ·have hsk:=qW (cls:=R.cls) (C:=R.C) (m:=m) hrow (by have:=Ly h2;omega)
     repeat' (first|refine a6 ?_|refine aL ?_|refine a8 ?_|refine av ?_|refine aA ?_|refine aa ?_|refine LF a7 I9 ?_|(apply aY;refine aX ?_)|fail)
     exact aE (n+1) rfl ⟨by rw [Ls];rfl,trivial⟩ hn2 (by omega) (fun _ _ hh=>by rw [hsk,hends];exact hh)
    ·have hml:m < fw.length:=by have:=Lw h2;omega
     obtain ⟨s,hs⟩:∃z,fw[m]?=some z:=⟨_,Lz hml⟩
     have hsg:=jC hs
     obtain ⟨hsd,hsl⟩:=h.sets fw hrm s (Lv hs)
     have hsil:=aW s
     have hst:=xb h.dom hrow hs hsd
     clear h2
     repeat' (first|refine ae ?_|refine a6 ?_|refine am ?_|refine au ?_|refine a8 ?_|refine aa ?_|refine LF a7 I9 ?_|(apply aU;first|refine aT a7 ?_|refine aN a7 ?_)|fail)
     refine aJ [0,1,4,5,6,19,20,21,43,44] (α:=Nat) (fun j=>[(45,aH j)]) (fun j=>j≤s.length) (fun j=>[(l5,.box [.sc (.slice (some ⟨nb,0,none⟩) R.C R.C),lc (cn (ji R.rows m) n)] 444),(nb,.box (ga ((s.take j).foldl (i8 R.cls n) (eU R.cls R.rows m R.C n))) 194),(r4,.box [.sc (.slice none 0 0),lc 0] 444),(rb,.box (EA R lv) 384)]) (fun j=>s.length - j) 0 rfl ⟨rfl,trivial⟩ (Nat.zero_le _) (fun _ _ hh=>hh) fun j hj=>?_
     try dsimp only [Lp,Lo,Ln,Lh]
     repeat' (first|refine ae ?_|refine a6 ?_|refine a8 ?_|refine aa ?_|refine LF a7 I9 ?_)
     refine ay rfl (fun h2=>?_) (fun h2=>?_)
     ·have hj2:j < s.length:=by have:=Ly h2;omega
      obtain ⟨g,hg⟩:∃z,s[j]?=some z:=⟨_,Lz hj2⟩
      have hgg:=bO hg
      have hgd:=hsd g (Lv hg)
      obtain ⟨c,hc,hcC,hcd⟩:=uG h.dom hgd
      have hcg:(aO R.cls)[g.toNat]?=some [aH c]:=bO hc
      have hnl:((s.take j).foldl (i8 R.cls n) (eU R.cls R.rows m R.C n)).length=R.C:=by rw [lj,gI]
      obtain ⟨v,hv⟩:∃z,((s.take j).foldl (i8 R.cls n) (eU R.cls R.rows m R.C n))[c]?=some z:=⟨_,Lz (by omega)⟩
      have hv64:v < 2 ^ 64:=by
       have:=sI h.dom (n:=n) (nx:=eU R.cls R.rows m R.C n) gI (s:=s.take j) (fun x hx=>hsd x (List.mem_of_mem_take hx)) c hcC
       rw [hv,List.getD_eq_getElem?_getD,lp hcC] at this
       cases this
       exact J7 (nC (by omega)) (by split;exact hb2;omega)
      have htk:s.take (j+1)=s.take j++[g]:=by rw [List.take_add_one,hg];rfl
      have hfs:(s.take (j+1)).foldl (i8 R.cls n) (eU R.cls R.rows m R.C n)=((s.take j).foldl (i8 R.cls n) (eU R.cls R.rows m R.C n)).set c (v ||| 2 ^ n):=by
       rw [htk,List.foldl_append,List.foldl_cons,List.foldl_nil]
       generalize (s.take j).foldl (i8 R.cls n) (eU R.cls R.rows m R.C n)=nx at hv
       unfold i8
       rw [hcd,Int.toNat_natCast,List.getD_eq_getElem?_getD,hv]
       rfl
      generalize (s.take j).foldl (i8 R.cls n) (eU R.cls R.rows m R.C n)=nx at *
      have hvc:=wu hv
      have hul:=qc nx
      clear h2
      repeat' (first|refine ae ?_|refine a6 ?_|refine am ?_|refine au ?_|refine a8 ?_|refine aa ?_|refine LF a7 I9 ?_|(apply aU;first|refine aT a7 ?_|refine aN a7 ?_)|fail)
      refine cN [0,1,4,5,6,9,19,20,21,43,44,45] True rfl (fun Q' K=>?_) (fun _=>?_) (fun hC=>absurd trivial hC)
      ·repeat' (first|refine aa ?_|refine LF a7 I9 ?_|refine LN I9 ?_|refine LO LB ?_|(apply bL;first|refine LI a7 0 LC ?_|refine LI a7 1 LC ?_|refine LI a7 2 LC ?_|refine LI a7 3 LC ?_|refine LJ a7 0 LC ?_|refine LJ a7 1 LC ?_|refine LJ a7 2 LC ?_|refine LL a7 1 LA (by assumption) rfl ?_|refine LL a7 0 LA (by assumption) rfl ?_|fail)|refine bc rfl rfl rfl (fun _=>?_) (fun _=>?_))
       all_goals exact K _ _ rfl rfl (by simp_all <;> omega)
      repeat' (first|fail)
      refine bI 14 [(0,.v),(1,.l),(2,.v),(3,.v),(4,.v),(5,.l),(6,.v),(7,.v),(8,.v),(9,.v),(10,.l),(11,.v),(12,.v),(13,.v)] none ?_ trivial rfl (by kernel_rfl) (by kernel_rfl) (by kernel_rfl) mixed (by kernel_rfl) rfl
      repeat' (first|refine aF ?_|refine b9 a7 ?_|refine cS a7 0 rfl rfl rfl rfl (by first|trivial|rfl) ?_)
      refine cS a7 3 rfl rfl rfl rfl trivial ?_
      repeat' (first|refine aF ?_|refine b9 a7 ?_|(apply cE;refine d5 a7 ?_)|fail)
      refine df a7 rfl rfl rfl ⟨by omega,by omega⟩ trivial ?_
      repeat' (first|refine aF ?_|fail)
      refine cS a7 1 rfl rfl rfl hvc trivial ?_
      repeat' (first|refine aF ?_|refine b9 a7 ?_|fail)
      refine wC n rfl rfl rfl trivial ?_
      repeat' (first|refine aF ?_|fail)
      refine EF rfl rfl trivial ?_
      repeat' (first|fail)
      refine LP [0,1,4,5,6,19,20,21,43,44,45,61,68,73] I9 ?_
      rw [hub,u64_or_nat _ _ hv64 hb2]
      repeat' (first|(apply aU;first|refine aT a7 ?_|refine aN a7 ?_)|fail)
      refine ai a7 1 rfl rfl rfl rfl rfl rfl (Nat.ble_eq_true_of_le (by rw [hul,hnl,Int.toNat_natCast];show 0+c * 1+1≤_;omega)) ?_
      rw [wv]
      repeat' (first|refine a6 ?_|refine a8 ?_|refine aM ?_|refine aa ?_|refine LF a7 I9 ?_|(apply aY;refine aX ?_)|fail)
      exact aE (j+1) rfl ⟨by rw [Ls];rfl,trivial⟩ hj2 (by omega) (fun _ _ hh=>by rw [hfs];exact hh)
     ·have hj2:j=s.length:=by have:=Lw h2;omega
      subst hj2
      rw [List.take_length,hst]
      clear h2
      repeat' (first|refine a6 ?_|refine aL ?_|refine a8 ?_|refine av ?_|refine aM ?_|refine aA ?_|refine aw ?_|refine aa ?_|refine LF a7 I9 ?_|(apply aY;refine aX ?_)|fail)
      exact aE (n+1) rfl ⟨by rw [Ls];rfl,trivial⟩ hn2 (by omega) (fun _ _ hh=>by rw [hends];exact hh)
  ·have hn2:n=R.rows.length:=by have:=Lw h1;omega
   subst hn2
   clear h1
   repeat' (first|refine ae ?_|refine a6 ?_|refine aq ?_|refine aL ?_|refine a8 ?_|refine av ?_|refine aA ?_|refine aw ?_|refine aa ?_|(apply bL;first|refine LI a7 0 LC ?_|refine LI a7 1 LC ?_|refine LI a7 2 LC ?_|refine LI a7 3 LC ?_|refine LJ a7 0 LC ?_|refine LJ a7 1 LC ?_|refine LJ a7 2 LC ?_|refine LL a7 1 LA (by assumption) rfl ?_|refine LL a7 0 LA (by assumption) rfl ?_|fail)|(apply aK;first|refine LG a7 0 LD ?_|refine LG a7 1 LD ?_|refine LG a7 2 LD ?_|refine LG a7 3 LD ?_|fail))
   have hcu:=qc (eU R.cls R.rows m R.C R.rows.length)
   rw [gI] at hcu
   refine dW (L':=[(nb,.box (ga (eU R.cls R.rows m R.C R.rows.length)) 194),(r4,.box [.sc (.slice (some ⟨nb,0,none⟩) R.C R.C),lc (cn (ji R.rows m) R.rows.length)] 444),(rb,.box (EA R lv) 384)]) (List.sublist_cons_self ..) ?_
   refine b6 (od (k:=0) (sz:=1) (n:=R.C) (cap:=R.C) (l:=gu (eU R.cls R.rows m R.C R.rows.length)) rfl (by rw [←B6,List.take_of_length_le (by omega)]) (by omega) (fun e he=>by unfold gu at he;obtain ⟨z,_,rfl⟩:=List.mem_map.1 he;rfl) (by rw [rz,gI]) (Nat.le_refl _) (by unfold maxLen;omega)) ?_
   exact fP (cs:=[.agg (kG R m)]) [(rb,.box (EA R lv) 384)] ⟨⟨_,0,_,_,rfl,rfl,.inr ⟨dR a7 rfl,rfl⟩⟩,trivial⟩ (List.sublist_cons_self ..) ⟨rfl,rfl⟩
end Go.Proofs.YtamjlkdanllgjaaGreatDoor
namespace Go.Proofs.YtamjlkdanllgjaaGreatDoor
open Go.RowKit
attribute [local irreducible] AT bB AX AO Av Kt ba dt DA cz
set_option maxRecDepth 8000
def zY (R:RD) (k:Nat):List (List AV):=(List.range k).map (kG R)
theorem ym (R:RD) (k:Nat):(zY R k).length=k:=by simp [zY]
theorem vd (R:RD) (k:Nat):zY R k++[kG R k]=zY R (k+1):=by simp [zY,List.range_succ]
theorem Fj (R:RD) {k m:Nat} (h:m < k):(zY R k)[m]?=some (kG R m):=by simp [zY,h]
abbrev r8 (R:RD) (rb k:Nat) (q:Option (Nat×Nat)):Nat×AB:=(rb,.box (EA R (.vec q 2 (zY R k))) 384)
abbrev f9 (R:RD) (rb k:Nat) (q:Option (Nat×Nat)):AL:=r8 R rb k q::tok q 444 2 k
def ph (R:RD) (rb:Nat) (u:AV):AV→AL→Prop:=fun c L=>c=u∧∃k q,k≤1000001∧L=f9 R rb k q
theorem Jc {a b:Nat×AB} {X:AL}:(a::b::X).Perm (b::a::X):=List.Perm.swap ..
set_option maxHeartbeats 4000000 in
theorem va (R:RD) (h:Bi R) (rb k:Nat) (q:Option (Nat×Nat)) (hk:k≤1000001) (m:Nat) (hm:m≤1000000):AC Tryz.prog 321 [iO rb,aH m] (f9 R rb k q) (ph R rb (.agg (kG R m))):=by
 refine aP Tryz.func321 rfl Tryz.ntmps321 rfl fun B=>?_
 repeat' (first|refine ae ?_|refine a6 ?_|refine am ?_|refine a8 ?_|refine aa ?_|refine bg a7 fun _=>?_|fail)
 rename_i r4
 refine aJ [0,1,4] (α:=Nat×Option (Nat×Nat)) (fun _=>[]) (fun s=>s.1≤1000001) (fun s=>(r4,.box [.sc (.slice none 0 0),lc 0] 444)::f9 R rb s.1 s.2) (fun s=>m+1 - s.1) (k,q) rfl trivial hk (fun _ _ hh=>hh) ?_
 rintro ⟨k1,q1⟩ hk1
 dsimp only at hk1 ⊢
 try dsimp only [Lp,Lo,Ln,Lh]
 have hlen:=ym R k1
 repeat' (first|refine ae ?_|refine a6 ?_|refine a8 ?_|refine aa ?_|refine LF a7 I9 ?_|(apply bL;first|refine LI a7 0 LC ?_|refine LI a7 1 LC ?_|refine LI a7 2 LC ?_|refine LI a7 3 LC ?_|refine LJ a7 0 LC ?_|refine LJ a7 1 LC ?_|refine LJ a7 2 LC ?_|refine LL a7 1 LA (by assumption) rfl ?_|refine LL a7 0 LA (by assumption) rfl ?_|fail)|fail)
 refine ay rfl (fun h1=>?_) (fun h1=>?_)
 ·have hkm:k1≤m:=by have:=Ly h1;omega
  have hml:=tG R h rb (.vec q1 2 (zY R k1)) k1 (by omega)
  clear h1
  repeat' (first|refine am ?_|refine au ?_|refine a8 ?_)
  refine dv [.cell (rb,4,.vec q1 2 (zY R k1))] 14 [(0,.v),(1,.v),(2,.v),(3,.v),(4,.k),(5,.v),(6,.v),(7,.v),(8,.v),(9,.l),(10,.v),(11,.f),(12,.v),(13,.e)] none ?_ trivial rfl (by kernel_rfl) (by kernel_rfl) (by kernel_rfl) mixed (by kernel_rfl) rfl
  repeat' (first|refine aF ?_|refine b9 a7 ?_|fail)
  refine dH a7 0 rfl rfl rfl (mN 1 rfl rfl) trivial ?_
  repeat' (first|refine aF ?_|refine b9 a7 ?_|refine cS a7 1 rfl rfl rfl rfl (by first|trivial|rfl) ?_)
  refine tk [r8 R rb k1 q1] ((r4,.box [.sc (.slice none 0 0),lc 0] 444)::tok q1 444 2 k1) hml rfl (by rw [hlen];rfl) Jc trivial (fun c L1 ⟨hc,hL⟩ hK=>by subst hL;exact mN 0 rfl rfl) fun c L1 ⟨hc,hL⟩=>?_
  subst hc;subst hL
  repeat' (first|refine aF ?_|refine dX a7 ?_|fail)
  refine fg a7 [r8 R rb k1 q1,(r4,.box [.sc (.slice none 0 0),lc 0] 444)] rfl rfl rfl rfl ?_ (by rw [hlen];simp;omega) (by rw [hlen];simp;omega) trivial fun q'=>?_
  ·rw [hlen]
   exact List.perm_append_comm (l₁:=[_,_])
  repeat' (first|fail)
  refine LP [0,1,4,12,25] I9 ?_
  refine aS (aR (L':=r8 R rb k1 q1::(r4,.box [.sc (.slice none 0 0),lc 0] 444)::tok q' 444 2 (zY R k1++[kG R k1]).length) (List.perm_append_comm (l₂:=[_,_]))) ?_
  repeat' (first|refine aM ?_|refine aa ?_|refine LF a7 I9 ?_|(apply aK;first|refine LG a7 0 LD ?_|refine LG a7 1 LD ?_|refine LG a7 2 LD ?_|refine LG a7 3 LD ?_|fail))
  refine aE (k1+1,q') rfl trivial (by dsimp only;omega) (by dsimp only;omega) (fun σ w hh=>?_)
  rw [vd,ym] at hh
  refine cZ.perm (L:=r8 R rb (k1+1) q'::(r4,.box [.sc (.slice none 0 0),lc 0] 444)::tok q' 444 2 (k1+1)) ?_ Jc
  unfold r8
  rw [←vd]
  exact hh
 ·have hkm:m < k1:=by have:=Lw h1;omega
  have hlg:=Fj R hkm
  clear h1
  repeat' (first|refine ae ?_|refine a6 ?_|refine aq ?_|refine aL ?_|refine a8 ?_|refine av ?_|refine aA ?_|refine aw ?_|refine aa ?_|refine LF a7 I9 ?_|(apply bL;first|refine LI a7 0 LC ?_|refine LI a7 1 LC ?_|refine LI a7 2 LC ?_|refine LI a7 3 LC ?_|refine LJ a7 0 LC ?_|refine LJ a7 1 LC ?_|refine LJ a7 2 LC ?_|refine LL a7 1 LA (by assumption) rfl ?_|refine LL a7 0 LA (by assumption) rfl ?_|fail)|(apply aU;first|refine aT a7 ?_|refine aN a7 ?_)|(apply aK;first|refine LG a7 0 LD ?_|refine LG a7 1 LD ?_|refine LG a7 2 LD ?_|refine LG a7 3 LD ?_|fail))
  exact fP (cs:=[.agg (kG R m)]) (f9 R rb k1 q1) ⟨⟨_,0,_,_,rfl,rfl,.inr ⟨dR a7 rfl,rfl⟩⟩,trivial⟩ (List.sublist_cons_self ..) ⟨rfl,k1,q1,hk1,rfl⟩
def lV (p:Pl):List AV:=[aH p.1,lc p.2]
theorem Ap (R:RD) (rb k:Nat) (q:Option (Nat×Nat)) (hk:k≤1000001):AC Tryz.prog 278 [iO rb] (f9 R rb k q) (ph R rb (.agg (lV (0,R.have_)))):=by
 refine aP Tryz.func278 rfl Tryz.ntmps278 rfl fun B=>?_
 repeat' (first|refine ae ?_|refine a6 ?_|refine aq ?_|refine a8 ?_|refine aa ?_|refine LF a7 I9 ?_|(apply bL;first|refine LI a7 0 LC ?_|refine LI a7 1 LC ?_|refine LI a7 2 LC ?_|refine LI a7 3 LC ?_|refine LJ a7 0 LC ?_|refine LJ a7 1 LC ?_|refine LJ a7 2 LC ?_|refine LL a7 1 LA (by assumption) rfl ?_|refine LL a7 0 LA (by assumption) rfl ?_|fail)|(apply aK;first|refine LG a7 0 LD ?_|refine LG a7 1 LD ?_|refine LG a7 2 LD ?_|refine LG a7 3 LD ?_|fail)|refine bg a7 fun _=>?_|fail)
 exact fP (cs:=[.agg (lV (0,R.have_))]) (f9 R rb k q) ⟨⟨_,0,_,_,rfl,rfl,.inr ⟨dR a7 rfl,rfl⟩⟩,trivial⟩ (List.sublist_cons_self ..) ⟨rfl,k,q,hk,rfl⟩
theorem D2 {R:RD} {m c:Nat} (hc:c < R.C):(gu (eU R.cls R.rows m R.C R.rows.length))[((c:Nat):Int).toNat]?=some [lc (ju R.cls R.rows m c)]:=by
 rw [Int.toNat_natCast]
 exact E3 (lp hc)
set_option maxHeartbeats 4000000 in
theorem zg (R:RD) (h:Bi R) (rb k:Nat) (q:Option (Nat×Nat)) (hk:k≤1000001) (p:Pl) (hp:p.1≤1000000) (hp2:p.2 < 2 ^ 64) (c:Nat) (hc:c < R.C):AC Tryz.prog 279 [iO rb,.agg (lV p),aH c] (f9 R rb k q) (ph R rb (.agg (lV (c9 R.cls R.rows p c)))):=by
 refine aP Tryz.func279 rfl Tryz.ntmps279 rfl fun B=>?_
 obtain ⟨pm,pr⟩:=p
 dsimp only at hp hp2
 have hlv:=va R h rb k q hk pm hp
 have hnl:=D2 (R:=R) (m:=pm) hc
 have hn64:ju R.cls R.rows pm c < 2 ^ 64:=nC (by have:=h.few;omega)
 have hbe:c9 R.cls R.rows (pm,pr) c=if pr &&& ju R.cls R.rows pm c=0 then (0,0) else (pm+1,pr &&& ju R.cls R.rows pm c):=rfl
 repeat' (first|refine ae ?_|refine a6 ?_|refine a8 ?_|refine aa ?_|refine LF a7 I9 ?_|refine bo ?_|refine bg a7 fun _=>?_|fail)
 rename_i r6
 refine ay rfl (fun h1=>?_) (fun h1=>?_)
 ·clear h1
  repeat' (first|refine a6 ?_|refine LF a7 I9 ?_)
  refine bh (f9 R rb k q) [(r6,.box [aH 0,lc 0] 377)] hlv rfl rfl (List.perm_append_comm (l₁:=[_])) rfl fun c1 L1 ⟨hc1,k1,q1,hk1,hL⟩=>?_
  subst hc1;subst hL
  refine aS (aR (L':=(r6,.box [aH 0,lc 0] 377)::f9 R rb k1 q1) (List.perm_append_comm (l₂:=[_]))) ?_
  repeat' (first|refine LF a7 I9 ?_|(apply aU;first|refine aT a7 ?_|refine aN a7 ?_)|fail)
  refine x6 rfl rfl rfl ?_
  rw [u64_and_nat _ _ hp2 hn64]
  repeat' (first|refine ae ?_|refine a6 ?_|refine a8 ?_|refine aa ?_|refine LF a7 I9 ?_)
  refine ay rfl (fun h2=>?_) (fun h2=>?_)
  ·have hz:pr &&& ju R.cls R.rows pm c=0:=by have:=Ly h2;omega
   rw [if_pos hz] at hbe
   rw [hbe]
   repeat' (first|refine ae ?_|refine a6 ?_|refine aq ?_|refine a8 ?_|refine aC ?_|refine aa ?_|refine LF a7 I9 ?_|(apply aK;first|refine LG a7 0 LD ?_|refine LG a7 1 LD ?_|refine LG a7 2 LD ?_|refine LG a7 3 LD ?_|fail))
   exact fP (cs:=[.agg (lV (0,0))]) (f9 R rb k1 q1) ⟨⟨_,0,_,_,rfl,rfl,.inr ⟨dR a7 rfl,rfl⟩⟩,trivial⟩ (List.sublist_cons_self ..) ⟨rfl,k1,q1,hk1,rfl⟩
  ·have hz:pr &&& ju R.cls R.rows pm c≠0:=by have:=Lw h2;omega
   rw [if_neg hz] at hbe
   rw [hbe]
   repeat' (first|refine ae ?_|refine a6 ?_|refine au ?_|refine aq ?_|refine a8 ?_|refine aa ?_|refine LF a7 I9 ?_|(apply aY;refine aX ?_)|(apply aK;first|refine LG a7 0 LD ?_|refine LG a7 1 LD ?_|refine LG a7 2 LD ?_|refine LG a7 3 LD ?_|fail))
   refine fP (cs:=[.agg (lV (pm+1,pr &&& ju R.cls R.rows pm c))]) (f9 R rb k1 q1) ⟨⟨_,0,_,_,rfl,rfl,.inr ⟨dR a7 rfl,rfl⟩⟩,trivial⟩ (List.sublist_cons_self ..) ⟨rfl,k1,q1,hk1,rfl⟩
 ·have hz:pr=0:=by have:=Lw h1;simpa using this
  subst hz
  rw [Nat.zero_and,if_pos rfl] at hbe
  rw [hbe]
  repeat' (first|refine ae ?_|refine a6 ?_|refine au ?_|refine aq ?_|refine a8 ?_|refine aC ?_|refine aa ?_|refine LF a7 I9 ?_|(apply aK;first|refine LG a7 0 LD ?_|refine LG a7 1 LD ?_|refine LG a7 2 LD ?_|refine LG a7 3 LD ?_|fail)|refine bV rfl ?_)
  exact fP (cs:=[.agg (lV (0,0))]) (f9 R rb k q) ⟨⟨_,0,_,_,rfl,rfl,.inr ⟨dR a7 rfl,rfl⟩⟩,trivial⟩ (List.sublist_cons_self ..) ⟨rfl,k,q,hk,rfl⟩
set_option maxHeartbeats 4000000 in
theorem F1 (R:RD) (h:Bi R) (rb k:Nat) (q:Option (Nat×Nat)) (hk:k≤1000001) (p:Pl) (hp:p.1≤1000000) (hp2:p.2 < 2 ^ 64):AC Tryz.prog 280 [iO rb,.agg (lV p)] (f9 R rb k q) (ph R rb (lc (jj R.rows p))):=by
 refine aP Tryz.func280 rfl Tryz.ntmps280 rfl fun B=>?_
 obtain ⟨pm,pr⟩:=p
 dsimp only at hp hp2
 have hlv:=va R h rb k q hk pm hp
 have hn64:cn (ji R.rows pm) R.rows.length < 2 ^ 64:=nC (by have:=h.few;omega)
 have hen:jj R.rows (pm,pr)=if pr=0 then 0 else pr &&& cn (ji R.rows pm) R.rows.length:=rfl
 repeat' (first|refine ae ?_|refine a6 ?_|refine a8 ?_|refine aa ?_|refine LF a7 I9 ?_|refine bo ?_|fail)
 refine ay rfl (fun h1=>?_) (fun h1=>?_)
 ·have hz:pr=0:=by have:=Ly h1;omega
  rw [if_pos hz] at hen
  rw [hen]
  repeat' (first|refine ae ?_|refine a6 ?_|refine aq ?_|refine a8 ?_|refine aC ?_|refine aa ?_|refine LF a7 I9 ?_)
  exact LM I9 ⟨rfl,k,q,hk,rfl⟩
 ·have hz:pr≠0:=by have:=Lw h1;omega
  rw [if_neg hz] at hen
  rw [hen]
  clear h1
  repeat' (first|refine ae ?_|refine au ?_|refine a8 ?_)
  refine bI 7 [(0,.v),(1,.v),(2,.v),(3,.v),(4,.v),(5,.e),(6,.v)] none ?_ trivial rfl (by kernel_rfl) (by kernel_rfl) (by kernel_rfl) mixed (by kernel_rfl) rfl
  repeat' (first|refine aF ?_|refine b9 a7 ?_|fail)
  refine lf (f9 R rb k q) [] hlv rfl rfl (by rw [List.append_nil]) trivial fun c1 L1 ⟨hc1,k1,q1,hk1,hL⟩=>?_
  subst hc1;subst hL
  repeat' (first|refine aF ?_|refine b9 a7 ?_|fail)
  refine LP [9,14] I9 ?_
  repeat' (first|fail)
  refine x6 rfl rfl rfl ?_
  rw [u64_and_nat _ _ hp2 hn64]
  repeat' (first|refine aq ?_|refine a8 ?_|refine aa ?_|refine LF a7 I9 ?_)
  exact LM I9 ⟨rfl,k1,q1,hk1,by rw [List.append_nil]⟩
set_option maxRecDepth 8000
def q8 (m r:Nat):List Int:=[m,0,0,0,0,0,0,0,r,0,0,0,0,0,0,0]
def iM (p:Pl):ByteArray:=(q8 p.1 p.2).foldl (fun r n=>r.push (UInt8.ofNat n.toNat)) ByteArray.empty
def kE (p:Pl):Prop:=p.1 < 256∧p.2 < 256
theorem xy (p:Pl):(iM p).data.toList=(q8 p.1 p.2).map fun n=>UInt8.ofNat n.toNat:=by
 unfold iM
 have:∀(l:List Int) (b:ByteArray),(l.foldl (fun r n=>r.push (UInt8.ofNat n.toNat)) b).data.toList=b.data.toList++l.map fun n=>UInt8.ofNat n.toNat:=by
  intro l
  induction l with
  | nil=>intro b;simp
  | cons x l ih=>intro b;rw [List.foldl_cons,ih];simp [ByteArray.push]
 rw [this]
 rfl
theorem E4 {a b:Nat} (ha:a < 256) (hb:b < 256) (h:UInt8.ofNat a=UInt8.ofNat b):a=b:=by
 have:=congrArg UInt8.toNat h
 simpa [UInt8.toNat_ofNat',Nat.mod_eq_of_lt ha,Nat.mod_eq_of_lt hb] using this
theorem sX {p q:Pl} (hp:kE p) (hq:kE q) (h:iM p=iM q):p=q:=by
 have hd:=congrArg (fun b=>b.data.toList) h
 simp only [xy] at hd
 unfold q8 at hd
 simp only [Ln,List.cons.injEq,Int.toNat_natCast] at hd
 exact Prod.ext (E4 hp.1 hq.1 hd.1) (E4 hp.2 hq.2 hd.2.2.2.2.2.2.2.2.1)
def ua (M:List Pl) (v:Value):Option AV:=match v with
 | .string s=>(M.findIdx? fun p=>decide (iM p=s)).map fun i=>aH (i:Nat)
 | _=>none
theorem FU:ua []=fun _=>none:=by
 funext v
 unfold ua
 split <;> rfl
section
variable {M:List Pl} (hM:∀x∈M,kE x) {p:Pl} (hp:kE p)
include hM hp
theorem vN (h:p∈M):ua M (.string (iM p))=some (aH (M.idxOf p:Nat)):=by
  have hi:=List.idxOf_lt_length_of_mem h
  have:(M.findIdx? fun x=>decide (iM x=iM p))=some (M.idxOf p):=by
    rw [List.findIdx?_eq_some_iff_getElem]
    refine ⟨hi,by simp [List.getElem_idxOf hi],fun j hj=>?_⟩
    have hne:M[j]≠p:=by
      intro e
      have:=List.not_of_lt_findIdx (p:=(·==p)) (xs:=M) hj
      rw [e] at this
      simp at this
    simp only [decide_eq_true_eq]
    exact fun e=>hne (sX (hM _ (List.getElem_mem _)) hp e)
  unfold ua
  dsimp only
  rw [this]
  rfl
theorem DO (h:p∉M):ua M (.string (iM p))=none:=by
 have:(M.findIdx? fun x=>decide (iM x=iM p))=none:=by
  rw [List.findIdx?_eq_none_iff]
  intro x hx
  rw [decide_eq_false_iff_not]
  exact fun e=>h (sX (hM x hx) hp e▸hx)
 unfold ua
 dsimp only
 rw [this]
 rfl
theorem FV (h:p∉M):ua (M++[p]) (.string (iM p))=some (aH (M.length:Nat)):=by
 rw [vN (fun x hx=>by rw [List.mem_append,List.mem_singleton] at hx;rcases hx with hx | rfl;exact hM x hx;exact hp) hp (by simp),List.idxOf_append,if_neg h,List.idxOf_cons_self,Nat.zero_add]
end
theorem AR {M:List Pl} {p:Pl}:∀v,v≠ .string (iM p)→ua (M++[p]) v=ua M v:=by
 intro v hv
 unfold ua
 split
 ·rename_i s
  have:decide (iM p=s)=false:=by rw [decide_eq_false_iff_not];exact fun e=>hv (by rw [e])
  rw [List.findIdx?_append]
  simp [this]
 ·rfl
def qa (l:List Int):List AV:=l.map fun z=> .sc (.int .u8 z)
def rm (m r i:Nat):List Int:=if i=0 then List.replicate 16 0 else q8 m r
theorem Js {m r:Nat} (hm:m < 256) (hr:r < 256) {i:Nat} (hi:i < 8):eN (eN (qa (rm m r i)) (0+i * 1) [.sc (.int .u8 (IntKind.u8.wrap ((m:Int) / 2 ^ min (8 * i) IntKind.i64.bits)))]) (0+(8+i) * 1) [.sc (.int .u8 (IntKind.u8.wrap ((r:Int) / 2 ^ min (8 * i) IntKind.u64.bits)))]=qa (rm m r (i+1)):=by
 have h0:∀z:Nat,z < 256→∀k,0 < k→k < 8→IntKind.u8.wrap ((z:Int) / 2 ^ min (8 * k) 64)=0:=by
  intro z hz k hk hk8
  have:(z:Int) / 2 ^ min (8 * k) 64=0:=by
   have e:min (8 * k) 64=8 * k:=by omega
   rw [e]
   have h1:2 ^ 8≤2 ^ (8 * k):=Nat.pow_le_pow_right (by omega) (by omega)
   have h2:z / 2 ^ (8 * k)=0:=Nat.div_eq_of_lt (by omega)
   have h3:(2:Int) ^ (8 * k)=((2 ^ (8 * k):Nat):Int):=(Int.natCast_pow 2 _).symm
   rw [h3,←Int.natCast_ediv,h2]
   rfl
  rw [this]
  decide
 have h1:∀z:Nat,z < 256→IntKind.u8.wrap ((z:Int) / 2 ^ min (8 * 0) 64)=(z:Int):=by
  intro z hz
  rw [Nat.mul_zero,Nat.zero_min,Int.pow_zero,Int.ediv_one,IntKind.wrap_u8]
  omega
 show eN (eN _ _ [.sc (.int .u8 (IntKind.u8.wrap ((m:Int) / 2 ^ min (8 * i) 64)))]) _ [.sc (.int .u8 (IntKind.u8.wrap ((r:Int) / 2 ^ min (8 * i) 64)))]=_
 match i,hi with
 | 0,_=>rw [h1 m hm,h1 r hr];rfl
 | 1,_=>rw [h0 m hm 1 (by omega) (by omega),h0 r hr 1 (by omega) (by omega)];rfl
 | 2,_=>rw [h0 m hm 2 (by omega) (by omega),h0 r hr 2 (by omega) (by omega)];rfl
 | 3,_=>rw [h0 m hm 3 (by omega) (by omega),h0 r hr 3 (by omega) (by omega)];rfl
 | 4,_=>rw [h0 m hm 4 (by omega) (by omega),h0 r hr 4 (by omega) (by omega)];rfl
 | 5,_=>rw [h0 m hm 5 (by omega) (by omega),h0 r hr 5 (by omega) (by omega)];rfl
 | 6,_=>rw [h0 m hm 6 (by omega) (by omega),h0 r hr 6 (by omega) (by omega)];rfl
 | 7,_=>rw [h0 m hm 7 (by omega) (by omega),h0 r hr 7 (by omega) (by omega)];rfl
set_option maxHeartbeats 4000000 in
theorem G1 (p:Pl) (hp:kE p):bH Tryz.prog 277 [.agg (lV p)] (.sc (.string (iM p))):=by
 refine aP Tryz.func277 rfl Tryz.ntmps277 rfl fun B=>?_
 obtain ⟨m,r⟩:=p
 obtain ⟨hm,hr⟩:=hp
 dsimp only at hm hr
 repeat' (first|refine ae ?_|refine a6 ?_|refine am ?_|refine a8 ?_|refine aa ?_|refine LF a7 I9 ?_|refine bo ?_|refine bg a7 fun _=>?_|fail)
 rename_i ab
 refine aJ [1,3] (α:=Nat) (fun i=>[(5,aH i)]) (fun i=>i≤8) (fun i=>[(ab,.box (qa (rm m r i)) 442)]) (fun i=>8 - i) 0 rfl ⟨rfl,trivial⟩ (Nat.zero_le _) (fun _ _ h=>h) fun i hi=>?_
 try dsimp only [Lp,Lo,Ln,Lh]
 repeat' (first|refine ae ?_|refine a6 ?_|refine a8 ?_|refine aa ?_|refine LF a7 I9 ?_)
 refine ay rfl (fun h1=>?_) (fun h1=>?_)
 ·have hi8:i < 8:=by have:=Ly h1;omega
  have hst:=Js hm hr hi8
  have hcl:(qa (rm m r i)).length=16:=by unfold qa rm;split <;> rfl
  clear h1
  repeat' (first|refine ae ?_|refine a6 ?_|refine am ?_|refine au ?_|refine a8 ?_|refine aa ?_|refine LF a7 I9 ?_|(apply aY;refine aX ?_)|fail)
  refine D0 (8 * i) rfl rfl (by rw [Int.natCast_mul];rfl) rfl ?_
  repeat' (first|fail)
  refine mR a7 rfl rfl rfl rfl rfl rfl ?_
  refine x5 a7 i rfl rfl rfl rfl (by omega) rfl ?_
  refine ai a7 0 rfl rfl rfl rfl rfl rfl (Nat.ble_eq_true_of_le (by rw [hcl];show 0+i * 1+1≤16;omega)) ?_
  repeat' (first|refine a6 ?_|refine a8 ?_|refine aa ?_|refine LF a7 I9 ?_|(apply aY;refine aX ?_)|fail)
  refine D0 (8 * i) rfl rfl (by rw [Int.natCast_mul];rfl) rfl ?_
  refine mR a7 rfl rfl rfl rfl rfl rfl ?_
  refine x5 a7 (8+i) rfl rfl rfl (by rw [Ls];rfl) (by omega) rfl ?_
  refine ai a7 0 rfl rfl rfl rfl rfl rfl (Nat.ble_eq_true_of_le (by rw [jy,hcl];show 0+(8+i) * 1+1≤16;omega)) ?_
  repeat' (first|refine a6 ?_|refine a8 ?_|refine aM ?_|refine aa ?_|refine LF a7 I9 ?_|(apply aY;refine aX ?_)|fail)
  exact aE (i+1) rfl ⟨by rw [Ls];rfl,trivial⟩ (by omega) (by omega) (fun _ _ h=>by rw [←hst];exact h)
 ·have hi8:i=8:=by have:=Lw h1;omega
  subst hi8
  repeat' (first|refine ae ?_|refine a6 ?_|refine aL ?_|refine a8 ?_|refine av ?_|refine aA ?_|refine aw ?_)
  refine CU a7 rfl rfl rfl ?_
  refine CS a7 0 (q8 m r) rfl rfl rfl rfl rfl rfl rfl rfl rfl ?_
  repeat' (first|refine aq ?_|refine a8 ?_|refine aa ?_|refine LF a7 I9 ?_)
  refine dW (List.nil_sublist _) ?_
  exact LK LA
end Go.Proofs.YtamjlkdanllgjaaGreatDoor
namespace Go.Proofs.YtamjlkdanllgjaaGreatDoor
open Go.RowKit
attribute [local irreducible] AT bB AX AO Av Kt ba dt DA cz
set_option maxRecDepth 8000
section
variable {P:Program} {tt:TT} {r:Option Nat} {ops:Array Oper} {Q:Exit→Act→World→Prop} {nt:Nat} {D:List Deferred} {fr:bY} {B:Bs} {L:AL} {rest:List Oper} {d:Nat} {ty t t':TypeId} {pos:String} {af:Array Edge} {x y z:Operand} {u:AV}
theorem Fo (ok:ej P tt) (n:Nat) {e sz by_:Nat} {k k':IntKind} {b:Int} {zs:List Value} (ht:kz tt t=some (e,sz,by_)) (hz:zI tt e=some zs) (hzl:Nat.beq zs.length sz=true) (hx:br fr x=some (.sc (.int k 0))) (hy:br fr y=some (.sc (.int k' b))) (hb:b=(n:Int)) (hby:by_ * n≤281474976710656) (h63:n≤9223372036854775807) (hd:Nat.ble nt d=false)
  (h:∀b,bB P r ops Q nt D rest ((d,.vec (some (b,n)) sz [])::fr) B ((b,.vec e sz 0 n)::L)):bB P r ops Q nt D (⟨some d,.makeSlice t x y,ty,pos,af,none⟩::rest) fr B L:=
 cj hd rfl (BG (bC ok ht).1 (ew ok hz) (Nat.eq_of_beq_eq_true hzl) (bC ok ht).2 hx hy hb hby h63) fun c L' ⟨b,h1,h2⟩=>by subst h1;subst h2;exact h b
end
def tL (nb kb mb:Nat) (M:List Pl) (q:Option (Nat×Nat)):AL:=(nb,.box [.sc (.map (some kb))] 196)::(kb,ca .string (ua M))::(mb,.box [.vec q 2 (M.map lV)] 375)::tok q 377 2 M.length
def Ed (nb kb mb:Nat) (M:List Pl) (u:AV):AV→AL→Prop:=fun c L=>c=u∧∃q,L=tL nb kb mb M q
set_option maxHeartbeats 4000000 in
theorem yn (nb kb mb:Nat) (M:List Pl) (hM:∀x∈M,kE x) (hl:M.length≤1000000) (q:Option (Nat×Nat)) (p:Pl) (hp:kE p):AC Tryz.prog 276 ([.agg (lV p)]++[iO nb,iO mb]) (tL nb kb mb M q) (Ed nb kb mb (ea M p) (aH ((ea M p).idxOf p:Nat))):=by
 refine aP Tryz.func276 rfl Tryz.ntmps276 rfl fun B=>?_
 haveI:=AD.mk (G1 p hp)
 have hml:(M.map lV).length=M.length:=Lr ..
 unfold tL
 repeat' (first|refine ae ?_|refine a6 ?_|refine a8 ?_|refine aa ?_|refine LF a7 I9 ?_|(apply bL;first|refine LI a7 0 LC ?_|refine LI a7 1 LC ?_|refine LI a7 2 LC ?_|refine LI a7 3 LC ?_|refine LJ a7 0 LC ?_|refine LJ a7 1 LC ?_|refine LJ a7 2 LC ?_|refine LL a7 1 LA (by assumption) rfl ?_|refine LL a7 0 LA (by assumption) rfl ?_|fail)|refine bo ?_|(apply bw;refine bi ?_)|fail)
 refine gH 1 (.int .i64 0) Tryz.underlying196 Tryz.underlying9 rfl rfl trivial rfl (by kernel_rfl) rfl ?_
 by_cases hm:p∈M
 ·have hg:=vN hM hp hm
  have ht:=fO hm
  rw [hg,ht]
  repeat' (first|refine ae ?_|refine a6 ?_|refine au ?_|refine aq ?_|refine a8 ?_|refine aa ?_|refine LF a7 I9 ?_|refine bk rfl ?_)
  exact LM I9 ⟨rfl,q,rfl⟩
 ·have hg:=DO hM hp hm
  have hpu:=FV hM hp hm
  have ht:=gq hm
  have hn:=ni hm
  rw [hg]
  repeat' (first|refine ae ?_|refine a6 ?_|refine a8 ?_|refine aa ?_|refine LF a7 I9 ?_|(apply bL;first|refine LI a7 0 LC ?_|refine LI a7 1 LC ?_|refine LI a7 2 LC ?_|refine LI a7 3 LC ?_|refine LJ a7 0 LC ?_|refine LJ a7 1 LC ?_|refine LJ a7 2 LC ?_|refine LL a7 1 LA (by assumption) rfl ?_|refine LL a7 0 LA (by assumption) rfl ?_|fail)|refine bV rfl ?_)
  refine dp 1 (ua (M++[p])) Tryz.underlying196 Tryz.underlying9 rfl rfl trivial (by rw [hml];rfl) rfl hpu AR ?_
  repeat' (first|refine a6 ?_|refine a8 ?_|refine aa ?_|refine LF a7 I9 ?_|(apply bL;first|refine LI a7 0 LC ?_|refine LI a7 1 LC ?_|refine LI a7 2 LC ?_|refine LI a7 3 LC ?_|refine LJ a7 0 LC ?_|refine LJ a7 1 LC ?_|refine LJ a7 2 LC ?_|refine LL a7 1 LA (by assumption) rfl ?_|refine LL a7 0 LA (by assumption) rfl ?_|fail)|refine bS a7 ?_|fail)
  refine bP a7 [(nb,.box [.sc (.map (some kb))] 196),(kb,ca .string (ua (M++[p]))),(mb,.box [.vec q 2 (M.map lV)] 375)] rfl rfl rfl rfl ?_ (by rw [hml];simp;omega) (by rw [hml];simp;omega) rfl fun q'=>?_
  ·rw [hml]
   exact List.perm_append_comm (l₁:=[_,_,_])
  have hsn:M.map lV++[lV p]=(M++[p]).map lV:=by rw [List.map_append];rfl
  refine aS (aR (L':=(nb,.box [.sc (.map (some kb))] 196)::(kb,ca .string (ua (M++[p])))::(mb,.box [.vec q 2 (M.map lV)] 375)::tok q' 377 2 (M.map lV++[lV p]).length) (List.perm_append_comm (l₂:=[_,_,_]))) ?_
  repeat' (first|refine ae ?_|refine a6 ?_|refine aq ?_|refine a8 ?_|refine aa ?_|refine LF a7 I9 ?_|(apply aK;first|refine LG a7 0 LD ?_|refine LG a7 1 LD ?_|refine LG a7 2 LD ?_|refine LG a7 3 LD ?_|fail))
  refine LM I9 ⟨?_,q',?_⟩
  ·rw [hml,hn]
  ·rw [ht,hsn,Lr]
   unfold tL
   rw [←hsn]
   rfl
theorem zd (r:bz):bH Tryz.prog 283 [.agg (bG r)] (.tup [.imm 1 (aZ r.Back),cQ true]):=by
 refine aP Tryz.func283 rfl Tryz.ntmps283 rfl fun B=>?_
 repeat' (first|refine ae ?_|refine a6 ?_|refine aq ?_|refine a8 ?_|refine aa ?_|refine LF a7 I9 ?_|refine bo ?_|fail)
 exact LR LB
set_option maxHeartbeats 4000000 in
theorem zK (r:bz) (h1:r.In.length≤1000000) (h2:r.Ahead.length≤1000000):bH Tryz.prog 282 [.agg (bG r)] (.tup [.imm 1 (aZ (f7 r)),cQ (!r.In.isEmpty)]):=by
 refine aP Tryz.func282 rfl Tryz.ntmps282 rfl fun B=>?_
 have hil:=cw r.In
 have hal:=cw r.Ahead
 repeat' (first|refine ae ?_|refine a6 ?_|refine a8 ?_|refine aa ?_|refine LF a7 I9 ?_|refine bo ?_|fail)
 refine ay rfl (fun h=>?_) (fun h=>?_)
 ·have hz:r.In=[]:=List.eq_nil_of_length_eq_zero (by have:=Ly h;omega)
  unfold f7
  rw [hz]
  clear h
  repeat' (first|refine ae ?_|refine a6 ?_|refine aq ?_|refine a8 ?_|refine aC ?_|refine aa ?_|refine LF a7 I9 ?_)
  refine b6 (bA (t:=2) (c':= .imm 1 []) rfl fun σ v h=>dJ 1 h) ?_
  exact LR LB
 ·have hz:r.In≠[]:=fun e=>by have:=Lw h;rw [hil,e] at this;simp at this
  have he:r.In.isEmpty=false:=by cases hr:r.In;exact absurd hr hz;rfl
  unfold f7
  rw [he]
  clear h
  repeat' (first|refine ae ?_|refine a6 ?_|refine au ?_|refine a8 ?_|refine LF a7 I9 ?_|(apply aY;refine aX ?_)|fail)
  refine Fo a7 (r.In.length+r.Ahead.length) rfl rfl rfl rfl rfl (by rw [hil,hal,Ls]) (by omega) (by omega) rfl fun b=>?_
  repeat' (first|refine ae ?_|refine a6 ?_|refine a8 ?_|refine aa ?_|refine LF a7 I9 ?_)
  refine bP a7 [] rfl rfl rfl rfl (by rw [List.append_nil];exact Ll _) (by simp;omega) (by simp;omega) rfl fun q1=>?_
  repeat' (first|refine ae ?_|refine a6 ?_|refine a8 ?_|refine aa ?_|refine LF a7 I9 ?_)
  refine bP a7 [] rfl rfl rfl rfl (Ll _) (by simp;omega) (by simp;omega) rfl fun q2=>?_
  repeat' (first|refine aq ?_|refine a8 ?_|refine aa ?_|refine LF a7 I9 ?_)
  have hra:aZ (r.In++r.Ahead)=[]++aZ r.In++aZ r.Ahead:=by simp [aZ]
  refine b6 (bA (t:=2) (c':= .imm 1 (aZ (r.In++r.Ahead))) rfl fun σ v h=>by rw [hra];exact VR.im h) ?_
  refine dW (List.nil_sublist _) ?_
  exact LR LB
end Go.Proofs.YtamjlkdanllgjaaGreatDoor
