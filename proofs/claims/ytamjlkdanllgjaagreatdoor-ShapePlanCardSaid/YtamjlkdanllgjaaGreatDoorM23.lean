/-
  The law Plan: both forms are the same.
-/
import Derived.Test.YtamjlkdanllgjaaGreatDoorM22
import Derived.Test.YtamjlkdanllgjaaGreatDoorM06
import Derived.Test.YtamjlkdanllgjaaGreatDoorM11
import Derived.Test.YtamjlkdanllgjaaGreatDoorM12
import Derived.Test.YtamjlkdanllgjaaGreatDoorM14
import Derived.Test.YtamjlkdanllgjaaGreatDoorM05
import Derived.Test.YtamjlkdanllgjaaGreatDoorM13
namespace Go.Proofs.YtamjlkdanllgjaaGreatDoor
open Go.RowKit
attribute [local irreducible] AT bF AX AO Av Kt b8 d9 DA cu
set_option maxRecDepth 8000
def ja (rs:List Int):Nat→Option Nat
 | 0=>none
 | i+1=>if dS rs i≠3 then some i else ja rs i
theorem wa (rs:List Int):∀{i a:Nat},ja rs i=some a→a < i∧dS rs a≠3
 | 0,a,h=>by cases h
 | i+1,a,h=>by
  unfold ja at h
  split at h
  ·rename_i hk
   cases h
   exact ⟨Nat.lt_succ_self _,hk⟩
  ·have:=wa rs h
   exact ⟨by omega,this.2⟩
theorem zY (rs:List Int):∀i,nL rs i=(match ja rs i with | none=>0 | some a=>dS rs a)
 | 0=>rfl
 | i+1=>by
  unfold nL ja
  split
  ·rfl
  ·exact zY rs i
def fR (rs:List Int):Nat→Nat→Option Nat
 | 0,_=>none
 | k+1,i=>if dS rs i≠3 then some i else fR rs k (i+1)
theorem wk (rs:List Int):∀k i,nR rs k i=(match fR rs k i with | none=>0 | some m=>dS rs m)
 | 0,_=>rfl
 | k+1,i=>by
  unfold nR fR
  split
  ·rfl
  ·exact wk rs k (i+1)
theorem uj (rs:List Int):∀k s,fR rs (k+1) s=(match fR rs k s with | some m=>some m | none=>if dS rs (s+k)≠3 then some (s+k) else none)
 | 0,s=>by simp [fR]
 | k+1,s=>by
  rw [fR,uj rs k (s+1),fR]
  by_cases h:dS rs s≠3
  ·rw [if_pos h,if_pos h]
  ·rw [if_neg h,if_neg h,show s+1+k=s+(k+1) by omega]
theorem ui (rs:List Int) {j:Nat} (hj:dS rs j≠3):∀d,fR rs d (j+1)=none↔ja rs (j+1+d)=some j
 | 0=>by
  rw [Nat.add_zero,ja,if_pos hj]
  exact ⟨fun _=>rfl,fun _=>rfl⟩
 | d+1=>by
  have ih:=ui rs hj d
  rw [uj,show j+1+(d+1)=(j+1+d)+1 by omega,ja]
  by_cases hk:dS rs (j+1+d)≠3
  ·rw [if_pos hk,if_pos hk]
   constructor
   ·intro h
    split at h <;> cases h
   ·intro h
    injection h with h
    omega
  ·rw [if_neg hk,if_neg hk,←ih]
   constructor
   ·intro h
    split at h
    ·cases h
    ·assumption
   ·intro h
    rw [h]
def oB (rs:List Int) (v:Int) (j:Nat):Int:=
 if dS rs j≠1∧dS rs j≠2 then 0
 else if nL rs j=2 then (if dS rs j=2∧(v=1∨v=2) then 3 else 4)
 else (if dS rs j=2∧(v=1∨v=2) then 2 else 1)
structure FI (rs:List Int) (i:Nat) (s:List Int×Option Nat):Prop where
 len:s.1.length=rs.length
 val:∀j,j < rs.length→s.1.getD j 0=if j < i then oB rs (nR rs (i - (j+1)) (j+1)) j else 0
 last:s.2=ja rs i
theorem lR {l:List Int} {i j:Nat} {v:Int} (h:i < l.length):(l.set i v).getD j 0=if i=j then v else l.getD j 0:=by
 rw [List.getD_eq_getElem?_getD,List.getD_eq_getElem?_getD]
 by_cases e:i=j
 ·subst e
  rw [List.getElem?_set_self h,if_pos rfl]
  rfl
 ·rw [List.getElem?_set_ne e,if_neg e]
theorem zZ (rs:List Int) {i j:Nat} (hj:j < i):nR rs (i+1 - (j+1)) (j+1)=if fR rs (i - (j+1)) (j+1)=none then (if dS rs i≠3 then dS rs i else 0) else nR rs (i - (j+1)) (j+1):=by
 rw [wk,wk,show i+1 - (j+1)=(i - (j+1))+1 by omega,uj,show j+1+(i - (j+1))=i by omega]
 cases fR rs (i - (j+1)) (j+1) with
 | some m=>
  show dS rs m=if (some m:Option Nat)=none then _ else dS rs m
  rw [if_neg (by simp)]
 | none=>
  show (match (if dS rs i≠3 then some i else none) with | none=>0 | some m=>dS rs m)=if (none:Option Nat)=none then _ else 0
  rw [if_pos rfl]
  by_cases h:dS rs i≠3
  ·rw [if_pos h,if_pos h]
  ·rw [if_neg h,if_neg h]
theorem Ih {rs:List Int} {i:Nat} {s:List Int×Option Nat} (h:FI rs i s) (hi:i < rs.length):FI rs (i+1) (so rs s i):=by
 obtain ⟨f,l⟩:=s
 obtain ⟨h1,h2,h3⟩:=h
 dsimp only at h1 h2 h3
 have hold:∀j,j < i→(dS rs i=3∨ja rs i≠some j)→oB rs (nR rs (i+1 - (j+1)) (j+1)) j=oB rs (nR rs (i - (j+1)) (j+1)) j:=fun j hj hc=>by
  by_cases hk:dS rs j=3
  ·unfold oB
   rw [if_pos (by omega),if_pos (by omega)]
  ·have hn:=ui rs hk (i - (j+1))
   rw [show j+1+(i - (j+1))=i by omega] at hn
   rw [zZ rs hj]
   split
   ·rename_i hf
    rcases hc with hc | hc
    ·rw [if_neg (by simpa using hc),wk,hf]
    ·exact absurd (hn.1 hf) hc
   ·rfl
 unfold so
 dsimp only
 by_cases hk3:bQ (rs.getD i 0)=3
 ·rw [if_pos hk3]
  refine ⟨h1,fun j hj=>?_,?_⟩
  ·rw [h2 j hj]
   by_cases e:j < i
   ·rw [if_pos e,if_pos (by omega),hold j e (.inl hk3)]
   ·by_cases e2:j=i
    ·subst e2
     rw [if_neg e,if_pos (by omega)]
     unfold oB
     rw [if_pos (by show bQ _≠1∧bQ _≠2;omega)]
    ·rw [if_neg e,if_neg (by omega)]
  ·show l=ja rs (i+1)
   rw [h3,ja,if_neg (show ¬dS rs i≠3 from fun h=>h hk3)]
 ·rw [if_neg hk3]
  have hlast:ja rs (i+1)=some i:=by rw [ja,if_pos hk3]
  have hf0:f.getD i 0=0:=by rw [h2 i hi,if_neg (Nat.lt_irrefl i)]
  have hnew:oB rs (nR rs (i+1 - (i+1)) (i+1)) i=if dS rs i≠1∧dS rs i≠2 then 0 else if nL rs i=2 then 4 else 1:=by
   rw [Nat.sub_self]
   unfold oB
   show (if _ then _ else if _ then (if dS rs i=2∧((0:Int)=1∨(0:Int)=2) then (3:Int) else 4) else (if dS rs i=2∧((0:Int)=1∨(0:Int)=2) then (2:Int) else 1))=_
   rw [if_neg (show ¬(dS rs i=2∧((0:Int)=1∨(0:Int)=2)) by omega),if_neg (show ¬(dS rs i=2∧((0:Int)=1∨(0:Int)=2)) by omega)]
  have hg:∀j,j < rs.length→(if bQ (rs.getD i 0)=1∨bQ (rs.getD i 0)=2 then f.set i 1 else f).getD j 0=if j=i then (if dS rs i=1∨dS rs i=2 then 1 else 0) else f.getD j 0:=fun j hj=>by
   by_cases hc:bQ (rs.getD i 0)=1∨bQ (rs.getD i 0)=2
   ·rw [if_pos hc,if_pos (show dS rs i=1∨dS rs i=2 from hc),lR (by omega)]
    by_cases e:i=j
    ·rw [if_pos e,if_pos e.symm]
    ·rw [if_neg e,if_neg (fun h=>e h.symm)]
   ·rw [if_neg hc,if_neg (show ¬(dS rs i=1∨dS rs i=2) from hc)]
    by_cases e:j=i
    ·rw [if_pos e,e,hf0]
    ·rw [if_neg e]
  have hgl:(if bQ (rs.getD i 0)=1∨bQ (rs.getD i 0)=2 then f.set i 1 else f).length=rs.length:=by split <;> simp [h1]
  generalize (if bQ (rs.getD i 0)=1∨bQ (rs.getD i 0)=2 then f.set i 1 else f)=g at *
  have hnl:=zY rs i
  rw [←h3] at hnl hold
  cases l with
  | none=>
   dsimp only at hnl ⊢
   refine ⟨hgl,fun j hj=>?_,hlast.symm⟩
   rw [hg j hj]
   by_cases e:j=i
   ·subst e
    rw [if_pos rfl,if_pos (Nat.lt_succ_self _),hnew,hnl,if_neg (show ¬(0:Int)=2 by decide)]
    by_cases hc:dS rs j=1∨dS rs j=2
    ·rw [if_pos hc,if_neg (by omega)]
    ·rw [if_neg hc,if_pos (by omega)]
   ·rw [if_neg e,h2 j hj]
    by_cases e2:j < i
    ·rw [if_pos e2,if_pos (by omega),hold j e2 (.inr (by simp))]
    ·rw [if_neg e2,if_neg (by omega)]
  | some a=>
   obtain ⟨ha,hka⟩:=wa rs h3.symm
   dsimp only at hnl ⊢
   have hn:=(ui rs hka (i - (a+1))).2 (by rw [show a+1+(i - (a+1))=i by omega];exact h3.symm)
   have hR:nR rs (i+1 - (a+1)) (a+1)=dS rs i:=by rw [zZ rs ha,if_pos hn,if_pos hk3]
   have hR0:nR rs (i - (a+1)) (a+1)=0:=by rw [wk,hn]
   have hja:nA rs g a i=if dS rs a=2∧(dS rs i=1∨dS rs i=2) then (g.set i 4).set a (if (g.set i 4).getD a 0=4 then 3 else 2) else g:=rfl
   have hga:g.getD a 0=oB rs 0 a:=by rw [hg a (by omega),if_neg (by omega),h2 a (by omega),if_pos ha,hR0]
   refine ⟨by rw [w8];exact hgl,fun j hj=>?_,hlast.symm⟩
   rw [hja]
   by_cases hc:dS rs a=2∧(dS rs i=1∨dS rs i=2)
   ·rw [if_pos hc,lR (by rw [List.length_set];omega),lR (by omega),lR (by omega),if_neg (show ¬i=a by omega),hga]
    by_cases e:a=j
    ·subst e
     have d0:oB rs 0 a=if nL rs a=2 then 4 else 1:=by
      unfold oB
      rw [if_neg (show ¬(dS rs a≠1∧dS rs a≠2) by omega),if_neg (show ¬(dS rs a=2∧((0:Int)=1∨(0:Int)=2)) by omega),if_neg (show ¬(dS rs a=2∧((0:Int)=1∨(0:Int)=2)) by omega)]
     have dK:oB rs (dS rs i) a=if nL rs a=2 then 3 else 2:=by
      unfold oB
      rw [if_neg (show ¬(dS rs a≠1∧dS rs a≠2) by omega),if_pos hc,if_pos hc]
     rw [if_pos rfl,if_pos (show a < i+1 by omega),hR,d0,dK]
     by_cases h2:nL rs a=2
     ·rw [if_pos h2,if_pos h2];rfl
     ·rw [if_neg h2,if_neg h2];rfl
    ·rw [if_neg e]
     by_cases e2:i=j
     ·subst e2
      rw [if_pos rfl,if_pos (Nat.lt_succ_self _),hnew,if_neg (show ¬(dS rs i≠1∧dS rs i≠2) by omega),hnl,if_pos hc.1]
     ·rw [if_neg e2,hg j hj,if_neg (fun h=>e2 h.symm),h2 j hj]
      by_cases e3:j < i
      ·rw [if_pos e3,if_pos (by omega),hold j e3 (.inr fun h=>e (by injection h))]
      ·rw [if_neg e3,if_neg (by omega)]
   ·rw [if_neg hc,hg j hj]
    by_cases e2:j=i
    ·subst e2
     rw [if_pos rfl,if_pos (Nat.lt_succ_self _),hnew,hnl]
     by_cases h1:dS rs j=1∨dS rs j=2
     ·rw [if_pos h1,if_neg (by omega),if_neg (by omega)]
     ·rw [if_neg h1,if_pos (by omega)]
    ·rw [if_neg e2,h2 j hj]
     by_cases e3:j < i
     ·rw [if_pos e3,if_pos (by omega)]
      by_cases e:a=j
      ·subst e
       rw [hR,hR0]
       unfold oB
       rw [if_neg (show ¬(dS rs a=2∧((0:Int)=1∨(0:Int)=2)) by omega),if_neg (show ¬(dS rs a=2∧((0:Int)=1∨(0:Int)=2)) by omega),if_neg hc,if_neg hc]
      ·rw [hold j e3 (.inr fun h=>e (by injection h))]
     ·rw [if_neg e3,if_neg (by omega)]
theorem IQ (rs:List Int):∀i,i≤rs.length→FI rs i (fp rs i)
 | 0,_=>⟨by simp [fp],fun j hj=>by
  rw [if_neg (Nat.not_lt_zero _),List.getD_eq_getElem?_getD]
  simp [fp,hj],rfl⟩
 | i+1,h=>by
  rw [lj]
  exact Ih (IQ rs i (by omega)) h
theorem xU (rs:List Int):(List.range rs.length).map (iN rs)=iO rs:=by
 obtain ⟨h1,h2,_⟩:=IQ rs rs.length (Nat.le_refl _)
 refine List.ext_getElem? fun j=>?_
 by_cases hj:j < rs.length
 ·have h3:=h2 j hj
  rw [if_pos hj] at h3
  rw [List.getElem?_map,List.getElem?_range hj]
  show some (iN rs j)=(fp rs rs.length).1[j]?
  rw [Oz (by omega)]
  rw [List.getD_eq_getElem?_getD,Oz (by omega)] at h3
  exact congrArg some h3.symm
 ·rw [List.getElem?_eq_none (by simpa using hj),List.getElem?_eq_none (by show (iO rs).length≤j;rw [oK];omega)]
set_option maxRecDepth 8000
def nc (rs:List Int) (i k:Nat):Nat:=((List.range k).filter fun j=>decide (j≠i) && mt rs j i).length
theorem Bm (rs:List Int) (i k:Nat):nc rs i (k+1)=nc rs i k+if k≠i∧mt rs k i=true then 1 else 0:=by
 unfold nc
 rw [List.range_succ,List.filter_append,List.length_append,List.filter_cons]
 by_cases h:k≠i∧mt rs k i=true
 ·rw [if_pos h,if_pos (by simp [h.1,h.2])]
  rfl
 ·rw [if_neg h,if_neg (by simpa using fun h1 h2=>h ⟨h1,h2⟩)]
  rfl
theorem GJ (rs:List Int) (i k:Nat):nc rs i k≤k:=by
 unfold nc
 have:=List.length_filter_le (fun j=>decide (j≠i) && mt rs j i) (List.range k)
 rwa [List.length_range] at this
theorem GK (rs:List Int) {i k:Nat} (h:i < k):nc rs i k < k:=by
 unfold nc
 have:=(List.length_filter_lt_length_iff_exists (p:=fun j=>decide (j≠i) && mt rs j i) (l:=List.range k)).2 ⟨i,List.mem_range.2 h,by simp⟩
 rwa [List.length_range] at this
def hZ (rs:List Int):Nat→List Nat
 | 0=>List.replicate rs.length 0
 | i+1=>(hZ rs i).set (nc rs i rs.length) i
theorem lY (rs:List Int):∀i,(hZ rs i).length=rs.length
 | 0=>by simp [hZ]
 | i+1=>by rw [hZ,List.length_set,lY rs i]
set_option maxHeartbeats 8000000 in
theorem wy (rs:List Int) (hr:rs.length≤1000000):bH Tryz.prog 35 [.imm 1 (aL rs)] (.imm 1 (aL ((hZ rs rs.length).map fun (n:Nat)=>(n:Int)))):=by
 refine aQ Tryz.func35 rfl Tryz.ntmps35 rfl fun B=>?_
 have hil:=aP rs
 refine W01 ?_
 refine ej a7 rs.length rfl rfl rfl rfl rfl (by rw [hil]) (by rw [hil]) (by omega) (by omega) rfl fun b0=>?_
 refine W03 ?_
 have hz:(List.replicate rs.length (([Value.int .i64 0]:List Value).map AV.sc)).flatten=di (hZ rs 0):=by
  simp [di,hZ]
 refine aJ [0,3] (α:=Nat) (fun i=>[(4,aG i)]) (fun i=>i≤rs.length) (fun i=>[(b0,.box (di (hZ rs i)) 3)]) (fun i=>rs.length - i) 0 rfl ⟨rfl,trivial⟩ (Nat.zero_le _) (fun _ _ h=>by rw [←hz];exact h) fun i hi=>?_
 have hol:=lY rs i
 try dsimp only [Oq,Oo,Om,Oh]
 refine W01 ?_
 refine aw rfl (fun h=>?_) (fun h=>?_)
 ·have hil2:i < rs.length:=by have:=Oy h;omega
  clear h
  refine W03 ?_
  refine aJ [0,3,4] (α:=Nat) (fun k=>[(5,aG (nc rs i k)),(6,aG k)]) (fun k=>k≤rs.length) (fun _=>[(b0,.box (di (hZ rs i)) 3)]) (fun k=>rs.length - k) 0 rfl ⟨rfl,rfl,trivial⟩ (Nat.zero_le _) (fun _ _ h=>h) fun k hk=>?_
  try dsimp only [Oq,Oo,Om,Oh]
  refine W01 ?_
  refine aw rfl (fun h=>?_) (fun h=>?_)
  ·have hkl:k < rs.length:=by have:=Oy h;omega
   have hs:=Bm rs i k
   have hcl:=GJ rs i k
   haveI i0:=AD.mk (vt rs k i hkl hil2 hr)
   clear h
   generalize mt rs k i=p at *
   generalize nc rs i k=n at *
   refine W03 ?_
   refine cH [0,3,4,5,6] (k≠i∧p=true) rfl (fun Q' K=>?_) (fun hC=>?_) (fun hC=>?_)
   ·repeat' (first|refine O1 ?_|refine OE a7 KN ?_|refine ON KN ?_|refine OP OA ?_|(apply bg;refine b9 ?_)|refine OR NZ (fun _=>?_) (fun _=>?_))
    all_goals exact K _ _ rfl rfl (by clear K i0 hs;simp_all <;> omega)
   ·rw [if_pos hC] at hs
    refine W02 ?_
    exact aD (k+1) rfl ⟨by rw [hs,Ov];rfl,by rw [Ov];rfl,trivial⟩ hkl (by omega) (fun _ _ h=>h)
   ·rw [if_neg hC,Nat.add_zero] at hs
    refine W02 ?_
    exact aD (k+1) rfl ⟨by rw [hs];rfl,by rw [Ov];rfl,trivial⟩ hkl (by omega) (fun _ _ h=>h)
  ·have hkl:k=rs.length:=by have:=Ox h;omega
   subst hkl
   clear h
   have hlt:=GK rs hil2
   have hsucc:hZ rs (i+1)=(hZ rs i).set (nc rs i rs.length) i:=rfl
   generalize nc rs i rs.length=n at *
   refine W0o ?_
   refine gt a7 0 n rfl rfl (by show 0+((n:Nat):Int).toNat * 1=n;rw [Int.toNat_natCast];omega) rfl rfl rfl (by rw [dM];omega) ?_
   rw [wt,←hsucc]
   refine W02 ?_
   exact aD (i+1) rfl ⟨by rw [Ov];rfl,trivial⟩ hil2 (by omega) (fun _ _ h=>h)
 ·have hil2:i=rs.length:=by have:=Ox h;omega
  subst hil2
  clear h
  refine W01 ?_
  refine b7 (AG (t:=2) (o:=hZ rs rs.length) (cs:=di (hZ rs rs.length)) 0 (by rw [dM,hol];rfl) rfl ⟨by rw [List.take_of_length_le (by rw [dM];omega)],by rw [dM];omega⟩ (by rw [dM,hol];unfold maxLen;omega)) ?_
  exact OL NZ
set_option maxRecDepth 8000
theorem vr {rs:List Int} {a b:Nat} (h1:mt rs a b=true) (h2:mt rs b a=true):False:=by
 unfold mt at h1 h2
 by_cases e1:cD rs a=cD rs b
 ·rw [if_neg (fun h=>h e1)] at h1
  rw [if_neg (fun h=>h e1.symm)] at h2
  by_cases e2:gD rs a=gD rs b
  ·rw [if_neg (fun h=>h e2)] at h1
   rw [if_neg (fun h=>h e2.symm)] at h2
   by_cases e3:dS rs a=3 <;> by_cases e4:dS rs b=3 <;> simp only [e3,e4,decide_true,decide_false,ne_eq,not_true,not_false_iff,if_true,if_false,Bool.true_eq_false,Bool.false_eq_true,not_false_eq_true,not_true_eq_false] at h1 h2
   all_goals
    by_cases e5:dp (rs.getD a 0)=dp (rs.getD b 0)
    ·rw [if_neg (fun h=>h e5)] at h1
     rw [if_neg (fun h=>h e5.symm)] at h2
     have:=Oy h1
     have:=Oy h2
     omega
    ·rw [if_pos e5] at h1
     rw [if_pos (fun h=>e5 h.symm)] at h2
     have:=Oy h1
     have:=Oy h2
     omega
  ·rw [if_pos e2] at h1
   rw [if_pos (fun h=>e2 h.symm)] at h2
   by_cases e3:gD rs a=cD rs a
   ·rw [if_pos e3] at h1;cases h1
   ·by_cases e4:gD rs b=cD rs b
    ·rw [if_pos e4] at h2;cases h2
    ·rw [if_neg e3,Bool.or_eq_true,decide_eq_true_eq,decide_eq_true_eq] at h1
     rw [if_neg e4,Bool.or_eq_true,decide_eq_true_eq,decide_eq_true_eq] at h2
     omega
 ·rw [if_pos e1] at h1
  rw [if_pos (fun h=>e1 h.symm)] at h2
  have:=Oy h1
  have:=Oy h2
  omega
theorem GL {rs:List Int} {P:List Nat} (hp:P.Perm (List.range rs.length)) (hs:P.Pairwise fun a b=>mt rs a b=true) {m x:Nat} (hx:P[m]?=some x):nc rs x rs.length=m:=by
 have hm:=(Ol hx).1
 have hd:P=P.take m++x::P.drop (m+1):=by
  have:=List.drop_eq_getElem_cons hm
  rw [(Ol hx).2] at this
  rw [←this,List.take_append_drop]
 unfold nc
 rw [((hp.symm).filter _).length_eq]
 rw [hd] at hs
 obtain ⟨_,s2,s3⟩:=List.pairwise_append.1 hs
 obtain ⟨s4,_⟩:=List.pairwise_cons.1 s2
 have hirr:∀y,mt rs y y=true→False:=fun y h=>vr h h
 have h1:(P.take m).filter (fun j=>decide (j≠x) && mt rs j x)=P.take m:=by
  rw [List.filter_eq_self]
  intro y hy
  have h:=s3 y hy x (List.mem_cons_self ..)
  rw [h,Bool.and_true,decide_eq_true_eq]
  rintro rfl
  exact hirr _ h
 have h2:(x::P.drop (m+1)).filter (fun j=>decide (j≠x) && mt rs j x)=[]:=by
  rw [List.filter_eq_nil_iff]
  intro y hy hc
  rw [Bool.and_eq_true,decide_eq_true_eq] at hc
  rcases List.mem_cons.1 hy with rfl | hy
  ·exact hc.1 rfl
  ·exact vr (s4 y hy) hc.2
 conv=>lhs;rw [hd]
 rw [List.filter_append,h1,h2,List.append_nil,List.length_take]
 omega
theorem Kn {rs:List Int} {P:List Nat} (hp:P.Perm (List.range rs.length)) (hs:P.Pairwise fun a b=>mt rs a b=true):hZ rs rs.length=P:=by
 have hl:P.length=rs.length:=by rw [hp.length_eq,List.length_range]
 have key:∀i,i≤rs.length→∀(m x:Nat),P[m]?=some x→x < i→(hZ rs i)[m]?=some x:=by
  intro i
  induction i with
  | zero=>intro _ m x _ h;omega
  | succ i ih=>
   intro hi m x hx hlt
   have hm:=(Ol hx).1
   have hmem:i∈P:=hp.mem_iff.2 (List.mem_range.2 (by omega))
   obtain ⟨q,hq⟩:=List.mem_iff_getElem?.1 hmem
   have hql:=(Ol hq).1
   rw [hZ,GL hp hs hq]
   by_cases e:x=i
   ·subst e
    have hnd:P.Nodup:=hp.nodup_iff.2 List.nodup_range
    have hqm:q=m:=(List.getElem?_inj hql hnd).1 (hq.trans hx.symm)
    rw [hqm,List.getElem?_set_self (by rw [lY];omega)]
   ·rw [List.getElem?_set_ne (fun e2=>by
     subst e2
     rw [hq] at hx
     injection hx with hx
     exact e hx.symm)]
    exact ih (by omega) m x hx (by omega)
 refine List.ext_getElem? fun m=>?_
 by_cases hm:m < rs.length
 ·obtain ⟨x,hx⟩:∃x,P[m]?=some x:=⟨_,Oz (by omega)⟩
  rw [hx]
  exact key rs.length (Nat.le_refl _) m x hx (List.mem_range.1 (hp.mem_iff.1 (Ow hx)))
 ·rw [List.getElem?_eq_none (by rw [lY];omega),List.getElem?_eq_none (by omega)]
structure Gb (rs:List Int) (g:Nat×Nat):Prop where
 lt:g.1 < g.2
 marks:∀p,g.1 < p→p < g.2→dS rs p=3
 first:g.1=0∨dS rs g.1≠3
theorem y7 (rs:List Int):∀(k a i:Nat),a≤i→(∀p,a < p→p < i→dS rs p=3)→(a=0∨dS rs a≠3)→(a=i→i=0)→∀g∈kQ rs k a i,Gb rs g
 | 0,a,i,h,h1,h2,h3,g,hg=>by
  unfold kQ at hg
  split at hg
  ·rw [Oi hg]
   exact ⟨by assumption,h1,h2⟩
  ·cases hg
 | k+1,a,i,h,h1,h2,h3,g,hg=>by
  unfold kQ at hg
  split at hg
  ·rename_i hc
   refine y7 rs k a (i+1) (by omega) (fun p hp hp2=>?_) h2 (by omega) g hg
   rcases Nat.lt_or_eq_of_le (Nat.le_of_lt_succ hp2) with e | rfl
   ·exact h1 p hp e
   ·exact hc.resolve_left (by omega)
  ·rename_i hc
   rcases List.mem_cons.1 hg with rfl | hg
   ·exact ⟨by show a < i;omega,h1,h2⟩
   ·exact y7 rs k i (i+1) (by omega) (fun p hp hp2=>by omega) (.inr fun e=>hc (.inr e)) (by omega) g hg
theorem BM (rs:List Int):∀g∈dJ rs,Gb rs g:=y7 rs rs.length 0 0 (Nat.le_refl _) (fun p h1 h2=>by omega) (.inl rfl) (fun _=>rfl)
theorem Eg {rs:List Int} {a:Nat} (h:a=0∨dS rs a≠3):gD rs a=a:=by
 cases a with
 | zero=>rfl
 | succ a=>rw [gD,if_neg (h.resolve_left (by omega))]
theorem IP {rs:List Int} {g:Nat×Nat} (h:Gb rs g):∀d,g.1+d < g.2→gD rs (g.1+d)=g.1
 | 0,_=>Eg h.first
 | d+1,hd=>by
  rw [show g.1+(d+1)=(g.1+d)+1 by omega,gD,if_pos (h.marks _ (by omega) (by omega))]
  exact IP h d (by omega)
theorem tp {rs:List Int} {g:Nat×Nat} (h:Gb rs g) {p:Nat} (h1:g.1≤p) (h2:p < g.2):gD rs p=g.1:=by
 have:=IP h (p - g.1) (by omega)
 rwa [show g.1+(p - g.1)=p by omega] at this
theorem DO (rs:List Int) (p:Nat):cD rs p≤p:=by
 have h1:=ru rs p
 have h2:=JP rs (gD rs p)
 unfold cD
 split <;> omega
theorem Gr {rs:List Int} {a b:Nat} (h1:gD rs a=gD rs b) (h2:dS rs a=3) (h3:dS rs b=3) (h:lx (gF rs) a b):mt rs a b=true:=by
 have hc:cD rs a=cD rs b:=by unfold cD;rw [h1]
 unfold mt
 rw [if_neg (fun e=>e hc),if_neg (fun e=>e h1),if_neg (by rw [h2,h3];simp)]
 have hl:dp (rs.getD a 0)=gF rs a:=rfl
 have hr:dp (rs.getD b 0)=gF rs b:=rfl
 rw [hl,hr]
 unfold lx at h
 by_cases e:gF rs a=gF rs b
 ·rw [if_neg (fun h=>h e)]
  exact decide_eq_true (by omega)
 ·rw [if_pos e]
  exact decide_eq_true (by omega)
theorem Dk {rs:List Int} {a b:Nat} (h1:gD rs a=gD rs b) (h2:dS rs a≠3) (h3:dS rs b=3):mt rs a b=true:=by
 have hc:cD rs a=cD rs b:=by unfold cD;rw [h1]
 unfold mt
 rw [if_neg (fun e=>e hc),if_neg (fun e=>e h1),if_pos (by rw [decide_eq_false h2,decide_eq_true h3];simp)]
 exact decide_eq_true h3
theorem kA {rs:List Int} {g:Nat×Nat} (h:Gb rs g):(cq rs g).Pairwise fun a b=>mt rs a b=true:=by
 have hst:∀s n,g.1≤s→s+n≤g.2→(∀p,s≤p→p < s+n→dS rs p=3)→(dh (gF rs) (List.range' s n)).Pairwise fun a b=>mt rs a b=true:=fun s n h1 h2 h3=>by
  have hl:mp (gF rs) (dh (gF rs) (List.range' s n)):=o0 (List.pairwise_lt_range' ..)
  refine List.Pairwise.imp_of_mem (fun {a b} ha hb hab=>?_) hl
  have ka:=List.mem_range'_1.1 ((dy _ _).mem_iff.1 ha)
  have kb:=List.mem_range'_1.1 ((dy _ _).mem_iff.1 hb)
  exact Gr (by rw [tp h (by omega) (by omega),tp h (by omega) (by omega)]) (h3 a (by omega) (by omega)) (h3 b (by omega) (by omega)) hab
 unfold cq
 have hlt:=h.lt
 split
 ·rename_i hc
  refine List.pairwise_cons.2 ⟨fun b hb=>?_,hst _ _ (by omega) (by omega) (fun p h1 h2=>h.marks p (by omega) (by omega))⟩
  have kb:=List.mem_range'_1.1 ((dy _ _).mem_iff.1 hb)
  exact Dk (by rw [tp h (Nat.le_refl _) hlt,tp h (by omega) (by omega)]) hc.2 (h.marks b (by omega) (by omega))
 ·rename_i hc
  have hk:dS rs g.1=3:=Decidable.byContradiction fun e=>hc ⟨hlt,e⟩
  exact hst _ _ (Nat.le_refl _) (by omega) fun p h1 h2=>by
   rcases Nat.lt_or_eq_of_le h1 with e | rfl
   ·exact h.marks p e (by omega)
   ·exact hk
set_option maxRecDepth 8000
def MA (rs:List Int) (g:Nat×Nat) (c:Nat):Prop:=∀p,g.1≤p→p < g.2→cD rs p=c∧gD rs p=g.1
theorem IJ {rs:List Int} {g:Nat×Nat} (h:Gb rs g):MA rs g (if dS rs (sG rs g.1)=4 then sG rs g.1 else g.1):=fun p h1 h2=>by
 have hg:=tp h h1 h2
 exact ⟨by unfold cD;rw [hg],hg⟩
theorem ql {rs:List Int} {c:Nat} (h:dS rs c≠5):sG rs c=c:=by rw [sG,if_neg fun e=>h e.2]
structure OI (rs:List Int) (a:Nat) (s:List Nat×(Nat×Nat)):Prop where
 perm:(s.1++List.range' s.2.1 (s.2.2 - s.2.1)).Perm (List.range a)
 ord:s.1.Pairwise fun a b=>mt rs a b=true
 wait:(s.2.2≤s.2.1)∨(Gb rs s.2∧dS rs s.2.1=4∧s.2.2≤a∧∀p∈s.1,cD rs p < s.2.1∨(cD rs p=s.2.1∧gD rs p≠s.2.1))
 back:0 < a→(s.2.2≤s.2.1→dS rs (sG rs (gD rs (a - 1)))≠4)∧(s.2.1 < s.2.2→sG rs (gD rs (a - 1))=s.2.1)
section
variable {rs:List Int}
theorem lN {a b:Nat} (h:cD rs a < cD rs b):mt rs a b=true:=by
 unfold mt
 rw [if_pos (by omega)]
 exact decide_eq_true h
theorem Gq {a b:Nat} (h1:cD rs a=cD rs b) (h2:gD rs a≠cD rs a) (h3:gD rs b=cD rs a):mt rs a b=true:=by
 unfold mt
 rw [if_neg (fun e=>e h1),if_pos (by omega),if_neg h2,decide_eq_true h3,Bool.true_or]
theorem Dl {a b:Nat} (h1:cD rs a=cD rs b) (h2:gD rs a≠cD rs a) (h3:gD rs a < gD rs b):mt rs a b=true:=by
 unfold mt
 rw [if_neg (fun e=>e h1),if_pos (by omega),if_neg h2,decide_eq_true h3,Bool.or_true]
theorem OI.lt {a:Nat} {s:List Nat×(Nat×Nat)} (h:OI rs a s):∀p∈s.1,p < a:=fun p hp=>by
 have:=h.perm.mem_iff.1 (List.mem_append_left _ hp)
 exact List.mem_range.1 this
theorem jD {g:Nat×Nat} {p:Nat} (h:p∈cq rs g):g.1≤p∧p < g.2:=kz h
theorem yx {g:Nat×Nat} (h:g.2≤g.1):cq rs g=[]:=List.eq_nil_of_length_eq_zero (by rw [eE];omega)
theorem OI.flush {a:Nat} {s:List Nat×(Nat×Nat)} (h:OI rs a s):(s.1++cq rs s.2).Perm (List.range a)∧(s.1++cq rs s.2).Pairwise fun a b=>mt rs a b=true:=by
 refine ⟨((gc rs s.2).append_left _).trans h.perm,?_⟩
 rcases h.wait with hw | ⟨hw,hk,_,hc⟩
 ·rw [yx hw,List.append_nil]
  exact h.ord
 ·refine List.pairwise_append.2 ⟨h.ord,kA hw,fun p hp q hq=>?_⟩
  obtain ⟨q1,q2⟩:=jD hq
  have hcl:=IJ hw q q1 q2
  rw [ql (by omega),if_pos hk] at hcl
  rcases hc p hp with h1 | ⟨h1,h2⟩
  ·exact lN (by omega)
  ·exact Gq (by omega) (by omega) (by omega)
theorem m5 (a e:Nat) (h:a≤e):List.range a++List.range' a (e - a)=List.range e:=by
 rw [List.range_eq_range',List.range_eq_range']
 have:=List.range'_append (s:=0) (m:=a) (n:=e - a) (step:=1)
 rw [Nat.zero_add,Nat.one_mul,show a+(e - a)=e by omega] at this
 exact this
theorem Ii {a:Nat} {s:List Nat×(Nat×Nat)} {g:Nat×Nat} (h:OI rs a s) (h1:g.1=a) (hg:Gb rs g):OI rs g.2 (lD rs s g):=by
 have hlt:=hg.lt
 have hflush:=h.flush
 have hcl:=IJ hg
 have hlast:gD rs (g.2 - 1)=g.1:=tp hg (by omega) (by omega)
 have hold:∀p∈s.1++cq rs s.2,p < g.1:=fun p hp=>by
  have:=List.mem_range.1 (hflush.1.mem_iff.1 hp)
  omega
 unfold lD
 dsimp only
 have hkd:bQ (rs.getD g.1 0)=dS rs g.1:=rfl
 rw [hkd]
 by_cases k5:dS rs g.1=5
 ·rw [if_pos k5,if_neg (by omega)]
  rcases h.wait with hw | ⟨hw,hk,hwa,hc⟩
  ·have hng:dS rs (sG rs g.1)≠4:=by
    rcases Nat.eq_zero_or_pos g.1 with e | e
    ·rw [sG,if_neg (by omega)];omega
    ·rw [sG,if_pos ⟨e,k5⟩,h1]
     exact (h.back (by omega)).1 hw
   rw [if_neg hng] at hcl
   refine ⟨?_,List.pairwise_append.2 ⟨h.ord,kA hg,fun p hp q hq=>?_⟩,.inl hw,fun _=>⟨fun _=>?_,fun e=>by dsimp only at e;omega⟩⟩
   ·dsimp only
    rw [show s.2.2 - s.2.1=0 by omega]
    have hp:=h.perm
    rw [show s.2.2 - s.2.1=0 by omega] at hp
    have h0:List.range' s.2.1 0=[]:=rfl
    rw [h0,List.append_nil] at hp ⊢
    refine (hp.append (gc rs g)).trans ?_
    rw [h1,m5 a g.2 (by omega)]
   ·obtain ⟨q1,q2⟩:=jD hq
    have:=(hcl q q1 q2).1
    have:=DO rs p
    have:=h.lt p hp
    exact lN (by omega)
   ·rw [hlast];exact hng
  ·have hc5:sG rs g.1=s.2.1:=by
    have:=hw.lt
    rw [sG,if_pos ⟨by omega,k5⟩,h1]
    exact (h.back (by omega)).2 hw.lt
   rw [hc5,if_pos hk] at hcl
   have hwlt:=hw.lt
   refine ⟨?_,List.pairwise_append.2 ⟨h.ord,kA hg,fun p hp q hq=>?_⟩,.inr ⟨hw,hk,by dsimp only;omega,fun p hp=>?_⟩,fun _=>⟨fun e=>by dsimp only at e;omega,fun _=>by rw [hlast,hc5]⟩⟩
   ·dsimp only
    rw [List.append_assoc]
    refine (List.perm_append_comm.append_left _).trans ?_
    rw [←List.append_assoc]
    refine (h.perm.append (gc rs g)).trans ?_
    rw [h1,m5 a g.2 (by omega)]
   ·obtain ⟨q1,q2⟩:=jD hq
    have hq:=hcl q q1 q2
    have hpa:=h.lt p hp
    have:=ru rs p
    rcases hc p hp with h1 | ⟨h1,h2⟩
    ·exact lN (by omega)
    ·exact Dl (by omega) (by omega) (by omega)
   ·rcases Oj hp with hp | hp
    ·exact hc p hp
    ·obtain ⟨q1,q2⟩:=jD hp
     have hq:=hcl p q1 q2
     exact .inr ⟨hq.1,by dsimp only;omega⟩
 ·rw [if_neg k5]
  rw [ql k5] at hcl
  have hcl2:∀p,g.1≤p→p < g.2→cD rs p=g.1∧gD rs p=g.1:=fun p p1 p2=>by
   have:=hcl p p1 p2
   rw [show (if dS rs g.1=4 then g.1 else g.1)=g.1 by split <;> rfl] at this
   exact this
  by_cases k4:dS rs g.1=4
  ·rw [if_pos k4]
   refine ⟨?_,hflush.2,.inr ⟨hg,k4,Nat.le_refl _,fun p hp=> .inl ?_⟩,fun _=>⟨fun e=>by dsimp only at e;omega,fun _=>by rw [hlast,ql k5]⟩⟩
   ·dsimp only
    refine (hflush.1.append_right _).trans ?_
    rw [h1,m5 a g.2 (by omega)]
   ·have:=hold p hp
    have:=DO rs p
    dsimp only
    omega
  ·rw [if_neg k4]
   refine ⟨?_,List.pairwise_append.2 ⟨hflush.2,kA hg,fun p hp q hq=>?_⟩,.inl (Nat.le_refl _),fun _=>⟨fun _=>by rw [hlast,ql k5];exact k4,fun e=>by dsimp only at e;omega⟩⟩
   ·dsimp only
    rw [show List.range' 0 (0 - 0)=[] from rfl,List.append_nil]
    refine (hflush.1.append (gc rs g)).trans ?_
    rw [h1,m5 a g.2 (by omega)]
   ·obtain ⟨q1,q2⟩:=jD hq
    have:=(hcl2 q q1 q2).1
    have:=hold p hp
    have:=DO rs p
    exact lN (by omega)
theorem zF {n:Nat}:∀{l:List (Nat×Nat)} {a:Nat} {s:List Nat×(Nat×Nat)},OI rs a s→Iy a l n→(∀g∈l,Gb rs g)→OI rs n (l.foldl (lD rs) s)
 | [],a,s,h,hc,_=>by cases hc;exact h
 | g::r,a,s,h,hc,hg=>by
  rw [List.foldl_cons]
  exact zF (Ii h hc.1 (hg g (List.mem_cons_self ..))) hc.2.2 fun x hx=>hg x (Ot _ hx)
theorem yu:hZ rs rs.length=dq rs:=by
 have h0:OI rs 0 ([],(0,0)):=⟨Ok _,List.Pairwise.nil,.inl (Nat.le_refl _),fun h=>by omega⟩
 have:=(zF h0 (fE rs) (BM rs)).flush
 exact Kn this.1 this.2
end
end Go.Proofs.YtamjlkdanllgjaaGreatDoor
namespace Go.Proofs.YtamjlkdanllgjaaGreatDoor
open Go.RowKit
section
variable {P:Program} {tt:TT} {r:Option Nat} {ops:Array Oper} {Q:Exit→Act→World→Prop} {nt:Nat} {D:List Deferred} {fr:bZ} {B:Bs} {L:AL} {rest:List Oper}
variable {d:Nat} {ty t:TypeId} {pos:String} {af:Array Edge} {x y:Operand} {u:AV}
theorem yn (kd:TypeDesc) {k:IntKind} {a:Int} {kt et:Nat} (ht:P.underlying t=some (.map kt et)) (hx:bw fr x=some (.sc (.int k a))) (h:∀b,bF P r ops Q nt D rest ((d,.sc (.map (some b)))::fr) B ((b,ci kd fun _=>none)::L)) (hd:Nat.ble nt d=false:=by rfl):bF P r ops Q nt D (⟨some d,.makeMap t (some x),ty,pos,af,none⟩::rest) fr B L:=by
 refine cn (R:=fun c L'=>∃b,c= .sc (.map (some b))∧L'=(b,ci kd fun _=>none)::L) hd rfl (fun σ ρ w hρ hw=>?_) fun c L' ⟨b,h1,h2⟩=>by subst h1;subst h2;exact h b
 have hr:(execOp ρ ⟨some d,.makeMap t (some x),ty,pos,af,none⟩).run P w= .ok (.value (.map (some w.heap.size))) (w.alloc (.map #[] 0)):=by
  simp [execOp,Instr.makeMap,(hρ x _ hx).sc_inv,run_underlying ht,asInt,asIntOf]
 unfold i8
 rw [hr]
 exact ⟨σ,_,_,cm.le_refl _,.sc _,hw.alloc _ (ci kd fun _=>Option.none) ⟨#[],0,rfl,by simp,by simp,by simp⟩,_,rfl,rfl⟩
end
end Go.Proofs.YtamjlkdanllgjaaGreatDoor
namespace Go.Proofs.YtamjlkdanllgjaaGreatDoor
open Go.RowKit
attribute [local irreducible] AT bF AX AO Av Kt b8 d9 DA cu
set_option maxRecDepth 8000
def rx (cs:List dt) (r:Int):Int:=((cs.find? fun c=>decide (c.Rune=r)).map dt.Glyph).getD 0
def vX (cs:List dt):Value→Option AV
 | .int .i64 r=>(cs.find? fun c=>decide (c.Rune=r)).map fun c=>aG c.Glyph
 | _=>none
theorem K2 (cs:List dt) (r:Int):(vX cs (.int .i64 r)).getD (.sc (.int .i64 0))=aG (rx cs r):=by
 show ((cs.find? fun c=>decide (c.Rune=r)).map fun c=>aG c.Glyph).getD (.sc (.int .i64 0))=aG (((cs.find? fun c=>decide (c.Rune=r)).map dt.Glyph).getD 0)
 cases cs.find? fun c=>decide (c.Rune=r) <;> rfl
theorem oD (cs:List dt) (c:dt) (r:Int):(cs++[c]).find? (fun c=>decide (c.Rune=r))=((cs.find? fun c=>decide (c.Rune=r)) <|> if c.Rune=r then some c else none):=by
 rw [List.find?_append]
 cases cs.find? fun c=>decide (c.Rune=r) with
 | some _=>simp
 | none=>by_cases h:c.Rune=r <;> simp [h]
theorem Hm {cs:List dt} {c:dt} (h:(vX cs (.int .i64 c.Rune)).isSome=true):vX (cs++[c])=vX cs:=by
 funext v
 unfold vX at h ⊢
 split
 ·rename_i r
  rw [oD]
  cases hf:cs.find? fun c=>decide (c.Rune=r) with
  | some _=>simp
  | none=>
   have hne:c.Rune≠r:=fun e=>by rw [←e] at hf;simp [hf] at h
   simp [hne]
 ·rfl
theorem Hl {cs:List dt} {c:dt} (h:(vX cs (.int .i64 c.Rune)).isSome=false):vX (cs++[c]) (.int .i64 c.Rune)=some (aG c.Glyph):=by
 unfold vX at h ⊢
 dsimp only at h ⊢
 rw [oD]
 cases hf:cs.find? fun d=>decide (d.Rune=c.Rune) with
 | some _=>rw [hf] at h;simp at h
 | none=>simp
theorem BI {cs:List dt} {c:dt} (q:Value) (h:q≠ .int .i64 c.Rune):vX (cs++[c]) q=vX cs q:=by
 unfold vX
 split
 ·rename_i r
  have hne:c.Rune≠r:=fun e=>h (by rw [e])
  rw [oD,if_neg hne]
  cases cs.find? fun c=>decide (c.Rune=r) <;> rfl
 ·rfl
def lr (cs:List dt) (rs:List Int) (a:Nat):bv:=⟨rx cs (rs.getD a 0),a,(iO rs).getD a 0,0,0,0⟩
def cC (f:aY) (rs:List Int):List bv:=(dq rs).map (lr f.Chars rs)
def MC (m:pZ) (run:List bv):Prop:=run.length≤m.cap∧m.cap≤maxLen∧(eH run++m.junk).length=m.cap * 6
set_option maxHeartbeats 8000000 in
theorem wU (f:aY) (rs:List Int) (hr:rs.length≤1000000) (h20:qG rs) (hc:f.Chars.length≤1000000):AC Tryz.prog 15 [cR f,.imm 1 (aL rs)] [] fun c L=>∃q,kM q (cC f rs)∧c=f7 q (cC f rs)∧L=eT q (cC f rs):=by
 refine aQ Tryz.func15 rfl Tryz.ntmps15 rfl fun B=>?_
 have hil:=aP rs
 have hcl:(f.Chars.map dv).length=f.Chars.length:=Ou ..
 have hol:=aP ((dq rs).map fun (n:Nat)=>(n:Int))
 rw [Ou] at hol
 have hok:=lA rs
 have hfl:=oK rs
 haveI:=AD.mk (BH rs hr)
 haveI:=AD.mk (Cb rs hr h20)
 refine W07 ?_
 refine yn (.int .i64) Tryz.underlying96 rfl fun mb=>?_
 refine W03 ?_
 refine aJ [1,5,19,20] (α:=Nat) (fun i=>[(21,aG i)]) (fun i=>i≤f.Chars.length) (fun i=>[(mb,ci (.int .i64) (vX (f.Chars.take i)))]) (fun i=>f.Chars.length - i) 0 rfl ⟨rfl,trivial⟩ (Nat.zero_le _) (fun σ w h=>?_) fun i hi=>?_
 ·rw [show vX (f.Chars.take 0)=fun _=>none from funext fun v=>by
   unfold vX
   split <;> rfl]
  exact h
 try dsimp only [Oq,Oo,Om,Oh]
 refine W01 ?_
 refine aw rfl (fun h=>?_) (fun h=>?_)
 ·have hil:i < f.Chars.length:=by have:=Oy h;omega
  obtain ⟨t,ht⟩:∃z,f.Chars[i]?=some z:=⟨_,Oz hil⟩
  have htg:=c7 (c:=dv) ht
  have hsucc:f.Chars.take (i+1)=f.Chars.take i++[t]:=by rw [List.take_add_one,ht];rfl
  clear h
  generalize f.Chars.take i=cs at *
  refine W04 ?_
  intros
  refine gQ 0 (.int .i64 0) Tryz.underlying96 Tryz.underlying3 rfl rfl rfl rfl (by kernel_rfl) rfl ?_
  cases hm:(vX cs (.int .i64 t.Rune)).isSome with
  | true=>
   rw [←Hm hm] at *
   refine W0L ?_
   exact aD (i+1) rfl ⟨by rw [Ov];rfl,trivial⟩ hil (by omega) (fun _ _ h=>by rw [hsucc];exact h)
  | false=>
   refine W0k ?_
   refine dA 0 (vX (cs++[t])) Tryz.underlying96 Tryz.underlying3 rfl rfl rfl rfl rfl (Hl hm) BI ?_
   refine W02 ?_
   exact aD (i+1) rfl ⟨by rw [Ov];rfl,trivial⟩ hil (by omega) (fun _ _ h=>by rw [hsucc];exact h)
 have hil2:i=f.Chars.length:=by have:=Ox h;omega
 subst hil2
 rw [List.take_length]
 clear h
 refine W0a ?_
 refine wn a7 rs.length rfl rfl rfl rfl rfl (by rw [hil]) (by omega) (by omega) rfl fun b=>?_
 refine W0U ?_
 refine aJ [1,5,10,46,47] (α:=Nat×pZ) (fun s=>[(11,f7 (some s.2) (((dq rs).take s.1).map (lr f.Chars rs))),(48,aG s.1)]) (fun s=>s.1≤(dq rs).length∧MC s.2 (((dq rs).take s.1).map (lr f.Chars rs))) (fun s=>eT (some s.2) (((dq rs).take s.1).map (lr f.Chars rs))++[(mb,ci (.int .i64) (vX f.Chars))]) (fun s=>(dq rs).length - s.1) (0,⟨b,rs.length,(List.replicate rs.length [aG 0,aG 0,aG 0,aG 0,aG 0,aG 0]).flatten⟩) rfl ⟨rfl,rfl,trivial⟩ ⟨Nat.zero_le _,Nat.zero_le _,by unfold maxLen;dsimp only;omega,?_⟩ (fun _ _ h=>h) ?_
 ·show ([]++(List.replicate rs.length _).flatten).length=_
  rw [Oo,bY (sz:=6) (fun e he=>by rw [List.eq_of_mem_replicate he];rfl),List.length_replicate]
 rintro ⟨i,m⟩ ⟨hi,hm1,hm2,hm3⟩
 dsimp only at hi hm1 hm2 hm3 ⊢
 try dsimp only [Oq,Oo,Om,Oh]
 refine W01 ?_
 refine aw rfl (fun h=>?_) (fun h=>?_)
 ·have hil:i < (dq rs).length:=by have:=Oy h;omega
  obtain ⟨a,ha⟩:∃z,(dq rs)[i]?=some z:=⟨_,Oz hil⟩
  have hag:=bD (l:=(dq rs).map fun (n:Nat)=>(n:Int)) (i:=i) (z:=(a:Int)) (by rw [List.getElem?_map,ha];rfl)
  have halt:a < rs.length:=hok.2 a (Ow ha)
  have hrg:=bD (dk halt)
  have hfg:=bD (dk (l:=iO rs) (i:=a) (by omega))
  have hsucc:((dq rs).take (i+1)).map (lr f.Chars rs)=((dq rs).take i).map (lr f.Chars rs)++[lr f.Chars rs a]:=by rw [List.take_add_one,ha,List.map_append];rfl
  have hel:(((dq rs).take i).map (lr f.Chars rs)).length=i:=by rw [Ou,List.length_take];omega
  have hgl:=K2 f.Chars (rs.getD a 0)
  clear h
  generalize ((dq rs).take i).map (lr f.Chars rs)=es at *
  have hfe:=jB es
  unfold f7 eT
  dsimp only
  refine W08 ?_
  refine bk 14 [(0,.v),(1,.v),(2,.v),(3,.v),(4,.v),(5,.v),(7,.v),(8,.v),(9,.v),(10,.v),(11,.v),(6,.e),(12,.v),(13,.v)] none ?_ trivial rfl (by kernel_rfl) (by kernel_rfl) (by kernel_rfl) mixed (by kernel_rfl) rfl
  refine W0l ?_
  refine nd 1 (.int .i64 0) Tryz.underlying96 Tryz.underlying3 rfl rfl rfl rfl (by kernel_rfl) trivial ?_
  rw [hgl]
  refine W0R ?_
  refine OO [1,5,10,46,47,48,52,65] KN ?_
  repeat' (first|fail)
  refine tI a7 0 rfl rfl rfl rfl rfl rfl rfl hm3 hm1 hm2 (by unfold maxLen;omega) (by omega) rfl fun b' cs' cap' c1 c2 c3 c4=>?_
  rw [List.take_left' (show (eH es).length=es.length * 6 from hfe)] at c2
  refine W02 ?_
  have hcs:cs'=eH (es++[lr f.Chars rs a])++cs'.drop ((es.length+1) * 6):=by
   conv=>lhs;rw [←List.take_append_drop ((es.length+1) * 6) cs',c2]
   rw [tf]
   rfl
  have hel2:(es++[lr f.Chars rs a]).length=es.length+1:=by rw [List.length_append];rfl
  refine aD (i+1,⟨b',cap',cs'.drop ((es.length+1) * 6)⟩) rfl ⟨by dsimp only;rw [hsucc];rw [hel2];rfl,by rw [Ov];rfl,trivial⟩ ⟨hil,by dsimp only;rw [hsucc,hel2];omega,c4,by dsimp only;rw [hsucc,←hcs,c1]⟩ (by dsimp only;omega) (fun _ _ h=>by dsimp only;rw [hsucc];rw [←hcs];exact h)
 ·have hil:i=(dq rs).length:=by have:=Ox h;omega
  subst hil
  rw [List.take_length] at hm1 hm3 ⊢
  clear h
  refine W01 ?_
  refine fT (cs:=[f7 (some m) (cC f rs)]) (eT (some m) (cC f rs)) ⟨rfl,trivial⟩ (List.sublist_append_left ..) ⟨some m,⟨fun h=>by (cases h),fun m' hm=>?_⟩,rfl,rfl⟩
  cases hm
  exact ⟨hm1,hm2,Nat.le_of_eq hm3.symm⟩
end Go.Proofs.YtamjlkdanllgjaaGreatDoor
namespace Go.Proofs.YtamjlkdanllgjaaGreatDoor
open Go.RowKit
end Go.Proofs.YtamjlkdanllgjaaGreatDoor
namespace Go.Proofs.YtamjlkdanllgjaaGreatDoor
open Go.RowKit
attribute [local irreducible] AT bF AX AO Av Kt b8 d9 DA cu
set_option maxRecDepth 8000
structure qD (e:CS):Prop where
 few:e.l.Rules.length≤6
 ends:Jf e
 fore:∀gl,Fl e.cls e.fore e.foreE gl=cw (gM (e.l.Rules.map fb) (Ed e.l.Rules) gl) (e.l.Rules.map fb).length
 back:∀gl,Fl e.cls e.back e.backE gl=cw (gM (e.l.Rules.map bJ.Back) (fun _=>true) gl) (e.l.Rules.map bJ.Back).length
 long:me e.l.Rules≤1000000∧ma e.l.Rules≤1000000
section
variable {e:CS} (h:qD e)
include h
end
def MY (E:x9) (l:bf) (run:List bv) (i:Nat) (forms:List Int):AV:=match uC E.ms l run i forms with
 | none=> .tup [LZ,.sc (.slice none 0 0)]
 | some r=> .tup [.iptr (bN (sq r)),.imm 1 (IW (lZ E.ms l run i r))]
abbrev Nc (wb:Nat) (E:x9) (q:Option pZ) (run:List bv):AL:=NU wb (.iptr (r7 E)) q run++[wW]
end Go.Proofs.YtamjlkdanllgjaaGreatDoor
namespace Go.Proofs.YtamjlkdanllgjaaGreatDoor
open Go.RowKit
attribute [local irreducible] AT bF AX AO Av Kt b8 d9 DA cu
set_option maxRecDepth 8000
theorem BD (run:List bv) (junk:List AV) {k:Nat} (h:k≤run.length):(eH run++junk).take (k * 6)=eH (run.take k):=by
 have e:eH run=eH (run.take k)++eH (run.drop k):=by rw [←tf,List.take_append_drop]
 have hl:=jB (run.take k)
 rw [List.length_take,Nat.min_eq_left h] at hl
 rw [e,List.append_assoc,←hl,List.take_left]
set_option maxRecDepth 8000
def NM (x:bv) (l:List Int):List bv:=l.map fun g=>{ x with Glyph:=g }
set_option maxRecDepth 8000
set_option maxRecDepth 8000
structure NF (run:List bv):Prop where
 len:run.length≤500
 mono:run.Pairwise fun a b=>a.Cluster≤b.Cluster
set_option maxRecDepth 8000
set_option maxRecDepth 8000
structure KY (run:List bv) (ps:List Nat):Prop where
  some_:ps≠[]
  lt:∀j∈ps,j < run.length
  inc:ps.Pairwise (· < ·)
structure xd (r:bJ):Prop where
 some_:r.In≠[]
 out:r.Out.length≤1000000
 calls:r.Calls.length≤1000000
 at_:∀c∈r.Calls,0≤c.At∧c.At≤1000000
abbrev JX (wb:Nat) (e:CS) (r:bJ) (ps:List Nat) (deep:Nat):List AV:=[j4 wb,.iptr (jj e),.iptr (bN (sq r)),.imm 1 (IW ps),aG deep]
def D8 (wb:Nat) (E:x9) (run':List bv):AV→AL→Prop:=fun _ L=>∃q',kM q' run'∧L=Nc wb E q' run'
section
variable {E:x9} {wb:Nat} {m:pZ} {run:List bv} (hq:kM (some m) run) (hr:run.length≤1000000) {e:CS} {r:bJ} (hro:xd r) {ps:List Nat} (hps:KY run ps) (deep:Nat)
include hq hr hro hps
end
end Go.Proofs.YtamjlkdanllgjaaGreatDoor
namespace Go.Proofs.YtamjlkdanllgjaaGreatDoor
open Go.RowKit
attribute [local irreducible] AT bF AX AO Av Kt b8 d9 DA cu
set_option maxRecDepth 8000
structure qF (E:x9):Prop where
 auto:∀e∈E.lks,1≤e.l.Kind→e.l.Kind≤6→qD e
 rule:∀e∈E.lks,∀r∈e.l.Rules,r.In≠[]→xd r
abbrev x9.ls (E:x9):List bf:=E.lks.map (·.l)
def NK (a b:Nat):Prop:=b≤max a 500
section
variable {E:x9} (hE:qF E) (wb:Nat)
def NE (E:x9) (wb deep k:Nat):Prop:=∀(e:CS) (r:bJ) (ps:List Nat) (q:Option pZ) (run:List bv),e∈E.lks→1≤e.l.Kind→e.l.Kind≤6→xd r→KY run ps→kM q run→run.length≤1000000→
 AC Tryz.prog 285 (JX wb e r ps deep) (Nc wb E q run) (D8 wb E (KP E.ms E.ls k e.l r ps run))
def Mz (E:x9) (wb deep k:Nat):Prop:=∀(n:Int) (i:Nat) (q:Option pZ) (run:List bv),i < run.length→kM q run→run.length≤1000000→
 AC Tryz.prog 357 [j4 wb,aG n,aG i,aG deep] (Nc wb E q run) (D8 wb E (II E.ms E.ls (KP E.ms E.ls k) n i run))
end
end Go.Proofs.YtamjlkdanllgjaaGreatDoor
namespace Go.Proofs.YtamjlkdanllgjaaGreatDoor
open Go.RowKit
attribute [local irreducible] AT bF AX AO Av Kt b8 d9 DA cu
set_option maxRecDepth 8000
theorem JS (run:List bv) (hr:run.length≤1000000):AC Tryz.prog 141 [.imm 6 (run.map dw)] [] fun c L=>∃q,kM q run∧c=f7 q run∧L=eT q run:=by
 refine aQ Tryz.func141 rfl Tryz.ntmps141 rfl fun B=>?_
 have hml:(run.map dw).length=run.length:=Ou ..
 refine W01 ?_
 refine uG a7 rfl rfl rfl rfl rfl fun b hb=>?_
 repeat' (first|refine O1 ?_|fail)
 cases b with
 | true=>
  have hn:run=[]:=by simpa using hb rfl
  subst hn
  refine W0k ?_
  refine b7 (bq (t:=2) (c':= .imm 6 []) rfl fun σ v h=>dV 6 h) ?_
  exact OK KN ⟨none,⟨fun _=>rfl,fun m h=>by cases h⟩,rfl,rfl⟩
 | false=>
  repeat' (first|refine O1 ?_|refine OE a7 KN ?_|refine Kk (d:=5) a7 rfl rfl fun _=>?_|refine bj rfl ?_)
  rename_i b5
  refine tH a7 0 rfl rfl rfl rfl (gy rfl rfl) rfl (Nat.zero_le _) (Nat.le_refl _) (Nat.zero_le _) (by rw [hml];unfold maxLen;omega) (by rw [hml];omega) rfl fun b' cs' cap' e1 e2 e3 e4 e5=>?_
  refine W01 ?_
  have hcs:cs'=eH run++cs'.drop (run.length * 6):=by
   conv=>lhs;rw [←List.take_append_drop (run.length * 6) cs']
   rw [Nat.zero_add,hml] at e2
   rw [e2]
   rfl
  refine OK KN ⟨some ⟨b',cap',cs'.drop (run.length * 6)⟩,⟨fun h=>(by cases h),fun m hm=>?_⟩,?_,?_⟩
  ·cases hm
   dsimp only
   rw [←hcs]
   exact ⟨by omega,e4,e1⟩
  ·unfold f7
   dsimp only
   rw [Nat.zero_add,hml]
  ·unfold eT
   dsimp only
   rw [←hcs]
   rfl
set_option maxRecDepth 8000
section
variable {E:x9} (hE:qF E) (wb:Nat)
include hE
end
end Go.Proofs.YtamjlkdanllgjaaGreatDoor
