/-
  Code points as forms, groups, and in the order in which they are shown: plain.
-/
import Derived.Test.YtamjlkdanllgjaaGreatDoorM00
import Derived.Test.YtamjlkdanllgjaaGreatDoorM07
import Derived.Test.YtamjlkdanllgjaaGreatDoorM05
import Derived.Test.YtamjlkdanllgjaaGreatDoorM06
import Derived.Test.YtamjlkdanllgjaaGreatDoorM11
import Derived.Test.YtamjlkdanllgjaaGreatDoorM13
import Derived.Test.YtamjlkdanllgjaaGreatDoorM12
import Derived.Test.YtamjlkdanllgjaaGreatDoorM10
namespace Go.Proofs.YtamjlkdanllgjaaGreatDoor
def bQ (r:Int):Int:=if 57344≤r∧r≤57599 then 1 else if 57600≤r∧r≤57855 then 2 else if 57856≤r∧r≤58111 then 3 else if 58112≤r∧r≤58367 then 4 else if 58368≤r∧r≤58623 then 5 else 0
def dp (r:Int):Int:=if bQ r=3 then bits .and .i64 r 15 else 0
def kQ (rs:List Int):Nat→Nat→Nat→List (Nat×Nat)
 | 0,a,i=>if a < i then [(a,i)] else []
 | k+1,a,i=>if i=a∨bQ (rs.getD i 0)=3 then kQ rs k a (i+1) else (a,i)::kQ rs k i (i+1)
def dJ (rs:List Int):List (Nat×Nat):=kQ rs rs.length 0 0
def jF (key:Nat→Int) (x:Nat) (p:List Nat):Nat→Nat
 | 0=>0
 | j+1=>if key x < key (p.getD j 0) then jF key x p j else j+1
def sJ (key:Nat→Int) (p:List Nat) (x:Nat):List Nat:=p.take (jF key x p p.length)++x::p.drop (jF key x p p.length)
def dh (key:Nat→Int) (l:List Nat):List Nat:=l.foldl (sJ key) []
def gF (rs:List Int) (a:Nat):Int:=dp (rs.getD a 0)
def cq (rs:List Int) (g:Nat×Nat):List Nat:=if g.1 < g.2∧bQ (rs.getD g.1 0)≠3 then g.1::dh (gF rs) (List.range' (g.1+1) (g.2 - (g.1+1))) else dh (gF rs) (List.range' g.1 (g.2 - g.1))
def lD (rs:List Int) (s:List Nat×(Nat×Nat)) (g:Nat×Nat):List Nat×(Nat×Nat):=
 let k:=bQ (rs.getD g.1 0)
 let t:=if k=5 then s else (s.1++cq rs s.2,(0,0))
 if k=4 then (t.1,g) else (t.1++cq rs g,t.2)
def dq (rs:List Int):List Nat:=
 let s:=(dJ rs).foldl (lD rs) ([],(0,0))
 s.1++cq rs s.2
theorem tx (key:Nat→Int) (p:List Nat) (x:Nat):(sJ key p x).Perm (p++[x]):=by
 unfold sJ
 generalize jF key x p p.length=j
 have h:(p.take j++x::p.drop j).Perm (x::(p.take j++p.drop j)):=List.perm_middle
 rw [List.take_append_drop] at h
 exact h.trans (List.perm_append_comm (l₁:=[x]))
theorem dy (key:Nat→Int) (l:List Nat):(dh key l).Perm l:=by
 have:∀(l p:List Nat),(l.foldl (sJ key) p).Perm (p++l):=by
  intro l
  induction l with
  | nil=>intro p;simp
  | cons x r ih=>
   intro p
   rw [List.foldl_cons]
   refine (ih _).trans ?_
   refine ((tx key p x).append_right r).trans ?_
   simp
 simpa [dh] using this l []
theorem nS {a b:Nat} (h:a < b):List.range' a (b - a)=a::List.range' (a+1) (b - (a+1)):=by
 rw [show b - a=(b - (a+1))+1 by omega,List.range'_succ]
theorem gc (rs:List Int) (g:Nat×Nat):(cq rs g).Perm (List.range' g.1 (g.2 - g.1)):=by
 unfold cq
 split
 ·rename_i h
  rw [nS h.1]
  exact (dy _ _).cons _
 ·exact dy _ _
theorem eE (rs:List Int) (g:Nat×Nat):(cq rs g).length=g.2 - g.1:=by rw [(gc rs g).length_eq,List.length_range']
theorem kz {rs:List Int} {g:Nat×Nat} {x:Nat} (h:x∈cq rs g):g.1≤x∧x < g.2:=by
 have:=(gc rs g).mem_iff.1 h
 rw [List.mem_range'_1] at this
 omega
def Iy:Nat→List (Nat×Nat)→Nat→Prop
 | a,[],n=>a=n
 | a,g::r,n=>g.1=a∧a < g.2∧Iy g.2 r n
theorem oM (rs:List Int):∀(k a i:Nat),a≤i→(a=i→k=0∨i=a)→(a < i∨k=0∨a=i)→Iy a (kQ rs k a i) (i+k)
 | 0,a,i,h,_,_=>by
  unfold kQ
  split
  ·exact ⟨rfl,by assumption,rfl⟩
  ·show a=i+0
   omega
 | k+1,a,i,h,h1,h2=>by
  unfold kQ
  split
  ·have:=oM rs k a (i+1) (by omega) (by omega) (by omega)
   rwa [show i+1+k=i+(k+1) by omega] at this
  ·rename_i hn
   have:=oM rs k i (i+1) (by omega) (by omega) (by omega)
   rw [show i+1+k=i+(k+1) by omega] at this
   exact ⟨rfl,by simp only;omega,this⟩
theorem fE (rs:List Int):Iy 0 (dJ rs) rs.length:=by
 have:=oM rs rs.length 0 0 (Nat.le_refl _) (by omega) (by omega)
 rwa [Nat.zero_add] at this
theorem n9 {n:Nat}:∀{l:List (Nat×Nat)} {a:Nat},Iy a l n→∀g∈l,a≤g.1∧g.1 < g.2∧g.2≤n
 | [],_,_,g,h=>by cases h
 | x::r,a,⟨h1,h2,h3⟩,g,h=>by
  have hle:∀{l:List (Nat×Nat)} {a:Nat},Iy a l n→a≤n:=by
   intro l
   induction l with
   | nil=>intro a h;exact Nat.le_of_eq h
   | cons y s ih=>intro a h;have:=ih h.2.2;have:=h.2.1;have:=h.1;omega
  rcases List.mem_cons.1 h with rfl | h
  ·exact ⟨by omega,by omega,hle h3⟩
  ·have:=n9 h3 g h
   omega
structure vk (n a:Nat) (s:List Nat×(Nat×Nat)):Prop where
 le:s.2.1≤s.2.2
 len:s.1.length+(s.2.2 - s.2.1)=a
 mem:∀x∈s.1,x < n
 top:s.2.2≤n
theorem Ax {rs:List Int} {n a:Nat} {s:List Nat×(Nat×Nat)} {g:Nat×Nat} (h:vk n a s) (h1:g.1=a) (h2:a < g.2) (h3:g.2≤n):vk n g.2 (lD rs s g):=by
 have hm:∀x∈cq rs s.2,x < n:=fun x hx=>by have:=(kz hx).2;have:=h.top;omega
 have hg:∀x∈cq rs g,x < n:=fun x hx=>by have:=(kz hx).2;omega
 have hl:=eE rs s.2
 have hl2:=eE rs g
 have:=h.len
 have:=h.le
 unfold lD
 by_cases k5:bQ (rs.getD g.1 0)=5
 ·simp only [k5,if_true]
  refine ⟨h.le,?_,?_,h.top⟩
  ·simp;omega
  ·intro x hx
   rcases Oj hx with hx | hx
   ·exact h.mem x hx
   ·exact hg x hx
 ·simp only [k5,if_false]
  split
  ·refine ⟨by simp only;omega,?_,?_,h3⟩
   ·simp;omega
   ·intro x hx
    rcases Oj hx with hx | hx
    ·exact h.mem x hx
    ·exact hm x hx
  ·refine ⟨Nat.le_refl _,?_,?_,Nat.zero_le _⟩
   ·simp;omega
   ·intro x hx
    rcases Oj hx with hx | hx
    ·rcases Oj hx with hx | hx
     ·exact h.mem x hx
     ·exact hm x hx
    ·exact hg x hx
theorem zG {rs:List Int} {n:Nat}:∀{l:List (Nat×Nat)} {a:Nat} {s:List Nat×(Nat×Nat)},vk n a s→Iy a l n→vk n n (l.foldl (lD rs) s)
 | [],a,s,h,hc=>by cases hc;exact h
 | g::r,a,s,h,hc=>by
  rw [List.foldl_cons]
  have:=n9 hc g (List.mem_cons_self ..)
  exact zG (Ax h hc.1 hc.2.1 this.2.2) hc.2.2
theorem lA (rs:List Int):(dq rs).length=rs.length∧∀x∈dq rs,x < rs.length:=by
 have h:=zG (rs:=rs) (n:=rs.length) (s:=([],(0,0))) ⟨Nat.le_refl _,rfl,(fun x hx=>by cases hx),Nat.zero_le _⟩ (fE rs)
 unfold dq
 refine ⟨?_,fun x hx=>?_⟩
 ·have:=h.len
  have:=h.le
  simp [eE]
  omega
 ·rcases Oj hx with hx | hx
  ·exact h.mem x hx
  ·have:=(kz hx).2
   have:=h.top
   omega
def nA (rs fs:List Int) (a b:Nat):List Int:=
 if bQ (rs.getD a 0)=2∧(bQ (rs.getD b 0)=1∨bQ (rs.getD b 0)=2) then (fs.set b 4).set a (if (fs.set b 4).getD a 0=4 then 3 else 2) else fs
def so (rs:List Int) (s:List Int×Option Nat) (i:Nat):List Int×Option Nat:=
 let k:=bQ (rs.getD i 0)
 if k=3 then s else
  let f:=if k=1∨k=2 then s.1.set i 1 else s.1
  (match s.2 with | some a=>nA rs f a i | none=>f,some i)
def fp (rs:List Int) (i:Nat):List Int×Option Nat:=(List.range i).foldl (so rs) (List.replicate rs.length 0,none)
def iO (rs:List Int):List Int:=(fp rs rs.length).1
theorem lj (rs:List Int) (i:Nat):fp rs (i+1)=so rs (fp rs i) i:=by
 unfold fp
 rw [List.range_succ,List.foldl_append]
 rfl
structure Jg (n i:Nat) (s:List Int×Option Nat):Prop where
 len:s.1.length=n
 mem:∀x∈s.1,0≤x∧x≤4
 at_:∀a,s.2=some a→a < i
theorem mH {l:List Int} {i:Nat} {v x:Int} (h:x∈l.set i v):x∈l∨x=v:=by
 obtain ⟨j,hj⟩:=List.mem_iff_getElem?.1 h
 by_cases e:i=j
 ·subst e
  by_cases hi:i < l.length
  ·rw [List.getElem?_set_self hi] at hj
   exact .inr (Option.some.inj hj).symm
  ·rw [List.getElem?_eq_none (by simpa using hi)] at hj
   cases hj
 ·rw [List.getElem?_set_ne e] at hj
  exact .inl (Ow hj)
theorem w8 (rs fs:List Int) (a b:Nat):(nA rs fs a b).length=fs.length:=by
 unfold nA;split <;> simp
theorem Eu {rs fs:List Int} {a b:Nat} (h:∀x∈fs,0≤x∧x≤4):∀x∈nA rs fs a b,0≤x∧x≤4:=by
 intro x hx
 unfold nA at hx
 split at hx
 ·rcases mH hx with hx | hx
  ·rcases mH hx with hx | hx
   ·exact h x hx
   ·subst hx;decide
  ·subst hx;split <;> decide
 ·exact h x hx
theorem FR {rs:List Int} {n i:Nat} {s:List Int×Option Nat} (h:Jg n i s):Jg n (i+1) (so rs s i):=by
 unfold so
 dsimp only
 split
 ·exact ⟨h.len,h.mem,fun a ha=>Nat.lt_succ_of_lt (h.at_ a ha)⟩
 ·have hm:∀x∈(if bQ (rs.getD i 0)=1∨bQ (rs.getD i 0)=2 then s.1.set i 1 else s.1),0≤x∧x≤4:=by
   intro x hx
   split at hx
   ·rcases mH hx with hx | hx
    ·exact h.mem x hx
    ·subst hx;decide
   ·exact h.mem x hx
  have hl:(if bQ (rs.getD i 0)=1∨bQ (rs.getD i 0)=2 then s.1.set i 1 else s.1).length=n:=by
   rw [←h.len];split <;> simp
  refine ⟨?_,?_,fun a ha=>by cases ha;exact Nat.lt_succ_self _⟩
  ·cases s.2 with
   | none=>exact hl
   | some a=>dsimp only;rw [w8];exact hl
  ·cases s.2 with
   | none=>exact hm
   | some a=>exact Eu hm
theorem oJ (rs:List Int):∀i,Jg rs.length i (fp rs i)
 | 0=>⟨by simp [fp],by simp [fp],by simp [fp]⟩
 | i+1=>by rw [lj];exact FR (oJ rs i)
theorem oK (rs:List Int):(iO rs).length=rs.length:=(oJ rs rs.length).len
end Go.Proofs.YtamjlkdanllgjaaGreatDoor
namespace Go.Proofs.YtamjlkdanllgjaaGreatDoor
open Go.RowKit
attribute [local irreducible] AT bF AX AO Av Kt b8 d9 DA cu
set_option maxRecDepth 8000
theorem Ev (r:Int):bH Tryz.prog 40 [aG r] (aG (bQ r)):=by
 refine aQ Tryz.func40 rfl Tryz.ntmps40 rfl fun B=>?_
 refine W03 ?_
 refine cH [0] (57344≤r∧r≤57599) rfl (fun Q' K=>?_) (fun hC0=>?_) (fun hC0=>?_)
 ·repeat' (first|refine O1 ?_|refine OE a7 KN ?_|refine ON KN ?_|refine OP OA ?_|refine OR NZ (fun _=>?_) (fun _=>?_))
  all_goals exact K _ _ rfl rfl (by simp_all <;> omega)
 ·refine W01 ?_
  exact OK KN (by rw [bQ,if_pos hC0])
 refine W01 ?_
 refine cH [0] (57600≤r∧r≤57855) rfl (fun Q' K=>?_) (fun hC1=>?_) (fun hC1=>?_)
 ·repeat' (first|refine O1 ?_|refine OE a7 KN ?_|refine ON KN ?_|refine OP OA ?_|refine OR NZ (fun _=>?_) (fun _=>?_))
  all_goals exact K _ _ rfl rfl (by simp_all <;> omega)
 ·refine W01 ?_
  exact OK KN (by rw [bQ,if_neg hC0,if_pos hC1])
 refine W01 ?_
 refine cH [0] (57856≤r∧r≤58111) rfl (fun Q' K=>?_) (fun hC2=>?_) (fun hC2=>?_)
 ·repeat' (first|refine O1 ?_|refine OE a7 KN ?_|refine ON KN ?_|refine OP OA ?_|refine OR NZ (fun _=>?_) (fun _=>?_))
  all_goals exact K _ _ rfl rfl (by simp_all <;> omega)
 ·refine W01 ?_
  exact OK KN (by rw [bQ,if_neg hC0,if_neg hC1,if_pos hC2])
 refine W01 ?_
 refine cH [0] (58112≤r∧r≤58367) rfl (fun Q' K=>?_) (fun hC3=>?_) (fun hC3=>?_)
 ·repeat' (first|refine O1 ?_|refine OE a7 KN ?_|refine ON KN ?_|refine OP OA ?_|refine OR NZ (fun _=>?_) (fun _=>?_))
  all_goals exact K _ _ rfl rfl (by simp_all <;> omega)
 ·refine W01 ?_
  exact OK KN (by rw [bQ,if_neg hC0,if_neg hC1,if_neg hC2,if_pos hC3])
 refine W01 ?_
 refine cH [] (58368≤r∧r≤58623) rfl (fun Q' K=>?_) (fun hC4=>?_) (fun hC4=>?_)
 ·repeat' (first|refine O1 ?_|refine OE a7 KN ?_|refine ON KN ?_|refine OP OA ?_|refine OR NZ (fun _=>?_) (fun _=>?_))
  all_goals exact K _ _ rfl rfl (by simp_all <;> omega)
 ·refine W01 ?_
  exact OK KN (by rw [bQ,if_neg hC0,if_neg hC1,if_neg hC2,if_neg hC3,if_pos hC4])
 refine W01 ?_
 exact OK KN (by rw [bQ,if_neg hC0,if_neg hC1,if_neg hC2,if_neg hC3,if_neg hC4])
instance (r:Int):AD Tryz.prog 40 [aG r] (aG (bQ r)):=⟨Ev r⟩
theorem Bl (r:Int):bH Tryz.prog 68 [aG r] (aG (dp r)):=by
 refine aQ Tryz.func68 rfl Tryz.ntmps68 rfl fun B=>?_
 refine W0a ?_
 refine aw rfl (fun h=>?_) (fun h=>?_)
 ·refine W01 ?_
  exact OK KN (by rw [dp,if_neg (by simpa using h)])
 ·refine W01 ?_
  refine uF rfl rfl rfl ?_
  refine W01 ?_
  exact OK KN (by rw [dp,if_pos (by simpa using h)])
instance (r:Int):AD Tryz.prog 68 [aG r] (aG (dp r)):=⟨Bl r⟩
theorem EW (a:Int):bH Tryz.prog 148 [aG a] (cU false):=by
 refine aQ Tryz.func148 rfl Tryz.ntmps148 rfl fun B=>?_
 refine W01 ?_
 exact OK KN (by simp)
instance (a:Int):AD Tryz.prog 148 [aG a] (cU false):=⟨EW a⟩
def oz (a b:Int):Int:=if a < b then -1 else if b < a then 1 else 0
theorem GI (a b:Int):bH Tryz.prog 67 [aG a,aG b] (aG (oz a b)):=by
 refine aQ Tryz.func67 rfl Tryz.ntmps67 rfl fun B=>?_
 refine W1n ?_
 refine aw rfl (fun h=>?_) (fun h=>?_)
 ·refine W01 ?_
  exact OK KN (by rw [oz,if_pos (Oy h)])
 ·refine W01 ?_
  refine aw rfl (fun h2=>?_) (fun h2=>?_)
  ·refine W01 ?_
   exact OK KN (by rw [oz,if_neg (Ox h),if_pos (Oy h2)])
  ·refine W01 ?_
   exact OK KN (by rw [oz,if_neg (Ox h),if_neg (Ox h2)])
instance (a b:Int):AD Tryz.prog 67 [aG a,aG b] (aG (oz a b)):=⟨GI a b⟩
theorem dk {l:List Int} {i:Nat} (h:i < l.length):l[i]?=some (l.getD i 0):=by
 rw [List.getD_eq_getElem?_getD,Oz h];rfl
theorem zw (rs:List Int) (a b:Nat) (ha:a < rs.length) (hb:b < rs.length):bH Tryz.prog 66 [aG a,aG b,.iptr [.imm 1 (aL rs)]] (aG (oz (gF rs a) (gF rs b))):=by
 refine aQ Tryz.func66 rfl Tryz.ntmps66 rfl fun B=>?_
 have h1:=bD (dk ha)
 have h2:=bD (dk hb)
 refine W01 ?_
 refine bk 9 [(0,.v),(1,.v),(2,.v),(3,.v),(4,.v),(5,.v),(6,.v),(7,.v),(8,.v)] none ?_ trivial rfl (by kernel_rfl) (by kernel_rfl) (by kernel_rfl) mixed (by kernel_rfl) rfl
 refine W0D ?_
 refine OO [10,14] KN ?_
 refine W0u ?_
 exact OL NZ
theorem FN (b:Nat) (rs fs:List Int) (i j:Nat) (hi:i < rs.length) (hj:j < rs.length) (hl:fs.length=rs.length):AC Tryz.prog 42 [.imm 1 (aL rs),.sc (.slice (some ⟨b,0,none⟩) rs.length rs.length),aG i,aG j] [(b,.box (fs.map aG) 3)] fun _ L=>L=[(b,.box ((nA rs fs i j).map aG) 3)]:=by
 refine aQ Tryz.func42 rfl Tryz.ntmps42 rfl fun B=>?_
 have h1:=bD (dk hi)
 have h2:=bD (dk hj)
 repeat' (first|refine O1 ?_|fail)
 refine bk 9 [(0,.v),(1,.v),(2,.v),(3,.v),(4,.v),(5,.v),(6,.v),(7,.v),(8,.v)] none ?_ trivial rfl (by kernel_rfl) (by kernel_rfl) (by kernel_rfl) mixed (by kernel_rfl) rfl
 refine W0D ?_
 refine OO [1,2,3,14,18] KN ?_
 refine W0u ?_
 refine cH [1,2,3] (¬(bQ (rs.getD i 0)=2∧(bQ (rs.getD j 0)=1∨bQ (rs.getD j 0)=2))) rfl (fun Q' K=>?_) (fun hC=>?_) (fun hC=>?_)
 ·repeat' (first|refine O1 ?_|refine OE a7 KN ?_|refine ON KN ?_|refine OP OA ?_|refine dc rfl rfl rfl ?_|refine OR NZ (fun _=>?_) (fun _=>?_))
  all_goals exact K _ _ rfl rfl (by simp_all <;> omega)
 ·repeat' (first|refine O1 ?_|fail)
  exact n4 rfl (by rw [nA,if_neg hC])
 ·have hC:=Classical.not_not.1 hC
  rw [nA,if_pos hC]
  refine W0o ?_
  refine nG a7 0 j rfl rfl (by omega) rfl rfl (by omega) ?_
  have h3:(fs.set j 4)[i]?=some ((fs.set j 4).getD i 0):=dk (by rw [List.length_set];omega)
  refine W0o ?_
  refine HJ a7 0 i rfl rfl (by omega) rfl h3 rfl ?_
  refine W01 ?_
  refine aw rfl (fun h=>?_) (fun h=>?_)
  ·rw [if_pos (Oy h)]
   refine W0o ?_
   refine nG a7 0 i rfl rfl (by omega) rfl rfl (by rw [List.length_set];omega) ?_
   repeat' (first|refine O1 ?_|fail)
   exact cN rfl rfl
  ·rw [if_neg (Ox h)]
   refine W0o ?_
   refine nG a7 0 i rfl rfl (by omega) rfl rfl (by rw [List.length_set];omega) ?_
   repeat' (first|refine O1 ?_|fail)
   exact cN rfl rfl
def Lp:Option Nat→Int
 | none=> -1
 | some a=>a
theorem BH (rs:List Int) (hr:rs.length≤1000000):bH Tryz.prog 21 [.imm 1 (aL rs)] (.imm 1 (aL (iO rs))):=by
 refine aQ Tryz.func21 rfl Tryz.ntmps21 rfl fun B=>?_
 have hil:=aP rs
 refine W01 ?_
 refine ej a7 rs.length rfl rfl rfl rfl rfl (by rw [hil]) (by rw [hil]) (by omega) (by omega) rfl fun b=>?_
 refine W03 ?_
 have hz:(List.replicate rs.length ([Value.int .i64 0].map AV.sc)).flatten=(List.replicate rs.length (0:Int)).map aG:=by
  simp [List.map_replicate,List.flatten_replicate_singleton]
 rw [hz]
 refine aJ [0,3,11,12] (α:=Nat) (fun i=>[(4,aG (Lp (fp rs i).2)),(13,aG i)]) (fun i=>i≤rs.length) (fun i=>[(b,.box ((fp rs i).1.map aG) 3)]) (fun i=>rs.length - i) 0 rfl ⟨rfl,rfl,trivial⟩ (Nat.zero_le _) (fun _ _ h=>h) fun i hi=>?_
 try dsimp only [Oq,Oo,Om,Oh]
 have hok:=oJ rs i
 rw [show (aG (Lp (fp rs i).2))=aG (Lp (fp rs i).2) from rfl]
 generalize hs:fp rs i=s at hok
 obtain ⟨fs,q⟩:=s
 have hfl:fs.length=rs.length:=hok.len
 dsimp only
 refine W01 ?_
 refine aw rfl (fun h=>?_) (fun h=>?_)
 ·have hil2:i < rs.length:=by have:=Oy h;omega
  have h1:=bD (dk hil2)
  have hsu:=lj rs i
  rw [hs] at hsu
  unfold so at hsu
  dsimp only at hsu
  refine W0x ?_
  refine aw rfl (fun h3=>?_) (fun h3=>?_)
  ·rw [if_pos (Oy h3)] at hsu
   refine W02 ?_
   exact aD (i+1) rfl ⟨by rw [hsu];rfl,by rw [Ov];rfl,trivial⟩ (by omega) (by omega) (fun _ _ h=>by rw [hsu];exact h)
  ·rw [if_neg (Ox h3)] at hsu
   refine W01 ?_
   refine GB [0,3,4,5,11,12,13] [(b,.box ((if bQ (rs.getD i 0)=1∨bQ (rs.getD i 0)=2 then fs.set i 1 else fs).map aG) 3)] rfl (fun Q1 K1=>?_) ?_
   ·refine cH [0,3,4,5,11,12,13] (bQ (rs.getD i 0)=1∨bQ (rs.getD i 0)=2) rfl (fun Q' K=>?_) (fun hC=>?_) (fun hC=>?_)
    ·repeat' (first|refine O1 ?_|refine OE a7 KN ?_|refine ON KN ?_|refine OP OA ?_|refine OR NZ (fun _=>?_) (fun _=>?_))
     all_goals exact K _ _ rfl rfl (by simp_all <;> omega)
    ·rw [if_pos hC] at K1
     refine W0o ?_
     refine nG a7 0 i rfl rfl (by omega) rfl rfl (by omega) ?_
     repeat' (first|refine O1 ?_|fail)
     exact K1 _ rfl
    ·rw [if_neg hC] at K1
     repeat' (first|refine O1 ?_|fail)
     exact K1 _ rfl
   have hgl:(if bQ (rs.getD i 0)=1∨bQ (rs.getD i 0)=2 then fs.set i 1 else fs).length=rs.length:=by
    split
    ·rw [List.length_set];exact hfl
    ·exact hfl
   generalize (if bQ (rs.getD i 0)=1∨bQ (rs.getD i 0)=2 then fs.set i 1 else fs)=gs at hsu hgl
   cases q with
   | none=>
    dsimp only at hsu
    unfold Lp
    refine W0L ?_
    exact aD (i+1) rfl ⟨by rw [hsu];rfl,by rw [Ov];rfl,trivial⟩ (by omega) (by omega) (fun _ _ h=>by rw [hsu];exact h)
   | some a=>
    dsimp only at hsu
    have ha:=hok.at_ a rfl
    unfold Lp
    refine W0k ?_
    refine bh [(b,.box (gs.map aG) 3)] [] (FN b rs gs a i (by omega) hil2 hgl) rfl rfl (Ok _) rfl fun c L1 hL=>?_
    subst hL
    refine W02 ?_
    exact aD (i+1) rfl ⟨by rw [hsu];rfl,by rw [Ov];rfl,trivial⟩ (by omega) (by omega) (fun _ _ h=>by rw [hsu];exact h)
 ·have hil2:i=rs.length:=by have:=Ox h;omega
  subst hil2
  refine W01 ?_
  refine b7 (CP (t:=2) fs 0 rfl rfl (List.take_of_length_le (by omega)) (by omega) (Nat.le_refl _) (by unfold maxLen;omega)) ?_
  exact OK KN (by unfold iO;rw [hs])
set_option maxRecDepth 8000
def z6 (u:AV) (key:Nat→Int) (D:Nat→Prop):Prop:=∀a b,D a→D b→ju Tryz.prog u [aG a,aG b] [] fun c L=>c=aG (oz (key a) (key b))∧L=[]
def iz (p rest:List Nat) (x j:Nat):List Nat:=p.take j++x::(p.drop j++rest)
theorem nW (p rest:List Nat) (x j:Nat):(iz p rest x j).length=p.length+1+rest.length:=by
 unfold iz
 rw [List.length_append,List.length_cons,List.length_append]
 have:=congrArg List.length (List.take_append_drop j p)
 rw [List.length_append] at this
 omega
theorem An {p rest:List Nat} {x j:Nat} (h:j≤p.length):(iz p rest x j)[j]?=some x:=by
 unfold iz
 rw [List.getElem?_append_right (by rw [List.length_take];omega),List.length_take,Nat.min_eq_left h,Nat.sub_self]
 rfl
theorem yC {p rest:List Nat} {x j:Nat} (h:j+1≤p.length):(iz p rest x (j+1))[j]?=p[j]?:=by
 unfold iz
 rw [List.getElem?_append_left (by rw [List.length_take];omega),List.getElem?_take_of_lt (by omega)]
theorem Co {p rest:List Nat} {x y j:Nat} (h:p[j]?=some y):((iz p rest x (j+1)).set (j+1) y).set j x=iz p rest x j:=by
 have hj:=(Ol h).1
 have hy:p[j]=y:=by rw [Oz hj] at h;exact Option.some.inj h
 apply List.ext_getElem?
 intro i
 have hl:(iz p rest x (j+1)).length=(iz p rest x j).length:=by rw [nW,nW]
 have hjl:j+1 < (iz p rest x (j+1)).length:=by rw [nW];omega
 by_cases h1:i=j
 ·subst h1
  rw [List.getElem?_set_self (by rw [List.length_set];omega),An (by omega)]
 ·rw [List.getElem?_set_ne (by omega)]
  by_cases h2:i=j+1
  ·subst h2
   rw [List.getElem?_set_self hjl]
   unfold iz
   rw [List.getElem?_append_right (by rw [List.length_take];omega),List.length_take,Nat.min_eq_left (by omega),show j+1 - j=0+1 by omega,List.getElem?_cons_succ,List.drop_eq_getElem_cons hj]
   simp [hy]
  ·rw [List.getElem?_set_ne (by omega)]
   unfold iz
   by_cases h3:i < j
   ·rw [List.getElem?_append_left (by rw [List.length_take];omega),List.getElem?_append_left (by rw [List.length_take];omega),List.getElem?_take_of_lt (by omega),List.getElem?_take_of_lt (by omega)]
   ·rw [List.getElem?_append_right (by rw [List.length_take];omega),List.getElem?_append_right (by rw [List.length_take];omega),List.length_take,List.length_take,Nat.min_eq_left (by omega),Nat.min_eq_left (by omega)]
    rw [show i - (j+1)=(i - j - 2)+1 by omega,show i - j=(i - j - 2)+1+1 by omega,List.getElem?_cons_succ,List.getElem?_cons_succ,List.drop_eq_getElem_cons hj,Oq,List.getElem?_cons_succ]
    rfl
theorem Fx (p rest:List Nat) (x:Nat):iz p rest x p.length=p++x::rest:=by unfold iz;simp
theorem wN (key:Nat→Int) (p rest:List Nat) (x:Nat):iz p rest x (jF key x p p.length)=sJ key p x++rest:=by unfold iz sJ;simp
def di (l:List Nat):List AV:=l.map fun (n:Nat)=>aG n
theorem dM (l:List Nat):(di l).length=l.length:=Ou ..
theorem EX {l:List Nat} {i v:Nat} (h:l[i]?=some v):(di l)[i]?=some (aG v):=by simp [di,h]
theorem wt (l:List Nat) (i v:Nat):(di l).set i (aG v)=di (l.set i v):=by simp [di,List.map_set]
theorem HG {a c m:List AV} {i:Nat} (h:i < m.length):(a++(m++c))[a.length+i]?=m[i]?:=by
 rw [List.getElem?_append_right (by omega),Nat.add_sub_cancel_left,List.getElem?_append_left h]
theorem HH {a c m:List AV} {i:Nat} {v:AV} (h:i < m.length):(a++(m++c)).set (a.length+i) v=a++(m.set i v++c):=by
 rw [List.set_append_right _ _ (by omega),Nat.add_sub_cancel_left,List.set_append_left _ _ h]
end Go.Proofs.YtamjlkdanllgjaaGreatDoor
namespace Go.Proofs.YtamjlkdanllgjaaGreatDoor
def lx (key:Nat→Int) (a b:Nat):Prop:=key a < key b∨(key a=key b∧a < b)
abbrev mp (key:Nat→Int) (l:List Nat):Prop:=l.Pairwise (lx key)
theorem LM {key:Nat→Int} {a b:Nat} (h:lx key a b):key a≤key b:=by unfold lx at h;omega
theorem HD {key:Nat→Int} {l r:List Nat} (hp:l.Perm r) (hl:mp key l) (hr:mp key r):l=r:=
 List.Perm.eq_of_pairwise (le:=lx key) (fun a b _ _ h1 h2=>by unfold lx at h1 h2;omega) hl hr hp
theorem EE {key:Nat→Int} {l:List Nat} (h:mp key l) {i j:Nat} (hij:i < j) (hj:j < l.length):lx key (l.getD i 0) (l.getD j 0):=by
 rw [List.getD_eq_getElem?_getD,List.getD_eq_getElem?_getD,Oz (by omega),Oz hj]
 exact List.pairwise_iff_getElem.1 h i j (by omega) hj hij
theorem gO {key:Nat→Int} {l:List Nat} (h:mp key l) {i j:Nat} (hij:i≤j) (hj:j < l.length):key (l.getD i 0)≤key (l.getD j 0):=by
 rcases Nat.lt_or_eq_of_le hij with h1 | rfl
 ·exact LM (EE h h1 hj)
 ·exact Int.le_refl _
theorem gr {l:List Nat} {i:Nat} (h:i < l.length):l.getD i 0∈l:=by
 rw [List.getD_eq_getElem?_getD,Oz h]
 exact List.getElem_mem h
theorem pC {l:List Nat} {x:Nat} (h:x∈l):∃i,i < l.length∧l.getD i 0=x:=by
 obtain ⟨i,hi,rfl⟩:=List.mem_iff_getElem.1 h
 exact ⟨i,hi,by rw [List.getD_eq_getElem?_getD,Oz hi];rfl⟩
theorem qB {l:List Nat} {p x:Nat} (h:x∈l.take p):∃i,i < p∧i < l.length∧l.getD i 0=x:=by
 obtain ⟨i,hi,hx⟩:=pC h
 rw [List.length_take] at hi
 refine ⟨i,by omega,by omega,?_⟩
 rw [←hx,List.getD_eq_getElem?_getD,List.getD_eq_getElem?_getD,List.getElem?_take_of_lt (by omega)]
theorem qo {l:List Nat} {p x:Nat} (h:x∈l.drop p):∃i,p≤i∧i < l.length∧l.getD i 0=x:=by
 obtain ⟨i,hi,hx⟩:=pC h
 rw [List.length_drop] at hi
 refine ⟨p+i,by omega,by omega,?_⟩
 rw [←hx,List.getD_eq_getElem?_getD,List.getD_eq_getElem?_getD,List.getElem?_drop]
theorem zW {key:Nat→Int} {a b:List Nat} (ha:mp key a) (hb:mp key b) (h:∀x∈a,∀y∈b,lx key x y):mp key (a++b):=List.pairwise_append.2 ⟨ha,hb,h⟩
theorem uy {key:Nat→Int} {l:List Nat} (h:mp key l) (x p:Nat) (h1:∀i,i < p→i < l.length→lx key (l.getD i 0) x) (h2:∀i,p≤i→i < l.length→lx key x (l.getD i 0)):mp key (l.take p++x::l.drop p):=by
 have hab:∀a∈l.take p,lx key a x:=fun a ha=>by
  obtain ⟨i,h3,h4,rfl⟩:=qB ha
  exact h1 i h3 h4
 have hxb:∀b∈l.drop p,lx key x b:=fun b hb=>by
  obtain ⟨i,h3,h4,rfl⟩:=qo hb
  exact h2 i h3 h4
 refine zW (h.sublist (List.take_sublist ..)) (List.pairwise_cons.2 ⟨hxb,h.sublist (List.drop_sublist ..)⟩) fun a ha b hb=>?_
 rcases List.mem_cons.1 hb with rfl | hb
 ·exact hab a ha
 ·obtain ⟨i,h3,h4,rfl⟩:=qB ha
  obtain ⟨j,h5,h6,rfl⟩:=qo hb
  exact EE h (by omega) h6
theorem zP (key:Nat→Int) (x:Nat) (p:List Nat):∀j,(∀i,jF key x p j≤i→i < j→key x < key (p.getD i 0))∧(jF key x p j=0∨¬key x < key (p.getD (jF key x p j - 1) 0))
 | 0=>⟨fun i _ h=>by omega,.inl rfl⟩
 | j+1=>by
  obtain ⟨h1,h2⟩:=zP key x p j
  unfold jF
  split
  ·rename_i hc
   refine ⟨fun i h3 h4=>?_,h2⟩
   rcases Nat.lt_or_eq_of_le (Nat.le_of_lt_succ h4) with h5 | rfl
   ·exact h1 i h3 h5
   ·exact hc
  ·rename_i hc
   exact ⟨fun i h3 h4=>by omega,.inr hc⟩
theorem Hu {key:Nat→Int} {p:List Nat} {x:Nat} (hp:mp key p) (hx:∀y∈p,y < x):mp key (sJ key p x):=by
 obtain ⟨h1,h2⟩:=zP key x p p.length
 unfold sJ
 refine uy hp x _ (fun i h3 h4=>?_) fun i h3 h4=> .inl (h1 i h3 h4)
 have hk:¬key x < key (p.getD (jF key x p p.length - 1) 0):=h2.resolve_left (by omega)
 have hle:jF key x p p.length≤p.length:=by
  have:∀j,jF key x p j≤j:=fun j=>by
   induction j with
   | zero=>exact Nat.le_refl _
   | succ j ih=>unfold jF;split <;> omega
  exact this _
 have:=gO hp (show i≤jF key x p p.length - 1 by omega) (by omega)
 have:=hx _ (gr h4)
 unfold lx
 omega
theorem o0 {key:Nat→Int} {l:List Nat} (h:l.Pairwise (· < ·)):mp key (dh key l):=by
  have:∀(l p:List Nat),mp key p→(∀a∈p,∀b∈l,a < b)→l.Pairwise (· < ·)→mp key (l.foldl (sJ key) p):=by
    intro l
    induction l with
    | nil=>intro p hp _ _;exact hp
    | cons x r ih=>
      intro p hp hpl hl
      obtain ⟨h1,h2⟩:=List.pairwise_cons.1 hl
      rw [List.foldl_cons]
      refine ih _ (Hu hp fun y hy=>hpl y hy x (List.mem_cons_self ..)) (fun a ha b hb=>?_) h2
      rcases Oj ((tx key p x).mem_iff.1 ha) with ha | ha
      · exact hpl a ha b (Ot _ hb)
      · rw [Oi ha]
        exact h1 b hb
  exact this l [] List.Pairwise.nil (fun a ha=>by cases ha) h
def x7 (d:List Nat) (s t:Nat):Nat→List Nat
 | 0=>d
 | i+1=>((x7 d s t i).set (s+i) ((x7 d s t i).getD (t+i) 0)).set (t+i) ((x7 d s t i).getD (s+i) 0)
theorem Az (d:List Nat) (s t:Nat):∀i,(x7 d s t i).length=d.length
 | 0=>rfl
 | i+1=>by rw [x7,List.length_set,List.length_set,Az d s t i]
theorem vW {A B:List Nat} {x:Nat} {i:Nat} (h:i=A.length):(A++x::B).getD i 0=x:=by
 subst h
 rw [List.getD_eq_getElem?_getD,List.getElem?_append_right (Nat.le_refl _),Nat.sub_self]
 rfl
theorem Ar {A B:List Nat} {x y:Nat} {i:Nat} (h:i=A.length):(A++x::B).set i y=A++y::B:=by
 subst h
 rw [List.set_append_right _ _ (Nat.le_refl _),Nat.sub_self]
 rfl
theorem Nb {A B C:List Nat} {x y:Nat} {s t:Nat} (hs:s=A.length) (ht:t=A.length+1+B.length):((A++x::(B++y::C)).set s ((A++x::(B++y::C)).getD t 0)).set t ((A++x::(B++y::C)).getD s 0)=A++y::(B++x::C):=by
 have e:∀z w,A++z::(B++w::C)=(A++z::B)++w::C:=fun z w=>by simp
 have hl:t=(A++x::B).length:=by rw [List.length_append,List.length_cons];omega
 have hl2:t=(A++y::B).length:=by rw [List.length_append,List.length_cons];omega
 rw [vW hs,e x y,vW hl,←e x y,Ar hs,e y y,Ar hl2,←e y x]
theorem FS (P u w v Q:List Nat) (h:u.length=v.length):∀i,i≤u.length→x7 (P++(u++(w++(v++Q)))) P.length (P.length+u.length+w.length) i=P++((v.take i++u.drop i)++(w++((u.take i++v.drop i)++Q)))
 | 0,_=>by simp [x7]
 | i+1,hi=>by
  rw [x7,FS P u w v Q h i (by omega),List.drop_eq_getElem_cons (show i < u.length by omega),List.drop_eq_getElem_cons (show i < v.length by omega),List.take_add_one,List.take_add_one,Oz (show i < u.length by omega),Oz (show i < v.length by omega)]
  have e:∀a b:Nat,P++((v.take i++a::u.drop (i+1))++(w++((u.take i++b::v.drop (i+1))++Q)))=(P++v.take i)++a::((u.drop (i+1)++(w++u.take i))++b::(v.drop (i+1)++Q)):=fun a b=>by simp
  rw [e,Nb (by rw [List.length_append,List.length_take];omega) (by simp only [List.length_append,List.length_take,List.length_drop];omega),←e]
  show _=P++(((v.take i++[v[i]])++u.drop (i+1))++(w++(((u.take i++[u[i]])++v.drop (i+1))++Q)))
  simp only [List.append_assoc,Oq,Oo]
theorem va (P u w v Q:List Nat) (h:u.length=v.length):x7 (P++(u++(w++(v++Q)))) P.length (P.length+u.length+w.length) u.length=P++(v++(w++(u++Q))):=by
 rw [FS P u w v Q h _ (Nat.le_refl _),List.take_of_length_le (by omega),List.drop_of_length_le (Nat.le_refl _),List.take_of_length_le (Nat.le_refl _),List.drop_of_length_le (by omega),List.append_nil,List.append_nil]
theorem Ij (P y Q:List Nat) (u t s:Nat) (h:t < y.length) (hs:s=P.length+t):((P++(y.take t++u::(y.drop t++Q))).set s ((P++(y.take t++u::(y.drop t++Q))).getD (s+1) 0)).set (s+1) ((P++(y.take t++u::(y.drop t++Q))).getD s 0)=P++(y.take (t+1)++u::(y.drop (t+1)++Q)):=by
 have e:P++(y.take t++u::(y.drop t++Q))=(P++y.take t)++u::([]++y[t]::(y.drop (t+1)++Q)):=by
  rw [List.drop_eq_getElem_cons h]
  simp only [List.append_assoc,Oq,Oo]
 have hl:s=(P++y.take t).length:=by rw [List.length_append,List.length_take];omega
 rw [e,Nb hl (by rw [←hl];rfl),List.take_add_one,Oz h]
 show _=P++((y.take t++[y[t]])++_)
 simp only [List.append_assoc,Oq,Oo]
theorem CH (P x Q:List Nat) (v t s:Nat) (h:t < x.length) (hs:s=P.length+t):((P++(x.take (t+1)++v::(x.drop (t+1)++Q))).set (s+1) ((P++(x.take (t+1)++v::(x.drop (t+1)++Q))).getD s 0)).set s ((P++(x.take (t+1)++v::(x.drop (t+1)++Q))).getD (s+1) 0)=P++(x.take t++v::(x.drop t++Q)):=by
 have e:P++(x.take (t+1)++v::(x.drop (t+1)++Q))=(P++x.take t)++x[t]::([]++v::(x.drop (t+1)++Q)):=by
  rw [List.take_add_one,Oz h]
  show P++((x.take t++[x[t]])++_)=_
  simp only [List.append_assoc,Oq,Oo]
 have hl:s=(P++x.take t).length:=by rw [List.length_append,List.length_take];omega
 rw [e,List.set_comm _ _ (by omega),Nb hl (by rw [←hl];rfl),List.drop_eq_getElem_cons h]
 simp only [List.append_assoc,Oq,Oo]
theorem KG {key:Nat→Int} {x y:List Nat} (hx:mp key x) (hy:mp key y) (ht:∀a∈x,∀b∈y,key a=key b→a < b) {s n:Nat} (hs:s≤x.length) (hn:s≤n) (hr:n - s≤y.length)
  (h1:∀k,k < s→n - 1 - k < y.length→key (x.getD k 0)≤key (y.getD (n - 1 - k) 0)) (h2:∀k,s≤k→k < x.length→k < n→key (y.getD (n - 1 - k) 0) < key (x.getD k 0)):
  (∀a∈x.take s,∀b∈y.drop (n - s),lx key a b)∧∀b∈y.take (n - s),∀a∈x.drop s,lx key b a:=by
 constructor
 ·intro a ha b hb
  obtain ⟨i,h3,h4,rfl⟩:=qB ha
  obtain ⟨j,h5,h6,rfl⟩:=qo hb
  have k1:=h1 (s - 1) (by omega) (by omega)
  have k2:=gO hx (show i≤s - 1 by omega) (by omega)
  have k3:=gO hy (show n - 1 - (s - 1)≤j by omega) h6
  have k4:=ht _ (gr h4) _ (gr h6)
  unfold lx
  omega
 ·intro b hb a ha
  obtain ⟨j,h3,h4,rfl⟩:=qB hb
  obtain ⟨i,h5,h6,rfl⟩:=qo ha
  have k1:=h2 s (Nat.le_refl _) (by omega) (by omega)
  have k2:=gO hy (show j≤n - 1 - s by omega) (by omega)
  have k3:=gO hx h5 h6
  exact .inl (by omega)
end Go.Proofs.YtamjlkdanllgjaaGreatDoor
namespace Go.Proofs.YtamjlkdanllgjaaGreatDoor
open Go.RowKit
attribute [local irreducible] AT bF AX AO Av Kt b8 d9 DA cu
set_option maxRecDepth 8000
abbrev ev (b:Nat) (pre post:List AV) (d:List Nat):AL:=[(b,.box (pre++(di d++post)) 3)]
theorem MQ {d:List Nat} {i:Nat} (h:i < d.length):d[i]?=some (d.getD i 0):=by
 rw [List.getD_eq_getElem?_getD,Oz h]
 rfl
theorem fJ {pre post:List AV} {d:List Nat} {i:Nat} (h:i < d.length):(pre++(di d++post))[pre.length+i]?=some (aG (d.getD i 0)):=by
 rw [HG (by rw [dM];exact h)]
 exact EX (MQ h)
theorem kB {pre post:List AV} {d:List Nat} {i v:Nat} (h:i < d.length):(pre++(di d++post)).set (pre.length+i) (aG v)=pre++(di (d.set i v)++post):=by
 rw [HH (by rw [dM];exact h),wt]
theorem nQ (pre post:List AV) (d:List Nat):(pre++(di d++post)).length=pre.length+d.length+post.length:=by
 rw [List.length_append,List.length_append,dM];omega
set_option maxHeartbeats 4000000 in
theorem vb (g:FuncId) (caps:List AV) (b cap:Nat) (pre post:List AV) (d:List Nat) (s t n:Nat) (s' t' n':Int) (N:Nat) (hN:N=d.length) (hs':s'=s) (ht':t'=t) (hn':n'=n) (hs:s+n≤d.length) (ht:t+n≤d.length) (hd:d.length≤1000000):
  AC Tryz.prog 330 [.sc (.slice (some ⟨b,pre.length,none⟩) N cap),aG s',aG t',aG n',.fn g caps] (ev b pre post d) fun _ L=>L=ev b pre post (x7 d s t n):=by
 subst hs';subst ht';subst hn';subst hN
 refine aQ Tryz.func330 rfl Tryz.ntmps330 rfl fun B=>?_
 refine W03 ?_
 refine aJ [0,1,2,3] (α:=Nat) (fun i=>[(10,aG i)]) (fun i=>i≤n) (fun i=>ev b pre post (x7 d s t i)) (fun i=>n - i) 0 rfl ⟨rfl,trivial⟩ (Nat.zero_le _) (fun _ _ h=>h) fun i hi=>?_
 try dsimp only [Oq,Oo,Om,Oh]
 refine W01 ?_
 refine aw rfl (fun h=>?_) (fun h=>?_)
 ·have hil:i < n:=by have:=Oy h;omega
  have hdl:=Az d s t i
  have hsucc:x7 d s t (i+1)=((x7 d s t i).set (s+i) ((x7 d s t i).getD (t+i) 0)).set (t+i) ((x7 d s t i).getD (s+i) 0):=rfl
  clear h
  generalize x7 d s t i=e at *
  have g1:=fJ (pre:=pre) (post:=post) (d:=e) (i:=s+i) (by omega)
  have g2:=fJ (pre:=pre) (post:=post) (d:=e) (i:=t+i) (by omega)
  have hrl:=nQ pre post e
  refine W0z ?_
  refine bk 22 [(0,.v),(1,.v),(2,.v),(3,.v),(4,.v),(5,.v),(6,.v),(7,.v),(8,.v),(9,.v),(10,.v),(11,.v),(12,.v),(13,.l),(14,.v),(15,.v),(16,.v),(17,.v),(18,.v),(19,.l),(20,.v),(21,.e)] none ?_ trivial rfl (by kernel_rfl) (by kernel_rfl) (by kernel_rfl) mixed (by kernel_rfl) rfl
  refine W0q ?_
  refine c5 a7 rfl rfl rfl ⟨by omega,by omega⟩ (by first | trivial | rfl) ?_
  repeat' (first|refine aE ?_|fail)
  refine eu a7 0 (pre.length+(t+i)) rfl rfl (by omega) rfl g2 (by first | trivial | rfl) ?_
  refine W0q ?_
  refine c5 a7 rfl rfl rfl ⟨by omega,by omega⟩ (by first | trivial | rfl) ?_
  repeat' (first|refine aE ?_|fail)
  refine eu a7 0 (pre.length+(s+i)) rfl rfl (by omega) rfl g1 (by first | trivial | rfl) ?_
  repeat' (first|refine aE ?_|fail)
  refine c5 a7 rfl rfl rfl ⟨by omega,by omega⟩ (by first | trivial | rfl) ?_
  repeat' (first|refine aE ?_|fail)
  refine nf a7 0 (pre.length+(s+i)) rfl rfl (by omega) rfl rfl rfl (by omega) (by first | trivial | rfl) fun _=>?_
  repeat' (first|fail)
  refine OO [0,1,2,3,10,20,23,35] KN ?_
  refine W0i ?_
  refine gt a7 0 (pre.length+(t+i)) rfl rfl (by omega) rfl rfl rfl (by rw [List.length_set];omega) ?_
  refine W02 ?_
  rw [kB (by omega),kB (by rw [List.length_set];omega),←hsucc]
  exact aD (i+1) rfl ⟨by rw [Ov];rfl,trivial⟩ hil (by omega) (fun _ _ h=>h)
 ·have hil:i=n:=by have:=Ox h;omega
  subst hil
  clear h
  repeat' (first|refine O1 ?_|fail)
  exact cN rfl rfl
set_option maxHeartbeats 4000000 in
theorem Cm (g:FuncId) (caps:List AV) (b cap:Nat) (pre post:List AV) (P x y Q:List Nat) (a m c:Int) (ha:a=P.length) (hm:m=a+x.length) (hc:c=m+y.length) (hx:0 < x.length) (hy:0 < y.length) (N:Nat) (hN:N=(P++(x++(y++Q))).length) (hd:N≤1000000):
  AC Tryz.prog 289 [.sc (.slice (some ⟨b,pre.length,none⟩) N cap),aG a,aG m,aG c,.fn g caps] (ev b pre post (P++(x++(y++Q)))) fun _ L=>L=ev b pre post (P++(y++(x++Q))):=by
 subst ha
 refine aQ Tryz.func289 rfl Tryz.ntmps289 rfl fun B=>?_
 simp only [List.length_append] at hN
 refine W0c ?_
 refine aJ [0,2,4] (α:=List Nat×List Nat×List Nat×List Nat) (fun s=>[(10,aG s.2.1.length),(11,aG s.2.2.1.length)]) (fun s=>0 < s.2.1.length∧0 < s.2.2.1.length∧s.1.length+s.2.1.length=x.length∧s.1.length+s.2.1.length+s.2.2.1.length+s.2.2.2.length=x.length+y.length∧s.1++(s.2.2.1++(s.2.1++s.2.2.2))=y++x) (fun s=>ev b pre post (P++(s.1++(s.2.1++(s.2.2.1++(s.2.2.2++Q)))))) (fun s=>s.2.1.length+s.2.2.1.length) ([],x,y,[]) rfl ⟨?_,?_,trivial⟩ ⟨hx,hy,by simp,by simp,by simp⟩ (fun _ _ h=>by simpa using h) ?_
 ·rw [show m - (P.length:Int)=(x.length:Int) by omega];rfl
 ·rw [show c - m=(y.length:Int) by omega];rfl
 rintro ⟨A,U,V,C⟩ ⟨hU,hV,hA,hAl,hE⟩
 dsimp only at hU hV hA hAl hE ⊢
 try dsimp only [Oq,Oo,Om,Oh]
 refine W01 ?_
 refine aw rfl (fun h=>?_) (fun h=>?_)
 ·have hne:U.length≠V.length:=by have:=Oy h;omega
  clear h
  refine W03 ?_
  refine aw rfl (fun h=>?_) (fun h=>?_)
  ·have hlt:V.length < U.length:=by have:=Oy h;omega
   clear h
   obtain ⟨U1,U2,rfl,hl⟩:∃U1 U2,U=U1++U2∧U1.length=V.length:=⟨U.take V.length,U.drop V.length,(List.take_append_drop ..).symm,by rw [List.length_take];omega⟩
   have hUl:(U1++U2).length=U1.length+U2.length:=List.length_append
   rw [hUl] at hlt hA hAl hne hU
   refine W02 ?_
   refine bh (ev b pre post (P++(A++((U1++U2)++(V++(C++Q)))))) [] (vb g caps b cap pre post (P++(A++((U1++U2)++(V++(C++Q))))) (P.length+A.length) (P.length+A.length+U1.length+U2.length) U1.length _ _ _ N (by first | omega | (simp only [List.length_append];omega)) (by first | omega | (simp only [List.length_append];omega)) (by first | omega | (simp only [List.length_append];omega)) (by first | omega | (simp only [List.length_append];omega)) (by first | omega | (simp only [List.length_append];omega)) (by first | omega | (simp only [List.length_append];omega)) (by first | omega | (simp only [List.length_append];omega))) rfl rfl (by rw [List.append_nil]) rfl fun c1 L1 hL=>?_
   have hsw:=va (P++A) U1 U2 V (C++Q) hl
   simp only [List.length_append,List.append_assoc] at hsw hL hE
   rw [hsw] at hL
   subst hL
   refine W02 ?_
   refine aD (A++V,U2,U1,C) rfl ⟨?_,?_,trivial⟩ ⟨?_,?_,?_,?_,?_⟩ ?_ (fun _ _ h=>by simpa using h)
   all_goals dsimp only
   ·rw [show (((U1++U2).length:Nat):Int) - (V.length:Int)=(U2.length:Int) by rw [List.length_append];omega];rfl
   ·rw [hl];rfl
   ·omega
   ·omega
   ·rw [List.length_append];omega
   ·rw [List.length_append];omega
   ·simpa using hE
   ·simp only [List.length_append];omega
  ·have hlt:U.length < V.length:=by have:=Ox h;omega
   clear h
   obtain ⟨V1,V2,rfl,hl⟩:∃V1 V2,V=V1++V2∧V2.length=U.length:=⟨V.take (V.length - U.length),V.drop (V.length - U.length),(List.take_append_drop ..).symm,by rw [List.length_drop];omega⟩
   have hVl:(V1++V2).length=V1.length+V2.length:=List.length_append
   rw [hVl] at hlt hAl hne hV
   refine W02 ?_
   refine bh (ev b pre post (P++(A++(U++((V1++V2)++(C++Q)))))) [] (vb g caps b cap pre post (P++(A++(U++((V1++V2)++(C++Q))))) (P.length+A.length) (P.length+A.length+U.length+V1.length) U.length _ _ _ N (by first | omega | (simp only [List.length_append];omega)) (by first | omega | (simp only [List.length_append];omega)) (by first | omega | (simp only [List.length_append];omega)) (by first | omega | (simp only [List.length_append];omega)) (by first | omega | (simp only [List.length_append];omega)) (by first | omega | (simp only [List.length_append];omega)) (by first | omega | (simp only [List.length_append];omega))) rfl rfl (by rw [List.append_nil]) rfl fun c1 L1 hL=>?_
   have hsw:=va (P++A) U V1 V2 (C++Q) hl.symm
   simp only [List.length_append,List.append_assoc] at hsw hL hE
   rw [hsw] at hL
   subst hL
   refine W02 ?_
   refine aD (A,V2,V1,U++C) rfl ⟨?_,?_,trivial⟩ ⟨?_,?_,?_,?_,?_⟩ ?_ (fun _ _ h=>by simpa using h)
   all_goals dsimp only
   ·rw [hl];rfl
   ·rw [show (((V1++V2).length:Nat):Int) - (U.length:Int)=(V1.length:Int) by rw [List.length_append];omega];rfl
   ·omega
   ·omega
   ·omega
   ·rw [List.length_append];omega
   ·simpa using hE
   ·simp only [List.length_append];omega
 ·have hl:U.length=V.length:=by have:=Ox h;omega
  clear h
  refine W02 ?_
  refine bh (ev b pre post (P++(A++(U++(V++(C++Q)))))) [] (vb g caps b cap pre post (P++(A++(U++(V++(C++Q))))) (P.length+A.length) (P.length+A.length+U.length+0) U.length _ _ _ N (by first | omega | (simp only [List.length_append];omega)) (by first | omega | (simp only [List.length_append];omega)) (by first | omega | (simp only [List.length_append];omega)) (by first | omega | (simp only [List.length_append];omega)) (by first | omega | (simp only [List.length_append];omega)) (by first | omega | (simp only [List.length_append];omega)) (by first | omega | (simp only [List.length_append];omega))) rfl rfl (by rw [List.append_nil]) rfl fun c1 L1 hL=>?_
  have hsw:=va (P++A) U [] V (C++Q) hl
  simp only [List.length_append,List.append_assoc,List.length_nil,Oo] at hsw hL
  rw [hsw] at hL
  subst hL
  repeat' (first|refine O1 ?_|fail)
  refine cN rfl ?_
  rw [show y++(x++Q)=A++(V++(U++(C++Q))) by rw [←List.append_assoc,←hE];simp]
  rfl
end Go.Proofs.YtamjlkdanllgjaaGreatDoor
