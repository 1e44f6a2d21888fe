/-
  The program: what the first look tells that finds something wrong.
-/
import Derived.Test.YtpmdfoaadejmkaaGreatDoorM09
import Derived.Test.YtpmdfoaadejmkaaGreatDoorM08
import Derived.Test.YtpmdfoaadejmkaaGreatDoorM05
import Derived.Test.YtpmdfoaadejmkaaGreatDoorM07
namespace Go.Proofs.YtpmdfoaadejmkaaGreatDoor
open Go.RowKit
attribute [local irreducible] AT bJ AX AO Av Kt bi dq DA cG
structure Lk where
 f:FuncId
 caps:List AV
 L:AL
 e:Int
 n:Int
def Lk.ok (x:Lk):Prop:=bM Tryz.prog x.f∧AC Tryz.prog x.f x.caps x.L fun c _=>c=cD (x.e,x.n)
def t9:List Lk→Int×Int
 | []=>(0,0)
 | x::r=>if x.e=0 then t9 r else (x.e,x.n)
def Hw (l:List Lk):AL:=(l.map Lk.L).flatten
def xD:List Lk→Prop
 | []=>True
 | x::r=>x.ok∧(x.e=0→xD r)
def Jv (x:Lk):List AV:=[.fn x.f x.caps]
theorem Dc {l:List Lk} {i:Nat} {x:Lk} (h:l[i]?=some x):t9 (l.drop i)=if x.e=0 then t9 (l.drop (i+1)) else (x.e,x.n):=by
 obtain ⟨hi,hx⟩:=Ko h
 rw [List.drop_eq_getElem_cons hi,hx]
 rfl
theorem Ay {l:List Lk} {i:Nat} {x:Lk} (h:l[i]?=some x) (hk:xD (l.drop i)):x.ok∧(x.e=0→xD (l.drop (i+1))):=by
 obtain ⟨hi,hx⟩:=Ko h
 rw [List.drop_eq_getElem_cons hi,hx] at hk
 exact hk
theorem vM:∀{l:List Lk},(t9 l).1=0→t9 l=(0,0)
 | [],_=>rfl
 | x::r,h=>by
  unfold t9 at h ⊢
  split
  ·rename_i h0
   rw [if_pos h0] at h
   exact vM h
  ·rename_i h0
   rw [if_neg h0] at h
   exact absurd h h0
theorem Dd {l:List Lk} {i:Nat} {x:Lk} (h:l[i]?=some x):Hw (l.drop i)=x.L++Hw (l.drop (i+1)):=by
 obtain ⟨hi,hx⟩:=Ko h
 unfold Hw
 rw [List.drop_eq_getElem_cons hi,hx]
 rfl
theorem Aa {σ0:cr} {l:Nat} (ls:List Lk) (hok:xD ls) (E:AL) (E':Int→Int→AL) (hy:∀e n,e≠0→AY Tryz.prog σ0 l [aF e,aF n] E fun c L=>c=d6 false∧L=E' e n):
  Gj Tryz.prog σ0 197 [.sc (.func (.yield l) #[] #[]),.iptr [.imm 1 (ls.map Jv)]] (Hw ls++E) fun _ L=>L=if (t9 ls).1=0 then E else E' (t9 ls).1 (t9 ls).2:=by
 refine wI Tryz.func197 rfl Tryz.ntmps197 rfl fun B hB=>?_
 repeat' (first|refine L3 ?_|refine ak ?_|refine KG a4 HY ?_)
 refine cW 7 rfl rfl fun hlen=>?_
 rw [Ku] at hlen
 refine aR [0,7,8] (α:=Nat) (fun i=>[(9,aF i)]) (fun i=>i≤ls.length∧t9 ls=t9 (ls.drop i)∧xD (ls.drop i)) (fun i=>Hw (ls.drop i)++E) (fun i=>ls.length - i) 0 rfl ⟨rfl,trivial⟩ ⟨Nat.zero_le _,rfl,hok⟩ (fun _ _ h=>h) fun i ⟨hi,he,hok⟩=>?_
 try dsimp only [Kr,Kq,Kp,Lv]
 repeat' (first|refine L3 ?_|refine KG a4 HY ?_)
 refine aw rfl (fun h=>?_) (fun h=>?_)
 ·have hil:i < ls.length:=by have:=Ky h;simp at this;omega
  obtain ⟨x,hx⟩:∃z,ls[i]?=some z:=⟨_,Kz hil⟩
  have hzg:=c5 (c:=Jv) hx
  obtain ⟨⟨hcf,hac⟩,hok⟩:=Ay hx hok
  rw [Dc hx] at he
  rw [Dd hx]
  repeat' (first|refine L3 ?_|refine ak ?_|refine KG a4 HY ?_|(apply aQ;first|refine aO a4 ?_|refine aG a4 ?_)|fail)
  refine dQ (cs:=[]) x.L (Hw (ls.drop (i+1))++E) (by simpa using hac) rfl rfl rfl (by rw [List.append_assoc]) rfl rfl fun c L1 hc=>?_
  subst hc
  refine aP (c6 (List.sublist_append_right ..)) ?_
  unfold cD
  repeat' (first|refine L3 ?_|refine KG a4 HY ?_)
  by_cases h0:x.e=0
  ·rw [if_pos h0] at he
   rw [h0]
   repeat' (first|refine L3 ?_|refine KG a4 HY ?_|refine KV KB ?_|(apply aU;refine aT ?_)|refine bE rfl ?_)
   exact aD (i+1) rfl ⟨by rw [Kv];rfl,trivial⟩ ⟨by omega,he,hok h0⟩ (by omega) (fun _ _ h=>h)
  ·rw [if_neg h0] at he
   rw [show decide (x.e≠0)=true from decide_eq_true h0]
   repeat' (first|refine KG a4 HY ?_|refine KR HY ?_)
   refine aP (c6 (List.sublist_append_right ..)) ?_
   refine qh E [] hB (hy x.e x.n h0) rfl rfl rfl (bK rfl) rfl rfl fun c L1 ⟨hc,hL⟩=>?_
   subst hc;subst hL
   rw [List.append_nil]
   repeat' (first|refine L3 ?_|refine KG a4 HY ?_|refine KR HY ?_|refine bH rfl ?_)
   refine jt rfl ?_
   rw [he,if_neg h0]
 ·have hil:i=ls.length:=by have:=Kx h;simp at this;omega
  subst hil
  rw [List.drop_length] at he ⊢
  repeat' (first|refine L3 ?_|fail)
  refine ca rfl ?_
  rw [he]
  rfl
theorem xh (l:List (List AV)):bU Tryz.prog 111 [.imm 1 l] (.fn 197 [.iptr [.imm 1 l]]):=by
 refine aN Tryz.func111 rfl Tryz.ntmps111 rfl fun B=>?_
 repeat' (first|refine L3 ?_|refine KG a4 HY ?_|refine bA ?_|fail)
 exact KQ KA
instance (l:List (List AV)):AD Tryz.prog 111 [.imm 1 l] (.fn 197 [.iptr [.imm 1 l]]):=⟨xh l⟩
theorem DT {p q:Nat×AB} {l l2:AL}:(p::q::(l++l2)).Perm (l++(p::q::l2)):=by
 have:=(List.perm_append_comm (l₁:=[p,q]) (l₂:=l)).append_right l2
 simpa using this
set_option maxHeartbeats 1000000 in
theorem jY (ls:List Lk) (hok:xD ls):AC Tryz.prog 47 [.imm 1 (ls.map Jv)] (Hw ls) fun c _=>c=cD (t9 ls):=by
 refine tL Tryz.func47 rfl Tryz.ntmps47 rfl fun B=>?_
 repeat' (first|refine L3 ?_|refine ak ?_|refine KG a4 HY ?_|refine bq a4 fun _=>?_|(apply bF;refine bv ?_)|fail)
 rename_i b2 b3
 refine np (ps:=[8,9]) rfl fun σ0 l db rec hrec=>?_
 have hy:∀e n:Int,e≠0→AY Tryz.prog σ0 l [aF e,aF n] ([(b3,.box [aF 0] 3),(b2,.box [aF 0] 35),(db,jH)]++[(l,jA rec)]) fun c L=>c=d6 false∧L=[(b3,.box [aF n] 3),(b2,.box [aF e] 35),(db,jH)]++[(l,jA { ({ rec with state:= .busy }:Loop) with state:= .done,pending:=some .ret })]:=by
  intro e n he
  refine yA hrec rfl rfl fun B1 hB1=>?_
  repeat' (first|refine L3 ?_|refine KG a4 HY ?_)
  refine nq hrec.state ?_
  repeat' (first|refine L3 ?_|refine ak ?_|refine KG a4 HY ?_|(apply aM;first|refine KH a4 0 KE ?_|refine KH a4 1 KE ?_|refine KH a4 2 KE ?_|refine KH a4 3 KE ?_|fail))
  refine qE (L:=[(b3,.box [aF n] 3),(b2,.box [aF e] 35),(db,jH)]) ?_
  exact ⟨rfl,rfl⟩
 refine ⟨_,(Aa ls hok _ _ hy).perm ?_,fun c L' hL'=>?_⟩
 ·simp only [List.append_assoc,Kr,Kq]
  exact DT
 ·by_cases h0:(t9 ls).1=0
  ·rw [if_pos h0] at hL'
   subst hL'
   refine ⟨rec,_,Lz _,(by rw [hrec.state];intro h;cases h),?_⟩
   rw [hrec.pending]
   show AX _ _ _ _ _ _ _ _
   repeat' (first|refine L3 ?_|(apply aM;first|refine KH a4 0 KE ?_|refine KH a4 1 KE ?_|refine KH a4 2 KE ?_|refine KH a4 3 KE ?_|fail))
   refine kB (cs:=[aF 0,aF 0]) [db] [(b3,.box [aF 0] 3),(b2,.box [aF 0] 35)] rfl (Lz _) ?_ ?_
   ·exact ⟨⟨b2,1,_,_,rfl,rfl,.inl ⟨cT a4 rfl,rfl⟩⟩,⟨b3,0,_,_,rfl,rfl,.inl ⟨cT a4 rfl,rfl⟩⟩,trivial⟩
   ·have:t9 ls=(0,0):=vM h0
    rw [this]
    rfl
  ·rw [if_neg h0] at hL'
   subst hL'
   refine ⟨_,_,Lz _,(by intro h;cases h),?_⟩
   show AX _ _ _ _ _ _ _ _
   repeat' (first|refine L3 ?_|fail)
   refine kB (cs:=[aF (t9 ls).1,aF (t9 ls).2]) [db] [(b3,.box [aF (t9 ls).2] 3),(b2,.box [aF (t9 ls).1] 35)] rfl (Lz _) ?_ rfl
   exact ⟨⟨b2,1,_,_,rfl,rfl,.inl ⟨cT a4 rfl,rfl⟩⟩,⟨b3,0,_,_,rfl,rfl,.inl ⟨cT a4 rfl,rfl⟩⟩,trivial⟩
def Ki (l:List Int) (n:Nat):List Int:=((List.range n).map Int.ofNat).filter (l.contains ·)
theorem vE (a b:List Int):aW a++aW b=aW (a++b):=by simp [aW]
def eu (b:Bool) (e:Int):Int:=bif b then e else 0
theorem Es (b:Bool) (e:Int):bU Tryz.prog 78 [d6 b,aF e] (aF (eu b e)):=by
 refine aN Tryz.func78 rfl Tryz.ntmps78 rfl fun B=>?_
 repeat' (first|refine L3 ?_|refine KG a4 HY ?_)
 refine aw rfl (fun h=>?_) (fun h=>?_)
 ·subst h
  repeat' (first|refine L3 ?_|refine KG a4 HY ?_)
  exact KQ KA
 ·subst h
  repeat' (first|refine L3 ?_|refine KG a4 HY ?_)
  exact KQ KA
instance (b:Bool) (e:Int):AD Tryz.prog 78 [d6 b,aF e] (aF (eu b e)):=⟨Es b e⟩
def gD (z:Int):Bool:=decide (-16384≤z∧z≤16384)
theorem ub (l:List Int):bU Tryz.prog 79 [.imm 1 (aW l)] (d6 (l.all gD)):=by
 refine aN Tryz.func79 rfl Tryz.ntmps79 rfl fun B=>?_
 refine cW 0 rfl rfl fun hlen=>?_
 rw [bb] at hlen
 repeat' (first|refine L3 ?_|refine ak ?_|refine KG a4 HY ?_)
 refine aR [5,6] (α:=Nat) (fun i=>[(7,aF i)]) (fun i=>i≤l.length∧(l.take i).all gD=true) (fun _=>[]) (fun i=>l.length - i) 0 rfl ⟨rfl,trivial⟩ ⟨Nat.zero_le _,by simp⟩ (fun _ _ h=>h) fun i hi=>?_
 try dsimp only [Kr,Kq,Kp,Lv]
 repeat' (first|refine L3 ?_|refine KG a4 HY ?_)
 refine aw rfl (fun h=>?_) (fun h=>?_)
 ·have hil:i < l.length:=by have:=Ky h;rw [bb] at this;omega
  obtain ⟨z,hz⟩:∃z,l[i]?=some z:=⟨_,Kz hil⟩
  have hzg:=bP hz
  repeat' (first|refine L3 ?_|refine ak ?_|refine KG a4 HY ?_|(apply aQ;first|refine aO a4 ?_|refine aG a4 ?_)|fail)
  refine ce [5,6,7] (gD z=false) rfl (fun Q' K=>?_) (fun hC=>?_) (fun hC=>?_)
  ·repeat' (first|refine L3 ?_|refine KG a4 HY ?_|refine KR HY ?_|refine KV KB ?_|refine KW KA (fun _=>?_) (fun _=>?_))
   all_goals exact K _ _ rfl rfl (by unfold gD;simp_all <;> omega)
  ·repeat' (first|refine L3 ?_|refine KG a4 HY ?_)
   refine KP HY ?_
   rw [show l.all gD=false by
    rw [List.all_eq_false]
    exact ⟨z,Kw hz,by simp [hC]⟩]
  ·repeat' (first|refine L3 ?_|refine KG a4 HY ?_|(apply aU;refine aT ?_)|fail)
   refine aD (i+1) rfl ⟨by rw [Kv];rfl,trivial⟩ ⟨by omega,?_⟩ (by omega) (fun _ _ h=>h)
   rw [List.take_add_one,hz,List.all_append,hi.2]
   simpa using hC
 ·have hil:i=l.length:=by have:=Kx h;rw [bb] at this;omega
  subst hil
  rw [List.take_length] at hi
  repeat' (first|refine L3 ?_|refine KG a4 HY ?_)
  refine KP HY ?_
  rw [hi.2]
instance (x:Int):AD Tryz.prog 79 [.imm 1 [[aF x]]] (d6 ([x].all gD)):=⟨ub [x]⟩
instance (x y:Int):AD Tryz.prog 79 [.imm 1 [[aF x],[aF y]]] (d6 ([x,y].all gD)):=⟨ub [x,y]⟩
instance (x y z:Int):AD Tryz.prog 79 [.imm 1 [[aF x],[aF y],[aF z]]] (d6 ([x,y,z].all gD)):=⟨ub [x,y,z]⟩
def lN (f:aZ) (n:Int):Bool:=decide (0≤n∧n < f.Glyphs.length)
theorem vF (f:aZ) (n:Int):bU Tryz.prog 119 [df f,aF n] (d6 (lN f n)):=by
 refine aN Tryz.func119 rfl Tryz.ntmps119 rfl fun B=>?_
 repeat' (first|refine L3 ?_|refine KG a4 HY ?_|refine bA ?_|fail)
 refine dG (t:=4) [] (lN f n=true) rfl (fun Q' K=>?_) ?_
 ·repeat' (first|refine L3 ?_|refine KG a4 HY ?_|refine KR HY ?_|refine KV KB ?_|refine KW KA (fun _=>?_) (fun _=>?_))
  all_goals exact K _ _ rfl rfl (by unfold lN;simp_all <;> omega)
 repeat' (first|refine L3 ?_|fail)
 refine KP HY ?_
 simp
instance (f:aZ) (n:Int):AD Tryz.prog 119 [df f,aF n] (d6 (lN f n)):=⟨vF f n⟩
def lE (right taken:Bool):Int:=bif right then (bif taken then 24 else 0) else 23
theorem sy (a b:Bool):bU Tryz.prog 53 [d6 a,d6 b] (aF (lE a b)):=by
 refine aN Tryz.func53 rfl Tryz.ntmps53 rfl fun B=>?_
 repeat' (first|refine L3 ?_|refine ak ?_|refine KG a4 HY ?_)
 refine aw rfl (fun h=>?_) (fun h=>?_)
 ·repeat' (first|refine L3 ?_|refine KG a4 HY ?_)
  refine KP HY ?_
  cases a with
  | true=>cases h
  | false=>rfl
 ·repeat' (first|refine L3 ?_|refine KG a4 HY ?_)
  have ha:a=true:=by cases a with
   | true=>rfl
   | false=>cases h
  subst ha
  refine aw rfl (fun h=>?_) (fun h=>?_)
  ·subst h
   repeat' (first|refine L3 ?_|refine KG a4 HY ?_)
   exact KQ KA
  ·subst h
   repeat' (first|refine L3 ?_|refine KG a4 HY ?_)
   exact KQ KA
instance (a b:Bool):AD Tryz.prog 53 [d6 a,d6 b] (aF (lE a b)):=⟨sy a b⟩
def pv (c:Int):Bool:=decide ((65≤c∧c≤90)∨(97≤c∧c≤122))
abbrev U8 (c:Int):AV:= .sc (.int .u8 c)
theorem u2 (c:Int):bU Tryz.prog 125 [U8 c] (d6 (pv c)):=by
 refine aN Tryz.func125 rfl Tryz.ntmps125 rfl fun B=>?_
 repeat' (first|refine L3 ?_|refine KG a4 HY ?_)
 refine dG (t:=2) [] (pv c=true) rfl (fun Q' K=>?_) ?_
 ·repeat' (first|refine L3 ?_|refine KG a4 HY ?_|refine KR HY ?_|refine KV KB ?_|refine dg rfl rfl rfl ?_|refine KW KA (fun _=>?_) (fun _=>?_))
  all_goals exact K _ _ rfl rfl (by unfold pv;simp_all <;> omega)
 repeat' (first|refine L3 ?_|fail)
 refine KP HY ?_
 simp
instance (c:Int):AD Tryz.prog 125 [U8 c] (d6 (pv c)):=⟨u2 c⟩
section
variable {P:Program} {tt:TT} {r:Option Nat} {ops:Array Oper} {Q:Exit→Act→World→Prop} {nt:Nat} {D:List Deferred} {fr:cf} {B:Bs} {L:AL} {rest:List Oper} {d:Nat} {ty t:TypeId} {pos:String} {af:Array Edge} {x y z:Operand}
theorem z0 (ok:ez P tt) {s:ByteArray} {k:IntKind} {i:Int} {c:UInt8} {ti:TI} (ht:dy tt t=some ti) (hk:ti.k= .str) (hx:br fr x=some (.sc (.string s))) (hy:br fr y=some (.sc (.int k i))) (h0:0≤i) (hu:s[i.toNat]?=some c) (hd:Nat.ble nt d=false) (h:bJ P r ops Q nt D rest ((d,U8 c.toNat)::fr) B L):bJ P r ops Q nt D (⟨some d,.index t x y,ty,pos,af,none⟩::rest) fr B L:=cw (wH (ok.str ht hk) hx hy h0 hu) hd rfl h
end
def oJ (s:ByteArray) (i:Nat):Int:=match s[i]? with | some c=>c.toNat | none=>0
theorem qL {s:ByteArray} {i:Nat} {c:UInt8} (h:s[i]?=some c):oJ s i=c.toNat:=by unfold oJ;rw [h]
def uQ (n:Nat) (p:Nat→Bool):Bool:=(List.range n).all p
theorem oC {n:Nat} {p:Nat→Bool}:uQ n p=true↔∀i,i < n→p i=true:=by simp [uQ]
theorem pj {n:Nat} {p:Nat→Bool} {i:Nat} (hi:i < n) (h:p i=false):uQ n p=false:=by
 rw [Bool.eq_false_iff]
 intro hh
 rw [oC.1 hh i hi] at h
 cases h
theorem zi {s:ByteArray} {i:Nat} (h:i < s.size):∃c,s[i]?=some c:=⟨s[i],by simp [h]⟩
def fz (s:ByteArray):Bool:=decide (1≤s.size∧s.size≤8) && uQ s.size fun i=>pv (oJ s i)
theorem sx (s:ByteArray):bU Tryz.prog 66 [wE s] (d6 (fz s)):=by
 refine aN Tryz.func66 rfl Tryz.ntmps66 rfl fun B=>?_
 repeat' (first|refine L3 ?_|refine KG a4 HY ?_)
 refine ce [0] (¬(1≤s.size∧s.size≤8)) rfl (fun Q' K=>?_) (fun hC=>?_) (fun hC=>?_)
 ·repeat' (first|refine L3 ?_|refine KG a4 HY ?_|refine KR HY ?_|refine KV KB ?_|refine KW KA (fun _=>?_) (fun _=>?_))
  all_goals exact K _ _ rfl rfl (by simp_all <;> omega)
 ·repeat' (first|refine L3 ?_|refine KG a4 HY ?_)
  refine KP HY ?_
  unfold fz
  rw [decide_eq_false hC]
  rfl
 have hC:=Decidable.not_not.1 hC
 repeat' (first|refine L3 ?_|refine ak ?_|refine KG a4 HY ?_)
 refine aR [0,13] (α:=Nat) (fun i=>[(14,aF i)]) (fun i=>i≤s.size∧∀j,j < i→pv (oJ s j)=true) (fun _=>[]) (fun i=>s.size - i) 0 rfl ⟨rfl,trivial⟩ ⟨Nat.zero_le _,fun j hj=>absurd hj (Nat.not_lt_zero _)⟩ (fun _ _ h=>h) fun i hi=>?_
 try dsimp only [Kr,Kq,Kp,Lv]
 repeat' (first|refine L3 ?_|refine KG a4 HY ?_)
 refine aw rfl (fun h=>?_) (fun h=>?_)
 ·have hil:i < s.size:=by have:=Ky h;omega
  obtain ⟨c,hc⟩:=zi hil
  have hb:=qL hc
  repeat' (first|refine L3 ?_|refine ak ?_|refine KG a4 HY ?_)
  refine z0 a4 rfl rfl rfl rfl (by omega) (by rw [Int.toNat_natCast];exact hc) rfl ?_
  repeat' (first|refine L3 ?_|refine KG a4 HY ?_|(apply bF;refine bv ?_)|fail)
  refine aw rfl (fun h2=>?_) (fun h2=>?_)
  ·repeat' (first|refine L3 ?_|refine KG a4 HY ?_)
   refine KP HY ?_
   unfold fz
   rw [pj hil (by rw [hb];simpa using h2),Bool.and_false]
  ·repeat' (first|refine L3 ?_|refine KG a4 HY ?_|(apply aU;refine aT ?_)|fail)
   refine aD (i+1) rfl ⟨by rw [Kv];rfl,trivial⟩ ⟨by omega,fun j hj=>?_⟩ (by omega) (fun _ _ h=>h)
   by_cases e:j=i
   ·subst e;rw [hb];simpa using h2
   ·exact hi.2 j (by omega)
 ·have hil:i=s.size:=by have:=Kx h;omega
  subst hil
  repeat' (first|refine L3 ?_|refine KG a4 HY ?_)
  refine KP HY ?_
  unfold fz
  rw [decide_eq_true hC,oC.2 hi.2]
  rfl
instance (s:ByteArray):AD Tryz.prog 66 [wE s] (d6 (fz s)):=⟨sx s⟩
def ui (i:Nat) (c:Int):Bool:=decide ((pv c=true∨c=95∨c=46)∨(0 < i∧((48≤c∧c≤57)∨c=45)))
def gB (s:ByteArray):Bool:=decide (1≤s.size∧s.size≤16) && uQ s.size fun i=>ui i (oJ s i)
set_option maxHeartbeats 1000000 in
theorem xy (s:ByteArray):bU Tryz.prog 54 [wE s] (d6 (gB s)):=by
 refine aN Tryz.func54 rfl Tryz.ntmps54 rfl fun B=>?_
 repeat' (first|refine L3 ?_|refine KG a4 HY ?_)
 refine ce [0] (¬(1≤s.size∧s.size≤16)) rfl (fun Q' K=>?_) (fun hC=>?_) (fun hC=>?_)
 ·repeat' (first|refine L3 ?_|refine KG a4 HY ?_|refine KR HY ?_|refine KV KB ?_|refine KW KA (fun _=>?_) (fun _=>?_))
  all_goals exact K _ _ rfl rfl (by simp_all <;> omega)
 ·repeat' (first|refine L3 ?_|refine KG a4 HY ?_)
  refine KP HY ?_
  unfold gB
  rw [decide_eq_false hC]
  rfl
 have hC:=Decidable.not_not.1 hC
 repeat' (first|refine L3 ?_|refine ak ?_|refine KG a4 HY ?_)
 refine aR [0,16] (α:=Nat) (fun i=>[(17,aF i)]) (fun i=>i≤s.size∧∀j,j < i→ui j (oJ s j)=true) (fun _=>[]) (fun i=>s.size - i) 0 rfl ⟨rfl,trivial⟩ ⟨Nat.zero_le _,fun j hj=>absurd hj (Nat.not_lt_zero _)⟩ (fun _ _ h=>h) fun i hi=>?_
 try dsimp only [Kr,Kq,Kp,Lv]
 repeat' (first|refine L3 ?_|refine KG a4 HY ?_)
 refine aw rfl (fun h=>?_) (fun h=>?_)
 ·have hil:i < s.size:=by have:=Ky h;omega
  obtain ⟨c,hc⟩:=zi hil
  have hb:=qL hc
  repeat' (first|refine L3 ?_|refine ak ?_|refine KG a4 HY ?_)
  refine z0 a4 rfl rfl rfl rfl (by omega) (by rw [Int.toNat_natCast];exact hc) rfl ?_
  generalize (c.toNat:Int)=z at *
  repeat' (first|refine L3 ?_|refine KG a4 HY ?_|(apply bF;refine bv ?_)|fail)
  refine dG (t:=5) [0,3,4,16,17] (pv z=true∨z=95∨z=46) rfl (fun Q' K=>?_) ?_
  ·clear hi hb hc h
   repeat' (first|refine L3 ?_|refine KG a4 HY ?_|refine KR HY ?_|refine KV KB ?_|refine KW KA (fun _=>?_) (fun _=>?_))
   all_goals exact K _ _ rfl rfl (by simp_all)
  repeat' (first|refine L3 ?_|refine KG a4 HY ?_)
  refine dG (t:=6) [0,5,16,17] (0 < i∧((48≤z∧z≤57)∨z=45)) rfl (fun Q' K=>?_) ?_
  ·clear hi hb hc h
   repeat' (first|refine L3 ?_|refine KG a4 HY ?_|refine KR HY ?_|refine KV KB ?_|refine dg rfl rfl rfl ?_|refine KW KA (fun _=>?_) (fun _=>?_))
   all_goals exact K _ _ rfl rfl (by simp_all <;> omega)
  repeat' (first|refine L3 ?_|refine KG a4 HY ?_)
  refine ce [0,16,17] (ui i z=false) rfl (fun Q' K=>?_) (fun h2=>?_) (fun h2=>?_)
  ·clear hi hb hc h
   repeat' (first|refine L3 ?_|refine KG a4 HY ?_|refine KR HY ?_|refine KV KB ?_|refine KW KA (fun _=>?_) (fun _=>?_))
   all_goals exact K _ _ rfl rfl (by clear K;unfold ui;grind)
  ·repeat' (first|refine L3 ?_|refine KG a4 HY ?_)
   refine KP HY ?_
   unfold gB
   rw [pj hil (by rw [hb];exact h2),Bool.and_false]
  ·repeat' (first|refine L3 ?_|refine KG a4 HY ?_|(apply aU;refine aT ?_)|fail)
   refine aD (i+1) rfl ⟨by rw [Kv];rfl,trivial⟩ ⟨by omega,fun j hj=>?_⟩ (by omega) (fun _ _ h=>h)
   by_cases e:j=i
   ·subst e;rw [hb];simpa using h2
   ·exact hi.2 j (by omega)
 ·have hil:i=s.size:=by have:=Kx h;omega
  subst hil
  repeat' (first|refine L3 ?_|refine KG a4 HY ?_)
  refine KP HY ?_
  unfold gB
  rw [decide_eq_true hC,oC.2 hi.2]
  rfl
instance (s:ByteArray):AD Tryz.prog 54 [wE s] (d6 (gB s)):=⟨xy s⟩
end Go.Proofs.YtpmdfoaadejmkaaGreatDoor
namespace Go.Proofs.YtpmdfoaadejmkaaGreatDoor
open Go.RowKit
attribute [local irreducible] AT bJ AX AO Av Kt bi dq DA cG
def gh {α:Type} (l:List α) (w:Nat→α→Int) (i:Nat):Int:=match l[i]? with | some x=>w i x | none=>0
def dm {α:Type} (l:List α) (w:Nat→α→Int):Int×Int:=dx (gh l w) l.length
def cC {α:Type} (most:Int) (l:List α) (w:Nat→α→Int):Int×Int:=dp most (gh l w) l.length
theorem iR {α:Type} {l:List α} {w:Nat→α→Int} {i:Nat} {x:α} (h:l[i]?=some x):gh l w i=w i x:=by unfold gh;rw [h]
theorem sW {α:Type} {l:List α} {w:Nat→α→Int} (h:∀i x,l[i]?=some x→w i x=0) (i:Nat):gh l w i=0:=by
 unfold gh
 split
 ·exact h _ _ (by assumption)
 ·rfl
theorem fH {α:Type} {l:List α} {w:Nat→α→Int} (h:∀i x,l[i]?=some x→w i x=0):dm l w=(0,0):=sU fun i _=>sW h i
theorem ei {α:Type} {most:Int} {l:List α} {w:Nat→α→Int} (hm:(l.length:Int)≤most) (h:∀i x,l[i]?=some x→w i x=0):cC most l w=(0,0):=Bn hm fun i _=>sW h i
theorem dw {α:Type} {P:Program} {g:FuncId} {caps:List AV} {l:List α} {el:α→AV} {w:Nat→α→Int} (h:∀(i:Nat) x,l[i]?=some x→bU P g ([aF i,el x]++caps) (aF (w i x))):∀(i:Nat) x (L:AL),l[i]?=some x→True→AC P g ([aF i,el x]++caps) L fun c _=>c=aF (gh l w i)∧(gh l w i=0→True):=by
 intro i x L hx _
 rw [iR hx]
 exact ((h i x hx).any L).mono fun c L' ⟨h1,_⟩=>⟨h1,fun _=>trivial⟩
theorem sj {α:Type} {P:Program} {g:FuncId} {caps:List AV} {l:List α} {el:α→AV} {w:Nat→α→Int} {L0:AL} (h:∀(i:Nat) x,l[i]?=some x→AC P g ([aF i,el x]++caps) L0 fun c L'=>c=aF (w i x)∧L'=L0):∀(i:Nat) x (L:AL),l[i]?=some x→L=L0→AC P g ([aF i,el x]++caps) L fun c L'=>c=aF (gh l w i)∧(gh l w i=0→L'=L0):=by
 intro i x L hx hL
 subst hL
 rw [iR hx]
 exact (h i x hx).mono fun c L' ⟨h1,h2⟩=>⟨h1,fun _=>h2⟩
theorem ye (n:Int):bU Tryz.prog 263 [aF n] (d6 (gD n)):=by
 refine aN Tryz.func263 rfl Tryz.ntmps263 rfl fun B=>?_
 repeat' (first|refine L3 ?_|refine KG a4 HY ?_)
 refine dG (t:=2) [] (gD n=true) rfl (fun Q' K=>?_) ?_
 ·repeat' (first|refine L3 ?_|refine KG a4 HY ?_|refine KR HY ?_|refine KV KB ?_|refine KW KA (fun _=>?_) (fun _=>?_))
  all_goals exact K _ _ rfl rfl (by clear K;unfold gD;grind)
 repeat' (first|refine L3 ?_|fail)
 refine KP HY ?_
 simp
instance (n:Int):AD Tryz.prog 263 [aF n] (d6 (gD n)):=⟨ye n⟩
def fY (n:Int):Int→List Int→Bool
 | last,[]=>decide (last=n - 1)
 | last,e::r=>if e≥n∨e < last+2 then false else fY n e r
def pH (p:eS):Bool:=gD p.X && gD p.Y
def ii (pts:List eS) (ends:List Int):Bool:=decide (pts.length≤200∧ends.length≤40) && (pts.all pH && fY pts.length (-1) ends)
theorem vo {n last:Int} {l:List Int} {i:Nat} {e:Int} (h:l[i]?=some e):fY n last (l.drop i)=if e≥n∨e < last+2 then false else fY n e (l.drop (i+1)):=by
 obtain ⟨hi,hx⟩:=Ko h
 rw [List.drop_eq_getElem_cons hi,hx]
 rfl
set_option maxHeartbeats 1000000 in
theorem um (pts:List eS) (ends:List Int):bU Tryz.prog 200 [.agg [.imm 3 (pts.map dR),.imm 1 (aW ends)]] (d6 (ii pts ends)):=by
 refine aN Tryz.func200 rfl Tryz.ntmps200 rfl fun B=>?_
 repeat' (first|refine L3 ?_|refine KG a4 HY ?_|refine bA ?_|fail)
 refine ce [1] (¬(pts.length≤200∧ends.length≤40)) rfl (fun Q' K=>?_) (fun hC=>?_) (fun hC=>?_)
 ·repeat' (first|refine L3 ?_|refine KG a4 HY ?_|refine KR HY ?_|refine KV KB ?_|refine KW KA (fun _=>?_) (fun _=>?_))
  all_goals exact K _ _ rfl rfl (by clear K;simp_all [bb] <;> omega)
 ·repeat' (first|refine L3 ?_|refine KG a4 HY ?_)
  refine KP HY ?_
  unfold ii
  rw [decide_eq_false hC]
  rfl
 have hC:=Decidable.not_not.1 hC
 have hlm:(pts.map dR).length=pts.length:=Ku ..
 repeat' (first|refine L3 ?_|refine ak ?_|refine KG a4 HY ?_)
 refine aR [1,19,20] (α:=Nat) (fun i=>[(21,aF i)]) (fun i=>i≤pts.length∧(pts.take i).all pH=true) (fun _=>[]) (fun i=>pts.length - i) 0 rfl ⟨rfl,trivial⟩ ⟨Nat.zero_le _,by simp⟩ (fun _ _ h=>h) fun i hi=>?_
 try dsimp only [Kr,Kq,Kp,Lv]
 repeat' (first|refine L3 ?_|refine KG a4 HY ?_)
 refine aw rfl (fun h=>?_) (fun h=>?_)
 ·have hil:i < pts.length:=by have:=Ky h;simp at this;omega
  obtain ⟨z,hz⟩:∃z,pts[i]?=some z:=⟨_,Kz hil⟩
  have hzg:=c5 (c:=dR) hz
  clear h
  repeat' (first|refine L3 ?_|refine ak ?_|refine KG a4 HY ?_|(apply aQ;first|refine aO a4 ?_|refine aG a4 ?_)|(apply aM;first|refine KL 4 a4 0 KF ?_|refine KL 4 a4 1 KF ?_|refine KL 4 a4 2 KF ?_|refine KH a4 0 KE ?_|refine KH a4 1 KE ?_|refine KH a4 2 KE ?_|refine KH a4 3 KE ?_|fail)|refine bq a4 fun _=>?_|(apply bF;refine bv ?_)|fail)
  refine ce [1,19,20,21] (pH z=false) rfl (fun Q' K=>?_) (fun h2=>?_) (fun h2=>?_)
  ·clear hi hzg
   repeat' (first|refine L3 ?_|refine KG a4 HY ?_|refine KR HY ?_|refine KV KB ?_|(apply bF;refine bv ?_)|refine KW KA (fun _=>?_) (fun _=>?_))
   all_goals exact K _ _ rfl rfl (by clear K;unfold pH;simp_all)
  ·repeat' (first|refine L3 ?_|refine KG a4 HY ?_)
   refine KP HY ?_
   unfold ii
   rw [show pts.all pH=false by
    rw [List.all_eq_false]
    exact ⟨z,Kw hz,by simp [h2]⟩]
   simp
  ·repeat' (first|refine L3 ?_|refine KG a4 HY ?_|(apply aU;refine aT ?_)|fail)
   refine aD (i+1) rfl ⟨by rw [Kv];rfl,trivial⟩ ⟨by omega,?_⟩ (by omega) (fun _ _ h=>h)
   rw [List.take_add_one,hz,List.all_append,hi.2]
   simpa using h2
 have hil:i=pts.length:=by have:=Kx h;simp at this;omega
 subst hil
 rw [List.take_length] at hi
 have hall:=hi.2
 clear hi h
 have hval:ii pts ends=fY pts.length (-1) ends:=by
  unfold ii
  rw [decide_eq_true hC,hall]
  rfl
 rw [hval]
 repeat' (first|refine L3 ?_|refine ak ?_|refine KG a4 HY ?_)
 refine aR [1,37,38] (α:=Nat×Int) (fun x=>[(39,aF x.1),(5,aF x.2)]) (fun x=>x.1≤ends.length∧-1≤x.2∧x.2≤1000∧fY pts.length (-1) ends=fY pts.length x.2 (ends.drop x.1)) (fun _=>[]) (fun x=>ends.length - x.1) (0,-1) rfl ⟨rfl,rfl,trivial⟩ ⟨Nat.zero_le _,by decide,by decide,rfl⟩ (fun _ _ h=>h) ?_
 rintro ⟨i,last⟩ ⟨hi,hl0,hl1,he⟩
 dsimp only at hi hl0 hl1 he ⊢
 try dsimp only [Kr,Kq,Kp,Lv]
 repeat' (first|refine L3 ?_|refine KG a4 HY ?_)
 refine aw rfl (fun h=>?_) (fun h=>?_)
 ·have hil:i < ends.length:=by have:=Ky h;simp [bb] at this;omega
  obtain ⟨z,hz⟩:∃z,ends[i]?=some z:=⟨_,Kz hil⟩
  have hzg:=bP hz
  rw [vo hz] at he
  clear h
  repeat' (first|refine L3 ?_|refine ak ?_|refine KG a4 HY ?_|(apply aQ;first|refine aO a4 ?_|refine aG a4 ?_)|fail)
  refine ce [1,7,37,38,39] (z≥pts.length∨z < last+2) rfl (fun Q' K=>?_) (fun h2=>?_) (fun h2=>?_)
  ·clear hi hzg he hval
   repeat' (first|refine L3 ?_|refine KG a4 HY ?_|refine KR HY ?_|refine KV KB ?_|(apply aU;refine aT ?_)|refine KW KA (fun _=>?_) (fun _=>?_))
   all_goals exact K _ _ rfl rfl (by clear K;simp_all <;> omega)
  ·rw [if_pos h2] at he
   repeat' (first|refine L3 ?_|refine KG a4 HY ?_)
   refine KP HY ?_
   rw [he]
  ·rw [if_neg h2] at he
   repeat' (first|refine L3 ?_|refine KG a4 HY ?_|(apply aU;refine aT ?_)|fail)
   exact aD (i+1,z) rfl ⟨by rw [Kv];rfl,rfl,trivial⟩ ⟨by dsimp only;omega,by dsimp only;omega,by dsimp only;omega,he⟩ (by dsimp only;omega) (fun _ _ h=>h)
 ·have hil:i=ends.length:=by have:=Kx h;simp [bb] at this;omega
  subst hil
  rw [List.drop_length] at he
  repeat' (first|refine L3 ?_|refine KG a4 HY ?_|(apply aU;refine aT ?_)|fail)
  refine KP HY ?_
  rw [he]
  simp [fY]
def IW (_:Nat) (p:eS):Int:=eu (!([p.X,p.Y].all gD)) 30
theorem y6 (i:Nat) (p:eS):bU Tryz.prog 199 [aF i,.agg (dR p)] (aF (IW i p)):=by
 refine aN Tryz.func199 rfl Tryz.ntmps199 rfl fun B=>?_
 repeat' (first|refine L3 ?_|refine KG a4 HY ?_|refine bA ?_|refine bW a4 ?_|(apply bF;refine bv ?_)|fail)
 exact KQ KA
def jh (g:bD):Int:=if g.Advance < 0∨g.Advance > 16384 then 1 else if g.Points.length > 200∨g.Ends.length > 40 then 2 else if (dm g.Points IW).1≠0 then (dm g.Points IW).1 else eu (!(ii g.Points g.Ends)) 31
theorem Bk (g:bD):bU Tryz.prog 116 [.agg (bT g)] (aF (jh g)):=by
 refine aN Tryz.func116 rfl Tryz.ntmps116 rfl fun B=>?_
 unfold jh
 repeat' (first|refine L3 ?_|refine ak ?_|refine KG a4 HY ?_|refine bA ?_|fail)
 refine ce [1] (g.Advance < 0∨g.Advance > 16384) rfl (fun Q' K=>?_) (fun hC=>?_) (fun hC=>?_)
 ·repeat' (first|refine L3 ?_|refine KG a4 HY ?_|refine KR HY ?_|refine KV KB ?_|refine KW KA (fun _=>?_) (fun _=>?_))
  all_goals exact K _ _ rfl rfl (by clear K;grind)
 ·rw [if_pos hC]
  repeat' (first|refine L3 ?_|refine KG a4 HY ?_)
  exact KQ KA
 rw [if_neg hC]
 repeat' (first|refine L3 ?_|refine KG a4 HY ?_)
 refine ce [1] (g.Points.length > 200∨g.Ends.length > 40) rfl (fun Q' K=>?_) (fun hC=>?_) (fun hC=>?_)
 ·repeat' (first|refine L3 ?_|refine KG a4 HY ?_|refine KR HY ?_|refine KV KB ?_|refine KW KA (fun _=>?_) (fun _=>?_))
  all_goals exact K _ _ rfl rfl (by clear K;simp_all [bb] <;> omega)
 ·rw [if_pos hC]
  repeat' (first|refine L3 ?_|refine KG a4 HY ?_)
  exact KQ KA
 rw [if_neg hC]
 repeat' (first|refine L3 ?_|refine KG a4 HY ?_)
 refine b6 [] [] (Ff (u:= .sc (.func (.func 199) #[] #[])) (g:=199) (caps:=[]) rfl g.Points _ (fun _ _=>True) [] trivial (dw (fun i x _=>y6 i x))) rfl rfl (Lz _) rfl fun c L1 hc=>?_
 have hc:c=cD (dm g.Points IW):=hc
 subst hc
 unfold cD
 repeat' (first|refine L3 ?_|refine KG a4 HY ?_)
 refine aw rfl (fun h=>?_) (fun h=>?_)
 ·rw [if_pos (Ky h)]
  repeat' (first|refine L3 ?_|refine KG a4 HY ?_)
  exact KQ KA
 ·rw [if_neg (Kx h)]
  repeat' (first|refine L3 ?_|refine KG a4 HY ?_)
  refine bv (hc:=⟨um g.Points g.Ends⟩) ?_
  repeat' (first|refine L3 ?_|refine KG a4 HY ?_|(apply bF;refine bv ?_)|fail)
  exact KQ KA
instance (g:bD):AD Tryz.prog 116 [.agg (bT g)] (aF (jh g)):=⟨Bk g⟩
end Go.Proofs.YtpmdfoaadejmkaaGreatDoor
namespace Go.Proofs.YtpmdfoaadejmkaaGreatDoor
open Go.RowKit
attribute [local irreducible] AT bJ AX AO Av Kt bi dq DA cG
open Go.MapKept
def D6 (_:Nat) (i:gr):Int:=if i.Op < 1∨i.Op > 39 then 50 else if i.A < -999999999∨i.A > 999999999 then 3 else 0
theorem ut (n:Nat) (i:gr):bU Tryz.prog 154 [aF n,.agg (fc i)] (aF (D6 n i)):=by
 refine aN Tryz.func154 rfl Tryz.ntmps154 rfl fun B=>?_
 unfold D6
 repeat' (first|refine L3 ?_|refine ak ?_|refine KG a4 HY ?_|refine bA ?_|fail)
 refine ce [3] (i.Op < 1∨i.Op > 39) rfl (fun Q' K=>?_) (fun hC=>?_) (fun hC=>?_)
 ·repeat' (first|refine L3 ?_|refine KG a4 HY ?_|refine KR HY ?_|refine KV KB ?_|refine KW KA (fun _=>?_) (fun _=>?_))
  all_goals exact K _ _ rfl rfl (by clear K;grind)
 ·rw [if_pos hC]
  repeat' (first|refine L3 ?_|refine KG a4 HY ?_)
  exact KQ KA
 rw [if_neg hC]
 repeat' (first|refine L3 ?_|refine KG a4 HY ?_)
 refine ce [] (i.A < -999999999∨i.A > 999999999) rfl (fun Q' K=>?_) (fun hC=>?_) (fun hC=>?_)
 ·repeat' (first|refine L3 ?_|refine KG a4 HY ?_|refine KR HY ?_|refine KV KB ?_|refine KW KA (fun _=>?_) (fun _=>?_))
  all_goals exact K _ _ rfl rfl (by clear K;grind)
 ·rw [if_pos hC]
  repeat' (first|refine L3 ?_|refine KG a4 HY ?_)
  exact KQ KA
 rw [if_neg hC]
 repeat' (first|refine L3 ?_|refine KG a4 HY ?_)
 exact KQ KA
def o4 (l:List gr):Int:=(cC 200 l D6).1
theorem w4 (l:List gr):bU Tryz.prog 75 [.imm 2 (l.map fc)] (aF (o4 l)):=by
 refine aN Tryz.func75 rfl Tryz.ntmps75 rfl fun B=>?_
 repeat' (first|refine L3 ?_|refine KG a4 HY ?_|(apply bF;refine bv ?_)|fail)
 refine dQ (f:=227) (cs:=[]) [] [] (G8 (g:=154) (caps:=[]) rfl l 200 _ (fun _ _=>True) [] trivial (fun _=>dw fun i x _=>ut i x)) rfl rfl rfl (Lz _) rfl rfl fun c L1 hc=>?_
 have hc:c=cD (cC 200 l D6):=hc
 subst hc
 unfold cD
 repeat' (first|refine L3 ?_|refine KG a4 HY ?_)
 exact KQ KA
instance (l:List gr):AD Tryz.prog 75 [.imm 2 (l.map fc)] (aF (o4 l)):=⟨w4 l⟩
def mK (f:aZ) (_:Nat) (p:ec):Int:=if lN f p.Glyph=false then 32 else eu (!([p.X,p.Y].all gD)) 30
theorem xq (f:aZ) (n:Nat) (p:ec):bU Tryz.prog 118 [aF n,.agg (eR p),.iptr (cJ f)] (aF (mK f n p)):=by
 refine aN Tryz.func118 rfl Tryz.ntmps118 rfl fun B=>?_
 unfold mK
 repeat' (first|refine L3 ?_|refine KG a4 HY ?_|refine bA ?_|(apply bF;refine bv ?_)|fail)
 refine aw rfl (fun h=>?_) (fun h=>?_)
 ·rw [if_pos (by simpa using h)]
  repeat' (first|refine L3 ?_|refine KG a4 HY ?_)
  exact KQ KA
 ·rw [if_neg (by simpa using h)]
  repeat' (first|refine L3 ?_|refine KG a4 HY ?_|refine bW a4 ?_|(apply bF;refine bv ?_)|fail)
  exact KQ KA
def mT (g:bD) (i:Nat) (a:dO):Int:=if (a.Kind < 1∨a.Kind > 4)∨(a.Class < 0∨a.Class > 15)∨((a.Kind=3∨a.Kind=4)∧a.Class≠0)∨[a.X,a.Y].all gD=false∨(a.Kind=2∧g.Mark=false)∨(∃b∈g.Anchors.take i,b.Kind=a.Kind∧b.Class=a.Class) then 35 else 0
def sw (f:aZ) (g:bD) (i:Nat) (d:dW):Int:=if d.Region < 0∨d.Region≥f.Regions.length then 61 else if (d.Point < -1∨d.Point≥g.Points.length)∨[d.X,d.Y].all gD=false∨(d.Point= -1∧d.Y≠0) then 30 else if (match i with | 0=>false | j+1=>match g.Deltas[j]? with | some b=>decide (d.Region < b.Region∨(d.Region=b.Region∧d.Point≤b.Point)) | none=>false)=true then 24 else 0
theorem wK (b:Bool):AC Tryz.prog 121 [d6 b] [] fun c L=>∃m,c= .fn 205 [.iptr [d6 b],.iptr [.sc (.map (some m))]]∧L=[(m,iB fun _ _=>none)]:=by
 refine aN Tryz.func121 rfl Tryz.ntmps121 rfl fun B=>?_
 repeat' (first|refine L3 ?_|refine KG a4 HY ?_|refine bA ?_|fail)
 refine xO fun m=>?_
 repeat' (first|refine L3 ?_|refine KG a4 HY ?_|(apply aM;first|refine KL 3 a4 0 KF ?_|refine KL 3 a4 1 KF ?_|refine KL 3 a4 2 KF ?_|refine KH a4 0 KE ?_|refine KH a4 1 KE ?_|refine KH a4 2 KE ?_|refine KH a4 3 KE ?_|fail)|refine bq a4 fun _=>?_|fail)
 exact KP HY ⟨_,rfl,rfl⟩
theorem A9 (r p:Int):AC Tryz.prog 123 [aF r,aF p] [] fun c L=>∃b,c= .fn 208 [.iptr [aF r],.iptr [aF p],.sc (.pointer (some ⟨b,0,none⟩))]∧L=[(b,.box [aF 0,aF 0] 296)]:=by
 refine aN Tryz.func123 rfl Tryz.ntmps123 rfl fun B=>?_
 repeat' (first|refine L3 ?_|refine KG a4 HY ?_|refine bA ?_|refine bq a4 fun _=>?_|fail)
 exact KP HY ⟨_,rfl,rfl⟩
theorem xo (e:Int):bU Tryz.prog 114 [.iptr [aF e]] (cD (e,0)):=by
 refine aN Tryz.func114 rfl Tryz.ntmps114 rfl fun B=>?_
 repeat' (first|refine L3 ?_|refine KG a4 HY ?_)
 exact bf rfl rfl rfl rfl
theorem xp (g:bD):bU Tryz.prog 115 [.iptr (bT g)] (cD (jh g,0)):=by
 refine aN Tryz.func115 rfl Tryz.ntmps115 rfl fun B=>?_
 repeat' (first|refine L3 ?_|refine KG a4 HY ?_|(apply bF;refine bv ?_)|fail)
 exact bf rfl rfl rfl rfl
theorem xr (g:bD):bU Tryz.prog 124 [.iptr (bT g)] (cD (o4 g.Hint,0)):=by
 refine aN Tryz.func124 rfl Tryz.ntmps124 rfl fun B=>?_
 repeat' (first|refine L3 ?_|refine KG a4 HY ?_|(apply bF;refine bv ?_)|fail)
 exact bf rfl rfl rfl rfl
def gV (l:List (Int×Int)):Int×Int:=match l with
 | []=>(0,0)
 | x::r=>if x.1=0 then gV r else x
theorem kR:∀l:List Lk,t9 l=gV (l.map fun x=>(x.e,x.n))
 | []=>rfl
 | x::r=>by simp only [t9,Kp,gV];rw [kR r]
theorem r8:∀{l:List (Int×Int)},(∀x∈l,x.1=0)→gV l=(0,0)
 | [],_=>rfl
 | x::r,h=>by unfold gV;rw [if_pos (h x (List.mem_cons_self ..))];exact r8 fun y hy=>h y (Ks _ hy)
def oT (f:aZ) (g:bD) (name:Int):Int:=(gV [(name,0),(jh g,0),cC 8 g.Parts (mK f),cC 16 g.Anchors (mT g),cC 400 g.Deltas (sw f g),(o4 g.Hint,0)]).1
end Go.Proofs.YtpmdfoaadejmkaaGreatDoor
