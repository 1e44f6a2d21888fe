/-
  The program: what the first look tells that finds something wrong.
-/
import Derived.Test.YtpmdfoaadejmkaaGreatDoorM09
import Derived.Test.YtpmdfoaadejmkaaGreatDoorM08
import Derived.Test.YtpmdfoaadejmkaaGreatDoorM05
import Derived.Test.YtpmdfoaadejmkaaGreatDoorM07
namespace Go.Proofs.YtpmdfoaadejmkaaGreatDoor
open Go.RowKit
attribute [local irreducible] AT bv AX AO Av Kt b9 dh DA cE
structure Lk where
 f:FuncId
 caps:List AV
 L:AL
 e:Int
 n:Int
def Lk.ok (x:Lk):Prop:=bD Tryz.prog x.f∧AC Tryz.prog x.f x.caps x.L fun c _=>c=ck (x.e,x.n)
def rC:List Lk→Int×Int
 | []=>(0,0)
 | x::r=>if x.e=0 then rC r else (x.e,x.n)
def FH (l:List Lk):AL:=(l.map Lk.L).flatten
def vU:List Lk→Prop
 | []=>True
 | x::r=>x.ok∧(x.e=0→vU r)
def Hy (x:Lk):List AV:=[.fn x.f x.caps]
theorem Bm {l:List Lk} {i:Nat} {x:Lk} (h:l[i]?=some x):rC (l.drop i)=if x.e=0 then rC (l.drop (i+1)) else (x.e,x.n):=by
 obtain ⟨hi,hx⟩:=Ju h
 rw [List.drop_eq_getElem_cons hi,hx]
 rfl
theorem yz {l:List Lk} {i:Nat} {x:Lk} (h:l[i]?=some x) (hk:vU (l.drop i)):x.ok∧(x.e=0→vU (l.drop (i+1))):=by
 obtain ⟨hi,hx⟩:=Ju h
 rw [List.drop_eq_getElem_cons hi,hx] at hk
 exact hk
theorem ub:∀{l:List Lk},(rC l).1=0→rC l=(0,0)
 | [],_=>rfl
 | x::r,h=>by
  unfold rC at h ⊢
  split
  ·rename_i h0
   rw [if_pos h0] at h
   exact ub h
  ·rename_i h0
   rw [if_neg h0] at h
   exact absurd h h0
theorem Bn {l:List Lk} {i:Nat} {x:Lk} (h:l[i]?=some x):FH (l.drop i)=x.L++FH (l.drop (i+1)):=by
 obtain ⟨hi,hx⟩:=Ju h
 unfold FH
 rw [List.drop_eq_getElem_cons hi,hx]
 rfl
theorem yf {σ0:ci} {l:Nat} (ls:List Lk) (hok:vU ls) (E:AL) (E':Int→Int→AL) (hy:∀e n,e≠0→AY Tryz.prog σ0 l [aF e,aF n] E fun c L=>c=ec false∧L=E' e n):
  ER Tryz.prog σ0 197 [.sc (.func (.yield l) #[] #[]),.iptr [.imm 1 (ls.map Hy)]] (FH ls++E) fun _ L=>L=if (rC ls).1=0 then E else E' (rC ls).1 (rC ls).2:=by
 refine zQ Tryz.func197 rfl Tryz.ntmps197 rfl fun B hB=>?_
 repeat' (first|refine IT ?_|refine am ?_|refine IF a5 G9 ?_)
 refine cJ 7 rfl rfl fun hlen=>?_
 rw [Jz] at hlen
 refine aO [0,7,8] (α:=Nat) (fun i=>[(9,aF i)]) (fun i=>i≤ls.length∧rC ls=rC (ls.drop i)∧vU (ls.drop i)) (fun i=>FH (ls.drop i)++E) (fun i=>ls.length - i) 0 rfl ⟨rfl,trivial⟩ ⟨Nat.zero_le _,rfl,hok⟩ (fun _ _ h=>h) fun i ⟨hi,he,hok⟩=>?_
 try dsimp only [Jx,Jw,Jv,Jq]
 repeat' (first|refine IT ?_|refine IF a5 G9 ?_)
 refine ar rfl (fun h=>?_) (fun h=>?_)
 ·have hil:i < ls.length:=by have:=Iy h;simp at this;omega
  obtain ⟨x,hx⟩:∃z,ls[i]?=some z:=⟨_,Iz hil⟩
  have hzg:=cC (c:=Hy) hx
  obtain ⟨⟨hcf,hac⟩,hok⟩:=yz hx hok
  rw [Bm hx] at he
  rw [Bn hx]
  repeat' (first|refine IT ?_|refine am ?_|refine IF a5 G9 ?_|(apply aS;first|refine aQ a5 ?_|refine aG a5 ?_)|fail)
  refine dk (cs:=[]) x.L (FH (ls.drop (i+1))++E) (by simpa using hac) rfl rfl rfl (by rw [List.append_assoc]) rfl rfl fun c L1 hc=>?_
  subst hc
  refine aJ (bO (List.sublist_append_right ..)) ?_
  unfold ck
  repeat' (first|refine IT ?_|refine IF a5 G9 ?_)
  by_cases h0:x.e=0
  ·rw [if_pos h0] at he
   rw [h0]
   repeat' (first|refine IT ?_|refine IF a5 G9 ?_|refine IP IB ?_|(apply aV;refine aU ?_)|refine bK rfl ?_)
   exact aC (i+1) rfl ⟨by rw [Iv];rfl,trivial⟩ ⟨by omega,he,hok h0⟩ (by omega) (fun _ _ h=>h)
  ·rw [if_neg h0] at he
   rw [show decide (x.e≠0)=true from decide_eq_true h0]
   repeat' (first|refine IF a5 G9 ?_|refine IM G9 ?_)
   refine aJ (bO (List.sublist_append_right ..)) ?_
   refine xb E [] hB (hy x.e x.n h0) rfl rfl rfl (c8 rfl) rfl rfl fun c L1 ⟨hc,hL⟩=>?_
   subst hc;subst hL
   rw [List.append_nil]
   repeat' (first|refine IT ?_|refine IF a5 G9 ?_|refine IM G9 ?_|refine bQ rfl ?_)
   refine oM rfl ?_
   rw [he,if_neg h0]
 ·have hil:i=ls.length:=by have:=Ix h;simp at this;omega
  subst hil
  rw [List.drop_length] at he ⊢
  repeat' (first|refine IT ?_|fail)
  refine cA rfl ?_
  rw [he]
  rfl
theorem vy (l:List (List AV)):bN Tryz.prog 111 [.imm 1 l] (.fn 197 [.iptr [.imm 1 l]]):=by
 refine aL Tryz.func111 rfl Tryz.ntmps111 rfl fun B=>?_
 repeat' (first|refine IT ?_|refine IF a5 G9 ?_|refine bo ?_|fail)
 exact IN IA
instance (l:List (List AV)):AD Tryz.prog 111 [.imm 1 l] (.fn 197 [.iptr [.imm 1 l]]):=⟨vy l⟩
theorem BY {p q:Nat×AB} {l l2:AL}:(p::q::(l++l2)).Perm (l++(p::q::l2)):=by
 have:=(List.perm_append_comm (l₁:=[p,q]) (l₂:=l)).append_right l2
 simpa using this
set_option maxHeartbeats 1000000 in
theorem j4 (ls:List Lk) (hok:vU ls):AC Tryz.prog 47 [.imm 1 (ls.map Hy)] (FH ls) fun c _=>c=ck (rC ls):=by
 refine zP Tryz.func47 rfl Tryz.ntmps47 rfl fun B=>?_
 repeat' (first|refine IT ?_|refine am ?_|refine IF a5 G9 ?_|refine bi a5 fun _=>?_|(apply bk;refine bf ?_)|fail)
 rename_i b2 b3
 refine tw (ps:=[8,9]) rfl fun σ0 l db rec hrec=>?_
 have hy:∀e n:Int,e≠0→AY Tryz.prog σ0 l [aF e,aF n] ([(b3,.box [aF 0] 3),(b2,.box [aF 0] 35),(db,t7)]++[(l,mZ rec)]) fun c L=>c=ec false∧L=[(b3,.box [aF n] 3),(b2,.box [aF e] 35),(db,t7)]++[(l,mZ { ({ rec with state:= .busy }:Loop) with state:= .done,pending:=some .ret })]:=by
  intro e n he
  refine EB hrec rfl rfl fun B1 hB1=>?_
  repeat' (first|refine IT ?_|refine IF a5 G9 ?_)
  refine tA hrec.state ?_
  repeat' (first|refine IT ?_|refine am ?_|refine IF a5 G9 ?_|(apply aK;first|refine IG a5 0 ID ?_|refine IG a5 1 ID ?_|refine IG a5 2 ID ?_|refine IG a5 3 ID ?_|fail))
  refine vg (L:=[(b3,.box [aF n] 3),(b2,.box [aF e] 35),(db,t7)]) ?_
  exact ⟨rfl,rfl⟩
 refine ⟨_,(yf ls hok _ _ hy).perm ?_,fun c L' hL'=>?_⟩
 ·simp only [List.append_assoc,Jx,Jw]
  exact BY
 ·by_cases h0:(rC ls).1=0
  ·rw [if_pos h0] at hL'
   subst hL'
   refine ⟨rec,_,Jt _,(by rw [hrec.state];intro h;cases h),?_⟩
   rw [hrec.pending]
   show AX _ _ _ _ _ _ _ _
   repeat' (first|refine IT ?_|(apply aK;first|refine IG a5 0 ID ?_|refine IG a5 1 ID ?_|refine IG a5 2 ID ?_|refine IG a5 3 ID ?_|fail))
   refine oN (cs:=[aF 0,aF 0]) [db] [(b3,.box [aF 0] 3),(b2,.box [aF 0] 35)] rfl (Jt _) ?_ ?_
   ·exact ⟨⟨b2,1,_,_,rfl,rfl,.inl ⟨cS a5 rfl,rfl⟩⟩,⟨b3,0,_,_,rfl,rfl,.inl ⟨cS a5 rfl,rfl⟩⟩,trivial⟩
   ·have:rC ls=(0,0):=ub h0
    rw [this]
    rfl
  ·rw [if_neg h0] at hL'
   subst hL'
   refine ⟨_,_,Jt _,(by intro h;cases h),?_⟩
   show AX _ _ _ _ _ _ _ _
   repeat' (first|refine IT ?_|fail)
   refine oN (cs:=[aF (rC ls).1,aF (rC ls).2]) [db] [(b3,.box [aF (rC ls).2] 3),(b2,.box [aF (rC ls).1] 35)] rfl (Jt _) ?_ rfl
   exact ⟨⟨b2,1,_,_,rfl,rfl,.inl ⟨cS a5 rfl,rfl⟩⟩,⟨b3,0,_,_,rfl,rfl,.inl ⟨cS a5 rfl,rfl⟩⟩,trivial⟩
def Ip (l:List Int) (n:Nat):List Int:=((List.range n).map Int.ofNat).filter (l.contains ·)
theorem u3 (a b:List Int):aT a++aT b=aT (a++b):=by simp [aT]
def dK (b:Bool) (e:Int):Int:=bif b then e else 0
theorem CC (b:Bool) (e:Int):bN Tryz.prog 78 [ec b,aF e] (aF (dK b e)):=by
 refine aL Tryz.func78 rfl Tryz.ntmps78 rfl fun B=>?_
 repeat' (first|refine IT ?_|refine IF a5 G9 ?_)
 refine ar rfl (fun h=>?_) (fun h=>?_)
 ·subst h
  repeat' (first|refine IT ?_|refine IF a5 G9 ?_)
  exact IN IA
 ·subst h
  repeat' (first|refine IT ?_|refine IF a5 G9 ?_)
  exact IN IA
instance (b:Bool) (e:Int):AD Tryz.prog 78 [ec b,aF e] (aF (dK b e)):=⟨CC b e⟩
def g8 (z:Int):Bool:=decide (-16384≤z∧z≤16384)
theorem sD (l:List Int):bN Tryz.prog 79 [.imm 1 (aT l)] (ec (l.all g8)):=by
 refine aL Tryz.func79 rfl Tryz.ntmps79 rfl fun B=>?_
 refine cJ 0 rfl rfl fun hlen=>?_
 rw [b6] at hlen
 repeat' (first|refine IT ?_|refine am ?_|refine IF a5 G9 ?_)
 refine aO [5,6] (α:=Nat) (fun i=>[(7,aF i)]) (fun i=>i≤l.length∧(l.take i).all g8=true) (fun _=>[]) (fun i=>l.length - i) 0 rfl ⟨rfl,trivial⟩ ⟨Nat.zero_le _,by simp⟩ (fun _ _ h=>h) fun i hi=>?_
 try dsimp only [Jx,Jw,Jv,Jq]
 repeat' (first|refine IT ?_|refine IF a5 G9 ?_)
 refine ar rfl (fun h=>?_) (fun h=>?_)
 ·have hil:i < l.length:=by have:=Iy h;rw [b6] at this;omega
  obtain ⟨z,hz⟩:∃z,l[i]?=some z:=⟨_,Iz hil⟩
  have hzg:=bR hz
  repeat' (first|refine IT ?_|refine am ?_|refine IF a5 G9 ?_|(apply aS;first|refine aQ a5 ?_|refine aG a5 ?_)|fail)
  refine c7 [5,6,7] (g8 z=false) rfl (fun Q' K=>?_) (fun hC=>?_) (fun hC=>?_)
  ·repeat' (first|refine IT ?_|refine IF a5 G9 ?_|refine IM G9 ?_|refine IP IB ?_|refine IR IA (fun _=>?_) (fun _=>?_))
   all_goals exact K _ _ rfl rfl (by unfold g8;simp_all <;> omega)
  ·repeat' (first|refine IT ?_|refine IF a5 G9 ?_)
   refine IL G9 ?_
   rw [show l.all g8=false by
    rw [List.all_eq_false]
    exact ⟨z,Iw hz,by simp [hC]⟩]
  ·repeat' (first|refine IT ?_|refine IF a5 G9 ?_|(apply aV;refine aU ?_)|fail)
   refine aC (i+1) rfl ⟨by rw [Iv];rfl,trivial⟩ ⟨by omega,?_⟩ (by omega) (fun _ _ h=>h)
   rw [List.take_add_one,hz,List.all_append,hi.2]
   simpa using hC
 ·have hil:i=l.length:=by have:=Ix h;rw [b6] at this;omega
  subst hil
  rw [List.take_length] at hi
  repeat' (first|refine IT ?_|refine IF a5 G9 ?_)
  refine IL G9 ?_
  rw [hi.2]
instance (x:Int):AD Tryz.prog 79 [.imm 1 [[aF x]]] (ec ([x].all g8)):=⟨sD [x]⟩
instance (x y:Int):AD Tryz.prog 79 [.imm 1 [[aF x],[aF y]]] (ec ([x,y].all g8)):=⟨sD [x,y]⟩
instance (x y z:Int):AD Tryz.prog 79 [.imm 1 [[aF x],[aF y],[aF z]]] (ec ([x,y,z].all g8)):=⟨sD [x,y,z]⟩
def kG (f:aZ) (n:Int):Bool:=decide (0≤n∧n < f.Glyphs.length)
theorem u4 (f:aZ) (n:Int):bN Tryz.prog 119 [cR f,aF n] (ec (kG f n)):=by
 refine aL Tryz.func119 rfl Tryz.ntmps119 rfl fun B=>?_
 repeat' (first|refine IT ?_|refine IF a5 G9 ?_|refine bo ?_|fail)
 refine df (t:=4) [] (kG f n=true) rfl (fun Q' K=>?_) ?_
 ·repeat' (first|refine IT ?_|refine IF a5 G9 ?_|refine IM G9 ?_|refine IP IB ?_|refine IR IA (fun _=>?_) (fun _=>?_))
  all_goals exact K _ _ rfl rfl (by unfold kG;simp_all <;> omega)
 repeat' (first|refine IT ?_|fail)
 refine IL G9 ?_
 simp
instance (f:aZ) (n:Int):AD Tryz.prog 119 [cR f,aF n] (ec (kG f n)):=⟨u4 f n⟩
def kv (right taken:Bool):Int:=bif right then (bif taken then 24 else 0) else 23
theorem qP (a b:Bool):bN Tryz.prog 53 [ec a,ec b] (aF (kv a b)):=by
 refine aL Tryz.func53 rfl Tryz.ntmps53 rfl fun B=>?_
 repeat' (first|refine IT ?_|refine am ?_|refine IF a5 G9 ?_)
 refine ar rfl (fun h=>?_) (fun h=>?_)
 ·repeat' (first|refine IT ?_|refine IF a5 G9 ?_)
  refine IL G9 ?_
  cases a with
  | true=>cases h
  | false=>rfl
 ·repeat' (first|refine IT ?_|refine IF a5 G9 ?_)
  have ha:a=true:=by cases a with
   | true=>rfl
   | false=>cases h
  subst ha
  refine ar rfl (fun h=>?_) (fun h=>?_)
  ·subst h
   repeat' (first|refine IT ?_|refine IF a5 G9 ?_)
   exact IN IA
  ·subst h
   repeat' (first|refine IT ?_|refine IF a5 G9 ?_)
   exact IN IA
instance (a b:Bool):AD Tryz.prog 53 [ec a,ec b] (aF (kv a b)):=⟨qP a b⟩
def o6 (c:Int):Bool:=decide ((65≤c∧c≤90)∨(97≤c∧c≤122))
abbrev U8 (c:Int):AV:= .sc (.int .u8 c)
theorem su (c:Int):bN Tryz.prog 125 [U8 c] (ec (o6 c)):=by
 refine aL Tryz.func125 rfl Tryz.ntmps125 rfl fun B=>?_
 repeat' (first|refine IT ?_|refine IF a5 G9 ?_)
 refine df (t:=2) [] (o6 c=true) rfl (fun Q' K=>?_) ?_
 ·repeat' (first|refine IT ?_|refine IF a5 G9 ?_|refine IM G9 ?_|refine IP IB ?_|refine dm rfl rfl rfl ?_|refine IR IA (fun _=>?_) (fun _=>?_))
  all_goals exact K _ _ rfl rfl (by unfold o6;simp_all <;> omega)
 repeat' (first|refine IT ?_|fail)
 refine IL G9 ?_
 simp
instance (c:Int):AD Tryz.prog 125 [U8 c] (ec (o6 c)):=⟨su c⟩
section
variable {P:Program} {tt:TT} {r:Option Nat} {ops:Array Oper} {Q:Exit→Act→World→Prop} {nt:Nat} {D:List Deferred} {fr:bW} {B:Bs} {L:AL} {rest:List Oper} {d:Nat} {ty t:TypeId} {pos:String} {af:Array Edge} {x y z:Operand}
theorem xa (ok:dX P tt) {s:ByteArray} {k:IntKind} {i:Int} {c:UInt8} {ti:TI} (ht:d6 tt t=some ti) (hk:ti.k= .str) (hx:bc fr x=some (.sc (.string s))) (hy:bc fr y=some (.sc (.int k i))) (h0:0≤i) (hu:s[i.toNat]?=some c) (hd:Nat.ble nt d=false) (h:bv P r ops Q nt D rest ((d,U8 c.toNat)::fr) B L):bv P r ops Q nt D (⟨some d,.index t x y,ty,pos,af,none⟩::rest) fr B L:=c9 (v5 (ok.str ht hk) hx hy h0 hu) hd rfl h
end
def ng (s:ByteArray) (i:Nat):Int:=match s[i]? with | some c=>c.toNat | none=>0
theorem pi {s:ByteArray} {i:Nat} {c:UInt8} (h:s[i]?=some c):ng s i=c.toNat:=by unfold ng;rw [h]
def th (n:Nat) (p:Nat→Bool):Bool:=(List.range n).all p
theorem n7 {n:Nat} {p:Nat→Bool}:th n p=true↔∀i,i < n→p i=true:=by simp [th]
theorem nU {n:Nat} {p:Nat→Bool} {i:Nat} (hi:i < n) (h:p i=false):th n p=false:=by
 rw [Bool.eq_false_iff]
 intro hh
 rw [n7.1 hh i hi] at h
 cases h
theorem xo {s:ByteArray} {i:Nat} (h:i < s.size):∃c,s[i]?=some c:=⟨s[i],by simp [h]⟩
def eZ (s:ByteArray):Bool:=decide (1≤s.size∧s.size≤8) && th s.size fun i=>o6 (ng s i)
theorem qO (s:ByteArray):bN Tryz.prog 66 [uZ s] (ec (eZ s)):=by
 refine aL Tryz.func66 rfl Tryz.ntmps66 rfl fun B=>?_
 repeat' (first|refine IT ?_|refine IF a5 G9 ?_)
 refine c7 [0] (¬(1≤s.size∧s.size≤8)) rfl (fun Q' K=>?_) (fun hC=>?_) (fun hC=>?_)
 ·repeat' (first|refine IT ?_|refine IF a5 G9 ?_|refine IM G9 ?_|refine IP IB ?_|refine IR IA (fun _=>?_) (fun _=>?_))
  all_goals exact K _ _ rfl rfl (by simp_all <;> omega)
 ·repeat' (first|refine IT ?_|refine IF a5 G9 ?_)
  refine IL G9 ?_
  unfold eZ
  rw [decide_eq_false hC]
  rfl
 have hC:=Decidable.not_not.1 hC
 repeat' (first|refine IT ?_|refine am ?_|refine IF a5 G9 ?_)
 refine aO [0,13] (α:=Nat) (fun i=>[(14,aF i)]) (fun i=>i≤s.size∧∀j,j < i→o6 (ng s j)=true) (fun _=>[]) (fun i=>s.size - i) 0 rfl ⟨rfl,trivial⟩ ⟨Nat.zero_le _,fun j hj=>absurd hj (Nat.not_lt_zero _)⟩ (fun _ _ h=>h) fun i hi=>?_
 try dsimp only [Jx,Jw,Jv,Jq]
 repeat' (first|refine IT ?_|refine IF a5 G9 ?_)
 refine ar rfl (fun h=>?_) (fun h=>?_)
 ·have hil:i < s.size:=by have:=Iy h;omega
  obtain ⟨c,hc⟩:=xo hil
  have hb:=pi hc
  repeat' (first|refine IT ?_|refine am ?_|refine IF a5 G9 ?_)
  refine xa a5 rfl rfl rfl rfl (by omega) (by rw [Int.toNat_natCast];exact hc) rfl ?_
  repeat' (first|refine IT ?_|refine IF a5 G9 ?_|(apply bk;refine bf ?_)|fail)
  refine ar rfl (fun h2=>?_) (fun h2=>?_)
  ·repeat' (first|refine IT ?_|refine IF a5 G9 ?_)
   refine IL G9 ?_
   unfold eZ
   rw [nU hil (by rw [hb];simpa using h2),Bool.and_false]
  ·repeat' (first|refine IT ?_|refine IF a5 G9 ?_|(apply aV;refine aU ?_)|fail)
   refine aC (i+1) rfl ⟨by rw [Iv];rfl,trivial⟩ ⟨by omega,fun j hj=>?_⟩ (by omega) (fun _ _ h=>h)
   by_cases e:j=i
   ·subst e;rw [hb];simpa using h2
   ·exact hi.2 j (by omega)
 ·have hil:i=s.size:=by have:=Ix h;omega
  subst hil
  repeat' (first|refine IT ?_|refine IF a5 G9 ?_)
  refine IL G9 ?_
  unfold eZ
  rw [decide_eq_true hC,n7.2 hi.2]
  rfl
instance (s:ByteArray):AD Tryz.prog 66 [uZ s] (ec (eZ s)):=⟨qO s⟩
def sL (i:Nat) (c:Int):Bool:=decide ((o6 c=true∨c=95∨c=46)∨(0 < i∧((48≤c∧c≤57)∨c=45)))
def fZ (s:ByteArray):Bool:=decide (1≤s.size∧s.size≤16) && th s.size fun i=>sL i (ng s i)
set_option maxHeartbeats 1000000 in
theorem vP (s:ByteArray):bN Tryz.prog 54 [uZ s] (ec (fZ s)):=by
 refine aL Tryz.func54 rfl Tryz.ntmps54 rfl fun B=>?_
 repeat' (first|refine IT ?_|refine IF a5 G9 ?_)
 refine c7 [0] (¬(1≤s.size∧s.size≤16)) rfl (fun Q' K=>?_) (fun hC=>?_) (fun hC=>?_)
 ·repeat' (first|refine IT ?_|refine IF a5 G9 ?_|refine IM G9 ?_|refine IP IB ?_|refine IR IA (fun _=>?_) (fun _=>?_))
  all_goals exact K _ _ rfl rfl (by simp_all <;> omega)
 ·repeat' (first|refine IT ?_|refine IF a5 G9 ?_)
  refine IL G9 ?_
  unfold fZ
  rw [decide_eq_false hC]
  rfl
 have hC:=Decidable.not_not.1 hC
 repeat' (first|refine IT ?_|refine am ?_|refine IF a5 G9 ?_)
 refine aO [0,16] (α:=Nat) (fun i=>[(17,aF i)]) (fun i=>i≤s.size∧∀j,j < i→sL j (ng s j)=true) (fun _=>[]) (fun i=>s.size - i) 0 rfl ⟨rfl,trivial⟩ ⟨Nat.zero_le _,fun j hj=>absurd hj (Nat.not_lt_zero _)⟩ (fun _ _ h=>h) fun i hi=>?_
 try dsimp only [Jx,Jw,Jv,Jq]
 repeat' (first|refine IT ?_|refine IF a5 G9 ?_)
 refine ar rfl (fun h=>?_) (fun h=>?_)
 ·have hil:i < s.size:=by have:=Iy h;omega
  obtain ⟨c,hc⟩:=xo hil
  have hb:=pi hc
  repeat' (first|refine IT ?_|refine am ?_|refine IF a5 G9 ?_)
  refine xa a5 rfl rfl rfl rfl (by omega) (by rw [Int.toNat_natCast];exact hc) rfl ?_
  generalize (c.toNat:Int)=z at *
  repeat' (first|refine IT ?_|refine IF a5 G9 ?_|(apply bk;refine bf ?_)|fail)
  refine df (t:=5) [0,3,4,16,17] (o6 z=true∨z=95∨z=46) rfl (fun Q' K=>?_) ?_
  ·clear hi hb hc h
   repeat' (first|refine IT ?_|refine IF a5 G9 ?_|refine IM G9 ?_|refine IP IB ?_|refine IR IA (fun _=>?_) (fun _=>?_))
   all_goals exact K _ _ rfl rfl (by simp_all)
  repeat' (first|refine IT ?_|refine IF a5 G9 ?_)
  refine df (t:=6) [0,5,16,17] (0 < i∧((48≤z∧z≤57)∨z=45)) rfl (fun Q' K=>?_) ?_
  ·clear hi hb hc h
   repeat' (first|refine IT ?_|refine IF a5 G9 ?_|refine IM G9 ?_|refine IP IB ?_|refine dm rfl rfl rfl ?_|refine IR IA (fun _=>?_) (fun _=>?_))
   all_goals exact K _ _ rfl rfl (by simp_all <;> omega)
  repeat' (first|refine IT ?_|refine IF a5 G9 ?_)
  refine c7 [0,16,17] (sL i z=false) rfl (fun Q' K=>?_) (fun h2=>?_) (fun h2=>?_)
  ·clear hi hb hc h
   repeat' (first|refine IT ?_|refine IF a5 G9 ?_|refine IM G9 ?_|refine IP IB ?_|refine IR IA (fun _=>?_) (fun _=>?_))
   all_goals exact K _ _ rfl rfl (by clear K;unfold sL;grind)
  ·repeat' (first|refine IT ?_|refine IF a5 G9 ?_)
   refine IL G9 ?_
   unfold fZ
   rw [nU hil (by rw [hb];exact h2),Bool.and_false]
  ·repeat' (first|refine IT ?_|refine IF a5 G9 ?_|(apply aV;refine aU ?_)|fail)
   refine aC (i+1) rfl ⟨by rw [Iv];rfl,trivial⟩ ⟨by omega,fun j hj=>?_⟩ (by omega) (fun _ _ h=>h)
   by_cases e:j=i
   ·subst e;rw [hb];simpa using h2
   ·exact hi.2 j (by omega)
 ·have hil:i=s.size:=by have:=Ix h;omega
  subst hil
  repeat' (first|refine IT ?_|refine IF a5 G9 ?_)
  refine IL G9 ?_
  unfold fZ
  rw [decide_eq_true hC,n7.2 hi.2]
  rfl
instance (s:ByteArray):AD Tryz.prog 54 [uZ s] (ec (fZ s)):=⟨vP s⟩
end Go.Proofs.YtpmdfoaadejmkaaGreatDoor
namespace Go.Proofs.YtpmdfoaadejmkaaGreatDoor
open Go.RowKit
attribute [local irreducible] AT bv AX AO Av Kt b9 dh DA cE
def fI {α:Type} (l:List α) (w:Nat→α→Int) (i:Nat):Int:=match l[i]? with | some x=>w i x | none=>0
def cV {α:Type} (l:List α) (w:Nat→α→Int):Int×Int:=d5 (fI l w) l.length
def cj {α:Type} (most:Int) (l:List α) (w:Nat→α→Int):Int×Int:=cW most (fI l w) l.length
theorem hQ {α:Type} {l:List α} {w:Nat→α→Int} {i:Nat} {x:α} (h:l[i]?=some x):fI l w i=w i x:=by unfold fI;rw [h]
theorem rh {α:Type} {l:List α} {w:Nat→α→Int} (h:∀i x,l[i]?=some x→w i x=0) (i:Nat):fI l w i=0:=by
 unfold fI
 split
 ·exact h _ _ (by assumption)
 ·rfl
theorem fb {α:Type} {l:List α} {w:Nat→α→Int} (h:∀i x,l[i]?=some x→w i x=0):cV l w=(0,0):=re fun i _=>rh h i
theorem dE {α:Type} {most:Int} {l:List α} {w:Nat→α→Int} (hm:(l.length:Int)≤most) (h:∀i x,l[i]?=some x→w i x=0):cj most l w=(0,0):=zb hm fun i _=>rh h i
theorem d4 {α:Type} {P:Program} {g:FuncId} {caps:List AV} {l:List α} {el:α→AV} {w:Nat→α→Int} (h:∀(i:Nat) x,l[i]?=some x→bN P g ([aF i,el x]++caps) (aF (w i x))):∀(i:Nat) x (L:AL),l[i]?=some x→True→AC P g ([aF i,el x]++caps) L fun c _=>c=aF (fI l w i)∧(fI l w i=0→True):=by
 intro i x L hx _
 rw [hQ hx]
 exact ((h i x hx).any L).mono fun c L' ⟨h1,_⟩=>⟨h1,fun _=>trivial⟩
theorem qF {α:Type} {P:Program} {g:FuncId} {caps:List AV} {l:List α} {el:α→AV} {w:Nat→α→Int} {L0:AL} (h:∀(i:Nat) x,l[i]?=some x→AC P g ([aF i,el x]++caps) L0 fun c L'=>c=aF (w i x)∧L'=L0):∀(i:Nat) x (L:AL),l[i]?=some x→L=L0→AC P g ([aF i,el x]++caps) L fun c L'=>c=aF (fI l w i)∧(fI l w i=0→L'=L0):=by
 intro i x L hx hL
 subst hL
 rw [hQ hx]
 exact (h i x hx).mono fun c L' ⟨h1,h2⟩=>⟨h1,fun _=>h2⟩
theorem wu (n:Int):bN Tryz.prog 263 [aF n] (ec (g8 n)):=by
 refine aL Tryz.func263 rfl Tryz.ntmps263 rfl fun B=>?_
 repeat' (first|refine IT ?_|refine IF a5 G9 ?_)
 refine df (t:=2) [] (g8 n=true) rfl (fun Q' K=>?_) ?_
 ·repeat' (first|refine IT ?_|refine IF a5 G9 ?_|refine IM G9 ?_|refine IP IB ?_|refine IR IA (fun _=>?_) (fun _=>?_))
  all_goals exact K _ _ rfl rfl (by clear K;unfold g8;grind)
 repeat' (first|refine IT ?_|fail)
 refine IL G9 ?_
 simp
instance (n:Int):AD Tryz.prog 263 [aF n] (ec (g8 n)):=⟨wu n⟩
def fB (n:Int):Int→List Int→Bool
 | last,[]=>decide (last=n - 1)
 | last,e::r=>if e≥n∨e < last+2 then false else fB n e r
def om (p:er):Bool:=g8 p.X && g8 p.Y
def gE (pts:List er) (ends:List Int):Bool:=decide (pts.length≤200∧ends.length≤40) && (pts.all om && fB pts.length (-1) ends)
theorem tR {n last:Int} {l:List Int} {i:Nat} {e:Int} (h:l[i]?=some e):fB n last (l.drop i)=if e≥n∨e < last+2 then false else fB n e (l.drop (i+1)):=by
 obtain ⟨hi,hx⟩:=Ju h
 rw [List.drop_eq_getElem_cons hi,hx]
 rfl
set_option maxHeartbeats 1000000 in
theorem sP (pts:List er) (ends:List Int):bN Tryz.prog 200 [.agg [.imm 3 (pts.map dq),.imm 1 (aT ends)]] (ec (gE pts ends)):=by
 refine aL Tryz.func200 rfl Tryz.ntmps200 rfl fun B=>?_
 repeat' (first|refine IT ?_|refine IF a5 G9 ?_|refine bo ?_|fail)
 refine c7 [1] (¬(pts.length≤200∧ends.length≤40)) rfl (fun Q' K=>?_) (fun hC=>?_) (fun hC=>?_)
 ·repeat' (first|refine IT ?_|refine IF a5 G9 ?_|refine IM G9 ?_|refine IP IB ?_|refine IR IA (fun _=>?_) (fun _=>?_))
  all_goals exact K _ _ rfl rfl (by clear K;simp_all [b6] <;> omega)
 ·repeat' (first|refine IT ?_|refine IF a5 G9 ?_)
  refine IL G9 ?_
  unfold gE
  rw [decide_eq_false hC]
  rfl
 have hC:=Decidable.not_not.1 hC
 have hlm:(pts.map dq).length=pts.length:=Jz ..
 repeat' (first|refine IT ?_|refine am ?_|refine IF a5 G9 ?_)
 refine aO [1,19,20] (α:=Nat) (fun i=>[(21,aF i)]) (fun i=>i≤pts.length∧(pts.take i).all om=true) (fun _=>[]) (fun i=>pts.length - i) 0 rfl ⟨rfl,trivial⟩ ⟨Nat.zero_le _,by simp⟩ (fun _ _ h=>h) fun i hi=>?_
 try dsimp only [Jx,Jw,Jv,Jq]
 repeat' (first|refine IT ?_|refine IF a5 G9 ?_)
 refine ar rfl (fun h=>?_) (fun h=>?_)
 ·have hil:i < pts.length:=by have:=Iy h;simp at this;omega
  obtain ⟨z,hz⟩:∃z,pts[i]?=some z:=⟨_,Iz hil⟩
  have hzg:=cC (c:=dq) hz
  clear h
  repeat' (first|refine IT ?_|refine am ?_|refine IF a5 G9 ?_|(apply aS;first|refine aQ a5 ?_|refine aG a5 ?_)|(apply aK;first|refine IH 4 a5 0 IE ?_|refine IH 4 a5 1 IE ?_|refine IH 4 a5 2 IE ?_|refine IG a5 0 ID ?_|refine IG a5 1 ID ?_|refine IG a5 2 ID ?_|refine IG a5 3 ID ?_|fail)|refine bi a5 fun _=>?_|(apply bk;refine bf ?_)|fail)
  refine c7 [1,19,20,21] (om z=false) rfl (fun Q' K=>?_) (fun h2=>?_) (fun h2=>?_)
  ·clear hi hzg
   repeat' (first|refine IT ?_|refine IF a5 G9 ?_|refine IM G9 ?_|refine IP IB ?_|(apply bk;refine bf ?_)|refine IR IA (fun _=>?_) (fun _=>?_))
   all_goals exact K _ _ rfl rfl (by clear K;unfold om;simp_all)
  ·repeat' (first|refine IT ?_|refine IF a5 G9 ?_)
   refine IL G9 ?_
   unfold gE
   rw [show pts.all om=false by
    rw [List.all_eq_false]
    exact ⟨z,Iw hz,by simp [h2]⟩]
   simp
  ·repeat' (first|refine IT ?_|refine IF a5 G9 ?_|(apply aV;refine aU ?_)|fail)
   refine aC (i+1) rfl ⟨by rw [Iv];rfl,trivial⟩ ⟨by omega,?_⟩ (by omega) (fun _ _ h=>h)
   rw [List.take_add_one,hz,List.all_append,hi.2]
   simpa using h2
 have hil:i=pts.length:=by have:=Ix h;simp at this;omega
 subst hil
 rw [List.take_length] at hi
 have hall:=hi.2
 clear hi h
 have hval:gE pts ends=fB pts.length (-1) ends:=by
  unfold gE
  rw [decide_eq_true hC,hall]
  rfl
 rw [hval]
 repeat' (first|refine IT ?_|refine am ?_|refine IF a5 G9 ?_)
 refine aO [1,37,38] (α:=Nat×Int) (fun x=>[(39,aF x.1),(5,aF x.2)]) (fun x=>x.1≤ends.length∧-1≤x.2∧x.2≤1000∧fB pts.length (-1) ends=fB pts.length x.2 (ends.drop x.1)) (fun _=>[]) (fun x=>ends.length - x.1) (0,-1) rfl ⟨rfl,rfl,trivial⟩ ⟨Nat.zero_le _,by decide,by decide,rfl⟩ (fun _ _ h=>h) ?_
 rintro ⟨i,last⟩ ⟨hi,hl0,hl1,he⟩
 dsimp only at hi hl0 hl1 he ⊢
 try dsimp only [Jx,Jw,Jv,Jq]
 repeat' (first|refine IT ?_|refine IF a5 G9 ?_)
 refine ar rfl (fun h=>?_) (fun h=>?_)
 ·have hil:i < ends.length:=by have:=Iy h;simp [b6] at this;omega
  obtain ⟨z,hz⟩:∃z,ends[i]?=some z:=⟨_,Iz hil⟩
  have hzg:=bR hz
  rw [tR hz] at he
  clear h
  repeat' (first|refine IT ?_|refine am ?_|refine IF a5 G9 ?_|(apply aS;first|refine aQ a5 ?_|refine aG a5 ?_)|fail)
  refine c7 [1,7,37,38,39] (z≥pts.length∨z < last+2) rfl (fun Q' K=>?_) (fun h2=>?_) (fun h2=>?_)
  ·clear hi hzg he hval
   repeat' (first|refine IT ?_|refine IF a5 G9 ?_|refine IM G9 ?_|refine IP IB ?_|(apply aV;refine aU ?_)|refine IR IA (fun _=>?_) (fun _=>?_))
   all_goals exact K _ _ rfl rfl (by clear K;simp_all <;> omega)
  ·rw [if_pos h2] at he
   repeat' (first|refine IT ?_|refine IF a5 G9 ?_)
   refine IL G9 ?_
   rw [he]
  ·rw [if_neg h2] at he
   repeat' (first|refine IT ?_|refine IF a5 G9 ?_|(apply aV;refine aU ?_)|fail)
   exact aC (i+1,z) rfl ⟨by rw [Iv];rfl,rfl,trivial⟩ ⟨by dsimp only;omega,by dsimp only;omega,by dsimp only;omega,he⟩ (by dsimp only;omega) (fun _ _ h=>h)
 ·have hil:i=ends.length:=by have:=Ix h;simp [b6] at this;omega
  subst hil
  rw [List.drop_length] at he
  repeat' (first|refine IT ?_|refine IF a5 G9 ?_|(apply aV;refine aU ?_)|fail)
  refine IL G9 ?_
  rw [he]
  simp [fB]
def H4 (_:Nat) (p:er):Int:=dK (!([p.X,p.Y].all g8)) 30
theorem wl (i:Nat) (p:er):bN Tryz.prog 199 [aF i,.agg (dq p)] (aF (H4 i p)):=by
 refine aL Tryz.func199 rfl Tryz.ntmps199 rfl fun B=>?_
 repeat' (first|refine IT ?_|refine IF a5 G9 ?_|refine bo ?_|refine bH a5 ?_|(apply bk;refine bf ?_)|fail)
 exact IN IA
def iz (g:bn):Int:=if g.Advance < 0∨g.Advance > 16384 then 1 else if g.Points.length > 200∨g.Ends.length > 40 then 2 else if (cV g.Points H4).1≠0 then (cV g.Points H4).1 else dK (!(gE g.Points g.Ends)) 31
theorem z8 (g:bn):bN Tryz.prog 116 [.agg (bG g)] (aF (iz g)):=by
 refine aL Tryz.func116 rfl Tryz.ntmps116 rfl fun B=>?_
 unfold iz
 repeat' (first|refine IT ?_|refine am ?_|refine IF a5 G9 ?_|refine bo ?_|fail)
 refine c7 [1] (g.Advance < 0∨g.Advance > 16384) rfl (fun Q' K=>?_) (fun hC=>?_) (fun hC=>?_)
 ·repeat' (first|refine IT ?_|refine IF a5 G9 ?_|refine IM G9 ?_|refine IP IB ?_|refine IR IA (fun _=>?_) (fun _=>?_))
  all_goals exact K _ _ rfl rfl (by clear K;grind)
 ·rw [if_pos hC]
  repeat' (first|refine IT ?_|refine IF a5 G9 ?_)
  exact IN IA
 rw [if_neg hC]
 repeat' (first|refine IT ?_|refine IF a5 G9 ?_)
 refine c7 [1] (g.Points.length > 200∨g.Ends.length > 40) rfl (fun Q' K=>?_) (fun hC=>?_) (fun hC=>?_)
 ·repeat' (first|refine IT ?_|refine IF a5 G9 ?_|refine IM G9 ?_|refine IP IB ?_|refine IR IA (fun _=>?_) (fun _=>?_))
  all_goals exact K _ _ rfl rfl (by clear K;simp_all [b6] <;> omega)
 ·rw [if_pos hC]
  repeat' (first|refine IT ?_|refine IF a5 G9 ?_)
  exact IN IA
 rw [if_neg hC]
 repeat' (first|refine IT ?_|refine IF a5 G9 ?_)
 refine aX [] [] (Dp (u:= .sc (.func (.func 199) #[] #[])) (g:=199) (caps:=[]) rfl g.Points _ (fun _ _=>True) [] trivial (d4 (fun i x _=>wl i x))) rfl rfl (Jt _) rfl fun c L1 hc=>?_
 have hc:c=ck (cV g.Points H4):=hc
 subst hc
 unfold ck
 repeat' (first|refine IT ?_|refine IF a5 G9 ?_)
 refine ar rfl (fun h=>?_) (fun h=>?_)
 ·rw [if_pos (Iy h)]
  repeat' (first|refine IT ?_|refine IF a5 G9 ?_)
  exact IN IA
 ·rw [if_neg (Ix h)]
  repeat' (first|refine IT ?_|refine IF a5 G9 ?_)
  refine bf (hc:=⟨sP g.Points g.Ends⟩) ?_
  repeat' (first|refine IT ?_|refine IF a5 G9 ?_|(apply bk;refine bf ?_)|fail)
  exact IN IA
instance (g:bn):AD Tryz.prog 116 [.agg (bG g)] (aF (iz g)):=⟨z8 g⟩
end Go.Proofs.YtpmdfoaadejmkaaGreatDoor
namespace Go.Proofs.YtpmdfoaadejmkaaGreatDoor
open Go.RowKit
attribute [local irreducible] AT bv AX AO Av Kt b9 dh DA cE
open Go.MapKept
def Bh (_:Nat) (i:fP):Int:=if i.Op < 1∨i.Op > 39 then 50 else if i.A < -999999999∨i.A > 999999999 then 3 else 0
theorem sU (n:Nat) (i:fP):bN Tryz.prog 154 [aF n,.agg (eK i)] (aF (Bh n i)):=by
 refine aL Tryz.func154 rfl Tryz.ntmps154 rfl fun B=>?_
 unfold Bh
 repeat' (first|refine IT ?_|refine am ?_|refine IF a5 G9 ?_|refine bo ?_|fail)
 refine c7 [3] (i.Op < 1∨i.Op > 39) rfl (fun Q' K=>?_) (fun hC=>?_) (fun hC=>?_)
 ·repeat' (first|refine IT ?_|refine IF a5 G9 ?_|refine IM G9 ?_|refine IP IB ?_|refine IR IA (fun _=>?_) (fun _=>?_))
  all_goals exact K _ _ rfl rfl (by clear K;grind)
 ·rw [if_pos hC]
  repeat' (first|refine IT ?_|refine IF a5 G9 ?_)
  exact IN IA
 rw [if_neg hC]
 repeat' (first|refine IT ?_|refine IF a5 G9 ?_)
 refine c7 [] (i.A < -999999999∨i.A > 999999999) rfl (fun Q' K=>?_) (fun hC=>?_) (fun hC=>?_)
 ·repeat' (first|refine IT ?_|refine IF a5 G9 ?_|refine IM G9 ?_|refine IP IB ?_|refine IR IA (fun _=>?_) (fun _=>?_))
  all_goals exact K _ _ rfl rfl (by clear K;grind)
 ·rw [if_pos hC]
  repeat' (first|refine IT ?_|refine IF a5 G9 ?_)
  exact IN IA
 rw [if_neg hC]
 repeat' (first|refine IT ?_|refine IF a5 G9 ?_)
 exact IN IA
def mH (l:List fP):Int:=(cj 200 l Bh).1
theorem ux (l:List fP):bN Tryz.prog 75 [.imm 2 (l.map eK)] (aF (mH l)):=by
 refine aL Tryz.func75 rfl Tryz.ntmps75 rfl fun B=>?_
 repeat' (first|refine IT ?_|refine IF a5 G9 ?_|(apply bk;refine bf ?_)|fail)
 refine dk (f:=227) (cs:=[]) [] [] (Ef (g:=154) (caps:=[]) rfl l 200 _ (fun _ _=>True) [] trivial (fun _=>d4 fun i x _=>sU i x)) rfl rfl rfl (Jt _) rfl rfl fun c L1 hc=>?_
 have hc:c=ck (cj 200 l Bh):=hc
 subst hc
 unfold ck
 repeat' (first|refine IT ?_|refine IF a5 G9 ?_)
 exact IN IA
instance (l:List fP):AD Tryz.prog 75 [.imm 2 (l.map eK)] (aF (mH l)):=⟨ux l⟩
def lq (f:aZ) (_:Nat) (p:dC):Int:=if kG f p.Glyph=false then 32 else dK (!([p.X,p.Y].all g8)) 30
theorem vI (f:aZ) (n:Nat) (p:dC):bN Tryz.prog 118 [aF n,.agg (ep p),.iptr (cw f)] (aF (lq f n p)):=by
 refine aL Tryz.func118 rfl Tryz.ntmps118 rfl fun B=>?_
 unfold lq
 repeat' (first|refine IT ?_|refine IF a5 G9 ?_|refine bo ?_|(apply bk;refine bf ?_)|fail)
 refine ar rfl (fun h=>?_) (fun h=>?_)
 ·rw [if_pos (by simpa using h)]
  repeat' (first|refine IT ?_|refine IF a5 G9 ?_)
  exact IN IA
 ·rw [if_neg (by simpa using h)]
  repeat' (first|refine IT ?_|refine IF a5 G9 ?_|refine bH a5 ?_|(apply bk;refine bf ?_)|fail)
  exact IN IA
def lC (g:bn) (i:Nat) (a:di):Int:=if (a.Kind < 1∨a.Kind > 4)∨(a.Class < 0∨a.Class > 15)∨((a.Kind=3∨a.Kind=4)∧a.Class≠0)∨[a.X,a.Y].all g8=false∨(a.Kind=2∧g.Mark=false)∨(∃b∈g.Anchors.take i,b.Kind=a.Kind∧b.Class=a.Class) then 35 else 0
def qN (f:aZ) (g:bn) (i:Nat) (d:dw):Int:=if d.Region < 0∨d.Region≥f.Regions.length then 61 else if (d.Point < -1∨d.Point≥g.Points.length)∨[d.X,d.Y].all g8=false∨(d.Point= -1∧d.Y≠0) then 30 else if (match i with | 0=>false | j+1=>match g.Deltas[j]? with | some b=>decide (d.Region < b.Region∨(d.Region=b.Region∧d.Point≤b.Point)) | none=>false)=true then 24 else 0
theorem v7 (b:Bool):AC Tryz.prog 121 [ec b] [] fun c L=>∃m,c= .fn 205 [.iptr [ec b],.iptr [.sc (.map (some m))]]∧L=[(m,gQ fun _ _=>none)]:=by
 refine aL Tryz.func121 rfl Tryz.ntmps121 rfl fun B=>?_
 repeat' (first|refine IT ?_|refine IF a5 G9 ?_|refine bo ?_|fail)
 refine w5 fun m=>?_
 repeat' (first|refine IT ?_|refine IF a5 G9 ?_|(apply aK;first|refine IH 3 a5 0 IE ?_|refine IH 3 a5 1 IE ?_|refine IH 3 a5 2 IE ?_|refine IG a5 0 ID ?_|refine IG a5 1 ID ?_|refine IG a5 2 ID ?_|refine IG a5 3 ID ?_|fail)|refine bi a5 fun _=>?_|fail)
 exact IL G9 ⟨_,rfl,rfl⟩
theorem ye (r p:Int):AC Tryz.prog 123 [aF r,aF p] [] fun c L=>∃b,c= .fn 208 [.iptr [aF r],.iptr [aF p],.sc (.pointer (some ⟨b,0,none⟩))]∧L=[(b,.box [aF 0,aF 0] 296)]:=by
 refine aL Tryz.func123 rfl Tryz.ntmps123 rfl fun B=>?_
 repeat' (first|refine IT ?_|refine IF a5 G9 ?_|refine bo ?_|refine bi a5 fun _=>?_|fail)
 exact IL G9 ⟨_,rfl,rfl⟩
theorem vG (e:Int):bN Tryz.prog 114 [.iptr [aF e]] (ck (e,0)):=by
 refine aL Tryz.func114 rfl Tryz.ntmps114 rfl fun B=>?_
 repeat' (first|refine IT ?_|refine IF a5 G9 ?_)
 exact aY rfl rfl rfl rfl
theorem vH (g:bn):bN Tryz.prog 115 [.iptr (bG g)] (ck (iz g,0)):=by
 refine aL Tryz.func115 rfl Tryz.ntmps115 rfl fun B=>?_
 repeat' (first|refine IT ?_|refine IF a5 G9 ?_|(apply bk;refine bf ?_)|fail)
 exact aY rfl rfl rfl rfl
theorem vJ (g:bn):bN Tryz.prog 124 [.iptr (bG g)] (ck (mH g.Hint,0)):=by
 refine aL Tryz.func124 rfl Tryz.ntmps124 rfl fun B=>?_
 repeat' (first|refine IT ?_|refine IF a5 G9 ?_|(apply bk;refine bf ?_)|fail)
 exact aY rfl rfl rfl rfl
def gq (l:List (Int×Int)):Int×Int:=match l with
 | []=>(0,0)
 | x::r=>if x.1=0 then gq r else x
theorem jK:∀l:List Lk,rC l=gq (l.map fun x=>(x.e,x.n))
 | []=>rfl
 | x::r=>by simp only [rC,Jv,gq];rw [jK r]
theorem pD:∀{l:List (Int×Int)},(∀x∈l,x.1=0)→gq l=(0,0)
 | [],_=>rfl
 | x::r,h=>by unfold gq;rw [if_pos (h x (List.mem_cons_self ..))];exact pD fun y hy=>h y (Jy _ hy)
def nv (f:aZ) (g:bn) (name:Int):Int:=(gq [(name,0),(iz g,0),cj 8 g.Parts (lq f),cj 16 g.Anchors (lC g),cj 400 g.Deltas (qN f g),(mH g.Hint,0)]).1
end Go.Proofs.YtpmdfoaadejmkaaGreatDoor
