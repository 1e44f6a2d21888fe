/-
  The program: what the first look tells that finds something wrong.
-/
import Derived.Test.YtpmdfoaadejmkaaGreatDoorM09
import Derived.Test.YtpmdfoaadejmkaaGreatDoorM08
import Derived.Test.YtpmdfoaadejmkaaGreatDoorM05
import Derived.Test.YtpmdfoaadejmkaaGreatDoorM07
namespace Go.Proofs.YtpmdfoaadejmkaaGreatDoor
open Go.RowKit
attribute [local irreducible] AT br AX AO Av Kt bb df DA cC
structure Lk where
 f:FuncId
 caps:List AV
 L:AL
 e:Int
 n:Int
def Lk.ok (x:Lk):Prop:=bB Tryz.prog x.f∧AC Tryz.prog x.f x.caps x.L fun c _=>c=ck (x.e,x.n)
def rp:List Lk→Int×Int
 | []=>(0,0)
 | x::r=>if x.e=0 then rp r else (x.e,x.n)
def Fh (l:List Lk):AL:=(l.map Lk.L).flatten
def vG:List Lk→Prop
 | []=>True
 | x::r=>x.ok∧(x.e=0→vG r)
def He (x:Lk):List AV:=[.fn x.f x.caps]
theorem AW {l:List Lk} {i:Nat} {x:Lk} (h:l[i]?=some x):rp (l.drop i)=if x.e=0 then rp (l.drop (i+1)) else (x.e,x.n):=by
 obtain ⟨hi,hx⟩:=Ip h
 rw [List.drop_eq_getElem_cons hi,hx]
 rfl
theorem yf {l:List Lk} {i:Nat} {x:Lk} (h:l[i]?=some x) (hk:vG (l.drop i)):x.ok∧(x.e=0→vG (l.drop (i+1))):=by
 obtain ⟨hi,hx⟩:=Ip h
 rw [List.drop_eq_getElem_cons hi,hx] at hk
 exact hk
theorem tZ:∀{l:List Lk},(rp l).1=0→rp l=(0,0)
 | [],_=>rfl
 | x::r,h=>by
  unfold rp at h ⊢
  split
  ·rename_i h0
   rw [if_pos h0] at h
   exact tZ h
  ·rename_i h0
   rw [if_neg h0] at h
   exact absurd h h0
theorem AZ {l:List Lk} {i:Nat} {x:Lk} (h:l[i]?=some x):Fh (l.drop i)=x.L++Fh (l.drop (i+1)):=by
 obtain ⟨hi,hx⟩:=Ip h
 unfold Fh
 rw [List.drop_eq_getElem_cons hi,hx]
 rfl
theorem xY {σ0:cj} {l:Nat} (ls:List Lk) (hok:vG ls) (E:AL) (E':Int→Int→AL) (hy:∀e n,e≠0→AY Tryz.prog σ0 l [aF e,aF n] E fun c L=>c=ej false∧L=E' e n):
  Ew Tryz.prog σ0 197 [.sc (.func (.yield l) #[] #[]),.iptr [.imm 1 (ls.map He)]] (Fh ls++E) fun _ L=>L=if (rp ls).1=0 then E else E' (rp ls).1 (rp ls).2:=by
 refine zt Tryz.func197 rfl Tryz.ntmps197 rfl fun B hB=>?_
 repeat' (first|refine If ?_|refine ak ?_|refine IF a5 FN ?_)
 refine cK 7 rfl rfl fun hlen=>?_
 rw [Iu] at hlen
 refine aO [0,7,8] (α:=Nat) (fun i=>[(9,aF i)]) (fun i=>i≤ls.length∧rp ls=rp (ls.drop i)∧vG (ls.drop i)) (fun i=>Fh (ls.drop i)++E) (fun i=>ls.length - i) 0 rfl ⟨rfl,trivial⟩ ⟨Nat.zero_le _,rfl,hok⟩ (fun _ _ h=>h) fun i ⟨hi,he,hok⟩=>?_
 try dsimp only [Is,Ir,Iq,Ik]
 repeat' (first|refine If ?_|refine IF a5 FN ?_)
 refine aq rfl (fun h=>?_) (fun h=>?_)
 ·have hil:i < ls.length:=by have:=Iy h;simp at this;omega
  obtain ⟨x,hx⟩:∃z,ls[i]?=some z:=⟨_,Iz hil⟩
  have hzg:=cw (c:=He) hx
  obtain ⟨⟨hcf,hac⟩,hok⟩:=yf hx hok
  rw [AW hx] at he
  rw [AZ hx]
  repeat' (first|refine If ?_|refine ak ?_|refine IF a5 FN ?_|(apply aS;first|refine aR a5 ?_|refine aH a5 ?_)|fail)
  refine dh (cs:=[]) x.L (Fh (ls.drop (i+1))++E) (by simpa using hac) rfl rfl rfl (by rw [List.append_assoc]) rfl rfl fun c L1 hc=>?_
  subst hc
  refine aJ (bM (List.sublist_append_right ..)) ?_
  unfold ck
  repeat' (first|refine If ?_|refine IF a5 FN ?_)
  by_cases h0:x.e=0
  ·rw [if_pos h0] at he
   rw [h0]
   repeat' (first|refine If ?_|refine IF a5 FN ?_|refine IP IB ?_|(apply aV;refine aU ?_)|refine bI rfl ?_)
   exact aD (i+1) rfl ⟨by rw [Iv];rfl,trivial⟩ ⟨by omega,he,hok h0⟩ (by omega) (fun _ _ h=>h)
  ·rw [if_neg h0] at he
   rw [show decide (x.e≠0)=true from decide_eq_true h0]
   repeat' (first|refine IF a5 FN ?_|refine IN FN ?_)
   refine aJ (bM (List.sublist_append_right ..)) ?_
   refine x2 E [] hB (hy x.e x.n h0) rfl rfl rfl (c7 rfl) rfl rfl fun c L1 ⟨hc,hL⟩=>?_
   subst hc;subst hL
   rw [List.append_nil]
   repeat' (first|refine If ?_|refine IF a5 FN ?_|refine IN FN ?_|refine bQ rfl ?_)
   refine oJ rfl ?_
   rw [he,if_neg h0]
 ·have hil:i=ls.length:=by have:=Ix h;simp at this;omega
  subst hil
  rw [List.drop_length] at he ⊢
  repeat' (first|refine If ?_|fail)
  refine cA rfl ?_
  rw [he]
  rfl
theorem vj (l:List (List AV)):bN Tryz.prog 111 [.imm 1 l] (.fn 197 [.iptr [.imm 1 l]]):=by
 refine aN Tryz.func111 rfl Tryz.ntmps111 rfl fun B=>?_
 repeat' (first|refine If ?_|refine IF a5 FN ?_|refine bk ?_|fail)
 exact IM IA
instance (l:List (List AV)):AD Tryz.prog 111 [.imm 1 l] (.fn 197 [.iptr [.imm 1 l]]):=⟨vj l⟩
theorem BC {p q:Nat×AB} {l l2:AL}:(p::q::(l++l2)).Perm (l++(p::q::l2)):=by
 have:=(List.perm_append_comm (l₁:=[p,q]) (l₂:=l)).append_right l2
 simpa using this
set_option maxHeartbeats 1000000 in
theorem j3 (ls:List Lk) (hok:vG ls):AC Tryz.prog 47 [.imm 1 (ls.map He)] (Fh ls) fun c _=>c=ck (rp ls):=by
 refine zr Tryz.func47 rfl Tryz.ntmps47 rfl fun B=>?_
 repeat' (first|refine If ?_|refine ak ?_|refine IF a5 FN ?_|refine bh a5 fun _=>?_|(apply bv;refine bn ?_)|fail)
 rename_i b2 b3
 refine tj (ps:=[8,9]) rfl fun σ0 l db rec hrec=>?_
 have hy:∀e n:Int,e≠0→AY Tryz.prog σ0 l [aF e,aF n] ([(b3,.box [aF 0] 3),(b2,.box [aF 0] 35),(db,sX)]++[(l,mX rec)]) fun c L=>c=ej false∧L=[(b3,.box [aF n] 3),(b2,.box [aF e] 35),(db,sX)]++[(l,mX { ({ rec with state:= .busy }:Loop) with state:= .done,pending:=some .ret })]:=by
  intro e n he
  refine Ee hrec rfl rfl fun B1 hB1=>?_
  repeat' (first|refine If ?_|refine IF a5 FN ?_)
  refine to hrec.state ?_
  repeat' (first|refine If ?_|refine ak ?_|refine IF a5 FN ?_|(apply aM;first|refine IG a5 0 ID ?_|refine IG a5 1 ID ?_|refine IG a5 2 ID ?_|refine IG a5 3 ID ?_|fail))
  refine uZ (L:=[(b3,.box [aF n] 3),(b2,.box [aF e] 35),(db,sX)]) ?_
  exact ⟨rfl,rfl⟩
 refine ⟨_,(xY ls hok _ _ hy).perm ?_,fun c L' hL'=>?_⟩
 ·simp only [List.append_assoc,Is,Ir]
  exact BC
 ·by_cases h0:(rp ls).1=0
  ·rw [if_pos h0] at hL'
   subst hL'
   refine ⟨rec,_,Io _,(by rw [hrec.state];intro h;cases h),?_⟩
   rw [hrec.pending]
   show AX _ _ _ _ _ _ _ _
   repeat' (first|refine If ?_|(apply aM;first|refine IG a5 0 ID ?_|refine IG a5 1 ID ?_|refine IG a5 2 ID ?_|refine IG a5 3 ID ?_|fail))
   refine oK (cs:=[aF 0,aF 0]) [db] [(b3,.box [aF 0] 3),(b2,.box [aF 0] 35)] rfl (Io _) ?_ ?_
   ·exact ⟨⟨b2,1,_,_,rfl,rfl,.inl ⟨cR a5 rfl,rfl⟩⟩,⟨b3,0,_,_,rfl,rfl,.inl ⟨cR a5 rfl,rfl⟩⟩,trivial⟩
   ·have:rp ls=(0,0):=tZ h0
    rw [this]
    rfl
  ·rw [if_neg h0] at hL'
   subst hL'
   refine ⟨_,_,Io _,(by intro h;cases h),?_⟩
   show AX _ _ _ _ _ _ _ _
   repeat' (first|refine If ?_|fail)
   refine oK (cs:=[aF (rp ls).1,aF (rp ls).2]) [db] [(b3,.box [aF (rp ls).2] 3),(b2,.box [aF (rp ls).1] 35)] rfl (Io _) ?_ rfl
   exact ⟨⟨b2,1,_,_,rfl,rfl,.inl ⟨cR a5 rfl,rfl⟩⟩,⟨b3,0,_,_,rfl,rfl,.inl ⟨cR a5 rfl,rfl⟩⟩,trivial⟩
def I8 (l:List Int) (n:Nat):List Int:=((List.range n).map Int.ofNat).filter (l.contains ·)
theorem tT (a b:List Int):aT a++aT b=aT (a++b):=by simp [aT]
def dK (b:Bool) (e:Int):Int:=bif b then e else 0
theorem Cd (b:Bool) (e:Int):bN Tryz.prog 78 [ej b,aF e] (aF (dK b e)):=by
 refine aN Tryz.func78 rfl Tryz.ntmps78 rfl fun B=>?_
 repeat' (first|refine If ?_|refine IF a5 FN ?_)
 refine aq rfl (fun h=>?_) (fun h=>?_)
 ·subst h
  repeat' (first|refine If ?_|refine IF a5 FN ?_)
  exact IM IA
 ·subst h
  repeat' (first|refine If ?_|refine IF a5 FN ?_)
  exact IM IA
instance (b:Bool) (e:Int):AD Tryz.prog 78 [ej b,aF e] (aF (dK b e)):=⟨Cd b e⟩
def gc (z:Int):Bool:=decide (-16384≤z∧z≤16384)
theorem so (l:List Int):bN Tryz.prog 79 [.imm 1 (aT l)] (ej (l.all gc)):=by
 refine aN Tryz.func79 rfl Tryz.ntmps79 rfl fun B=>?_
 refine cK 0 rfl rfl fun hlen=>?_
 rw [aZ] at hlen
 repeat' (first|refine If ?_|refine ak ?_|refine IF a5 FN ?_)
 refine aO [5,6] (α:=Nat) (fun i=>[(7,aF i)]) (fun i=>i≤l.length∧(l.take i).all gc=true) (fun _=>[]) (fun i=>l.length - i) 0 rfl ⟨rfl,trivial⟩ ⟨Nat.zero_le _,by simp⟩ (fun _ _ h=>h) fun i hi=>?_
 try dsimp only [Is,Ir,Iq,Ik]
 repeat' (first|refine If ?_|refine IF a5 FN ?_)
 refine aq rfl (fun h=>?_) (fun h=>?_)
 ·have hil:i < l.length:=by have:=Iy h;rw [aZ] at this;omega
  obtain ⟨z,hz⟩:∃z,l[i]?=some z:=⟨_,Iz hil⟩
  have hzg:=bR hz
  repeat' (first|refine If ?_|refine ak ?_|refine IF a5 FN ?_|(apply aS;first|refine aR a5 ?_|refine aH a5 ?_)|fail)
  refine c9 [5,6,7] (gc z=false) rfl (fun Q' K=>?_) (fun hC=>?_) (fun hC=>?_)
  ·repeat' (first|refine If ?_|refine IF a5 FN ?_|refine IN FN ?_|refine IP IB ?_|refine IR IA (fun _=>?_) (fun _=>?_))
   all_goals exact K _ _ rfl rfl (by unfold gc;simp_all <;> omega)
  ·repeat' (first|refine If ?_|refine IF a5 FN ?_)
   refine IL FN ?_
   rw [show l.all gc=false by
    rw [List.all_eq_false]
    exact ⟨z,Iw hz,by simp [hC]⟩]
  ·repeat' (first|refine If ?_|refine IF a5 FN ?_|(apply aV;refine aU ?_)|fail)
   refine aD (i+1) rfl ⟨by rw [Iv];rfl,trivial⟩ ⟨by omega,?_⟩ (by omega) (fun _ _ h=>h)
   rw [List.take_add_one,hz,List.all_append,hi.2]
   simpa using hC
 ·have hil:i=l.length:=by have:=Ix h;rw [aZ] at this;omega
  subst hil
  rw [List.take_length] at hi
  repeat' (first|refine If ?_|refine IF a5 FN ?_)
  refine IL FN ?_
  rw [hi.2]
instance (x:Int):AD Tryz.prog 79 [.imm 1 [[aF x]]] (ej ([x].all gc)):=⟨so [x]⟩
instance (x y:Int):AD Tryz.prog 79 [.imm 1 [[aF x],[aF y]]] (ej ([x,y].all gc)):=⟨so [x,y]⟩
instance (x y z:Int):AD Tryz.prog 79 [.imm 1 [[aF x],[aF y],[aF z]]] (ej ([x,y,z].all gc)):=⟨so [x,y,z]⟩
def kF (f:aY) (n:Int):Bool:=decide (0≤n∧n < f.Glyphs.length)
theorem tU (f:aY) (n:Int):bN Tryz.prog 119 [cQ f,aF n] (ej (kF f n)):=by
 refine aN Tryz.func119 rfl Tryz.ntmps119 rfl fun B=>?_
 repeat' (first|refine If ?_|refine IF a5 FN ?_|refine bk ?_|fail)
 refine da (t:=4) [] (kF f n=true) rfl (fun Q' K=>?_) ?_
 ·repeat' (first|refine If ?_|refine IF a5 FN ?_|refine IN FN ?_|refine IP IB ?_|refine IR IA (fun _=>?_) (fun _=>?_))
  all_goals exact K _ _ rfl rfl (by unfold kF;simp_all <;> omega)
 repeat' (first|refine If ?_|fail)
 refine IL FN ?_
 simp
instance (f:aY) (n:Int):AD Tryz.prog 119 [cQ f,aF n] (ej (kF f n)):=⟨tU f n⟩
def ku (right taken:Bool):Int:=bif right then (bif taken then 24 else 0) else 23
theorem qF (a b:Bool):bN Tryz.prog 53 [ej a,ej b] (aF (ku a b)):=by
 refine aN Tryz.func53 rfl Tryz.ntmps53 rfl fun B=>?_
 repeat' (first|refine If ?_|refine ak ?_|refine IF a5 FN ?_)
 refine aq rfl (fun h=>?_) (fun h=>?_)
 ·repeat' (first|refine If ?_|refine IF a5 FN ?_)
  refine IL FN ?_
  cases a with
  | true=>cases h
  | false=>rfl
 ·repeat' (first|refine If ?_|refine IF a5 FN ?_)
  have ha:a=true:=by cases a with
   | true=>rfl
   | false=>cases h
  subst ha
  refine aq rfl (fun h=>?_) (fun h=>?_)
  ·subst h
   repeat' (first|refine If ?_|refine IF a5 FN ?_)
   exact IM IA
  ·subst h
   repeat' (first|refine If ?_|refine IF a5 FN ?_)
   exact IM IA
instance (a b:Bool):AD Tryz.prog 53 [ej a,ej b] (aF (ku a b)):=⟨qF a b⟩
def o0 (c:Int):Bool:=decide ((65≤c∧c≤90)∨(97≤c∧c≤122))
abbrev U8 (c:Int):AV:= .sc (.int .u8 c)
theorem se (c:Int):bN Tryz.prog 125 [U8 c] (ej (o0 c)):=by
 refine aN Tryz.func125 rfl Tryz.ntmps125 rfl fun B=>?_
 repeat' (first|refine If ?_|refine IF a5 FN ?_)
 refine da (t:=2) [] (o0 c=true) rfl (fun Q' K=>?_) ?_
 ·repeat' (first|refine If ?_|refine IF a5 FN ?_|refine IN FN ?_|refine IP IB ?_|refine dl rfl rfl rfl ?_|refine IR IA (fun _=>?_) (fun _=>?_))
  all_goals exact K _ _ rfl rfl (by unfold o0;simp_all <;> omega)
 repeat' (first|refine If ?_|fail)
 refine IL FN ?_
 simp
instance (c:Int):AD Tryz.prog 125 [U8 c] (ej (o0 c)):=⟨se c⟩
section
variable {P:Program} {tt:TT} {r:Option Nat} {ops:Array Oper} {Q:Exit→Act→World→Prop} {nt:Nat} {D:List Deferred} {fr:bW} {B:Bs} {L:AL} {rest:List Oper} {d:Nat} {ty t:TypeId} {pos:String} {af:Array Edge} {x y z:Operand}
theorem wZ (ok:dY P tt) {s:ByteArray} {k:IntKind} {i:Int} {c:UInt8} {ti:TI} (ht:d5 tt t=some ti) (hk:ti.k= .str) (hx:bc fr x=some (.sc (.string s))) (hy:bc fr y=some (.sc (.int k i))) (h0:0≤i) (hu:s[i.toNat]?=some c) (hd:Nat.ble nt d=false) (h:br P r ops Q nt D rest ((d,U8 c.toNat)::fr) B L):br P r ops Q nt D (⟨some d,.index t x y,ty,pos,af,none⟩::rest) fr B L:=cf (uO (ok.str ht hk) hx hy h0 hu) hd rfl h
end
def nd (s:ByteArray) (i:Nat):Int:=match s[i]? with | some c=>c.toNat | none=>0
theorem pf {s:ByteArray} {i:Nat} {c:UInt8} (h:s[i]?=some c):nd s i=c.toNat:=by unfold nd;rw [h]
def t7 (n:Nat) (p:Nat→Bool):Bool:=(List.range n).all p
theorem n5 {n:Nat} {p:Nat→Bool}:t7 n p=true↔∀i,i < n→p i=true:=by simp [t7]
theorem nR {n:Nat} {p:Nat→Bool} {i:Nat} (hi:i < n) (h:p i=false):t7 n p=false:=by
 rw [Bool.eq_false_iff]
 intro hh
 rw [n5.1 hh i hi] at h
 cases h
theorem xe {s:ByteArray} {i:Nat} (h:i < s.size):∃c,s[i]?=some c:=⟨s[i],by simp [h]⟩
def eZ (s:ByteArray):Bool:=decide (1≤s.size∧s.size≤8) && t7 s.size fun i=>o0 (nd s i)
theorem qE (s:ByteArray):bN Tryz.prog 66 [uL s] (ej (eZ s)):=by
 refine aN Tryz.func66 rfl Tryz.ntmps66 rfl fun B=>?_
 repeat' (first|refine If ?_|refine IF a5 FN ?_)
 refine c9 [0] (¬(1≤s.size∧s.size≤8)) rfl (fun Q' K=>?_) (fun hC=>?_) (fun hC=>?_)
 ·repeat' (first|refine If ?_|refine IF a5 FN ?_|refine IN FN ?_|refine IP IB ?_|refine IR IA (fun _=>?_) (fun _=>?_))
  all_goals exact K _ _ rfl rfl (by simp_all <;> omega)
 ·repeat' (first|refine If ?_|refine IF a5 FN ?_)
  refine IL FN ?_
  unfold eZ
  rw [decide_eq_false hC]
  rfl
 have hC:=Decidable.not_not.1 hC
 repeat' (first|refine If ?_|refine ak ?_|refine IF a5 FN ?_)
 refine aO [0,13] (α:=Nat) (fun i=>[(14,aF i)]) (fun i=>i≤s.size∧∀j,j < i→o0 (nd s j)=true) (fun _=>[]) (fun i=>s.size - i) 0 rfl ⟨rfl,trivial⟩ ⟨Nat.zero_le _,fun j hj=>absurd hj (Nat.not_lt_zero _)⟩ (fun _ _ h=>h) fun i hi=>?_
 try dsimp only [Is,Ir,Iq,Ik]
 repeat' (first|refine If ?_|refine IF a5 FN ?_)
 refine aq rfl (fun h=>?_) (fun h=>?_)
 ·have hil:i < s.size:=by have:=Iy h;omega
  obtain ⟨c,hc⟩:=xe hil
  have hb:=pf hc
  repeat' (first|refine If ?_|refine ak ?_|refine IF a5 FN ?_)
  refine wZ a5 rfl rfl rfl rfl (by omega) (by rw [Int.toNat_natCast];exact hc) rfl ?_
  repeat' (first|refine If ?_|refine IF a5 FN ?_|(apply bv;refine bn ?_)|fail)
  refine aq rfl (fun h2=>?_) (fun h2=>?_)
  ·repeat' (first|refine If ?_|refine IF a5 FN ?_)
   refine IL FN ?_
   unfold eZ
   rw [nR hil (by rw [hb];simpa using h2),Bool.and_false]
  ·repeat' (first|refine If ?_|refine IF a5 FN ?_|(apply aV;refine aU ?_)|fail)
   refine aD (i+1) rfl ⟨by rw [Iv];rfl,trivial⟩ ⟨by omega,fun j hj=>?_⟩ (by omega) (fun _ _ h=>h)
   by_cases e:j=i
   ·subst e;rw [hb];simpa using h2
   ·exact hi.2 j (by omega)
 ·have hil:i=s.size:=by have:=Ix h;omega
  subst hil
  repeat' (first|refine If ?_|refine IF a5 FN ?_)
  refine IL FN ?_
  unfold eZ
  rw [decide_eq_true hC,n5.2 hi.2]
  rfl
instance (s:ByteArray):AD Tryz.prog 66 [uL s] (ej (eZ s)):=⟨qE s⟩
def sy (i:Nat) (c:Int):Bool:=decide ((o0 c=true∨c=95∨c=46)∨(0 < i∧((48≤c∧c≤57)∨c=45)))
def g9 (s:ByteArray):Bool:=decide (1≤s.size∧s.size≤16) && t7 s.size fun i=>sy i (nd s i)
set_option maxHeartbeats 1000000 in
theorem vB (s:ByteArray):bN Tryz.prog 54 [uL s] (ej (g9 s)):=by
 refine aN Tryz.func54 rfl Tryz.ntmps54 rfl fun B=>?_
 repeat' (first|refine If ?_|refine IF a5 FN ?_)
 refine c9 [0] (¬(1≤s.size∧s.size≤16)) rfl (fun Q' K=>?_) (fun hC=>?_) (fun hC=>?_)
 ·repeat' (first|refine If ?_|refine IF a5 FN ?_|refine IN FN ?_|refine IP IB ?_|refine IR IA (fun _=>?_) (fun _=>?_))
  all_goals exact K _ _ rfl rfl (by simp_all <;> omega)
 ·repeat' (first|refine If ?_|refine IF a5 FN ?_)
  refine IL FN ?_
  unfold g9
  rw [decide_eq_false hC]
  rfl
 have hC:=Decidable.not_not.1 hC
 repeat' (first|refine If ?_|refine ak ?_|refine IF a5 FN ?_)
 refine aO [0,16] (α:=Nat) (fun i=>[(17,aF i)]) (fun i=>i≤s.size∧∀j,j < i→sy j (nd s j)=true) (fun _=>[]) (fun i=>s.size - i) 0 rfl ⟨rfl,trivial⟩ ⟨Nat.zero_le _,fun j hj=>absurd hj (Nat.not_lt_zero _)⟩ (fun _ _ h=>h) fun i hi=>?_
 try dsimp only [Is,Ir,Iq,Ik]
 repeat' (first|refine If ?_|refine IF a5 FN ?_)
 refine aq rfl (fun h=>?_) (fun h=>?_)
 ·have hil:i < s.size:=by have:=Iy h;omega
  obtain ⟨c,hc⟩:=xe hil
  have hb:=pf hc
  repeat' (first|refine If ?_|refine ak ?_|refine IF a5 FN ?_)
  refine wZ a5 rfl rfl rfl rfl (by omega) (by rw [Int.toNat_natCast];exact hc) rfl ?_
  generalize (c.toNat:Int)=z at *
  repeat' (first|refine If ?_|refine IF a5 FN ?_|(apply bv;refine bn ?_)|fail)
  refine da (t:=5) [0,3,4,16,17] (o0 z=true∨z=95∨z=46) rfl (fun Q' K=>?_) ?_
  ·clear hi hb hc h
   repeat' (first|refine If ?_|refine IF a5 FN ?_|refine IN FN ?_|refine IP IB ?_|refine IR IA (fun _=>?_) (fun _=>?_))
   all_goals exact K _ _ rfl rfl (by simp_all)
  repeat' (first|refine If ?_|refine IF a5 FN ?_)
  refine da (t:=6) [0,5,16,17] (0 < i∧((48≤z∧z≤57)∨z=45)) rfl (fun Q' K=>?_) ?_
  ·clear hi hb hc h
   repeat' (first|refine If ?_|refine IF a5 FN ?_|refine IN FN ?_|refine IP IB ?_|refine dl rfl rfl rfl ?_|refine IR IA (fun _=>?_) (fun _=>?_))
   all_goals exact K _ _ rfl rfl (by simp_all <;> omega)
  repeat' (first|refine If ?_|refine IF a5 FN ?_)
  refine c9 [0,16,17] (sy i z=false) rfl (fun Q' K=>?_) (fun h2=>?_) (fun h2=>?_)
  ·clear hi hb hc h
   repeat' (first|refine If ?_|refine IF a5 FN ?_|refine IN FN ?_|refine IP IB ?_|refine IR IA (fun _=>?_) (fun _=>?_))
   all_goals exact K _ _ rfl rfl (by clear K;unfold sy;grind)
  ·repeat' (first|refine If ?_|refine IF a5 FN ?_)
   refine IL FN ?_
   unfold g9
   rw [nR hil (by rw [hb];exact h2),Bool.and_false]
  ·repeat' (first|refine If ?_|refine IF a5 FN ?_|(apply aV;refine aU ?_)|fail)
   refine aD (i+1) rfl ⟨by rw [Iv];rfl,trivial⟩ ⟨by omega,fun j hj=>?_⟩ (by omega) (fun _ _ h=>h)
   by_cases e:j=i
   ·subst e;rw [hb];simpa using h2
   ·exact hi.2 j (by omega)
 ·have hil:i=s.size:=by have:=Ix h;omega
  subst hil
  repeat' (first|refine If ?_|refine IF a5 FN ?_)
  refine IL FN ?_
  unfold g9
  rw [decide_eq_true hC,n5.2 hi.2]
  rfl
instance (s:ByteArray):AD Tryz.prog 54 [uL s] (ej (g9 s)):=⟨vB s⟩
end Go.Proofs.YtpmdfoaadejmkaaGreatDoor
namespace Go.Proofs.YtpmdfoaadejmkaaGreatDoor
open Go.RowKit
attribute [local irreducible] AT br AX AO Av Kt bb df DA cC
def fM {α:Type} (l:List α) (w:Nat→α→Int) (i:Nat):Int:=match l[i]? with | some x=>w i x | none=>0
def cU {α:Type} (l:List α) (w:Nat→α→Int):Int×Int:=d4 (fM l w) l.length
def ci {α:Type} (most:Int) (l:List α) (w:Nat→α→Int):Int×Int:=cV most (fM l w) l.length
theorem hQ {α:Type} {l:List α} {w:Nat→α→Int} {i:Nat} {x:α} (h:l[i]?=some x):fM l w i=w i x:=by unfold fM;rw [h]
theorem r3 {α:Type} {l:List α} {w:Nat→α→Int} (h:∀i x,l[i]?=some x→w i x=0) (i:Nat):fM l w i=0:=by
 unfold fM
 split
 ·exact h _ _ (by assumption)
 ·rfl
theorem fc {α:Type} {l:List α} {w:Nat→α→Int} (h:∀i x,l[i]?=some x→w i x=0):cU l w=(0,0):=qY fun i _=>r3 h i
theorem dD {α:Type} {most:Int} {l:List α} {w:Nat→α→Int} (hm:(l.length:Int)≤most) (h:∀i x,l[i]?=some x→w i x=0):ci most l w=(0,0):=yT hm fun i _=>r3 h i
theorem d3 {α:Type} {P:Program} {g:FuncId} {caps:List AV} {l:List α} {el:α→AV} {w:Nat→α→Int} (h:∀(i:Nat) x,l[i]?=some x→bN P g ([aF i,el x]++caps) (aF (w i x))):∀(i:Nat) x (L:AL),l[i]?=some x→True→AC P g ([aF i,el x]++caps) L fun c _=>c=aF (fM l w i)∧(fM l w i=0→True):=by
 intro i x L hx _
 rw [hQ hx]
 exact ((h i x hx).any L).mono fun c L' ⟨h1,_⟩=>⟨h1,fun _=>trivial⟩
theorem qu {α:Type} {P:Program} {g:FuncId} {caps:List AV} {l:List α} {el:α→AV} {w:Nat→α→Int} {L0:AL} (h:∀(i:Nat) x,l[i]?=some x→AC P g ([aF i,el x]++caps) L0 fun c L'=>c=aF (w i x)∧L'=L0):∀(i:Nat) x (L:AL),l[i]?=some x→L=L0→AC P g ([aF i,el x]++caps) L fun c L'=>c=aF (fM l w i)∧(fM l w i=0→L'=L0):=by
 intro i x L hx hL
 subst hL
 rw [hQ hx]
 exact (h i x hx).mono fun c L' ⟨h1,h2⟩=>⟨h1,fun _=>h2⟩
theorem wk (n:Int):bN Tryz.prog 263 [aF n] (ej (gc n)):=by
 refine aN Tryz.func263 rfl Tryz.ntmps263 rfl fun B=>?_
 repeat' (first|refine If ?_|refine IF a5 FN ?_)
 refine da (t:=2) [] (gc n=true) rfl (fun Q' K=>?_) ?_
 ·repeat' (first|refine If ?_|refine IF a5 FN ?_|refine IN FN ?_|refine IP IB ?_|refine IR IA (fun _=>?_) (fun _=>?_))
  all_goals exact K _ _ rfl rfl (by clear K;unfold gc;grind)
 repeat' (first|refine If ?_|fail)
 refine IL FN ?_
 simp
instance (n:Int):AD Tryz.prog 263 [aF n] (ej (gc n)):=⟨wk n⟩
def fG (n:Int):Int→List Int→Bool
 | last,[]=>decide (last=n - 1)
 | last,e::r=>if e≥n∨e < last+2 then false else fG n e r
def oh (p:ep):Bool:=gc p.X && gc p.Y
def gG (pts:List ep) (ends:List Int):Bool:=decide (pts.length≤200∧ends.length≤40) && (pts.all oh && fG pts.length (-1) ends)
theorem tG {n last:Int} {l:List Int} {i:Nat} {e:Int} (h:l[i]?=some e):fG n last (l.drop i)=if e≥n∨e < last+2 then false else fG n e (l.drop (i+1)):=by
 obtain ⟨hi,hx⟩:=Ip h
 rw [List.drop_eq_getElem_cons hi,hx]
 rfl
set_option maxHeartbeats 1000000 in
theorem sD (pts:List ep) (ends:List Int):bN Tryz.prog 200 [.agg [.imm 3 (pts.map dm),.imm 1 (aT ends)]] (ej (gG pts ends)):=by
 refine aN Tryz.func200 rfl Tryz.ntmps200 rfl fun B=>?_
 repeat' (first|refine If ?_|refine IF a5 FN ?_|refine bk ?_|fail)
 refine c9 [1] (¬(pts.length≤200∧ends.length≤40)) rfl (fun Q' K=>?_) (fun hC=>?_) (fun hC=>?_)
 ·repeat' (first|refine If ?_|refine IF a5 FN ?_|refine IN FN ?_|refine IP IB ?_|refine IR IA (fun _=>?_) (fun _=>?_))
  all_goals exact K _ _ rfl rfl (by clear K;simp_all [aZ] <;> omega)
 ·repeat' (first|refine If ?_|refine IF a5 FN ?_)
  refine IL FN ?_
  unfold gG
  rw [decide_eq_false hC]
  rfl
 have hC:=Decidable.not_not.1 hC
 have hlm:(pts.map dm).length=pts.length:=Iu ..
 repeat' (first|refine If ?_|refine ak ?_|refine IF a5 FN ?_)
 refine aO [1,19,20] (α:=Nat) (fun i=>[(21,aF i)]) (fun i=>i≤pts.length∧(pts.take i).all oh=true) (fun _=>[]) (fun i=>pts.length - i) 0 rfl ⟨rfl,trivial⟩ ⟨Nat.zero_le _,by simp⟩ (fun _ _ h=>h) fun i hi=>?_
 try dsimp only [Is,Ir,Iq,Ik]
 repeat' (first|refine If ?_|refine IF a5 FN ?_)
 refine aq rfl (fun h=>?_) (fun h=>?_)
 ·have hil:i < pts.length:=by have:=Iy h;simp at this;omega
  obtain ⟨z,hz⟩:∃z,pts[i]?=some z:=⟨_,Iz hil⟩
  have hzg:=cw (c:=dm) hz
  clear h
  repeat' (first|refine If ?_|refine ak ?_|refine IF a5 FN ?_|(apply aS;first|refine aR a5 ?_|refine aH a5 ?_)|(apply aM;first|refine IH 4 a5 0 IE ?_|refine IH 4 a5 1 IE ?_|refine IH 4 a5 2 IE ?_|refine IG a5 0 ID ?_|refine IG a5 1 ID ?_|refine IG a5 2 ID ?_|refine IG a5 3 ID ?_|fail)|refine bh a5 fun _=>?_|(apply bv;refine bn ?_)|fail)
  refine c9 [1,19,20,21] (oh z=false) rfl (fun Q' K=>?_) (fun h2=>?_) (fun h2=>?_)
  ·clear hi hzg
   repeat' (first|refine If ?_|refine IF a5 FN ?_|refine IN FN ?_|refine IP IB ?_|(apply bv;refine bn ?_)|refine IR IA (fun _=>?_) (fun _=>?_))
   all_goals exact K _ _ rfl rfl (by clear K;unfold oh;simp_all)
  ·repeat' (first|refine If ?_|refine IF a5 FN ?_)
   refine IL FN ?_
   unfold gG
   rw [show pts.all oh=false by
    rw [List.all_eq_false]
    exact ⟨z,Iw hz,by simp [h2]⟩]
   simp
  ·repeat' (first|refine If ?_|refine IF a5 FN ?_|(apply aV;refine aU ?_)|fail)
   refine aD (i+1) rfl ⟨by rw [Iv];rfl,trivial⟩ ⟨by omega,?_⟩ (by omega) (fun _ _ h=>h)
   rw [List.take_add_one,hz,List.all_append,hi.2]
   simpa using h2
 have hil:i=pts.length:=by have:=Ix h;simp at this;omega
 subst hil
 rw [List.take_length] at hi
 have hall:=hi.2
 clear hi h
 have hval:gG pts ends=fG pts.length (-1) ends:=by
  unfold gG
  rw [decide_eq_true hC,hall]
  rfl
 rw [hval]
 repeat' (first|refine If ?_|refine ak ?_|refine IF a5 FN ?_)
 refine aO [1,37,38] (α:=Nat×Int) (fun x=>[(39,aF x.1),(5,aF x.2)]) (fun x=>x.1≤ends.length∧-1≤x.2∧x.2≤1000∧fG pts.length (-1) ends=fG pts.length x.2 (ends.drop x.1)) (fun _=>[]) (fun x=>ends.length - x.1) (0,-1) rfl ⟨rfl,rfl,trivial⟩ ⟨Nat.zero_le _,by decide,by decide,rfl⟩ (fun _ _ h=>h) ?_
 rintro ⟨i,last⟩ ⟨hi,hl0,hl1,he⟩
 dsimp only at hi hl0 hl1 he ⊢
 try dsimp only [Is,Ir,Iq,Ik]
 repeat' (first|refine If ?_|refine IF a5 FN ?_)
 refine aq rfl (fun h=>?_) (fun h=>?_)
 ·have hil:i < ends.length:=by have:=Iy h;simp [aZ] at this;omega
  obtain ⟨z,hz⟩:∃z,ends[i]?=some z:=⟨_,Iz hil⟩
  have hzg:=bR hz
  rw [tG hz] at he
  clear h
  repeat' (first|refine If ?_|refine ak ?_|refine IF a5 FN ?_|(apply aS;first|refine aR a5 ?_|refine aH a5 ?_)|fail)
  refine c9 [1,7,37,38,39] (z≥pts.length∨z < last+2) rfl (fun Q' K=>?_) (fun h2=>?_) (fun h2=>?_)
  ·clear hi hzg he hval
   repeat' (first|refine If ?_|refine IF a5 FN ?_|refine IN FN ?_|refine IP IB ?_|(apply aV;refine aU ?_)|refine IR IA (fun _=>?_) (fun _=>?_))
   all_goals exact K _ _ rfl rfl (by clear K;simp_all <;> omega)
  ·rw [if_pos h2] at he
   repeat' (first|refine If ?_|refine IF a5 FN ?_)
   refine IL FN ?_
   rw [he]
  ·rw [if_neg h2] at he
   repeat' (first|refine If ?_|refine IF a5 FN ?_|(apply aV;refine aU ?_)|fail)
   exact aD (i+1,z) rfl ⟨by rw [Iv];rfl,rfl,trivial⟩ ⟨by dsimp only;omega,by dsimp only;omega,by dsimp only;omega,he⟩ (by dsimp only;omega) (fun _ _ h=>h)
 ·have hil:i=ends.length:=by have:=Ix h;simp [aZ] at this;omega
  subst hil
  rw [List.drop_length] at he
  repeat' (first|refine If ?_|refine IF a5 FN ?_|(apply aV;refine aU ?_)|fail)
  refine IL FN ?_
  rw [he]
  simp [fG]
def GJ (_:Nat) (p:ep):Int:=dK (!([p.X,p.Y].all gc)) 30
theorem wa (i:Nat) (p:ep):bN Tryz.prog 199 [aF i,.agg (dm p)] (aF (GJ i p)):=by
 refine aN Tryz.func199 rfl Tryz.ntmps199 rfl fun B=>?_
 repeat' (first|refine If ?_|refine IF a5 FN ?_|refine bk ?_|refine bG a5 ?_|(apply bv;refine bn ?_)|fail)
 exact IM IA
def ix (g:bj):Int:=if g.Advance < 0∨g.Advance > 16384 then 1 else if g.Points.length > 200∨g.Ends.length > 40 then 2 else if (cU g.Points GJ).1≠0 then (cU g.Points GJ).1 else dK (!(gG g.Points g.Ends)) 31
theorem yQ (g:bj):bN Tryz.prog 116 [.agg (bL g)] (aF (ix g)):=by
 refine aN Tryz.func116 rfl Tryz.ntmps116 rfl fun B=>?_
 unfold ix
 repeat' (first|refine If ?_|refine ak ?_|refine IF a5 FN ?_|refine bk ?_|fail)
 refine c9 [1] (g.Advance < 0∨g.Advance > 16384) rfl (fun Q' K=>?_) (fun hC=>?_) (fun hC=>?_)
 ·repeat' (first|refine If ?_|refine IF a5 FN ?_|refine IN FN ?_|refine IP IB ?_|refine IR IA (fun _=>?_) (fun _=>?_))
  all_goals exact K _ _ rfl rfl (by clear K;grind)
 ·rw [if_pos hC]
  repeat' (first|refine If ?_|refine IF a5 FN ?_)
  exact IM IA
 rw [if_neg hC]
 repeat' (first|refine If ?_|refine IF a5 FN ?_)
 refine c9 [1] (g.Points.length > 200∨g.Ends.length > 40) rfl (fun Q' K=>?_) (fun hC=>?_) (fun hC=>?_)
 ·repeat' (first|refine If ?_|refine IF a5 FN ?_|refine IN FN ?_|refine IP IB ?_|refine IR IA (fun _=>?_) (fun _=>?_))
  all_goals exact K _ _ rfl rfl (by clear K;simp_all [aZ] <;> omega)
 ·rw [if_pos hC]
  repeat' (first|refine If ?_|refine IF a5 FN ?_)
  exact IM IA
 rw [if_neg hC]
 repeat' (first|refine If ?_|refine IF a5 FN ?_)
 refine b9 [] [] (D3 (u:= .sc (.func (.func 199) #[] #[])) (g:=199) (caps:=[]) rfl g.Points _ (fun _ _=>True) [] trivial (d3 (fun i x _=>wa i x))) rfl rfl (Io _) rfl fun c L1 hc=>?_
 have hc:c=ck (cU g.Points GJ):=hc
 subst hc
 unfold ck
 repeat' (first|refine If ?_|refine IF a5 FN ?_)
 refine aq rfl (fun h=>?_) (fun h=>?_)
 ·rw [if_pos (Iy h)]
  repeat' (first|refine If ?_|refine IF a5 FN ?_)
  exact IM IA
 ·rw [if_neg (Ix h)]
  repeat' (first|refine If ?_|refine IF a5 FN ?_)
  refine bn (hc:=⟨sD g.Points g.Ends⟩) ?_
  repeat' (first|refine If ?_|refine IF a5 FN ?_|(apply bv;refine bn ?_)|fail)
  exact IM IA
instance (g:bj):AD Tryz.prog 116 [.agg (bL g)] (aF (ix g)):=⟨yQ g⟩
end Go.Proofs.YtpmdfoaadejmkaaGreatDoor
namespace Go.Proofs.YtpmdfoaadejmkaaGreatDoor
open Go.RowKit
attribute [local irreducible] AT br AX AO Av Kt bb df DA cC
open Go.MapKept
def AR (_:Nat) (i:fS):Int:=if i.Op < 1∨i.Op > 39 then 50 else if i.A < -999999999∨i.A > 999999999 then 3 else 0
theorem sI (n:Nat) (i:fS):bN Tryz.prog 154 [aF n,.agg (eI i)] (aF (AR n i)):=by
 refine aN Tryz.func154 rfl Tryz.ntmps154 rfl fun B=>?_
 unfold AR
 repeat' (first|refine If ?_|refine ak ?_|refine IF a5 FN ?_|refine bk ?_|fail)
 refine c9 [3] (i.Op < 1∨i.Op > 39) rfl (fun Q' K=>?_) (fun hC=>?_) (fun hC=>?_)
 ·repeat' (first|refine If ?_|refine IF a5 FN ?_|refine IN FN ?_|refine IP IB ?_|refine IR IA (fun _=>?_) (fun _=>?_))
  all_goals exact K _ _ rfl rfl (by clear K;grind)
 ·rw [if_pos hC]
  repeat' (first|refine If ?_|refine IF a5 FN ?_)
  exact IM IA
 rw [if_neg hC]
 repeat' (first|refine If ?_|refine IF a5 FN ?_)
 refine c9 [] (i.A < -999999999∨i.A > 999999999) rfl (fun Q' K=>?_) (fun hC=>?_) (fun hC=>?_)
 ·repeat' (first|refine If ?_|refine IF a5 FN ?_|refine IN FN ?_|refine IP IB ?_|refine IR IA (fun _=>?_) (fun _=>?_))
  all_goals exact K _ _ rfl rfl (by clear K;grind)
 ·rw [if_pos hC]
  repeat' (first|refine If ?_|refine IF a5 FN ?_)
  exact IM IA
 rw [if_neg hC]
 repeat' (first|refine If ?_|refine IF a5 FN ?_)
 exact IM IA
def mF (l:List fS):Int:=(ci 200 l AR).1
theorem uj (l:List fS):bN Tryz.prog 75 [.imm 2 (l.map eI)] (aF (mF l)):=by
 refine aN Tryz.func75 rfl Tryz.ntmps75 rfl fun B=>?_
 repeat' (first|refine If ?_|refine IF a5 FN ?_|(apply bv;refine bn ?_)|fail)
 refine dh (f:=227) (cs:=[]) [] [] (DS (g:=154) (caps:=[]) rfl l 200 _ (fun _ _=>True) [] trivial (fun _=>d3 fun i x _=>sI i x)) rfl rfl rfl (Io _) rfl rfl fun c L1 hc=>?_
 have hc:c=ck (ci 200 l AR):=hc
 subst hc
 unfold ck
 repeat' (first|refine If ?_|refine IF a5 FN ?_)
 exact IM IA
instance (l:List fS):AD Tryz.prog 75 [.imm 2 (l.map eI)] (aF (mF l)):=⟨uj l⟩
def lr (f:aY) (_:Nat) (p:dB):Int:=if kF f p.Glyph=false then 32 else dK (!([p.X,p.Y].all gc)) 30
theorem vu (f:aY) (n:Nat) (p:dB):bN Tryz.prog 118 [aF n,.agg (eo p),.iptr (cx f)] (aF (lr f n p)):=by
 refine aN Tryz.func118 rfl Tryz.ntmps118 rfl fun B=>?_
 unfold lr
 repeat' (first|refine If ?_|refine IF a5 FN ?_|refine bk ?_|(apply bv;refine bn ?_)|fail)
 refine aq rfl (fun h=>?_) (fun h=>?_)
 ·rw [if_pos (by simpa using h)]
  repeat' (first|refine If ?_|refine IF a5 FN ?_)
  exact IM IA
 ·rw [if_neg (by simpa using h)]
  repeat' (first|refine If ?_|refine IF a5 FN ?_|refine bG a5 ?_|(apply bv;refine bn ?_)|fail)
  exact IM IA
def lC (g:bj) (i:Nat) (a:dg):Int:=if (a.Kind < 1∨a.Kind > 4)∨(a.Class < 0∨a.Class > 15)∨((a.Kind=3∨a.Kind=4)∧a.Class≠0)∨[a.X,a.Y].all gc=false∨(a.Kind=2∧g.Mark=false)∨(∃b∈g.Anchors.take i,b.Kind=a.Kind∧b.Class=a.Class) then 35 else 0
def qD (f:aY) (g:bj) (i:Nat) (d:dw):Int:=if d.Region < 0∨d.Region≥f.Regions.length then 61 else if (d.Point < -1∨d.Point≥g.Points.length)∨[d.X,d.Y].all gc=false∨(d.Point= -1∧d.Y≠0) then 30 else if (match i with | 0=>false | j+1=>match g.Deltas[j]? with | some b=>decide (d.Region < b.Region∨(d.Region=b.Region∧d.Point≤b.Point)) | none=>false)=true then 24 else 0
theorem uQ (b:Bool):AC Tryz.prog 121 [ej b] [] fun c L=>∃m,c= .fn 205 [.iptr [ej b],.iptr [.sc (.map (some m))]]∧L=[(m,gQ fun _ _=>none)]:=by
 refine aN Tryz.func121 rfl Tryz.ntmps121 rfl fun B=>?_
 repeat' (first|refine If ?_|refine IF a5 FN ?_|refine bk ?_|fail)
 refine vR fun m=>?_
 repeat' (first|refine If ?_|refine IF a5 FN ?_|(apply aM;first|refine IH 3 a5 0 IE ?_|refine IH 3 a5 1 IE ?_|refine IH 3 a5 2 IE ?_|refine IG a5 0 ID ?_|refine IG a5 1 ID ?_|refine IG a5 2 ID ?_|refine IG a5 3 ID ?_|fail)|refine bh a5 fun _=>?_|fail)
 exact IL FN ⟨_,rfl,rfl⟩
theorem xX (r p:Int):AC Tryz.prog 123 [aF r,aF p] [] fun c L=>∃b,c= .fn 208 [.iptr [aF r],.iptr [aF p],.sc (.pointer (some ⟨b,0,none⟩))]∧L=[(b,.box [aF 0,aF 0] 296)]:=by
 refine aN Tryz.func123 rfl Tryz.ntmps123 rfl fun B=>?_
 repeat' (first|refine If ?_|refine IF a5 FN ?_|refine bk ?_|refine bh a5 fun _=>?_|fail)
 exact IL FN ⟨_,rfl,rfl⟩
theorem vr (e:Int):bN Tryz.prog 114 [.iptr [aF e]] (ck (e,0)):=by
 refine aN Tryz.func114 rfl Tryz.ntmps114 rfl fun B=>?_
 repeat' (first|refine If ?_|refine IF a5 FN ?_)
 exact aX rfl rfl rfl rfl
theorem vt (g:bj):bN Tryz.prog 115 [.iptr (bL g)] (ck (ix g,0)):=by
 refine aN Tryz.func115 rfl Tryz.ntmps115 rfl fun B=>?_
 repeat' (first|refine If ?_|refine IF a5 FN ?_|(apply bv;refine bn ?_)|fail)
 exact aX rfl rfl rfl rfl
theorem vv (g:bj):bN Tryz.prog 124 [.iptr (bL g)] (ck (mF g.Hint,0)):=by
 refine aN Tryz.func124 rfl Tryz.ntmps124 rfl fun B=>?_
 repeat' (first|refine If ?_|refine IF a5 FN ?_|(apply bv;refine bn ?_)|fail)
 exact aX rfl rfl rfl rfl
def gt (l:List (Int×Int)):Int×Int:=match l with
 | []=>(0,0)
 | x::r=>if x.1=0 then gt r else x
theorem jJ:∀l:List Lk,rp l=gt (l.map fun x=>(x.e,x.n))
 | []=>rfl
 | x::r=>by simp only [rp,Iq,gt];rw [jJ r]
theorem pA:∀{l:List (Int×Int)},(∀x∈l,x.1=0)→gt l=(0,0)
 | [],_=>rfl
 | x::r,h=>by unfold gt;rw [if_pos (h x (List.mem_cons_self ..))];exact pA fun y hy=>h y (It _ hy)
def nr (f:aY) (g:bj) (name:Int):Int:=(gt [(name,0),(ix g,0),ci 8 g.Parts (lr f),ci 16 g.Anchors (lC g),ci 400 g.Deltas (qD f g),(mF g.Hint,0)]).1
end Go.Proofs.YtpmdfoaadejmkaaGreatDoor
