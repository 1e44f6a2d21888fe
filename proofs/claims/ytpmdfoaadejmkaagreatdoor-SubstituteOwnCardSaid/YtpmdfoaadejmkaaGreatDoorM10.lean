/-
  The program: what the first look tells that finds something wrong.
-/
import Derived.Test.YtpmdfoaadejmkaaGreatDoorM09
import Derived.Test.YtpmdfoaadejmkaaGreatDoorM08
import Derived.Test.YtpmdfoaadejmkaaGreatDoorM05
import Derived.Test.YtpmdfoaadejmkaaGreatDoorM07
namespace Go.Proofs.YtpmdfoaadejmkaaGreatDoor
open Go.RowKit
attribute [local irreducible] AT br AX AO Av Kt b7 dm DA cA
structure Lk where
 f:FuncId
 caps:List AV
 L:AL
 e:Int
 n:Int
def Lk.ok (x:Lk):Prop:=bD Tryz.prog x.f∧AC Tryz.prog x.f x.caps x.L fun c _=>c=cu (x.e,x.n)
def t0:List Lk→Int×Int
 | []=>(0,0)
 | x::r=>if x.e=0 then t0 r else (x.e,x.n)
def I2 (l:List Lk):AL:=(l.map Lk.L).flatten
def xC:List Lk→Prop
 | []=>True
 | x::r=>x.ok∧(x.e=0→xC r)
def JW (x:Lk):List AV:=[.fn x.f x.caps]
theorem Dw {l:List Lk} {i:Nat} {x:Lk} (h:l[i]?=some x):t0 (l.drop i)=if x.e=0 then t0 (l.drop (i+1)) else (x.e,x.n):=by
 obtain ⟨hi,hx⟩:=Ln h
 rw [List.drop_eq_getElem_cons hi,hx]
 rfl
theorem AM {l:List Lk} {i:Nat} {x:Lk} (h:l[i]?=some x) (hk:xC (l.drop i)):x.ok∧(x.e=0→xC (l.drop (i+1))):=by
 obtain ⟨hi,hx⟩:=Ln h
 rw [List.drop_eq_getElem_cons hi,hx] at hk
 exact hk
theorem vS:∀{l:List Lk},(t0 l).1=0→t0 l=(0,0)
 | [],_=>rfl
 | x::r,h=>by
  unfold t0 at h ⊢
  split
  ·rename_i h0
   rw [if_pos h0] at h
   exact vS h
  ·rename_i h0
   rw [if_neg h0] at h
   exact absurd h h0
theorem Dz {l:List Lk} {i:Nat} {x:Lk} (h:l[i]?=some x):I2 (l.drop i)=x.L++I2 (l.drop (i+1)):=by
 obtain ⟨hi,hx⟩:=Ln h
 unfold I2
 rw [List.drop_eq_getElem_cons hi,hx]
 rfl
theorem Ao {σ0:Mem} {l:Nat} (ls:List Lk) (hok:xC ls) (E:AL) (E':Int→Int→AL) (hy:∀e n,e≠0→AY Tryz.prog σ0 l [aI e,aI n] E fun c L=>c=eo false∧L=E' e n):
  Hd Tryz.prog σ0 197 [.sc (.func (.yield l) #[] #[]),.iptr [.imm 1 (ls.map JW)]] (I2 ls++E) fun _ L=>L=if (t0 ls).1=0 then E else E' (t0 ls).1 (t0 ls).2:=by
 refine Cl Tryz.func197 rfl Tryz.ntmps197 rfl fun B hB=>?_
 refine W04 ?_
 refine cW 7 rfl rfl fun hlen=>?_
 rw [Lu] at hlen
 refine aN [0,7,8] (α:=Nat) (fun i=>[(9,aI i)]) (fun i=>i≤ls.length∧t0 ls=t0 (ls.drop i)∧xC (ls.drop i)) (fun i=>I2 (ls.drop i)++E) (fun i=>ls.length - i) 0 rfl ⟨rfl,trivial⟩ ⟨Nat.zero_le _,rfl,hok⟩ (fun _ _ h=>h) fun i ⟨hi,he,hok⟩=>?_
 try dsimp only [Lr,Lq,Lp,Li]
 refine W01 ?_
 refine ar rfl (fun h=>?_) (fun h=>?_)
 ·have hil:i < ls.length:=by have:=Lz h;simp at this;omega
  obtain ⟨x,hx⟩:∃z,ls[i]?=some z:=⟨_,Iy hil⟩
  have hzg:=cO (c:=JW) hx
  obtain ⟨⟨hcf,hac⟩,hok⟩:=AM hx hok
  rw [Dw hx] at he
  rw [Dz hx]
  refine W08 ?_
  refine dH (cs:=[]) x.L (I2 (ls.drop (i+1))++E) (by simpa using hac) rfl rfl rfl (by rw [List.append_assoc]) rfl rfl fun c L1 hc=>?_
  subst hc
  refine aE (bP (List.sublist_append_right ..)) ?_
  unfold cu
  refine W01 ?_
  by_cases h0:x.e=0
  ·rw [if_pos h0] at he
   rw [h0]
   refine W1I ?_
   exact aC (i+1) rfl ⟨by rw [Lv];rfl,trivial⟩ ⟨by omega,he,hok h0⟩ (by omega) (fun _ _ h=>h)
  ·rw [if_neg h0] at he
   rw [show decide (x.e≠0)=true from decide_eq_true h0]
   refine W1N ?_
   refine aE (bP (List.sublist_append_right ..)) ?_
   refine za E [] hB (hy x.e x.n h0) rfl rfl rfl (ck rfl) rfl rfl fun c L1 ⟨hc,hL⟩=>?_
   subst hc;subst hL
   rw [List.append_nil]
   repeat' (first|refine am ?_|refine a6 ?_|refine aB ?_|refine aV ?_|refine bK ?_|refine a7 ?_|refine LG a5 KZ ?_|refine LO KZ ?_|refine bR rfl ?_)
   refine pW rfl ?_
   rw [he,if_neg h0]
 ·have hil:i=ls.length:=by have:=Ly h;simp at this;omega
  subst hil
  rw [List.drop_length] at he ⊢
  refine W19 ?_
  refine cJ rfl ?_
  rw [he]
  rfl
theorem xg (l:List (List AV)):c5 Tryz.prog 111 [.imm 1 l] (.fn 197 [.iptr [.imm 1 l]]):=by
 refine aS Tryz.func111 rfl Tryz.ntmps111 rfl fun B=>?_
 refine W0h ?_
 exact LN LA
instance (l:List (List AV)):AD Tryz.prog 111 [.imm 1 l] (.fn 197 [.iptr [.imm 1 l]]):=⟨xg l⟩
theorem Ec {p q:Nat×AB} {l l2:AL}:(p::q::(l++l2)).Perm (l++(p::q::l2)):=by
 have:=(List.perm_append_comm (l₁:=[p,q]) (l₂:=l)).append_right l2
 simpa using this
set_option maxHeartbeats 1000000 in
theorem jN (ls:List Lk) (hok:xC ls):AC Tryz.prog 47 [.imm 1 (ls.map JW)] (I2 ls) fun c _=>c=cu (t0 ls):=by
 refine Ck Tryz.func47 rfl Tryz.ntmps47 rfl fun B=>?_
 repeat' (first|refine a9 ?_|refine a4 ?_|refine ai ?_|refine a6 ?_|refine a7 ?_|refine LG a5 KZ ?_|refine bf a5 fun _=>?_|(apply bw;refine bn ?_)|fail)
 rename_i b2 b3
 refine vd (ps:=[8,9]) rfl fun σ0 l db rec hrec=>?_
 have hy:∀e n:Int,e≠0→AY Tryz.prog σ0 l [aI e,aI n] ([(b3,.box [aI 0] 3),(b2,.box [aI 0] 35),(db,uH)]++[(l,oo rec)]) fun c L=>c=eo false∧L=[(b3,.box [aI n] 3),(b2,.box [aI e] 35),(db,uH)]++[(l,oo { ({ rec with state:= .busy }:Loop) with state:= .done,pending:=some .ret })]:=by
  intro e n he
  refine GT hrec rfl rfl fun B1 hB1=>?_
  refine W01 ?_
  refine vg hrec.state ?_
  repeat' (first|refine a9 ?_|refine a4 ?_|refine ai ?_|refine am ?_|refine a6 ?_|refine aV ?_|refine a7 ?_|refine LG a5 KZ ?_|(apply aM;first|refine LH a5 0 LE ?_|refine LH a5 1 LE ?_|refine LH a5 2 LE ?_|refine LH a5 3 LE ?_|fail))
  refine wU (L:=[(b3,.box [aI n] 3),(b2,.box [aI e] 35),(db,uH)]) ?_
  exact ⟨rfl,rfl⟩
 refine ⟨_,(Ao ls hok _ _ hy).perm ?_,fun c L' hL'=>?_⟩
 ·simp only [List.append_assoc,Lr,Lq]
  exact Ec
 ·by_cases h0:(t0 ls).1=0
  ·rw [if_pos h0] at hL'
   subst hL'
   refine ⟨rec,_,Lm _,(by rw [hrec.state];intro h;cases h),?_⟩
   rw [hrec.pending]
   show AX _ _ _ _ _ _ _ _
   repeat' (first|refine a9 ?_|refine a4 ?_|refine am ?_|refine a6 ?_|refine aK ?_|refine a7 ?_|(apply aM;first|refine LH a5 0 LE ?_|refine LH a5 1 LE ?_|refine LH a5 2 LE ?_|refine LH a5 3 LE ?_|fail))
   refine pX (cs:=[aI 0,aI 0]) [db] [(b3,.box [aI 0] 3),(b2,.box [aI 0] 35)] rfl (Lm _) ?_ ?_
   ·exact ⟨⟨b2,1,_,_,rfl,rfl,.inl ⟨cV a5 rfl,rfl⟩⟩,⟨b3,0,_,_,rfl,rfl,.inl ⟨cV a5 rfl,rfl⟩⟩,trivial⟩
   ·have:t0 ls=(0,0):=vS h0
    rw [this]
    rfl
  ·rw [if_neg h0] at hL'
   subst hL'
   refine ⟨_,_,Lm _,(by intro h;cases h),?_⟩
   show AX _ _ _ _ _ _ _ _
   repeat' (first|refine aB ?_|refine aV ?_)
   refine pX (cs:=[aI (t0 ls).1,aI (t0 ls).2]) [db] [(b3,.box [aI (t0 ls).2] 3),(b2,.box [aI (t0 ls).1] 35)] rfl (Lm _) ?_ rfl
   exact ⟨⟨b2,1,_,_,rfl,rfl,.inl ⟨cV a5 rfl,rfl⟩⟩,⟨b3,0,_,_,rfl,rfl,.inl ⟨cV a5 rfl,rfl⟩⟩,trivial⟩
def KU (l:List Int) (n:Nat):List Int:=((List.range n).map Int.ofNat).filter (l.contains ·)
theorem vL (a b:List Int):aQ a++aQ b=aQ (a++b):=by simp [aQ]
def er (b:Bool) (e:Int):Int:=bif b then e else 0
theorem EQ (b:Bool) (e:Int):c5 Tryz.prog 78 [eo b,aI e] (aI (er b e)):=by
 refine aS Tryz.func78 rfl Tryz.ntmps78 rfl fun B=>?_
 refine W01 ?_
 refine ar rfl (fun h=>?_) (fun h=>?_)
 ·subst h
  refine W07 ?_
  exact LN LA
 ·subst h
  refine W1m ?_
  exact LN LA
instance (b:Bool) (e:Int):AD Tryz.prog 78 [eo b,aI e] (aI (er b e)):=⟨EQ b e⟩
def gK (z:Int):Bool:=decide (-16384≤z∧z≤16384)
theorem ub (l:List Int):c5 Tryz.prog 79 [.imm 1 (aQ l)] (eo (l.all gK)):=by
 refine aS Tryz.func79 rfl Tryz.ntmps79 rfl fun B=>?_
 refine cW 0 rfl rfl fun hlen=>?_
 rw [aX] at hlen
 refine W04 ?_
 refine aN [5,6] (α:=Nat) (fun i=>[(7,aI i)]) (fun i=>i≤l.length∧(l.take i).all gK=true) (fun _=>[]) (fun i=>l.length - i) 0 rfl ⟨rfl,trivial⟩ ⟨Nat.zero_le _,by simp⟩ (fun _ _ h=>h) fun i hi=>?_
 try dsimp only [Lr,Lq,Lp,Li]
 refine W01 ?_
 refine ar rfl (fun h=>?_) (fun h=>?_)
 ·have hil:i < l.length:=by have:=Lz h;rw [aX] at this;omega
  obtain ⟨z,hz⟩:∃z,l[i]?=some z:=⟨_,Iy hil⟩
  have hzg:=bW hz
  refine W08 ?_
  refine ce [5,6,7] (gK z=false) rfl (fun Q' K=>?_) (fun hC=>?_) (fun hC=>?_)
  ·repeat' (first|refine a7 ?_|refine LG a5 KZ ?_|refine LO KZ ?_|refine LP LB ?_|refine LR LA (fun _=>?_) (fun _=>?_))
   all_goals exact K _ _ rfl rfl (by unfold gK;simp_all <;> omega)
  ·refine W09 ?_
   refine LM KZ ?_
   rw [show l.all gK=false by
    rw [List.all_eq_false]
    exact ⟨z,Lw hz,by simp [hC]⟩]
  ·refine W06 ?_
   refine aC (i+1) rfl ⟨by rw [Lv];rfl,trivial⟩ ⟨by omega,?_⟩ (by omega) (fun _ _ h=>h)
   rw [List.take_add_one,hz,List.all_append,hi.2]
   simpa using hC
 ·have hil:i=l.length:=by have:=Ly h;rw [aX] at this;omega
  subst hil
  rw [List.take_length] at hi
  refine W02 ?_
  refine LM KZ ?_
  rw [hi.2]
instance (x:Int):AD Tryz.prog 79 [.imm 1 [[aI x]]] (eo ([x].all gK)):=⟨ub [x]⟩
instance (x y:Int):AD Tryz.prog 79 [.imm 1 [[aI x],[aI y]]] (eo ([x,y].all gK)):=⟨ub [x,y]⟩
instance (x y z:Int):AD Tryz.prog 79 [.imm 1 [[aI x],[aI y],[aI z]]] (eo ([x,y,z].all gK)):=⟨ub [x,y,z]⟩
def lO (f:aY) (n:Int):Bool:=decide (0≤n∧n < f.Glyphs.length)
theorem vM (f:aY) (n:Int):c5 Tryz.prog 119 [d7 f,aI n] (eo (lO f n)):=by
 refine aS Tryz.func119 rfl Tryz.ntmps119 rfl fun B=>?_
 refine W0b ?_
 refine dz (t:=4) [] (lO f n=true) rfl (fun Q' K=>?_) ?_
 ·repeat' (first|refine a7 ?_|refine LG a5 KZ ?_|refine LO KZ ?_|refine LP LB ?_|refine LR LA (fun _=>?_) (fun _=>?_))
  all_goals exact K _ _ rfl rfl (by unfold lO;simp_all <;> omega)
 refine W28 ?_
 refine LM KZ ?_
 simp
instance (f:aY) (n:Int):AD Tryz.prog 119 [d7 f,aI n] (eo (lO f n)):=⟨vM f n⟩
def lE (right taken:Bool):Int:=bif right then (bif taken then 24 else 0) else 23
theorem sh (a b:Bool):c5 Tryz.prog 53 [eo a,eo b] (aI (lE a b)):=by
 refine aS Tryz.func53 rfl Tryz.ntmps53 rfl fun B=>?_
 refine W04 ?_
 refine ar rfl (fun h=>?_) (fun h=>?_)
 ·refine W0f ?_
  refine LM KZ ?_
  cases a with
  | true=>cases h
  | false=>rfl
 ·refine W01 ?_
  have ha:a=true:=by cases a with
   | true=>rfl
   | false=>cases h
  subst ha
  refine ar rfl (fun h=>?_) (fun h=>?_)
  ·subst h
   refine W0f ?_
   exact LN LA
  ·subst h
   refine W1k ?_
   exact LN LA
instance (a b:Bool):AD Tryz.prog 53 [eo a,eo b] (aI (lE a b)):=⟨sh a b⟩
def pn (c:Int):Bool:=decide ((65≤c∧c≤90)∨(97≤c∧c≤122))
abbrev U8 (c:Int):AV:= .sc (.int .u8 c)
theorem tU (c:Int):c5 Tryz.prog 125 [U8 c] (eo (pn c)):=by
 refine aS Tryz.func125 rfl Tryz.ntmps125 rfl fun B=>?_
 refine W01 ?_
 refine dz (t:=2) [] (pn c=true) rfl (fun Q' K=>?_) ?_
 ·repeat' (first|refine a7 ?_|refine LG a5 KZ ?_|refine LO KZ ?_|refine LP LB ?_|refine dK rfl rfl rfl ?_|refine LR LA (fun _=>?_) (fun _=>?_))
  all_goals exact K _ _ rfl rfl (by unfold pn;simp_all <;> omega)
 refine W28 ?_
 refine LM KZ ?_
 simp
instance (c:Int):AD Tryz.prog 125 [U8 c] (eo (pn c)):=⟨tU c⟩
section
variable {P:Program} {tt:TT} {r:Option Nat} {ops:Array Oper} {Q:Exit→Act→World→Prop} {nt:Nat} {D:List Deferred} {fr:bT} {B:Bs} {L:AL} {rest:List Oper} {d:Nat} {ty t:TypeId} {pos:String} {af:Array Edge} {x y z:Operand}
theorem z9 (ok:eu P tt) {s:ByteArray} {k:IntKind} {i:Int} {c:UInt8} {ti:TI} (ht:dw tt t=some ti) (hk:ti.k= .str) (hx:bh fr x=some (.sc (.string s))) (hy:bh fr y=some (.sc (.int k i))) (h0:0≤i) (hu:s[i.toNat]?=some c) (hd:Nat.ble nt d=false) (h:br P r ops Q nt D rest ((d,U8 c.toNat)::fr) B L):br P r ops Q nt D (⟨some d,.index t x y,ty,pos,af,none⟩::rest) fr B L:=ci (wK (ok.str ht hk) hx hy h0 hu) hd rfl h
end
def oC (s:ByteArray) (i:Nat):Int:=match s[i]? with | some c=>c.toNat | none=>0
theorem qG {s:ByteArray} {i:Nat} {c:UInt8} (h:s[i]?=some c):oC s i=c.toNat:=by unfold oC;rw [h]
def uS (n:Nat) (p:Nat→Bool):Bool:=(List.range n).all p
theorem ow {n:Nat} {p:Nat→Bool}:uS n p=true↔∀i,i < n→p i=true:=by simp [uS]
theorem pe {n:Nat} {p:Nat→Bool} {i:Nat} (hi:i < n) (h:p i=false):uS n p=false:=by
 rw [Bool.eq_false_iff]
 intro hh
 rw [ow.1 hh i hi] at h
 cases h
theorem zr {s:ByteArray} {i:Nat} (h:i < s.size):∃c,s[i]?=some c:=⟨s[i],by simp [h]⟩
def fC (s:ByteArray):Bool:=decide (1≤s.size∧s.size≤8) && uS s.size fun i=>pn (oC s i)
theorem sg (s:ByteArray):c5 Tryz.prog 66 [wG s] (eo (fC s)):=by
 refine aS Tryz.func66 rfl Tryz.ntmps66 rfl fun B=>?_
 refine W01 ?_
 refine ce [0] (¬(1≤s.size∧s.size≤8)) rfl (fun Q' K=>?_) (fun hC=>?_) (fun hC=>?_)
 ·repeat' (first|refine a7 ?_|refine LG a5 KZ ?_|refine LO KZ ?_|refine LP LB ?_|refine LR LA (fun _=>?_) (fun _=>?_))
  all_goals exact K _ _ rfl rfl (by simp_all <;> omega)
 ·refine W07 ?_
  refine LM KZ ?_
  unfold fC
  rw [decide_eq_false hC]
  rfl
 have hC:=Decidable.not_not.1 hC
 refine W0x ?_
 refine aN [0,13] (α:=Nat) (fun i=>[(14,aI i)]) (fun i=>i≤s.size∧∀j,j < i→pn (oC s j)=true) (fun _=>[]) (fun i=>s.size - i) 0 rfl ⟨rfl,trivial⟩ ⟨Nat.zero_le _,fun j hj=>absurd hj (Nat.not_lt_zero _)⟩ (fun _ _ h=>h) fun i hi=>?_
 try dsimp only [Lr,Lq,Lp,Li]
 refine W01 ?_
 refine ar rfl (fun h=>?_) (fun h=>?_)
 ·have hil:i < s.size:=by have:=Lz h;omega
  obtain ⟨c,hc⟩:=zr hil
  have hb:=qG hc
  refine W0x ?_
  refine z9 a5 rfl rfl rfl rfl (by omega) (by rw [Int.toNat_natCast];exact hc) rfl ?_
  repeat' (first|refine a6 ?_|refine a7 ?_|refine LG a5 KZ ?_|(apply bw;refine bn ?_)|fail)
  refine ar rfl (fun h2=>?_) (fun h2=>?_)
  ·refine W09 ?_
   refine LM KZ ?_
   unfold fC
   rw [pe hil (by rw [hb];simpa using h2),Bool.and_false]
  ·refine W06 ?_
   refine aC (i+1) rfl ⟨by rw [Lv];rfl,trivial⟩ ⟨by omega,fun j hj=>?_⟩ (by omega) (fun _ _ h=>h)
   by_cases e:j=i
   ·subst e;rw [hb];simpa using h2
   ·exact hi.2 j (by omega)
 ·have hil:i=s.size:=by have:=Ly h;omega
  subst hil
  refine W02 ?_
  refine LM KZ ?_
  unfold fC
  rw [decide_eq_true hC,ow.2 hi.2]
  rfl
instance (s:ByteArray):AD Tryz.prog 66 [wG s] (eo (fC s)):=⟨sg s⟩
def uh (i:Nat) (c:Int):Bool:=decide ((pn c=true∨c=95∨c=46)∨(0 < i∧((48≤c∧c≤57)∨c=45)))
def gG (s:ByteArray):Bool:=decide (1≤s.size∧s.size≤16) && uS s.size fun i=>uh i (oC s i)
set_option maxHeartbeats 1000000 in
theorem xy (s:ByteArray):c5 Tryz.prog 54 [wG s] (eo (gG s)):=by
 refine aS Tryz.func54 rfl Tryz.ntmps54 rfl fun B=>?_
 refine W01 ?_
 refine ce [0] (¬(1≤s.size∧s.size≤16)) rfl (fun Q' K=>?_) (fun hC=>?_) (fun hC=>?_)
 ·repeat' (first|refine a7 ?_|refine LG a5 KZ ?_|refine LO KZ ?_|refine LP LB ?_|refine LR LA (fun _=>?_) (fun _=>?_))
  all_goals exact K _ _ rfl rfl (by simp_all <;> omega)
 ·refine W07 ?_
  refine LM KZ ?_
  unfold gG
  rw [decide_eq_false hC]
  rfl
 have hC:=Decidable.not_not.1 hC
 refine W0x ?_
 refine aN [0,16] (α:=Nat) (fun i=>[(17,aI i)]) (fun i=>i≤s.size∧∀j,j < i→uh j (oC s j)=true) (fun _=>[]) (fun i=>s.size - i) 0 rfl ⟨rfl,trivial⟩ ⟨Nat.zero_le _,fun j hj=>absurd hj (Nat.not_lt_zero _)⟩ (fun _ _ h=>h) fun i hi=>?_
 try dsimp only [Lr,Lq,Lp,Li]
 refine W01 ?_
 refine ar rfl (fun h=>?_) (fun h=>?_)
 ·have hil:i < s.size:=by have:=Lz h;omega
  obtain ⟨c,hc⟩:=zr hil
  have hb:=qG hc
  refine W0x ?_
  refine z9 a5 rfl rfl rfl rfl (by omega) (by rw [Int.toNat_natCast];exact hc) rfl ?_
  generalize (c.toNat:Int)=z at *
  refine W1l ?_
  refine dz (t:=5) [0,3,4,16,17] (pn z=true∨z=95∨z=46) rfl (fun Q' K=>?_) ?_
  ·clear hi hb hc h
   repeat' (first|refine a7 ?_|refine LG a5 KZ ?_|refine LO KZ ?_|refine LP LB ?_|refine LR LA (fun _=>?_) (fun _=>?_))
   all_goals exact K _ _ rfl rfl (by simp_all)
  refine W26 ?_
  refine dz (t:=6) [0,5,16,17] (0 < i∧((48≤z∧z≤57)∨z=45)) rfl (fun Q' K=>?_) ?_
  ·clear hi hb hc h
   repeat' (first|refine a7 ?_|refine LG a5 KZ ?_|refine LO KZ ?_|refine LP LB ?_|refine dK rfl rfl rfl ?_|refine LR LA (fun _=>?_) (fun _=>?_))
   all_goals exact K _ _ rfl rfl (by simp_all <;> omega)
  refine W26 ?_
  refine ce [0,16,17] (uh i z=false) rfl (fun Q' K=>?_) (fun h2=>?_) (fun h2=>?_)
  ·clear hi hb hc h
   repeat' (first|refine a7 ?_|refine LG a5 KZ ?_|refine LO KZ ?_|refine LP LB ?_|refine LR LA (fun _=>?_) (fun _=>?_))
   all_goals exact K _ _ rfl rfl (by clear K;unfold uh;grind)
  ·refine W09 ?_
   refine LM KZ ?_
   unfold gG
   rw [pe hil (by rw [hb];exact h2),Bool.and_false]
  ·refine W06 ?_
   refine aC (i+1) rfl ⟨by rw [Lv];rfl,trivial⟩ ⟨by omega,fun j hj=>?_⟩ (by omega) (fun _ _ h=>h)
   by_cases e:j=i
   ·subst e;rw [hb];simpa using h2
   ·exact hi.2 j (by omega)
 ·have hil:i=s.size:=by have:=Ly h;omega
  subst hil
  refine W02 ?_
  refine LM KZ ?_
  unfold gG
  rw [decide_eq_true hC,ow.2 hi.2]
  rfl
instance (s:ByteArray):AD Tryz.prog 54 [wG s] (eo (gG s)):=⟨xy s⟩
end Go.Proofs.YtpmdfoaadejmkaaGreatDoor
namespace Go.Proofs.YtpmdfoaadejmkaaGreatDoor
open Go.RowKit
attribute [local irreducible] AT br AX AO Av Kt b7 dm DA cA
def gm {α:Type} (l:List α) (w:Nat→α→Int) (i:Nat):Int:=match l[i]? with | some x=>w i x | none=>0
def di {α:Type} (l:List α) (w:Nat→α→Int):Int×Int:=dv (gm l w) l.length
def cr {α:Type} (most:Int) (l:List α) (w:Nat→α→Int):Int×Int:=dk most (gm l w) l.length
theorem iO {α:Type} {l:List α} {w:Nat→α→Int} {i:Nat} {x:α} (h:l[i]?=some x):gm l w i=w i x:=by unfold gm;rw [h]
theorem sL {α:Type} {l:List α} {w:Nat→α→Int} (h:∀i x,l[i]?=some x→w i x=0) (i:Nat):gm l w i=0:=by
 unfold gm
 split
 ·exact h _ _ (by assumption)
 ·rfl
theorem fL {α:Type} {l:List α} {w:Nat→α→Int} (h:∀i x,l[i]?=some x→w i x=0):di l w=(0,0):=sJ fun i _=>sL h i
theorem ec {α:Type} {most:Int} {l:List α} {w:Nat→α→Int} (hm:(l.length:Int)≤most) (h:∀i x,l[i]?=some x→w i x=0):cr most l w=(0,0):=BA hm fun i _=>sL h i
theorem du {α:Type} {P:Program} {g:FuncId} {caps:List AV} {l:List α} {el:α→AV} {w:Nat→α→Int} (h:∀(i:Nat) x,l[i]?=some x→c5 P g ([aI i,el x]++caps) (aI (w i x))):∀(i:Nat) x (L:AL),l[i]?=some x→True→AC P g ([aI i,el x]++caps) L fun c _=>c=aI (gm l w i)∧(gm l w i=0→True):=by
 intro i x L hx _
 rw [iO hx]
 exact ((h i x hx).any L).mono fun c L' ⟨h1,_⟩=>⟨h1,fun _=>trivial⟩
theorem s4 {α:Type} {P:Program} {g:FuncId} {caps:List AV} {l:List α} {el:α→AV} {w:Nat→α→Int} {L0:AL} (h:∀(i:Nat) x,l[i]?=some x→AC P g ([aI i,el x]++caps) L0 fun c L'=>c=aI (w i x)∧L'=L0):∀(i:Nat) x (L:AL),l[i]?=some x→L=L0→AC P g ([aI i,el x]++caps) L fun c L'=>c=aI (gm l w i)∧(gm l w i=0→L'=L0):=by
 intro i x L hx hL
 subst hL
 rw [iO hx]
 exact (h i x hx).mono fun c L' ⟨h1,h2⟩=>⟨h1,fun _=>h2⟩
theorem yh (n:Int):c5 Tryz.prog 263 [aI n] (eo (gK n)):=by
 refine aS Tryz.func263 rfl Tryz.ntmps263 rfl fun B=>?_
 refine W01 ?_
 refine dz (t:=2) [] (gK n=true) rfl (fun Q' K=>?_) ?_
 ·repeat' (first|refine a7 ?_|refine LG a5 KZ ?_|refine LO KZ ?_|refine LP LB ?_|refine LR LA (fun _=>?_) (fun _=>?_))
  all_goals exact K _ _ rfl rfl (by clear K;unfold gK;grind)
 refine W28 ?_
 refine LM KZ ?_
 simp
instance (n:Int):AD Tryz.prog 263 [aI n] (eo (gK n)):=⟨yh n⟩
def g9 (n:Int):Int→List Int→Bool
 | last,[]=>decide (last=n - 1)
 | last,e::r=>if e≥n∨e < last+2 then false else g9 n e r
def pA (p:f3):Bool:=gK p.X && gK p.Y
def ip (pts:List f3) (ends:List Int):Bool:=decide (pts.length≤200∧ends.length≤40) && (pts.all pA && g9 pts.length (-1) ends)
theorem vz {n last:Int} {l:List Int} {i:Nat} {e:Int} (h:l[i]?=some e):g9 n last (l.drop i)=if e≥n∨e < last+2 then false else g9 n e (l.drop (i+1)):=by
 obtain ⟨hi,hx⟩:=Ln h
 rw [List.drop_eq_getElem_cons hi,hx]
 rfl
set_option maxHeartbeats 1000000 in
theorem ul (pts:List f3) (ends:List Int):c5 Tryz.prog 200 [.agg [.imm 3 (pts.map dL),.imm 1 (aQ ends)]] (eo (ip pts ends)):=by
 refine aS Tryz.func200 rfl Tryz.ntmps200 rfl fun B=>?_
 refine W0b ?_
 refine ce [1] (¬(pts.length≤200∧ends.length≤40)) rfl (fun Q' K=>?_) (fun hC=>?_) (fun hC=>?_)
 ·repeat' (first|refine a7 ?_|refine LG a5 KZ ?_|refine LO KZ ?_|refine LP LB ?_|refine LR LA (fun _=>?_) (fun _=>?_))
  all_goals exact K _ _ rfl rfl (by clear K;simp_all [aX] <;> omega)
 ·refine W07 ?_
  refine LM KZ ?_
  unfold ip
  rw [decide_eq_false hC]
  rfl
 have hC:=Decidable.not_not.1 hC
 have hlm:(pts.map dL).length=pts.length:=Lu ..
 refine W0x ?_
 refine aN [1,19,20] (α:=Nat) (fun i=>[(21,aI i)]) (fun i=>i≤pts.length∧(pts.take i).all pA=true) (fun _=>[]) (fun i=>pts.length - i) 0 rfl ⟨rfl,trivial⟩ ⟨Nat.zero_le _,by simp⟩ (fun _ _ h=>h) fun i hi=>?_
 try dsimp only [Lr,Lq,Lp,Li]
 refine W01 ?_
 refine ar rfl (fun h=>?_) (fun h=>?_)
 ·have hil:i < pts.length:=by have:=Lz h;simp at this;omega
  obtain ⟨z,hz⟩:∃z,pts[i]?=some z:=⟨_,Iy hil⟩
  have hzg:=cO (c:=dL) hz
  clear h
  repeat' (first|refine a9 ?_|refine a4 ?_|refine ai ?_|refine aj ?_|refine a6 ?_|refine a7 ?_|refine LG a5 KZ ?_|(apply aL;first|refine aJ a5 ?_|refine aF a5 ?_)|(apply aM;first|refine LI 4 a5 0 LF ?_|refine LI 4 a5 1 LF ?_|refine LI 4 a5 2 LF ?_|refine LH a5 0 LE ?_|refine LH a5 1 LE ?_|refine LH a5 2 LE ?_|refine LH a5 3 LE ?_|fail)|refine bf a5 fun _=>?_|(apply bw;refine bn ?_)|fail)
  refine ce [1,19,20,21] (pA z=false) rfl (fun Q' K=>?_) (fun h2=>?_) (fun h2=>?_)
  ·clear hi hzg
   repeat' (first|refine a7 ?_|refine LG a5 KZ ?_|refine LO KZ ?_|refine LP LB ?_|(apply bw;refine bn ?_)|refine LR LA (fun _=>?_) (fun _=>?_))
   all_goals exact K _ _ rfl rfl (by clear K;unfold pA;simp_all)
  ·refine W09 ?_
   refine LM KZ ?_
   unfold ip
   rw [show pts.all pA=false by
    rw [List.all_eq_false]
    exact ⟨z,Lw hz,by simp [h2]⟩]
   simp
  ·refine W06 ?_
   refine aC (i+1) rfl ⟨by rw [Lv];rfl,trivial⟩ ⟨by omega,?_⟩ (by omega) (fun _ _ h=>h)
   rw [List.take_add_one,hz,List.all_append,hi.2]
   simpa using h2
 have hil:i=pts.length:=by have:=Ly h;simp at this;omega
 subst hil
 rw [List.take_length] at hi
 have hall:=hi.2
 clear hi h
 have hval:ip pts ends=g9 pts.length (-1) ends:=by
  unfold ip
  rw [decide_eq_true hC,hall]
  rfl
 rw [hval]
 refine W0w ?_
 refine aN [1,37,38] (α:=Nat×Int) (fun x=>[(39,aI x.1),(5,aI x.2)]) (fun x=>x.1≤ends.length∧-1≤x.2∧x.2≤1000∧g9 pts.length (-1) ends=g9 pts.length x.2 (ends.drop x.1)) (fun _=>[]) (fun x=>ends.length - x.1) (0,-1) rfl ⟨rfl,rfl,trivial⟩ ⟨Nat.zero_le _,by decide,by decide,rfl⟩ (fun _ _ h=>h) ?_
 rintro ⟨i,last⟩ ⟨hi,hl0,hl1,he⟩
 dsimp only at hi hl0 hl1 he ⊢
 try dsimp only [Lr,Lq,Lp,Li]
 refine W01 ?_
 refine ar rfl (fun h=>?_) (fun h=>?_)
 ·have hil:i < ends.length:=by have:=Lz h;simp [aX] at this;omega
  obtain ⟨z,hz⟩:∃z,ends[i]?=some z:=⟨_,Iy hil⟩
  have hzg:=bW hz
  rw [vz hz] at he
  clear h
  refine W08 ?_
  refine ce [1,7,37,38,39] (z≥pts.length∨z < last+2) rfl (fun Q' K=>?_) (fun h2=>?_) (fun h2=>?_)
  ·clear hi hzg he hval
   repeat' (first|refine a7 ?_|refine LG a5 KZ ?_|refine LO KZ ?_|refine LP LB ?_|(apply aU;refine aT ?_)|refine LR LA (fun _=>?_) (fun _=>?_))
   all_goals exact K _ _ rfl rfl (by clear K;simp_all <;> omega)
  ·rw [if_pos h2] at he
   refine W09 ?_
   refine LM KZ ?_
   rw [he]
  ·rw [if_neg h2] at he
   refine W06 ?_
   exact aC (i+1,z) rfl ⟨by rw [Lv];rfl,rfl,trivial⟩ ⟨by dsimp only;omega,by dsimp only;omega,by dsimp only;omega,he⟩ (by dsimp only;omega) (fun _ _ h=>h)
 ·have hil:i=ends.length:=by have:=Ly h;simp [aX] at this;omega
  subst hil
  rw [List.drop_length] at he
  repeat' (first|refine a9 ?_|refine a4 ?_|refine am ?_|refine aP ?_|refine a6 ?_|refine aq ?_|refine ay ?_|refine au ?_|refine a7 ?_|refine LG a5 KZ ?_|(apply aU;refine aT ?_)|fail)
  refine LM KZ ?_
  rw [he]
  simp [g9]
def Jp (_:Nat) (p:f3):Int:=er (!([p.X,p.Y].all gK)) 30
theorem y7 (i:Nat) (p:f3):c5 Tryz.prog 199 [aI i,.agg (dL p)] (aI (Jp i p)):=by
 refine aS Tryz.func199 rfl Tryz.ntmps199 rfl fun B=>?_
 repeat' (first|refine a9 ?_|refine a4 ?_|refine am ?_|refine a6 ?_|refine a7 ?_|refine LG a5 KZ ?_|refine bk ?_|refine bQ a5 ?_|(apply bw;refine bn ?_)|fail)
 exact LN LA
def ji (g:bi):Int:=if g.Advance < 0∨g.Advance > 16384 then 1 else if g.Points.length > 200∨g.Ends.length > 40 then 2 else if (di g.Points Jp).1≠0 then (di g.Points Jp).1 else er (!(ip g.Points g.Ends)) 31
theorem Bx (g:bi):c5 Tryz.prog 116 [.agg (bI g)] (aI (ji g)):=by
 refine aS Tryz.func116 rfl Tryz.ntmps116 rfl fun B=>?_
 unfold ji
 refine W0V ?_
 refine ce [1] (g.Advance < 0∨g.Advance > 16384) rfl (fun Q' K=>?_) (fun hC=>?_) (fun hC=>?_)
 ·repeat' (first|refine a7 ?_|refine LG a5 KZ ?_|refine LO KZ ?_|refine LP LB ?_|refine LR LA (fun _=>?_) (fun _=>?_))
  all_goals exact K _ _ rfl rfl (by clear K;grind)
 ·rw [if_pos hC]
  refine W0f ?_
  exact LN LA
 rw [if_neg hC]
 refine W0k ?_
 refine ce [1] (g.Points.length > 200∨g.Ends.length > 40) rfl (fun Q' K=>?_) (fun hC=>?_) (fun hC=>?_)
 ·repeat' (first|refine a7 ?_|refine LG a5 KZ ?_|refine LO KZ ?_|refine LP LB ?_|refine LR LA (fun _=>?_) (fun _=>?_))
  all_goals exact K _ _ rfl rfl (by clear K;simp_all [aX] <;> omega)
 ·rw [if_pos hC]
  refine W0f ?_
  exact LN LA
 rw [if_neg hC]
 refine W1O ?_
 refine b9 [] [] (FH (u:= .sc (.func (.func 199) #[] #[])) (g:=199) (caps:=[]) rfl g.Points _ (fun _ _=>True) [] trivial (du (fun i x _=>y7 i x))) rfl rfl (Lm _) rfl fun c L1 hc=>?_
 have hc:c=cu (di g.Points Jp):=hc
 subst hc
 unfold cu
 refine W01 ?_
 refine ar rfl (fun h=>?_) (fun h=>?_)
 ·rw [if_pos (Lz h)]
  refine W07 ?_
  exact LN LA
 ·rw [if_neg (Ly h)]
  refine W0e ?_
  refine bn (hc:=⟨ul g.Points g.Ends⟩) ?_
  refine W1j ?_
  exact LN LA
instance (g:bi):AD Tryz.prog 116 [.agg (bI g)] (aI (ji g)):=⟨Bx g⟩
end Go.Proofs.YtpmdfoaadejmkaaGreatDoor
namespace Go.Proofs.YtpmdfoaadejmkaaGreatDoor
open Go.RowKit
attribute [local irreducible] AT br AX AO Av Kt b7 dm DA cA
open Go.MapKept
def Ds (_:Nat) (i:gx):Int:=if i.Op < 1∨i.Op > 39 then 50 else if i.A < -999999999∨i.A > 999999999 then 3 else 0
theorem ur (n:Nat) (i:gx):c5 Tryz.prog 154 [aI n,.agg (fj i)] (aI (Ds n i)):=by
 refine aS Tryz.func154 rfl Tryz.ntmps154 rfl fun B=>?_
 unfold Ds
 refine W0V ?_
 refine ce [3] (i.Op < 1∨i.Op > 39) rfl (fun Q' K=>?_) (fun hC=>?_) (fun hC=>?_)
 ·repeat' (first|refine a7 ?_|refine LG a5 KZ ?_|refine LO KZ ?_|refine LP LB ?_|refine LR LA (fun _=>?_) (fun _=>?_))
  all_goals exact K _ _ rfl rfl (by clear K;grind)
 ·rw [if_pos hC]
  refine W0f ?_
  exact LN LA
 rw [if_neg hC]
 refine W0k ?_
 refine ce [] (i.A < -999999999∨i.A > 999999999) rfl (fun Q' K=>?_) (fun hC=>?_) (fun hC=>?_)
 ·repeat' (first|refine a7 ?_|refine LG a5 KZ ?_|refine LO KZ ?_|refine LP LB ?_|refine LR LA (fun _=>?_) (fun _=>?_))
  all_goals exact K _ _ rfl rfl (by clear K;grind)
 ·rw [if_pos hC]
  refine W0f ?_
  exact LN LA
 rw [if_neg hC]
 refine W1k ?_
 exact LN LA
def nV (l:List gx):Int:=(cr 200 l Ds).1
theorem we (l:List gx):c5 Tryz.prog 75 [.imm 2 (l.map fj)] (aI (nV l)):=by
 refine aS Tryz.func75 rfl Tryz.ntmps75 rfl fun B=>?_
 refine W1l ?_
 refine dH (f:=227) (cs:=[]) [] [] (GB (g:=154) (caps:=[]) rfl l 200 _ (fun _ _=>True) [] trivial (fun _=>du fun i x _=>ur i x)) rfl rfl rfl (Lm _) rfl rfl fun c L1 hc=>?_
 have hc:c=cu (cr 200 l Ds):=hc
 subst hc
 unfold cu
 refine W0u ?_
 exact LN LA
instance (l:List gx):AD Tryz.prog 75 [.imm 2 (l.map fj)] (aI (nV l)):=⟨we l⟩
def mF (f:aY) (_:Nat) (p:dX):Int:=if lO f p.Glyph=false then 32 else er (!([p.X,p.Y].all gK)) 30
theorem xp (f:aY) (n:Nat) (p:dX):c5 Tryz.prog 118 [aI n,.agg (f0 p),.iptr (cG f)] (aI (mF f n p)):=by
 refine aS Tryz.func118 rfl Tryz.ntmps118 rfl fun B=>?_
 unfold mF
 repeat' (first|refine a9 ?_|refine a4 ?_|refine a6 ?_|refine a7 ?_|refine LG a5 KZ ?_|refine bk ?_|(apply bw;refine bn ?_)|fail)
 refine ar rfl (fun h=>?_) (fun h=>?_)
 ·rw [if_pos (by simpa using h)]
  refine W07 ?_
  exact LN LA
 ·rw [if_neg (by simpa using h)]
  repeat' (first|refine a9 ?_|refine a4 ?_|refine aj ?_|refine am ?_|refine a6 ?_|refine a7 ?_|refine LG a5 KZ ?_|refine bQ a5 ?_|(apply bw;refine bn ?_)|fail)
  exact LN LA
def mN (g:bi) (i:Nat) (a:dE):Int:=if (a.Kind < 1∨a.Kind > 4)∨(a.Class < 0∨a.Class > 15)∨((a.Kind=3∨a.Kind=4)∧a.Class≠0)∨[a.X,a.Y].all gK=false∨(a.Kind=2∧g.Mark=false)∨(∃b∈g.Anchors.take i,b.Kind=a.Kind∧b.Class=a.Class) then 35 else 0
def sf (f:aY) (g:bi) (i:Nat) (d:dO):Int:=if d.Region < 0∨d.Region≥f.Regions.length then 61 else if (d.Point < -1∨d.Point≥g.Points.length)∨[d.X,d.Y].all gK=false∨(d.Point= -1∧d.Y≠0) then 30 else if (match i with | 0=>false | j+1=>match g.Deltas[j]? with | some b=>decide (d.Region < b.Region∨(d.Region=b.Region∧d.Point≤b.Point)) | none=>false)=true then 24 else 0
theorem wM (b:Bool):AC Tryz.prog 121 [eo b] [] fun c L=>∃m,c= .fn 205 [.iptr [eo b],.iptr [.sc (.map (some m))]]∧L=[(m,iC fun _ _=>none)]:=by
 refine aS Tryz.func121 rfl Tryz.ntmps121 rfl fun B=>?_
 refine W0b ?_
 refine xO fun m=>?_
 repeat' (first|refine a9 ?_|refine a4 ?_|refine am ?_|refine a6 ?_|refine a7 ?_|refine LG a5 KZ ?_|(apply aM;first|refine LI 3 a5 0 LF ?_|refine LI 3 a5 1 LF ?_|refine LI 3 a5 2 LF ?_|refine LH a5 0 LE ?_|refine LH a5 1 LE ?_|refine LH a5 2 LE ?_|refine LH a5 3 LE ?_|fail)|refine bf a5 fun _=>?_|fail)
 exact LM KZ ⟨_,rfl,rfl⟩
theorem An (r p:Int):AC Tryz.prog 123 [aI r,aI p] [] fun c L=>∃b,c= .fn 208 [.iptr [aI r],.iptr [aI p],.sc (.pointer (some ⟨b,0,none⟩))]∧L=[(b,.box [aI 0,aI 0] 296)]:=by
 refine aS Tryz.func123 rfl Tryz.ntmps123 rfl fun B=>?_
 repeat' (first|refine a9 ?_|refine a4 ?_|refine am ?_|refine a6 ?_|refine a7 ?_|refine LG a5 KZ ?_|refine bk ?_|refine bf a5 fun _=>?_|fail)
 exact LM KZ ⟨_,rfl,rfl⟩
theorem xn (e:Int):c5 Tryz.prog 114 [.iptr [aI e]] (cu (e,0)):=by
 refine aS Tryz.func114 rfl Tryz.ntmps114 rfl fun B=>?_
 refine W0u ?_
 exact aZ rfl rfl rfl rfl
theorem xo (g:bi):c5 Tryz.prog 115 [.iptr (bI g)] (cu (ji g,0)):=by
 refine aS Tryz.func115 rfl Tryz.ntmps115 rfl fun B=>?_
 refine W0l ?_
 exact aZ rfl rfl rfl rfl
theorem xq (g:bi):c5 Tryz.prog 124 [.iptr (bI g)] (cu (nV g.Hint,0)):=by
 refine aS Tryz.func124 rfl Tryz.ntmps124 rfl fun B=>?_
 refine W0l ?_
 exact aZ rfl rfl rfl rfl
def gX (l:List (Int×Int)):Int×Int:=match l with
 | []=>(0,0)
 | x::r=>if x.1=0 then gX r else x
theorem kT:∀l:List Lk,t0 l=gX (l.map fun x=>(x.e,x.n))
 | []=>rfl
 | x::r=>by simp only [t0,Lp,gX];rw [kT r]
theorem qV:∀{l:List (Int×Int)},(∀x∈l,x.1=0)→gX l=(0,0)
 | [],_=>rfl
 | x::r,h=>by unfold gX;rw [if_pos (h x (List.mem_cons_self ..))];exact qV fun y hy=>h y (Ls _ hy)
def oK (f:aY) (g:bi) (name:Int):Int:=(gX [(name,0),(ji g,0),cr 8 g.Parts (mF f),cr 16 g.Anchors (mN g),cr 400 g.Deltas (sf f g),(nV g.Hint,0)]).1
end Go.Proofs.YtpmdfoaadejmkaaGreatDoor
