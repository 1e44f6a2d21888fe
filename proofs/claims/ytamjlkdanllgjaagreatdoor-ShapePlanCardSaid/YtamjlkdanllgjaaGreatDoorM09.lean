/-
  The program: what the first look tells that finds something wrong.
-/
import Derived.Test.YtamjlkdanllgjaaGreatDoorM08
import Derived.Test.YtamjlkdanllgjaaGreatDoorM07
import Derived.Test.YtamjlkdanllgjaaGreatDoorM05
import Derived.Test.YtamjlkdanllgjaaGreatDoorM06
namespace Go.Proofs.YtamjlkdanllgjaaGreatDoor
open Go.RowKit
attribute [local irreducible] AT bF AX AO Av Kt b8 d9 DA cu
set_option maxRecDepth 8000
structure Lk where
 f:FuncId
 caps:List AV
 L:AL
 e:Int
 n:Int
def Lk.ok (x:Lk):Prop:=bK Tryz.prog x.f∧AC Tryz.prog x.f x.caps x.L fun c _=>c=ct (x.e,x.n)
def tD:List Lk→Int×Int
 | []=>(0,0)
 | x::r=>if x.e=0 then tD r else (x.e,x.n)
def K9 (l:List Lk):AL:=(l.map Lk.L).flatten
def ye:List Lk→Prop
 | []=>True
 | x::r=>x.ok∧(x.e=0→ye r)
def MU (x:Lk):List AV:=[.fn x.f x.caps]
theorem Ez {l:List Lk} {i:Nat} {x:Lk} (h:l[i]?=some x):tD (l.drop i)=if x.e=0 then tD (l.drop (i+1)) else (x.e,x.n):=by
 obtain ⟨hi,hx⟩:=Ol h
 rw [List.drop_eq_getElem_cons hi,hx]
 rfl
theorem BV {l:List Lk} {i:Nat} {x:Lk} (h:l[i]?=some x) (hk:ye (l.drop i)):x.ok∧(x.e=0→ye (l.drop (i+1))):=by
 obtain ⟨hi,hx⟩:=Ol h
 rw [List.drop_eq_getElem_cons hi,hx] at hk
 exact hk
theorem we:∀{l:List Lk},(tD l).1=0→tD l=(0,0)
 | [],_=>rfl
 | x::r,h=>by
  unfold tD at h ⊢
  split
  ·rename_i h0
   rw [if_pos h0] at h
   exact we h
  ·rename_i h0
   rw [if_neg h0] at h
   exact absurd h h0
theorem EA {l:List Lk} {i:Nat} {x:Lk} (h:l[i]?=some x):K9 (l.drop i)=x.L++K9 (l.drop (i+1)):=by
 obtain ⟨hi,hx⟩:=Ol h
 unfold K9
 rw [List.drop_eq_getElem_cons hi,hx]
 rfl
theorem Bz {σ0:cm} {l:Nat} (ls:List Lk) (hok:ye ls) (E:AL) (E':Int→Int→AL) (hy:∀e n,e≠0→AY Tryz.prog σ0 l [aG e,aG n] E fun c L=>c=cU false∧L=E' e n):
  Iv Tryz.prog σ0 243 [.sc (.func (.yield l) #[] #[]),.iptr [.imm 1 (ls.map MU)]] (K9 ls++E) fun _ L=>L=if (tD ls).1=0 then E else E' (tD ls).1 (tD ls).2:=by
 refine xg Tryz.func243 rfl Tryz.ntmps243 rfl fun B hB=>?_
 refine W03 ?_
 refine cV 7 rfl rfl fun hlen=>?_
 rw [Ou] at hlen
 refine aJ [0,7,8] (α:=Nat) (fun i=>[(9,aG i)]) (fun i=>i≤ls.length∧tD ls=tD (ls.drop i)∧ye (ls.drop i)) (fun i=>K9 (ls.drop i)++E) (fun i=>ls.length - i) 0 rfl ⟨rfl,trivial⟩ ⟨Nat.zero_le _,rfl,hok⟩ (fun _ _ h=>h) fun i ⟨hi,he,hok⟩=>?_
 try dsimp only [Oq,Oo,Om,Oh]
 refine W01 ?_
 refine aw rfl (fun h=>?_) (fun h=>?_)
 ·have hil:i < ls.length:=by have:=Oy h;simp at this;omega
  obtain ⟨x,hx⟩:∃z,ls[i]?=some z:=⟨_,Oz hil⟩
  have hzg:=c7 (c:=MU) hx
  obtain ⟨⟨hcf,hac⟩,hok⟩:=BV hx hok
  rw [Ez hx] at he
  rw [EA hx]
  refine W08 ?_
  refine dO (cs:=[]) x.L (K9 (ls.drop (i+1))++E) (by simpa using hac) rfl rfl rfl (by rw [List.append_assoc]) rfl rfl fun c L1 hc=>?_
  subst hc
  refine aX (bS (List.sublist_append_right ..)) ?_
  unfold ct
  refine W01 ?_
  by_cases h0:x.e=0
  ·rw [if_pos h0] at he
   rw [h0]
   refine W0Y ?_
   exact aD (i+1) rfl ⟨by rw [Ov];rfl,trivial⟩ ⟨by omega,he,hok h0⟩ (by omega) (fun _ _ h=>h)
  ·rw [if_neg h0] at he
   rw [show decide (x.e≠0)=true from decide_eq_true h0]
   refine W10 ?_
   refine aX (bS (List.sublist_append_right ..)) ?_
   refine qy E [] hB (hy x.e x.n h0) rfl rfl rfl (cj rfl) rfl rfl fun c L1 ⟨hc,hL⟩=>?_
   subst hc;subst hL
   rw [List.append_nil]
   repeat' (first|refine O1 ?_|refine OE a7 KN ?_|refine ON KN ?_|refine bT rfl ?_)
   refine n4 rfl ?_
   rw [he,if_neg h0]
 ·have hil:i=ls.length:=by have:=Ox h;simp at this;omega
  subst hil
  rw [List.drop_length] at he ⊢
  repeat' (first|refine O1 ?_|fail)
  refine cN rfl ?_
  rw [he]
  rfl
theorem xO (l:List (List AV)):bH Tryz.prog 170 [.imm 1 l] (.fn 243 [.iptr [.imm 1 l]]):=by
 refine aQ Tryz.func170 rfl Tryz.ntmps170 rfl fun B=>?_
 refine W07 ?_
 exact OL NZ
instance (l:List (List AV)):AD Tryz.prog 170 [.imm 1 l] (.fn 243 [.iptr [.imm 1 l]]):=⟨xO l⟩
theorem Ff {p q:Nat×AB} {l l2:AL}:(p::q::(l++l2)).Perm (l++(p::q::l2)):=by
 have:=(List.perm_append_comm (l₁:=[p,q]) (l₂:=l)).append_right l2
 simpa using this
set_option maxHeartbeats 1000000 in
theorem jA (ls:List Lk) (hok:ye ls):AC Tryz.prog 104 [.imm 1 (ls.map MU)] (K9 ls) fun c _=>c=ct (tD ls):=by
 refine qK Tryz.func104 rfl Tryz.ntmps104 rfl fun B=>?_
 repeat' (first|refine O1 ?_|refine ak ?_|refine OE a7 KN ?_|refine bi a7 fun _=>?_|(apply bg;refine b9 ?_)|fail)
 rename_i b2 b3
 refine qT (ps:=[8,9]) rfl fun σ0 l db rec hrec=>?_
 have hy:∀e n:Int,e≠0→AY Tryz.prog σ0 l [aG e,aG n] ([(b3,.box [aG 0] 3),(b2,.box [aG 0] 52),(db,oA)]++[(l,kX rec)]) fun c L=>c=cU false∧L=[(b3,.box [aG n] 3),(b2,.box [aG e] 52),(db,oA)]++[(l,kX { ({ rec with state:= .busy }:Loop) with state:= .done,pending:=some .ret })]:=by
  intro e n he
  refine DF hrec rfl rfl fun B1 hB1=>?_
  refine W01 ?_
  refine qU hrec.state ?_
  repeat' (first|refine O1 ?_|refine ak ?_|refine OE a7 KN ?_|(apply aO;first|refine OF a7 0 OC ?_|refine OF a7 1 OC ?_|refine OF a7 2 OC ?_|refine OF a7 3 OC ?_|fail))
  refine xr (L:=[(b3,.box [aG n] 3),(b2,.box [aG e] 52),(db,oA)]) ?_
  exact ⟨rfl,rfl⟩
 refine ⟨_,(Bz ls hok _ _ hy).perm ?_,fun c L' hL'=>?_⟩
 ·simp only [List.append_assoc,Oq,Oo]
  exact Ff
 ·by_cases h0:(tD ls).1=0
  ·rw [if_pos h0] at hL'
   subst hL'
   refine ⟨rec,_,Ok _,(by rw [hrec.state];intro h;cases h),?_⟩
   rw [hrec.pending]
   show AX _ _ _ _ _ _ _ _
   refine W15 ?_
   refine n5 (cs:=[aG 0,aG 0]) [db] [(b3,.box [aG 0] 3),(b2,.box [aG 0] 52)] rfl (Ok _) ?_ ?_
   ·exact ⟨⟨b2,1,_,_,rfl,rfl,.inl ⟨cF a7 rfl,rfl⟩⟩,⟨b3,0,_,_,rfl,rfl,.inl ⟨cF a7 rfl,rfl⟩⟩,trivial⟩
   ·have:tD ls=(0,0):=we h0
    rw [this]
    rfl
  ·rw [if_neg h0] at hL'
   subst hL'
   refine ⟨_,_,Ok _,(by intro h;cases h),?_⟩
   show AX _ _ _ _ _ _ _ _
   repeat' (first|refine O1 ?_|fail)
   refine n5 (cs:=[aG (tD ls).1,aG (tD ls).2]) [db] [(b3,.box [aG (tD ls).2] 3),(b2,.box [aG (tD ls).1] 52)] rfl (Ok _) ?_ rfl
   exact ⟨⟨b2,1,_,_,rfl,rfl,.inl ⟨cF a7 rfl,rfl⟩⟩,⟨b3,0,_,_,rfl,rfl,.inl ⟨cF a7 rfl,rfl⟩⟩,trivial⟩
set_option maxRecDepth 8000
set_option maxRecDepth 8000
def NO (l:List Int) (n:Nat):List Int:=((List.range n).map Int.ofNat).filter (l.contains ·)
theorem ny (a b:List Int):aL a++aL b=aL (a++b):=by simp [aL]
set_option maxRecDepth 8000
def ez (b:Bool) (e:Int):Int:=bif b then e else 0
theorem G5 (b:Bool) (e:Int):bH Tryz.prog 135 [cU b,aG e] (aG (ez b e)):=by
 refine aQ Tryz.func135 rfl Tryz.ntmps135 rfl fun B=>?_
 refine W01 ?_
 refine aw rfl (fun h=>?_) (fun h=>?_)
 ·subst h
  refine W01 ?_
  exact OL NZ
 ·subst h
  refine W01 ?_
  exact OL NZ
instance (b:Bool) (e:Int):AD Tryz.prog 135 [cU b,aG e] (aG (ez b e)):=⟨G5 b e⟩
def gP (z:Int):Bool:=decide (-16384≤z∧z≤16384)
theorem uD (l:List Int):bH Tryz.prog 136 [.imm 1 (aL l)] (cU (l.all gP)):=by
 refine aQ Tryz.func136 rfl Tryz.ntmps136 rfl fun B=>?_
 refine cV 0 rfl rfl fun hlen=>?_
 rw [aP] at hlen
 refine W03 ?_
 refine aJ [5,6] (α:=Nat) (fun i=>[(7,aG i)]) (fun i=>i≤l.length∧(l.take i).all gP=true) (fun _=>[]) (fun i=>l.length - i) 0 rfl ⟨rfl,trivial⟩ ⟨Nat.zero_le _,by simp⟩ (fun _ _ h=>h) fun i hi=>?_
 try dsimp only [Oq,Oo,Om,Oh]
 refine W01 ?_
 refine aw rfl (fun h=>?_) (fun h=>?_)
 ·have hil:i < l.length:=by have:=Oy h;rw [aP] at this;omega
  obtain ⟨z,hz⟩:∃z,l[i]?=some z:=⟨_,Oz hil⟩
  have hzg:=bD hz
  refine W08 ?_
  refine cH [5,6,7] (gP z=false) rfl (fun Q' K=>?_) (fun hC=>?_) (fun hC=>?_)
  ·repeat' (first|refine O1 ?_|refine OE a7 KN ?_|refine ON KN ?_|refine OP OA ?_|refine OR NZ (fun _=>?_) (fun _=>?_))
   all_goals exact K _ _ rfl rfl (by unfold gP;simp_all <;> omega)
  ·refine W01 ?_
   refine OK KN ?_
   rw [show l.all gP=false by
    rw [List.all_eq_false]
    exact ⟨z,Ow hz,by simp [hC]⟩]
  ·refine W02 ?_
   refine aD (i+1) rfl ⟨by rw [Ov];rfl,trivial⟩ ⟨by omega,?_⟩ (by omega) (fun _ _ h=>h)
   rw [List.take_add_one,hz,List.all_append,hi.2]
   simpa using hC
 ·have hil:i=l.length:=by have:=Ox h;rw [aP] at this;omega
  subst hil
  rw [List.take_length] at hi
  refine W01 ?_
  refine OK KN ?_
  rw [hi.2]
instance (x:Int):AD Tryz.prog 136 [.imm 1 [[aG x]]] (cU ([x].all gP)):=⟨uD [x]⟩
instance (x y:Int):AD Tryz.prog 136 [.imm 1 [[aG x],[aG y]]] (cU ([x,y].all gP)):=⟨uD [x,y]⟩
instance (x y z:Int):AD Tryz.prog 136 [.imm 1 [[aG x],[aG y],[aG z]]] (cU ([x,y,z].all gP)):=⟨uD [x,y,z]⟩
def m7 (f:aY) (n:Int):Bool:=decide (0≤n∧n < f.Glyphs.length)
theorem w7 (f:aY) (n:Int):bH Tryz.prog 178 [cR f,aG n] (cU (m7 f n)):=by
 refine aQ Tryz.func178 rfl Tryz.ntmps178 rfl fun B=>?_
 refine W07 ?_
 refine da (t:=4) [] (m7 f n=true) rfl (fun Q' K=>?_) ?_
 ·repeat' (first|refine O1 ?_|refine OE a7 KN ?_|refine ON KN ?_|refine OP OA ?_|refine OR NZ (fun _=>?_) (fun _=>?_))
  all_goals exact K _ _ rfl rfl (by unfold m7;simp_all <;> omega)
 repeat' (first|refine O1 ?_|fail)
 refine OK KN ?_
 simp
instance (f:aY) (n:Int):AD Tryz.prog 178 [cR f,aG n] (cU (m7 f n)):=⟨w7 f n⟩
def rk (right taken:Bool):Int:=bif right then (bif taken then 24 else 0) else 23
theorem sL (a b:Bool):bH Tryz.prog 110 [cU a,cU b] (aG (rk a b)):=by
 refine aQ Tryz.func110 rfl Tryz.ntmps110 rfl fun B=>?_
 refine W03 ?_
 refine aw rfl (fun h=>?_) (fun h=>?_)
 ·refine W01 ?_
  refine OK KN ?_
  cases a with
  | true=>cases h
  | false=>rfl
 ·refine W01 ?_
  have ha:a=true:=by cases a with
   | true=>rfl
   | false=>cases h
  subst ha
  refine aw rfl (fun h=>?_) (fun h=>?_)
  ·subst h
   refine W01 ?_
   exact OL NZ
  ·subst h
   refine W01 ?_
   exact OL NZ
instance (a b:Bool):AD Tryz.prog 110 [cU a,cU b] (aG (rk a b)):=⟨sL a b⟩
def pD (c:Int):Bool:=decide ((65≤c∧c≤90)∨(97≤c∧c≤122))
abbrev U8 (c:Int):AV:= .sc (.int .u8 c)
theorem uq (c:Int):bH Tryz.prog 184 [U8 c] (cU (pD c)):=by
 refine aQ Tryz.func184 rfl Tryz.ntmps184 rfl fun B=>?_
 refine W01 ?_
 refine da (t:=2) [] (pD c=true) rfl (fun Q' K=>?_) ?_
 ·repeat' (first|refine O1 ?_|refine OE a7 KN ?_|refine ON KN ?_|refine OP OA ?_|refine dc rfl rfl rfl ?_|refine OR NZ (fun _=>?_) (fun _=>?_))
  all_goals exact K _ _ rfl rfl (by unfold pD;simp_all <;> omega)
 repeat' (first|refine O1 ?_|fail)
 refine OK KN ?_
 simp
instance (c:Int):AD Tryz.prog 184 [U8 c] (cU (pD c)):=⟨uq c⟩
set_option maxRecDepth 8000
section
variable {P:Program} {tt:TT} {r:Option Nat} {ops:Array Oper} {Q:Exit→Act→World→Prop} {nt:Nat} {D:List Deferred} {fr:bZ} {B:Bs} {L:AL} {rest:List Oper} {d:Nat} {ty t:TypeId} {pos:String} {af:Array Edge} {x y z:Operand}
theorem A9 (ok:eh P tt) {s:ByteArray} {k:IntKind} {i:Int} {c:UInt8} {ti:TI} (ht:dC tt t=some ti) (hk:ti.k= .str) (hx:bw fr x=some (.sc (.string s))) (hy:bw fr y=some (.sc (.int k i))) (h0:0≤i) (hu:s[i.toNat]?=some c) (hd:Nat.ble nt d=false) (h:bF P r ops Q nt D rest ((d,U8 c.toNat)::fr) B L):bF P r ops Q nt D (⟨some d,.index t x y,ty,pos,af,none⟩::rest) fr B L:=cz (qJ (ok.str ht hk) hx hy h0 hu) hd rfl h
end
def ox (s:ByteArray) (i:Nat):Int:=match s[i]? with | some c=>c.toNat | none=>0
theorem r3 {s:ByteArray} {i:Nat} {c:UInt8} (h:s[i]?=some c):ox s i=c.toNat:=by unfold ox;rw [h]
def vu (n:Nat) (p:Nat→Bool):Bool:=(List.range n).all p
theorem om {n:Nat} {p:Nat→Bool}:vu n p=true↔∀i,i < n→p i=true:=by simp [vu]
theorem po {n:Nat} {p:Nat→Bool} {i:Nat} (hi:i < n) (h:p i=false):vu n p=false:=by
 rw [Bool.eq_false_iff]
 intro hh
 rw [om.1 hh i hi] at h
 cases h
theorem Ay {s:ByteArray} {i:Nat} (h:i < s.size):∃c,s[i]?=some c:=⟨s[i],by simp [h]⟩
def fZ (s:ByteArray):Bool:=decide (1≤s.size∧s.size≤8) && vu s.size fun i=>pD (ox s i)
theorem sK (s:ByteArray):bH Tryz.prog 123 [oh s] (cU (fZ s)):=by
 refine aQ Tryz.func123 rfl Tryz.ntmps123 rfl fun B=>?_
 refine W01 ?_
 refine cH [0] (¬(1≤s.size∧s.size≤8)) rfl (fun Q' K=>?_) (fun hC=>?_) (fun hC=>?_)
 ·repeat' (first|refine O1 ?_|refine OE a7 KN ?_|refine ON KN ?_|refine OP OA ?_|refine OR NZ (fun _=>?_) (fun _=>?_))
  all_goals exact K _ _ rfl rfl (by simp_all <;> omega)
 ·refine W01 ?_
  refine OK KN ?_
  unfold fZ
  rw [decide_eq_false hC]
  rfl
 have hC:=Decidable.not_not.1 hC
 refine W03 ?_
 refine aJ [0,13] (α:=Nat) (fun i=>[(14,aG i)]) (fun i=>i≤s.size∧∀j,j < i→pD (ox s j)=true) (fun _=>[]) (fun i=>s.size - i) 0 rfl ⟨rfl,trivial⟩ ⟨Nat.zero_le _,fun j hj=>absurd hj (Nat.not_lt_zero _)⟩ (fun _ _ h=>h) fun i hi=>?_
 try dsimp only [Oq,Oo,Om,Oh]
 refine W01 ?_
 refine aw rfl (fun h=>?_) (fun h=>?_)
 ·have hil:i < s.size:=by have:=Oy h;omega
  obtain ⟨c,hc⟩:=Ay hil
  have hb:=r3 hc
  refine W03 ?_
  refine A9 a7 rfl rfl rfl rfl (by omega) (by rw [Int.toNat_natCast];exact hc) rfl ?_
  refine W0a ?_
  refine aw rfl (fun h2=>?_) (fun h2=>?_)
  ·refine W01 ?_
   refine OK KN ?_
   unfold fZ
   rw [po hil (by rw [hb];simpa using h2),Bool.and_false]
  ·refine W02 ?_
   refine aD (i+1) rfl ⟨by rw [Ov];rfl,trivial⟩ ⟨by omega,fun j hj=>?_⟩ (by omega) (fun _ _ h=>h)
   by_cases e:j=i
   ·subst e;rw [hb];simpa using h2
   ·exact hi.2 j (by omega)
 ·have hil:i=s.size:=by have:=Ox h;omega
  subst hil
  refine W01 ?_
  refine OK KN ?_
  unfold fZ
  rw [decide_eq_true hC,om.2 hi.2]
  rfl
instance (s:ByteArray):AD Tryz.prog 123 [oh s] (cU (fZ s)):=⟨sK s⟩
def uI (i:Nat) (c:Int):Bool:=decide ((pD c=true∨c=95∨c=46)∨(0 < i∧((48≤c∧c≤57)∨c=45)))
def j9 (s:ByteArray):Bool:=decide (1≤s.size∧s.size≤16) && vu s.size fun i=>uI i (ox s i)
set_option maxHeartbeats 1000000 in
theorem ya (s:ByteArray):bH Tryz.prog 111 [oh s] (cU (j9 s)):=by
 refine aQ Tryz.func111 rfl Tryz.ntmps111 rfl fun B=>?_
 refine W01 ?_
 refine cH [0] (¬(1≤s.size∧s.size≤16)) rfl (fun Q' K=>?_) (fun hC=>?_) (fun hC=>?_)
 ·repeat' (first|refine O1 ?_|refine OE a7 KN ?_|refine ON KN ?_|refine OP OA ?_|refine OR NZ (fun _=>?_) (fun _=>?_))
  all_goals exact K _ _ rfl rfl (by simp_all <;> omega)
 ·refine W01 ?_
  refine OK KN ?_
  unfold j9
  rw [decide_eq_false hC]
  rfl
 have hC:=Decidable.not_not.1 hC
 refine W03 ?_
 refine aJ [0,16] (α:=Nat) (fun i=>[(17,aG i)]) (fun i=>i≤s.size∧∀j,j < i→uI j (ox s j)=true) (fun _=>[]) (fun i=>s.size - i) 0 rfl ⟨rfl,trivial⟩ ⟨Nat.zero_le _,fun j hj=>absurd hj (Nat.not_lt_zero _)⟩ (fun _ _ h=>h) fun i hi=>?_
 try dsimp only [Oq,Oo,Om,Oh]
 refine W01 ?_
 refine aw rfl (fun h=>?_) (fun h=>?_)
 ·have hil:i < s.size:=by have:=Oy h;omega
  obtain ⟨c,hc⟩:=Ay hil
  have hb:=r3 hc
  refine W03 ?_
  refine A9 a7 rfl rfl rfl rfl (by omega) (by rw [Int.toNat_natCast];exact hc) rfl ?_
  generalize (c.toNat:Int)=z at *
  refine W0a ?_
  refine da (t:=5) [0,3,4,16,17] (pD z=true∨z=95∨z=46) rfl (fun Q' K=>?_) ?_
  ·clear hi hb hc h
   repeat' (first|refine O1 ?_|refine OE a7 KN ?_|refine ON KN ?_|refine OP OA ?_|refine OR NZ (fun _=>?_) (fun _=>?_))
   all_goals exact K _ _ rfl rfl (by simp_all)
  refine W01 ?_
  refine da (t:=6) [0,5,16,17] (0 < i∧((48≤z∧z≤57)∨z=45)) rfl (fun Q' K=>?_) ?_
  ·clear hi hb hc h
   repeat' (first|refine O1 ?_|refine OE a7 KN ?_|refine ON KN ?_|refine OP OA ?_|refine dc rfl rfl rfl ?_|refine OR NZ (fun _=>?_) (fun _=>?_))
   all_goals exact K _ _ rfl rfl (by simp_all <;> omega)
  refine W01 ?_
  refine cH [0,16,17] (uI i z=false) rfl (fun Q' K=>?_) (fun h2=>?_) (fun h2=>?_)
  ·clear hi hb hc h
   repeat' (first|refine O1 ?_|refine OE a7 KN ?_|refine ON KN ?_|refine OP OA ?_|refine OR NZ (fun _=>?_) (fun _=>?_))
   all_goals exact K _ _ rfl rfl (by clear K;unfold uI;grind)
  ·refine W01 ?_
   refine OK KN ?_
   unfold j9
   rw [po hil (by rw [hb];exact h2),Bool.and_false]
  ·refine W02 ?_
   refine aD (i+1) rfl ⟨by rw [Ov];rfl,trivial⟩ ⟨by omega,fun j hj=>?_⟩ (by omega) (fun _ _ h=>h)
   by_cases e:j=i
   ·subst e;rw [hb];simpa using h2
   ·exact hi.2 j (by omega)
 ·have hil:i=s.size:=by have:=Ox h;omega
  subst hil
  refine W01 ?_
  refine OK KN ?_
  unfold j9
  rw [decide_eq_true hC,om.2 hi.2]
  rfl
instance (s:ByteArray):AD Tryz.prog 111 [oh s] (cU (j9 s)):=⟨ya s⟩
end Go.Proofs.YtamjlkdanllgjaaGreatDoor
namespace Go.Proofs.YtamjlkdanllgjaaGreatDoor
open Go.RowKit
attribute [local irreducible] AT bF AX AO Av Kt b8 d9 DA cu
set_option maxRecDepth 8000
def gG {α:Type} (l:List α) (w:Nat→α→Int) (i:Nat):Int:=match l[i]? with | some x=>w i x | none=>0
def dx {α:Type} (l:List α) (w:Nat→α→Int):Int×Int:=dG (gG l w) l.length
def cZ {α:Type} (most:Int) (l:List α) (w:Nat→α→Int):Int×Int:=dB most (gG l w) l.length
theorem iB {α:Type} {l:List α} {w:Nat→α→Int} {i:Nat} {x:α} (h:l[i]?=some x):gG l w i=w i x:=by unfold gG;rw [h]
theorem dz {α:Type} {P:Program} {g:FuncId} {caps:List AV} {l:List α} {el:α→AV} {w:Nat→α→Int} (h:∀(i:Nat) x,l[i]?=some x→bH P g ([aG i,el x]++caps) (aG (w i x))):∀(i:Nat) x (L:AL),l[i]?=some x→True→AC P g ([aG i,el x]++caps) L fun c _=>c=aG (gG l w i)∧(gG l w i=0→True):=by
 intro i x L hx _
 rw [iB hx]
 exact ((h i x hx).any L).mono fun c L' ⟨h1,_⟩=>⟨h1,fun _=>trivial⟩
theorem sx {α:Type} {P:Program} {g:FuncId} {caps:List AV} {l:List α} {el:α→AV} {w:Nat→α→Int} {L0:AL} (h:∀(i:Nat) x,l[i]?=some x→AC P g ([aG i,el x]++caps) L0 fun c L'=>c=aG (w i x)∧L'=L0):∀(i:Nat) x (L:AL),l[i]?=some x→L=L0→AC P g ([aG i,el x]++caps) L fun c L'=>c=aG (gG l w i)∧(gG l w i=0→L'=L0):=by
 intro i x L hx hL
 subst hL
 rw [iB hx]
 exact (h i x hx).mono fun c L' ⟨h1,h2⟩=>⟨h1,fun _=>h2⟩
theorem yX (n:Int):bH Tryz.prog 308 [aG n] (cU (gP n)):=by
 refine aQ Tryz.func308 rfl Tryz.ntmps308 rfl fun B=>?_
 refine W01 ?_
 refine da (t:=2) [] (gP n=true) rfl (fun Q' K=>?_) ?_
 ·repeat' (first|refine O1 ?_|refine OE a7 KN ?_|refine ON KN ?_|refine OP OA ?_|refine OR NZ (fun _=>?_) (fun _=>?_))
  all_goals exact K _ _ rfl rfl (by clear K;unfold gP;grind)
 repeat' (first|refine O1 ?_|fail)
 refine OK KN ?_
 simp
instance (n:Int):AD Tryz.prog 308 [aG n] (cU (gP n)):=⟨yX n⟩
def fX (n:Int):Int→List Int→Bool
 | last,[]=>decide (last=n - 1)
 | last,e::r=>if e≥n∨e < last+2 then false else fX n e r
def wH (p:eM):Bool:=gP p.X && gP p.Y
def jM (pts:List eM) (ends:List Int):Bool:=decide (pts.length≤200∧ends.length≤40) && (pts.all wH && fX pts.length (-1) ends)
theorem vR {n last:Int} {l:List Int} {i:Nat} {e:Int} (h:l[i]?=some e):fX n last (l.drop i)=if e≥n∨e < last+2 then false else fX n e (l.drop (i+1)):=by
 obtain ⟨hi,hx⟩:=Ol h
 rw [List.drop_eq_getElem_cons hi,hx]
 rfl
set_option maxHeartbeats 1000000 in
theorem uM (pts:List eM) (ends:List Int):bH Tryz.prog 246 [.agg [.imm 3 (pts.map dH),.imm 1 (aL ends)]] (cU (jM pts ends)):=by
 refine aQ Tryz.func246 rfl Tryz.ntmps246 rfl fun B=>?_
 refine W07 ?_
 refine cH [1] (¬(pts.length≤200∧ends.length≤40)) rfl (fun Q' K=>?_) (fun hC=>?_) (fun hC=>?_)
 ·repeat' (first|refine O1 ?_|refine OE a7 KN ?_|refine ON KN ?_|refine OP OA ?_|refine OR NZ (fun _=>?_) (fun _=>?_))
  all_goals exact K _ _ rfl rfl (by clear K;simp_all [aP] <;> omega)
 ·refine W01 ?_
  refine OK KN ?_
  unfold jM
  rw [decide_eq_false hC]
  rfl
 have hC:=Decidable.not_not.1 hC
 have hlm:(pts.map dH).length=pts.length:=Ou ..
 refine W03 ?_
 refine aJ [1,19,20] (α:=Nat) (fun i=>[(21,aG i)]) (fun i=>i≤pts.length∧(pts.take i).all wH=true) (fun _=>[]) (fun i=>pts.length - i) 0 rfl ⟨rfl,trivial⟩ ⟨Nat.zero_le _,by simp⟩ (fun _ _ h=>h) fun i hi=>?_
 try dsimp only [Oq,Oo,Om,Oh]
 refine W01 ?_
 refine aw rfl (fun h=>?_) (fun h=>?_)
 ·have hil:i < pts.length:=by have:=Oy h;simp at this;omega
  obtain ⟨z,hz⟩:∃z,pts[i]?=some z:=⟨_,Oz hil⟩
  have hzg:=c7 (c:=dH) hz
  clear h
  repeat' (first|refine O1 ?_|refine ak ?_|refine OE a7 KN ?_|(apply aV;first|refine aU a7 ?_|refine aN a7 ?_)|(apply aO;first|refine OG 4 a7 0 OD ?_|refine OG 4 a7 1 OD ?_|refine OG 4 a7 2 OD ?_|refine OF a7 0 OC ?_|refine OF a7 1 OC ?_|refine OF a7 2 OC ?_|refine OF a7 3 OC ?_|fail)|refine bi a7 fun _=>?_|(apply bg;refine b9 ?_)|fail)
  refine cH [1,19,20,21] (wH z=false) rfl (fun Q' K=>?_) (fun h2=>?_) (fun h2=>?_)
  ·clear hi hzg
   repeat' (first|refine O1 ?_|refine OE a7 KN ?_|refine ON KN ?_|refine OP OA ?_|(apply bg;refine b9 ?_)|refine OR NZ (fun _=>?_) (fun _=>?_))
   all_goals exact K _ _ rfl rfl (by clear K;unfold wH;simp_all)
  ·refine W01 ?_
   refine OK KN ?_
   unfold jM
   rw [show pts.all wH=false by
    rw [List.all_eq_false]
    exact ⟨z,Ow hz,by simp [h2]⟩]
   simp
  ·refine W02 ?_
   refine aD (i+1) rfl ⟨by rw [Ov];rfl,trivial⟩ ⟨by omega,?_⟩ (by omega) (fun _ _ h=>h)
   rw [List.take_add_one,hz,List.all_append,hi.2]
   simpa using h2
 have hil:i=pts.length:=by have:=Ox h;simp at this;omega
 subst hil
 rw [List.take_length] at hi
 have hall:=hi.2
 clear hi h
 have hval:jM pts ends=fX pts.length (-1) ends:=by
  unfold jM
  rw [decide_eq_true hC,hall]
  rfl
 rw [hval]
 refine W03 ?_
 refine aJ [1,37,38] (α:=Nat×Int) (fun x=>[(39,aG x.1),(5,aG x.2)]) (fun x=>x.1≤ends.length∧-1≤x.2∧x.2≤1000∧fX pts.length (-1) ends=fX pts.length x.2 (ends.drop x.1)) (fun _=>[]) (fun x=>ends.length - x.1) (0,-1) rfl ⟨rfl,rfl,trivial⟩ ⟨Nat.zero_le _,by decide,by decide,rfl⟩ (fun _ _ h=>h) ?_
 rintro ⟨i,last⟩ ⟨hi,hl0,hl1,he⟩
 dsimp only at hi hl0 hl1 he ⊢
 try dsimp only [Oq,Oo,Om,Oh]
 refine W01 ?_
 refine aw rfl (fun h=>?_) (fun h=>?_)
 ·have hil:i < ends.length:=by have:=Oy h;simp [aP] at this;omega
  obtain ⟨z,hz⟩:∃z,ends[i]?=some z:=⟨_,Oz hil⟩
  have hzg:=bD hz
  rw [vR hz] at he
  clear h
  refine W08 ?_
  refine cH [1,7,37,38,39] (z≥pts.length∨z < last+2) rfl (fun Q' K=>?_) (fun h2=>?_) (fun h2=>?_)
  ·clear hi hzg he hval
   repeat' (first|refine O1 ?_|refine OE a7 KN ?_|refine ON KN ?_|refine OP OA ?_|(apply aS;refine aR ?_)|refine OR NZ (fun _=>?_) (fun _=>?_))
   all_goals exact K _ _ rfl rfl (by clear K;simp_all <;> omega)
  ·rw [if_pos h2] at he
   refine W01 ?_
   refine OK KN ?_
   rw [he]
  ·rw [if_neg h2] at he
   refine W02 ?_
   exact aD (i+1,z) rfl ⟨by rw [Ov];rfl,rfl,trivial⟩ ⟨by dsimp only;omega,by dsimp only;omega,by dsimp only;omega,he⟩ (by dsimp only;omega) (fun _ _ h=>h)
 ·have hil:i=ends.length:=by have:=Ox h;simp [aP] at this;omega
  subst hil
  rw [List.drop_length] at he
  refine W02 ?_
  refine OK KN ?_
  rw [he]
  simp [fX]
def Mu (_:Nat) (p:eM):Int:=ez (!([p.X,p.Y].all gP)) 30
theorem yM (i:Nat) (p:eM):bH Tryz.prog 245 [aG i,.agg (dH p)] (aG (Mu i p)):=by
 refine aQ Tryz.func245 rfl Tryz.ntmps245 rfl fun B=>?_
 repeat' (first|refine O1 ?_|refine OE a7 KN ?_|refine br ?_|refine bO a7 ?_|(apply bg;refine b9 ?_)|fail)
 exact OL NZ
def kI (g:bn):Int:=if g.Advance < 0∨g.Advance > 16384 then 1 else if g.Points.length > 200∨g.Ends.length > 40 then 2 else if (dx g.Points Mu).1≠0 then (dx g.Points Mu).1 else ez (!(jM g.Points g.Ends)) 31
theorem CC (g:bn):bH Tryz.prog 175 [.agg (bG g)] (aG (kI g)):=by
 refine aQ Tryz.func175 rfl Tryz.ntmps175 rfl fun B=>?_
 unfold kI
 refine W0C ?_
 refine cH [1] (g.Advance < 0∨g.Advance > 16384) rfl (fun Q' K=>?_) (fun hC=>?_) (fun hC=>?_)
 ·repeat' (first|refine O1 ?_|refine OE a7 KN ?_|refine ON KN ?_|refine OP OA ?_|refine OR NZ (fun _=>?_) (fun _=>?_))
  all_goals exact K _ _ rfl rfl (by clear K;grind)
 ·rw [if_pos hC]
  refine W01 ?_
  exact OL NZ
 rw [if_neg hC]
 refine W01 ?_
 refine cH [1] (g.Points.length > 200∨g.Ends.length > 40) rfl (fun Q' K=>?_) (fun hC=>?_) (fun hC=>?_)
 ·repeat' (first|refine O1 ?_|refine OE a7 KN ?_|refine ON KN ?_|refine OP OA ?_|refine OR NZ (fun _=>?_) (fun _=>?_))
  all_goals exact K _ _ rfl rfl (by clear K;simp_all [aP] <;> omega)
 ·rw [if_pos hC]
  refine W01 ?_
  exact OL NZ
 rw [if_neg hC]
 refine W01 ?_
 refine bh [] [] (H6 (u:= .sc (.func (.func 245) #[] #[])) (g:=245) (caps:=[]) rfl g.Points _ (fun _ _=>True) [] trivial (dz (fun i x _=>yM i x))) rfl rfl (Ok _) rfl fun c L1 hc=>?_
 have hc:c=ct (dx g.Points Mu):=hc
 subst hc
 unfold ct
 refine W01 ?_
 refine aw rfl (fun h=>?_) (fun h=>?_)
 ·rw [if_pos (Oy h)]
  refine W01 ?_
  exact OL NZ
 ·rw [if_neg (Ox h)]
  refine W01 ?_
  refine b9 (hc:=⟨uM g.Points g.Ends⟩) ?_
  refine W0a ?_
  exact OL NZ
instance (g:bn):AD Tryz.prog 175 [.agg (bG g)] (aG (kI g)):=⟨CC g⟩
set_option maxRecDepth 8000
open Go.MapKept
def Hs (_:Nat) (i:eW):Int:=if i.Op < 1∨i.Op > 39 then 50 else if i.A < -999999999∨i.A > 999999999 then 3 else 0
theorem uR (n:Nat) (i:eW):bH Tryz.prog 213 [aG n,.agg (dX i)] (aG (Hs n i)):=by
 refine aQ Tryz.func213 rfl Tryz.ntmps213 rfl fun B=>?_
 unfold Hs
 refine W0C ?_
 refine cH [3] (i.Op < 1∨i.Op > 39) rfl (fun Q' K=>?_) (fun hC=>?_) (fun hC=>?_)
 ·repeat' (first|refine O1 ?_|refine OE a7 KN ?_|refine ON KN ?_|refine OP OA ?_|refine OR NZ (fun _=>?_) (fun _=>?_))
  all_goals exact K _ _ rfl rfl (by clear K;grind)
 ·rw [if_pos hC]
  refine W01 ?_
  exact OL NZ
 rw [if_neg hC]
 refine W01 ?_
 refine cH [] (i.A < -999999999∨i.A > 999999999) rfl (fun Q' K=>?_) (fun hC=>?_) (fun hC=>?_)
 ·repeat' (first|refine O1 ?_|refine OE a7 KN ?_|refine ON KN ?_|refine OP OA ?_|refine OR NZ (fun _=>?_) (fun _=>?_))
  all_goals exact K _ _ rfl rfl (by clear K;grind)
 ·rw [if_pos hC]
  refine W01 ?_
  exact OL NZ
 rw [if_neg hC]
 refine W01 ?_
 exact OL NZ
def rX (l:List eW):Int:=(cZ 200 l Hs).1
theorem wG (l:List eW):bH Tryz.prog 132 [.imm 2 (l.map dX)] (aG (rX l)):=by
 refine aQ Tryz.func132 rfl Tryz.ntmps132 rfl fun B=>?_
 refine W0a ?_
 refine dO (f:=273) (cs:=[]) [] [] (Ie (g:=213) (caps:=[]) rfl l 200 _ (fun _ _=>True) [] trivial (fun _=>dz fun i x _=>uR i x)) rfl rfl rfl (Ok _) rfl rfl fun c L1 hc=>?_
 have hc:c=ct (cZ 200 l Hs):=hc
 subst hc
 unfold ct
 refine W01 ?_
 exact OL NZ
instance (l:List eW):AD Tryz.prog 132 [.imm 2 (l.map dX)] (aG (rX l)):=⟨wG l⟩
def pO (f:aY) (_:Nat) (p:dW):Int:=if m7 f p.Glyph=false then 32 else ez (!([p.X,p.Y].all gP)) 30
theorem xY (f:aY) (n:Nat) (p:dW):bH Tryz.prog 177 [aG n,.agg (eG p),.iptr (cf f)] (aG (pO f n p)):=by
 refine aQ Tryz.func177 rfl Tryz.ntmps177 rfl fun B=>?_
 unfold pO
 refine W0T ?_
 refine aw rfl (fun h=>?_) (fun h=>?_)
 ·rw [if_pos (by simpa using h)]
  refine W01 ?_
  exact OL NZ
 ·rw [if_neg (by simpa using h)]
  refine W0G ?_
  exact OL NZ
def oo (g:bn) (i:Nat) (a:dN):Int:=if (a.Kind < 1∨a.Kind > 4)∨(a.Class < 0∨a.Class > 15)∨((a.Kind=3∨a.Kind=4)∧a.Class≠0)∨[a.X,a.Y].all gP=false∨(a.Kind=2∧g.Mark=false)∨(∃b∈g.Anchors.take i,b.Kind=a.Kind∧b.Class=a.Class) then 35 else 0
def vQ (f:aY) (g:bn) (i:Nat) (d:dT):Int:=if d.Region < 0∨d.Region≥f.Regions.length then 61 else if (d.Point < -1∨d.Point≥g.Points.length)∨[d.X,d.Y].all gP=false∨(d.Point= -1∧d.Y≠0) then 30 else if (match i with | 0=>false | j+1=>match g.Deltas[j]? with | some b=>decide (d.Region < b.Region∨(d.Region=b.Region∧d.Point≤b.Point)) | none=>false)=true then 24 else 0
theorem xi (b:Bool):AC Tryz.prog 180 [cU b] [] fun c L=>∃m,c= .fn 251 [.iptr [cU b],.iptr [.sc (.map (some m))]]∧L=[(m,il fun _ _=>none)]:=by
 refine aQ Tryz.func180 rfl Tryz.ntmps180 rfl fun B=>?_
 refine W07 ?_
 refine ym fun m=>?_
 repeat' (first|refine O1 ?_|refine OE a7 KN ?_|(apply aO;first|refine OG 3 a7 0 OD ?_|refine OG 3 a7 1 OD ?_|refine OG 3 a7 2 OD ?_|refine OF a7 0 OC ?_|refine OF a7 1 OC ?_|refine OF a7 2 OC ?_|refine OF a7 3 OC ?_|fail)|refine bi a7 fun _=>?_|fail)
 exact OK KN ⟨_,rfl,rfl⟩
theorem By (r p:Int):AC Tryz.prog 182 [aG r,aG p] [] fun c L=>∃b,c= .fn 254 [.iptr [aG r],.iptr [aG p],.sc (.pointer (some ⟨b,0,none⟩))]∧L=[(b,.box [aG 0,aG 0] 364)]:=by
 refine aQ Tryz.func182 rfl Tryz.ntmps182 rfl fun B=>?_
 refine W0O ?_
 intros
 exact OK KN ⟨_,rfl,rfl⟩
theorem xW (e:Int):bH Tryz.prog 173 [.iptr [aG e]] (ct (e,0)):=by
 refine aQ Tryz.func173 rfl Tryz.ntmps173 rfl fun B=>?_
 refine W01 ?_
 exact OS OA
theorem xX (g:bn):bH Tryz.prog 174 [.iptr (bG g)] (ct (kI g,0)):=by
 refine aQ Tryz.func174 rfl Tryz.ntmps174 rfl fun B=>?_
 refine W0a ?_
 exact OS OA
theorem xZ (g:bn):bH Tryz.prog 183 [.iptr (bG g)] (ct (rX g.Hint,0)):=by
 refine aQ Tryz.func183 rfl Tryz.ntmps183 rfl fun B=>?_
 refine W0a ?_
 exact OS OA
def iK (l:List (Int×Int)):Int×Int:=match l with
 | []=>(0,0)
 | x::r=>if x.1=0 then iK r else x
theorem kw:∀l:List Lk,tD l=iK (l.map fun x=>(x.e,x.n))
 | []=>rfl
 | x::r=>by simp only [tD,Om,iK];rw [kw r]
def ry (f:aY) (g:bn) (name:Int):Int:=(iK [(name,0),(kI g,0),cZ 8 g.Parts (pO f),cZ 16 g.Anchors (oo g),cZ 400 g.Deltas (vQ f g),(rX g.Hint,0)]).1
end Go.Proofs.YtamjlkdanllgjaaGreatDoor
