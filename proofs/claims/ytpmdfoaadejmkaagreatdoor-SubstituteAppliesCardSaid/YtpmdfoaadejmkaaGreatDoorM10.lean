/-
  The program: what the first look tells that finds something wrong.
-/
import Derived.Test.YtpmdfoaadejmkaaGreatDoorM09
import Derived.Test.YtpmdfoaadejmkaaGreatDoorM08
import Derived.Test.YtpmdfoaadejmkaaGreatDoorM05
import Derived.Test.YtpmdfoaadejmkaaGreatDoorM07
namespace Go.Proofs.YtpmdfoaadejmkaaGreatDoor
open Go.RowKit
attribute [local irreducible] AT bI AX AO Av Kt bi dx DA cK
structure Lk where
 f:FuncId
 caps:List AV
 L:AL
 e:Int
 n:Int
def Lk.ok (x:Lk):Prop:=bL Tryz.prog x.f∧AC Tryz.prog x.f x.caps x.L fun c _=>c=cu (x.e,x.n)
def sw:List Lk→Int×Int
 | []=>(0,0)
 | x::r=>if x.e=0 then sw r else (x.e,x.n)
def GH (l:List Lk):AL:=(l.map Lk.L).flatten
def wO:List Lk→Prop
 | []=>True
 | x::r=>x.ok∧(x.e=0→wO r)
def Iw (x:Lk):List AV:=[.fn x.f x.caps]
theorem Cd {l:List Lk} {i:Nat} {x:Lk} (h:l[i]?=some x):sw (l.drop i)=if x.e=0 then sw (l.drop (i+1)) else (x.e,x.n):=by
 obtain ⟨hi,hx⟩:=Jp h
 rw [List.drop_eq_getElem_cons hi,hx]
 rfl
theorem zy {l:List Lk} {i:Nat} {x:Lk} (h:l[i]?=some x) (hk:wO (l.drop i)):x.ok∧(x.e=0→wO (l.drop (i+1))):=by
 obtain ⟨hi,hx⟩:=Jp h
 rw [List.drop_eq_getElem_cons hi,hx] at hk
 exact hk
theorem v4:∀{l:List Lk},(sw l).1=0→sw l=(0,0)
 | [],_=>rfl
 | x::r,h=>by
  unfold sw at h ⊢
  split
  ·rename_i h0
   rw [if_pos h0] at h
   exact v4 h
  ·rename_i h0
   rw [if_neg h0] at h
   exact absurd h h0
theorem Ce {l:List Lk} {i:Nat} {x:Lk} (h:l[i]?=some x):GH (l.drop i)=x.L++GH (l.drop (i+1)):=by
 obtain ⟨hi,hx⟩:=Jp h
 unfold GH
 rw [List.drop_eq_getElem_cons hi,hx]
 rfl
theorem zf {σ0:cr} {l:Nat} (ls:List Lk) (hok:wO ls) (E:AL) (E':Int→Int→AL) (hy:∀e n,e≠0→AY Tryz.prog σ0 l [aF e,aF n] E fun c L=>c=dV false∧L=E' e n):
  FQ Tryz.prog σ0 197 [.sc (.func (.yield l) #[] #[]),.iptr [.imm 1 (ls.map Iw)]] (GH ls++E) fun _ L=>L=if (sw ls).1=0 then E else E' (sw ls).1 (sw ls).2:=by
 refine B2 Tryz.func197 rfl Tryz.ntmps197 rfl fun B hB=>?_
 repeat' (first|refine Ji ?_|refine am ?_|refine JF a5 H6 ?_)
 refine cI 7 rfl rfl fun hlen=>?_
 rw [Ju] at hlen
 refine aP [0,7,8] (α:=Nat) (fun i=>[(9,aF i)]) (fun i=>i≤ls.length∧sw ls=sw (ls.drop i)∧wO (ls.drop i)) (fun i=>GH (ls.drop i)++E) (fun i=>ls.length - i) 0 rfl ⟨rfl,trivial⟩ ⟨Nat.zero_le _,rfl,hok⟩ (fun _ _ h=>h) fun i ⟨hi,he,hok⟩=>?_
 try dsimp only [Js,Jr,Jq,Jl]
 repeat' (first|refine Ji ?_|refine JF a5 H6 ?_)
 refine ar rfl (fun h=>?_) (fun h=>?_)
 ·have hil:i < ls.length:=by have:=Jy h;simp at this;omega
  obtain ⟨x,hx⟩:∃z,ls[i]?=some z:=⟨_,Jz hil⟩
  have hzg:=bG (c:=Iw) hx
  obtain ⟨⟨hcf,hac⟩,hok⟩:=zy hx hok
  rw [Cd hx] at he
  rw [Ce hx]
  repeat' (first|refine Ji ?_|refine am ?_|refine JF a5 H6 ?_|(apply aO;first|refine aN a5 ?_|refine aG a5 ?_)|fail)
  refine dw (cs:=[]) x.L (GH (ls.drop (i+1))++E) (by simpa using hac) rfl rfl rfl (by rw [List.append_assoc]) rfl rfl fun c L1 hc=>?_
  subst hc
  refine aI (bH (List.sublist_append_right ..)) ?_
  unfold cu
  repeat' (first|refine Ji ?_|refine JF a5 H6 ?_)
  by_cases h0:x.e=0
  ·rw [if_pos h0] at he
   rw [h0]
   repeat' (first|refine Ji ?_|refine JF a5 H6 ?_|refine JO JB ?_|(apply aS;refine aR ?_)|refine bA rfl ?_)
   exact aC (i+1) rfl ⟨by rw [Jv];rfl,trivial⟩ ⟨by omega,he,hok h0⟩ (by omega) (fun _ _ h=>h)
  ·rw [if_neg h0] at he
   rw [show decide (x.e≠0)=true from decide_eq_true h0]
   repeat' (first|refine JF a5 H6 ?_|refine JN H6 ?_)
   refine aI (bH (List.sublist_append_right ..)) ?_
   refine yb E [] hB (hy x.e x.n h0) rfl rfl rfl (ci rfl) rfl rfl fun c L1 ⟨hc,hL⟩=>?_
   subst hc;subst hL
   rw [List.append_nil]
   repeat' (first|refine Ji ?_|refine JF a5 H6 ?_|refine JN H6 ?_|refine bC rfl ?_)
   refine pw rfl ?_
   rw [he,if_neg h0]
 ·have hil:i=ls.length:=by have:=Jx h;simp at this;omega
  subst hil
  rw [List.drop_length] at he ⊢
  repeat' (first|refine Ji ?_|fail)
  refine cG rfl ?_
  rw [he]
  rfl
theorem wr (l:List (List AV)):bJ Tryz.prog 111 [.imm 1 l] (.fn 197 [.iptr [.imm 1 l]]):=by
 refine aM Tryz.func111 rfl Tryz.ntmps111 rfl fun B=>?_
 repeat' (first|refine Ji ?_|refine JF a5 H6 ?_|refine bf ?_|fail)
 exact JM JA
instance (l:List (List AV)):AD Tryz.prog 111 [.imm 1 l] (.fn 197 [.iptr [.imm 1 l]]):=⟨wr l⟩
theorem CP {p q:Nat×AB} {l l2:AL}:(p::q::(l++l2)).Perm (l++(p::q::l2)):=by
 have:=(List.perm_append_comm (l₁:=[p,q]) (l₂:=l)).append_right l2
 simpa using this
set_option maxHeartbeats 1000000 in
theorem ju (ls:List Lk) (hok:wO ls):AC Tryz.prog 47 [.imm 1 (ls.map Iw)] (GH ls) fun c _=>c=cu (sw ls):=by
 refine B0 Tryz.func47 rfl Tryz.ntmps47 rfl fun B=>?_
 repeat' (first|refine Ji ?_|refine am ?_|refine JF a5 H6 ?_|refine bj a5 fun _=>?_|(apply bz;refine bo ?_)|fail)
 rename_i b2 b3
 refine uo (ps:=[8,9]) rfl fun σ0 l db rec hrec=>?_
 have hy:∀e n:Int,e≠0→AY Tryz.prog σ0 l [aF e,aF n] ([(b3,.box [aF 0] 3),(b2,.box [aF 0] 35),(db,u3)]++[(l,nL rec)]) fun c L=>c=dV false∧L=[(b3,.box [aF n] 3),(b2,.box [aF e] 35),(db,u3)]++[(l,nL { ({ rec with state:= .busy }:Loop) with state:= .done,pending:=some .ret })]:=by
  intro e n he
  refine Fx hrec rfl rfl fun B1 hB1=>?_
  repeat' (first|refine Ji ?_|refine JF a5 H6 ?_)
  refine ut hrec.state ?_
  repeat' (first|refine Ji ?_|refine am ?_|refine JF a5 H6 ?_|(apply aK;first|refine JG a5 0 JD ?_|refine JG a5 1 JD ?_|refine JG a5 2 JD ?_|refine JG a5 3 JD ?_|fail))
  refine w8 (L:=[(b3,.box [aF n] 3),(b2,.box [aF e] 35),(db,u3)]) ?_
  exact ⟨rfl,rfl⟩
 refine ⟨_,(zf ls hok _ _ hy).perm ?_,fun c L' hL'=>?_⟩
 ·simp only [List.append_assoc,Js,Jr]
  exact CP
 ·by_cases h0:(sw ls).1=0
  ·rw [if_pos h0] at hL'
   subst hL'
   refine ⟨rec,_,Jo _,(by rw [hrec.state];intro h;cases h),?_⟩
   rw [hrec.pending]
   show AX _ _ _ _ _ _ _ _
   repeat' (first|refine Ji ?_|(apply aK;first|refine JG a5 0 JD ?_|refine JG a5 1 JD ?_|refine JG a5 2 JD ?_|refine JG a5 3 JD ?_|fail))
   refine px (cs:=[aF 0,aF 0]) [db] [(b3,.box [aF 0] 3),(b2,.box [aF 0] 35)] rfl (Jo _) ?_ ?_
   ·exact ⟨⟨b2,1,_,_,rfl,rfl,.inl ⟨cZ a5 rfl,rfl⟩⟩,⟨b3,0,_,_,rfl,rfl,.inl ⟨cZ a5 rfl,rfl⟩⟩,trivial⟩
   ·have:sw ls=(0,0):=v4 h0
    rw [this]
    rfl
  ·rw [if_neg h0] at hL'
   subst hL'
   refine ⟨_,_,Jo _,(by intro h;cases h),?_⟩
   show AX _ _ _ _ _ _ _ _
   repeat' (first|refine Ji ?_|fail)
   refine px (cs:=[aF (sw ls).1,aF (sw ls).2]) [db] [(b3,.box [aF (sw ls).2] 3),(b2,.box [aF (sw ls).1] 35)] rfl (Jo _) ?_ rfl
   exact ⟨⟨b2,1,_,_,rfl,rfl,.inl ⟨cZ a5 rfl,rfl⟩⟩,⟨b3,0,_,_,rfl,rfl,.inl ⟨cZ a5 rfl,rfl⟩⟩,trivial⟩
def Jc (l:List Int) (n:Nat):List Int:=((List.range n).map Int.ofNat).filter (l.contains ·)
theorem uT (a b:List Int):aX a++aX b=aX (a++b):=by simp [aX]
def dY (b:Bool) (e:Int):Int:=bif b then e else 0
theorem Dp (b:Bool) (e:Int):bJ Tryz.prog 78 [dV b,aF e] (aF (dY b e)):=by
 refine aM Tryz.func78 rfl Tryz.ntmps78 rfl fun B=>?_
 repeat' (first|refine Ji ?_|refine JF a5 H6 ?_)
 refine ar rfl (fun h=>?_) (fun h=>?_)
 ·subst h
  repeat' (first|refine Ji ?_|refine JF a5 H6 ?_)
  exact JM JA
 ·subst h
  repeat' (first|refine Ji ?_|refine JF a5 H6 ?_)
  exact JM JA
instance (b:Bool) (e:Int):AD Tryz.prog 78 [dV b,aF e] (aF (dY b e)):=⟨Dp b e⟩
def gn (z:Int):Bool:=decide (-16384≤z∧z≤16384)
theorem tw (l:List Int):bJ Tryz.prog 79 [.imm 1 (aX l)] (dV (l.all gn)):=by
 refine aM Tryz.func79 rfl Tryz.ntmps79 rfl fun B=>?_
 refine cI 0 rfl rfl fun hlen=>?_
 rw [aZ] at hlen
 repeat' (first|refine Ji ?_|refine am ?_|refine JF a5 H6 ?_)
 refine aP [5,6] (α:=Nat) (fun i=>[(7,aF i)]) (fun i=>i≤l.length∧(l.take i).all gn=true) (fun _=>[]) (fun i=>l.length - i) 0 rfl ⟨rfl,trivial⟩ ⟨Nat.zero_le _,by simp⟩ (fun _ _ h=>h) fun i hi=>?_
 try dsimp only [Js,Jr,Jq,Jl]
 repeat' (first|refine Ji ?_|refine JF a5 H6 ?_)
 refine ar rfl (fun h=>?_) (fun h=>?_)
 ·have hil:i < l.length:=by have:=Jy h;rw [aZ] at this;omega
  obtain ⟨z,hz⟩:∃z,l[i]?=some z:=⟨_,Jz hil⟩
  have hzg:=bP hz
  repeat' (first|refine Ji ?_|refine am ?_|refine JF a5 H6 ?_|(apply aO;first|refine aN a5 ?_|refine aG a5 ?_)|fail)
  refine bX [5,6,7] (gn z=false) rfl (fun Q' K=>?_) (fun hC=>?_) (fun hC=>?_)
  ·repeat' (first|refine Ji ?_|refine JF a5 H6 ?_|refine JN H6 ?_|refine JO JB ?_|refine JR JA (fun _=>?_) (fun _=>?_))
   all_goals exact K _ _ rfl rfl (by unfold gn;simp_all <;> omega)
  ·repeat' (first|refine Ji ?_|refine JF a5 H6 ?_)
   refine JL H6 ?_
   rw [show l.all gn=false by
    rw [List.all_eq_false]
    exact ⟨z,Jw hz,by simp [hC]⟩]
  ·repeat' (first|refine Ji ?_|refine JF a5 H6 ?_|(apply aS;refine aR ?_)|fail)
   refine aC (i+1) rfl ⟨by rw [Jv];rfl,trivial⟩ ⟨by omega,?_⟩ (by omega) (fun _ _ h=>h)
   rw [List.take_add_one,hz,List.all_append,hi.2]
   simpa using hC
 ·have hil:i=l.length:=by have:=Jx h;rw [aZ] at this;omega
  subst hil
  rw [List.take_length] at hi
  repeat' (first|refine Ji ?_|refine JF a5 H6 ?_)
  refine JL H6 ?_
  rw [hi.2]
instance (x:Int):AD Tryz.prog 79 [.imm 1 [[aF x]]] (dV ([x].all gn)):=⟨tw [x]⟩
instance (x y:Int):AD Tryz.prog 79 [.imm 1 [[aF x],[aF y]]] (dV ([x,y].all gn)):=⟨tw [x,y]⟩
instance (x y z:Int):AD Tryz.prog 79 [.imm 1 [[aF x],[aF y],[aF z]]] (dV ([x,y,z].all gn)):=⟨tw [x,y,z]⟩
def lb (f:b6) (n:Int):Bool:=decide (0≤n∧n < f.Glyphs.length)
theorem uU (f:b6) (n:Int):bJ Tryz.prog 119 [bZ f,aF n] (dV (lb f n)):=by
 refine aM Tryz.func119 rfl Tryz.ntmps119 rfl fun B=>?_
 repeat' (first|refine Ji ?_|refine JF a5 H6 ?_|refine bf ?_|fail)
 refine dq (t:=4) [] (lb f n=true) rfl (fun Q' K=>?_) ?_
 ·repeat' (first|refine Ji ?_|refine JF a5 H6 ?_|refine JN H6 ?_|refine JO JB ?_|refine JR JA (fun _=>?_) (fun _=>?_))
  all_goals exact K _ _ rfl rfl (by unfold lb;simp_all <;> omega)
 repeat' (first|refine Ji ?_|fail)
 refine JL H6 ?_
 simp
instance (f:b6) (n:Int):AD Tryz.prog 119 [bZ f,aF n] (dV (lb f n)):=⟨uU f n⟩
def kV (right taken:Bool):Int:=bif right then (bif taken then 24 else 0) else 23
theorem rH (a b:Bool):bJ Tryz.prog 53 [dV a,dV b] (aF (kV a b)):=by
 refine aM Tryz.func53 rfl Tryz.ntmps53 rfl fun B=>?_
 repeat' (first|refine Ji ?_|refine am ?_|refine JF a5 H6 ?_)
 refine ar rfl (fun h=>?_) (fun h=>?_)
 ·repeat' (first|refine Ji ?_|refine JF a5 H6 ?_)
  refine JL H6 ?_
  cases a with
  | true=>cases h
  | false=>rfl
 ·repeat' (first|refine Ji ?_|refine JF a5 H6 ?_)
  have ha:a=true:=by cases a with
   | true=>rfl
   | false=>cases h
  subst ha
  refine ar rfl (fun h=>?_) (fun h=>?_)
  ·subst h
   repeat' (first|refine Ji ?_|refine JF a5 H6 ?_)
   exact JM JA
  ·subst h
   repeat' (first|refine Ji ?_|refine JF a5 H6 ?_)
   exact JM JA
instance (a b:Bool):AD Tryz.prog 53 [dV a,dV b] (aF (kV a b)):=⟨rH a b⟩
def oR (c:Int):Bool:=decide ((65≤c∧c≤90)∨(97≤c∧c≤122))
abbrev U8 (c:Int):AV:= .sc (.int .u8 c)
theorem tk (c:Int):bJ Tryz.prog 125 [U8 c] (dV (oR c)):=by
 refine aM Tryz.func125 rfl Tryz.ntmps125 rfl fun B=>?_
 repeat' (first|refine Ji ?_|refine JF a5 H6 ?_)
 refine dq (t:=2) [] (oR c=true) rfl (fun Q' K=>?_) ?_
 ·repeat' (first|refine Ji ?_|refine JF a5 H6 ?_|refine JN H6 ?_|refine JO JB ?_|refine dz rfl rfl rfl ?_|refine JR JA (fun _=>?_) (fun _=>?_))
  all_goals exact K _ _ rfl rfl (by unfold oR;simp_all <;> omega)
 repeat' (first|refine Ji ?_|fail)
 refine JL H6 ?_
 simp
instance (c:Int):AD Tryz.prog 125 [U8 c] (dV (oR c)):=⟨tk c⟩
section
variable {P:Program} {tt:TT} {r:Option Nat} {ops:Array Oper} {Q:Exit→Act→World→Prop} {nt:Nat} {D:List Deferred} {fr:c7} {B:Bs} {L:AL} {rest:List Oper} {d:Nat} {ty t:TypeId} {pos:String} {af:Array Edge} {x y z:Operand}
theorem ya (ok:er P tt) {s:ByteArray} {k:IntKind} {i:Int} {c:UInt8} {ti:TI} (ht:df tt t=some ti) (hk:ti.k= .str) (hx:bn fr x=some (.sc (.string s))) (hy:bn fr y=some (.sc (.int k i))) (h0:0≤i) (hu:s[i.toNat]?=some c) (hd:Nat.ble nt d=false) (h:bI P r ops Q nt D rest ((d,U8 c.toNat)::fr) B L):bI P r ops Q nt D (⟨some d,.index t x y,ty,pos,af,none⟩::rest) fr B L:=ce (vS (ok.str ht hk) hx hy h0 hu) hd rfl h
end
def nX (s:ByteArray) (i:Nat):Int:=match s[i]? with | some c=>c.toNat | none=>0
theorem pV {s:ByteArray} {i:Nat} {c:UInt8} (h:s[i]?=some c):nX s i=c.toNat:=by unfold nX;rw [h]
def ud (n:Nat) (p:Nat→Bool):Bool:=(List.range n).all p
theorem nQ {n:Nat} {p:Nat→Bool}:ud n p=true↔∀i,i < n→p i=true:=by simp [ud]
theorem oG {n:Nat} {p:Nat→Bool} {i:Nat} (hi:i < n) (h:p i=false):ud n p=false:=by
 rw [Bool.eq_false_iff]
 intro hh
 rw [nQ.1 hh i hi] at h
 cases h
theorem yn {s:ByteArray} {i:Nat} (h:i < s.size):∃c,s[i]?=some c:=⟨s[i],by simp [h]⟩
def fc (s:ByteArray):Bool:=decide (1≤s.size∧s.size≤8) && ud s.size fun i=>oR (nX s i)
theorem rG (s:ByteArray):bJ Tryz.prog 66 [vP s] (dV (fc s)):=by
 refine aM Tryz.func66 rfl Tryz.ntmps66 rfl fun B=>?_
 repeat' (first|refine Ji ?_|refine JF a5 H6 ?_)
 refine bX [0] (¬(1≤s.size∧s.size≤8)) rfl (fun Q' K=>?_) (fun hC=>?_) (fun hC=>?_)
 ·repeat' (first|refine Ji ?_|refine JF a5 H6 ?_|refine JN H6 ?_|refine JO JB ?_|refine JR JA (fun _=>?_) (fun _=>?_))
  all_goals exact K _ _ rfl rfl (by simp_all <;> omega)
 ·repeat' (first|refine Ji ?_|refine JF a5 H6 ?_)
  refine JL H6 ?_
  unfold fc
  rw [decide_eq_false hC]
  rfl
 have hC:=Decidable.not_not.1 hC
 repeat' (first|refine Ji ?_|refine am ?_|refine JF a5 H6 ?_)
 refine aP [0,13] (α:=Nat) (fun i=>[(14,aF i)]) (fun i=>i≤s.size∧∀j,j < i→oR (nX s j)=true) (fun _=>[]) (fun i=>s.size - i) 0 rfl ⟨rfl,trivial⟩ ⟨Nat.zero_le _,fun j hj=>absurd hj (Nat.not_lt_zero _)⟩ (fun _ _ h=>h) fun i hi=>?_
 try dsimp only [Js,Jr,Jq,Jl]
 repeat' (first|refine Ji ?_|refine JF a5 H6 ?_)
 refine ar rfl (fun h=>?_) (fun h=>?_)
 ·have hil:i < s.size:=by have:=Jy h;omega
  obtain ⟨c,hc⟩:=yn hil
  have hb:=pV hc
  repeat' (first|refine Ji ?_|refine am ?_|refine JF a5 H6 ?_)
  refine ya a5 rfl rfl rfl rfl (by omega) (by rw [Int.toNat_natCast];exact hc) rfl ?_
  repeat' (first|refine Ji ?_|refine JF a5 H6 ?_|(apply bz;refine bo ?_)|fail)
  refine ar rfl (fun h2=>?_) (fun h2=>?_)
  ·repeat' (first|refine Ji ?_|refine JF a5 H6 ?_)
   refine JL H6 ?_
   unfold fc
   rw [oG hil (by rw [hb];simpa using h2),Bool.and_false]
  ·repeat' (first|refine Ji ?_|refine JF a5 H6 ?_|(apply aS;refine aR ?_)|fail)
   refine aC (i+1) rfl ⟨by rw [Jv];rfl,trivial⟩ ⟨by omega,fun j hj=>?_⟩ (by omega) (fun _ _ h=>h)
   by_cases e:j=i
   ·subst e;rw [hb];simpa using h2
   ·exact hi.2 j (by omega)
 ·have hil:i=s.size:=by have:=Jx h;omega
  subst hil
  repeat' (first|refine Ji ?_|refine JF a5 H6 ?_)
  refine JL H6 ?_
  unfold fc
  rw [decide_eq_true hC,nQ.2 hi.2]
  rfl
instance (s:ByteArray):AD Tryz.prog 66 [vP s] (dV (fc s)):=⟨rG s⟩
def tH (i:Nat) (c:Int):Bool:=decide ((oR c=true∨c=95∨c=46)∨(0 < i∧((48≤c∧c≤57)∨c=45)))
def gm (s:ByteArray):Bool:=decide (1≤s.size∧s.size≤16) && ud s.size fun i=>tH i (nX s i)
set_option maxHeartbeats 1000000 in
theorem wI (s:ByteArray):bJ Tryz.prog 54 [vP s] (dV (gm s)):=by
 refine aM Tryz.func54 rfl Tryz.ntmps54 rfl fun B=>?_
 repeat' (first|refine Ji ?_|refine JF a5 H6 ?_)
 refine bX [0] (¬(1≤s.size∧s.size≤16)) rfl (fun Q' K=>?_) (fun hC=>?_) (fun hC=>?_)
 ·repeat' (first|refine Ji ?_|refine JF a5 H6 ?_|refine JN H6 ?_|refine JO JB ?_|refine JR JA (fun _=>?_) (fun _=>?_))
  all_goals exact K _ _ rfl rfl (by simp_all <;> omega)
 ·repeat' (first|refine Ji ?_|refine JF a5 H6 ?_)
  refine JL H6 ?_
  unfold gm
  rw [decide_eq_false hC]
  rfl
 have hC:=Decidable.not_not.1 hC
 repeat' (first|refine Ji ?_|refine am ?_|refine JF a5 H6 ?_)
 refine aP [0,16] (α:=Nat) (fun i=>[(17,aF i)]) (fun i=>i≤s.size∧∀j,j < i→tH j (nX s j)=true) (fun _=>[]) (fun i=>s.size - i) 0 rfl ⟨rfl,trivial⟩ ⟨Nat.zero_le _,fun j hj=>absurd hj (Nat.not_lt_zero _)⟩ (fun _ _ h=>h) fun i hi=>?_
 try dsimp only [Js,Jr,Jq,Jl]
 repeat' (first|refine Ji ?_|refine JF a5 H6 ?_)
 refine ar rfl (fun h=>?_) (fun h=>?_)
 ·have hil:i < s.size:=by have:=Jy h;omega
  obtain ⟨c,hc⟩:=yn hil
  have hb:=pV hc
  repeat' (first|refine Ji ?_|refine am ?_|refine JF a5 H6 ?_)
  refine ya a5 rfl rfl rfl rfl (by omega) (by rw [Int.toNat_natCast];exact hc) rfl ?_
  generalize (c.toNat:Int)=z at *
  repeat' (first|refine Ji ?_|refine JF a5 H6 ?_|(apply bz;refine bo ?_)|fail)
  refine dq (t:=5) [0,3,4,16,17] (oR z=true∨z=95∨z=46) rfl (fun Q' K=>?_) ?_
  ·clear hi hb hc h
   repeat' (first|refine Ji ?_|refine JF a5 H6 ?_|refine JN H6 ?_|refine JO JB ?_|refine JR JA (fun _=>?_) (fun _=>?_))
   all_goals exact K _ _ rfl rfl (by simp_all)
  repeat' (first|refine Ji ?_|refine JF a5 H6 ?_)
  refine dq (t:=6) [0,5,16,17] (0 < i∧((48≤z∧z≤57)∨z=45)) rfl (fun Q' K=>?_) ?_
  ·clear hi hb hc h
   repeat' (first|refine Ji ?_|refine JF a5 H6 ?_|refine JN H6 ?_|refine JO JB ?_|refine dz rfl rfl rfl ?_|refine JR JA (fun _=>?_) (fun _=>?_))
   all_goals exact K _ _ rfl rfl (by simp_all <;> omega)
  repeat' (first|refine Ji ?_|refine JF a5 H6 ?_)
  refine bX [0,16,17] (tH i z=false) rfl (fun Q' K=>?_) (fun h2=>?_) (fun h2=>?_)
  ·clear hi hb hc h
   repeat' (first|refine Ji ?_|refine JF a5 H6 ?_|refine JN H6 ?_|refine JO JB ?_|refine JR JA (fun _=>?_) (fun _=>?_))
   all_goals exact K _ _ rfl rfl (by clear K;unfold tH;grind)
  ·repeat' (first|refine Ji ?_|refine JF a5 H6 ?_)
   refine JL H6 ?_
   unfold gm
   rw [oG hil (by rw [hb];exact h2),Bool.and_false]
  ·repeat' (first|refine Ji ?_|refine JF a5 H6 ?_|(apply aS;refine aR ?_)|fail)
   refine aC (i+1) rfl ⟨by rw [Jv];rfl,trivial⟩ ⟨by omega,fun j hj=>?_⟩ (by omega) (fun _ _ h=>h)
   by_cases e:j=i
   ·subst e;rw [hb];simpa using h2
   ·exact hi.2 j (by omega)
 ·have hil:i=s.size:=by have:=Jx h;omega
  subst hil
  repeat' (first|refine Ji ?_|refine JF a5 H6 ?_)
  refine JL H6 ?_
  unfold gm
  rw [decide_eq_true hC,nQ.2 hi.2]
  rfl
instance (s:ByteArray):AD Tryz.prog 54 [vP s] (dV (gm s)):=⟨wI s⟩
end Go.Proofs.YtpmdfoaadejmkaaGreatDoor
namespace Go.Proofs.YtpmdfoaadejmkaaGreatDoor
open Go.RowKit
attribute [local irreducible] AT bI AX AO Av Kt bi dx DA cK
def fT {α:Type} (l:List α) (w:Nat→α→Int) (i:Nat):Int:=match l[i]? with | some x=>w i x | none=>0
def d4 {α:Type} (l:List α) (w:Nat→α→Int):Int×Int:=dc (fT l w) l.length
def ct {α:Type} (most:Int) (l:List α) (w:Nat→α→Int):Int×Int:=d5 most (fT l w) l.length
theorem iv {α:Type} {l:List α} {w:Nat→α→Int} {i:Nat} {x:α} (h:l[i]?=some x):fT l w i=w i x:=by unfold fT;rw [h]
theorem s7 {α:Type} {l:List α} {w:Nat→α→Int} (h:∀i x,l[i]?=some x→w i x=0) (i:Nat):fT l w i=0:=by
 unfold fT
 split
 ·exact h _ _ (by assumption)
 ·rfl
theorem fq {α:Type} {l:List α} {w:Nat→α→Int} (h:∀i x,l[i]?=some x→w i x=0):d4 l w=(0,0):=s5 fun i _=>s7 h i
theorem dN {α:Type} {most:Int} {l:List α} {w:Nat→α→Int} (hm:(l.length:Int)≤most) (h:∀i x,l[i]?=some x→w i x=0):ct most l w=(0,0):=Ad hm fun i _=>s7 h i
theorem da {α:Type} {P:Program} {g:FuncId} {caps:List AV} {l:List α} {el:α→AV} {w:Nat→α→Int} (h:∀(i:Nat) x,l[i]?=some x→bJ P g ([aF i,el x]++caps) (aF (w i x))):∀(i:Nat) x (L:AL),l[i]?=some x→True→AC P g ([aF i,el x]++caps) L fun c _=>c=aF (fT l w i)∧(fT l w i=0→True):=by
 intro i x L hx _
 rw [iv hx]
 exact ((h i x hx).any L).mono fun c L' ⟨h1,_⟩=>⟨h1,fun _=>trivial⟩
theorem rx {α:Type} {P:Program} {g:FuncId} {caps:List AV} {l:List α} {el:α→AV} {w:Nat→α→Int} {L0:AL} (h:∀(i:Nat) x,l[i]?=some x→AC P g ([aF i,el x]++caps) L0 fun c L'=>c=aF (w i x)∧L'=L0):∀(i:Nat) x (L:AL),l[i]?=some x→L=L0→AC P g ([aF i,el x]++caps) L fun c L'=>c=aF (fT l w i)∧(fT l w i=0→L'=L0):=by
 intro i x L hx hL
 subst hL
 rw [iv hx]
 exact (h i x hx).mono fun c L' ⟨h1,h2⟩=>⟨h1,fun _=>h2⟩
theorem xp (n:Int):bJ Tryz.prog 263 [aF n] (dV (gn n)):=by
 refine aM Tryz.func263 rfl Tryz.ntmps263 rfl fun B=>?_
 repeat' (first|refine Ji ?_|refine JF a5 H6 ?_)
 refine dq (t:=2) [] (gn n=true) rfl (fun Q' K=>?_) ?_
 ·repeat' (first|refine Ji ?_|refine JF a5 H6 ?_|refine JN H6 ?_|refine JO JB ?_|refine JR JA (fun _=>?_) (fun _=>?_))
  all_goals exact K _ _ rfl rfl (by clear K;unfold gn;grind)
 repeat' (first|refine Ji ?_|fail)
 refine JL H6 ?_
 simp
instance (n:Int):AD Tryz.prog 263 [aF n] (dV (gn n)):=⟨xp n⟩
def fK (n:Int):Int→List Int→Bool
 | last,[]=>decide (last=n - 1)
 | last,e::r=>if e≥n∨e < last+2 then false else fK n e r
def p9 (p:eE):Bool:=gn p.X && gn p.Y
def gW (pts:List eE) (ends:List Int):Bool:=decide (pts.length≤200∧ends.length≤40) && (pts.all p9 && fK pts.length (-1) ends)
theorem uH {n last:Int} {l:List Int} {i:Nat} {e:Int} (h:l[i]?=some e):fK n last (l.drop i)=if e≥n∨e < last+2 then false else fK n e (l.drop (i+1)):=by
 obtain ⟨hi,hx⟩:=Jp h
 rw [List.drop_eq_getElem_cons hi,hx]
 rfl
set_option maxHeartbeats 1000000 in
theorem tL (pts:List eE) (ends:List Int):bJ Tryz.prog 200 [.agg [.imm 3 (pts.map dA),.imm 1 (aX ends)]] (dV (gW pts ends)):=by
 refine aM Tryz.func200 rfl Tryz.ntmps200 rfl fun B=>?_
 repeat' (first|refine Ji ?_|refine JF a5 H6 ?_|refine bf ?_|fail)
 refine bX [1] (¬(pts.length≤200∧ends.length≤40)) rfl (fun Q' K=>?_) (fun hC=>?_) (fun hC=>?_)
 ·repeat' (first|refine Ji ?_|refine JF a5 H6 ?_|refine JN H6 ?_|refine JO JB ?_|refine JR JA (fun _=>?_) (fun _=>?_))
  all_goals exact K _ _ rfl rfl (by clear K;simp_all [aZ] <;> omega)
 ·repeat' (first|refine Ji ?_|refine JF a5 H6 ?_)
  refine JL H6 ?_
  unfold gW
  rw [decide_eq_false hC]
  rfl
 have hC:=Decidable.not_not.1 hC
 have hlm:(pts.map dA).length=pts.length:=Ju ..
 repeat' (first|refine Ji ?_|refine am ?_|refine JF a5 H6 ?_)
 refine aP [1,19,20] (α:=Nat) (fun i=>[(21,aF i)]) (fun i=>i≤pts.length∧(pts.take i).all p9=true) (fun _=>[]) (fun i=>pts.length - i) 0 rfl ⟨rfl,trivial⟩ ⟨Nat.zero_le _,by simp⟩ (fun _ _ h=>h) fun i hi=>?_
 try dsimp only [Js,Jr,Jq,Jl]
 repeat' (first|refine Ji ?_|refine JF a5 H6 ?_)
 refine ar rfl (fun h=>?_) (fun h=>?_)
 ·have hil:i < pts.length:=by have:=Jy h;simp at this;omega
  obtain ⟨z,hz⟩:∃z,pts[i]?=some z:=⟨_,Jz hil⟩
  have hzg:=bG (c:=dA) hz
  clear h
  repeat' (first|refine Ji ?_|refine am ?_|refine JF a5 H6 ?_|(apply aO;first|refine aN a5 ?_|refine aG a5 ?_)|(apply aK;first|refine JH 4 a5 0 JE ?_|refine JH 4 a5 1 JE ?_|refine JH 4 a5 2 JE ?_|refine JG a5 0 JD ?_|refine JG a5 1 JD ?_|refine JG a5 2 JD ?_|refine JG a5 3 JD ?_|fail)|refine bj a5 fun _=>?_|(apply bz;refine bo ?_)|fail)
  refine bX [1,19,20,21] (p9 z=false) rfl (fun Q' K=>?_) (fun h2=>?_) (fun h2=>?_)
  ·clear hi hzg
   repeat' (first|refine Ji ?_|refine JF a5 H6 ?_|refine JN H6 ?_|refine JO JB ?_|(apply bz;refine bo ?_)|refine JR JA (fun _=>?_) (fun _=>?_))
   all_goals exact K _ _ rfl rfl (by clear K;unfold p9;simp_all)
  ·repeat' (first|refine Ji ?_|refine JF a5 H6 ?_)
   refine JL H6 ?_
   unfold gW
   rw [show pts.all p9=false by
    rw [List.all_eq_false]
    exact ⟨z,Jw hz,by simp [h2]⟩]
   simp
  ·repeat' (first|refine Ji ?_|refine JF a5 H6 ?_|(apply aS;refine aR ?_)|fail)
   refine aC (i+1) rfl ⟨by rw [Jv];rfl,trivial⟩ ⟨by omega,?_⟩ (by omega) (fun _ _ h=>h)
   rw [List.take_add_one,hz,List.all_append,hi.2]
   simpa using h2
 have hil:i=pts.length:=by have:=Jx h;simp at this;omega
 subst hil
 rw [List.take_length] at hi
 have hall:=hi.2
 clear hi h
 have hval:gW pts ends=fK pts.length (-1) ends:=by
  unfold gW
  rw [decide_eq_true hC,hall]
  rfl
 rw [hval]
 repeat' (first|refine Ji ?_|refine am ?_|refine JF a5 H6 ?_)
 refine aP [1,37,38] (α:=Nat×Int) (fun x=>[(39,aF x.1),(5,aF x.2)]) (fun x=>x.1≤ends.length∧-1≤x.2∧x.2≤1000∧fK pts.length (-1) ends=fK pts.length x.2 (ends.drop x.1)) (fun _=>[]) (fun x=>ends.length - x.1) (0,-1) rfl ⟨rfl,rfl,trivial⟩ ⟨Nat.zero_le _,by decide,by decide,rfl⟩ (fun _ _ h=>h) ?_
 rintro ⟨i,last⟩ ⟨hi,hl0,hl1,he⟩
 dsimp only at hi hl0 hl1 he ⊢
 try dsimp only [Js,Jr,Jq,Jl]
 repeat' (first|refine Ji ?_|refine JF a5 H6 ?_)
 refine ar rfl (fun h=>?_) (fun h=>?_)
 ·have hil:i < ends.length:=by have:=Jy h;simp [aZ] at this;omega
  obtain ⟨z,hz⟩:∃z,ends[i]?=some z:=⟨_,Jz hil⟩
  have hzg:=bP hz
  rw [uH hz] at he
  clear h
  repeat' (first|refine Ji ?_|refine am ?_|refine JF a5 H6 ?_|(apply aO;first|refine aN a5 ?_|refine aG a5 ?_)|fail)
  refine bX [1,7,37,38,39] (z≥pts.length∨z < last+2) rfl (fun Q' K=>?_) (fun h2=>?_) (fun h2=>?_)
  ·clear hi hzg he hval
   repeat' (first|refine Ji ?_|refine JF a5 H6 ?_|refine JN H6 ?_|refine JO JB ?_|(apply aS;refine aR ?_)|refine JR JA (fun _=>?_) (fun _=>?_))
   all_goals exact K _ _ rfl rfl (by clear K;simp_all <;> omega)
  ·rw [if_pos h2] at he
   repeat' (first|refine Ji ?_|refine JF a5 H6 ?_)
   refine JL H6 ?_
   rw [he]
  ·rw [if_neg h2] at he
   repeat' (first|refine Ji ?_|refine JF a5 H6 ?_|(apply aS;refine aR ?_)|fail)
   exact aC (i+1,z) rfl ⟨by rw [Jv];rfl,rfl,trivial⟩ ⟨by dsimp only;omega,by dsimp only;omega,by dsimp only;omega,he⟩ (by dsimp only;omega) (fun _ _ h=>h)
 ·have hil:i=ends.length:=by have:=Jx h;simp [aZ] at this;omega
  subst hil
  rw [List.drop_length] at he
  repeat' (first|refine Ji ?_|refine JF a5 H6 ?_|(apply aS;refine aR ?_)|fail)
  refine JL H6 ?_
  rw [he]
  simp [fK]
def I2 (_:Nat) (p:eE):Int:=dY (!([p.X,p.Y].all gn)) 30
theorem xh (i:Nat) (p:eE):bJ Tryz.prog 199 [aF i,.agg (dA p)] (aF (I2 i p)):=by
 refine aM Tryz.func199 rfl Tryz.ntmps199 rfl fun B=>?_
 repeat' (first|refine Ji ?_|refine JF a5 H6 ?_|refine bf ?_|refine bM a5 ?_|(apply bz;refine bo ?_)|fail)
 exact JM JA
def iS (g:bv):Int:=if g.Advance < 0∨g.Advance > 16384 then 1 else if g.Points.length > 200∨g.Ends.length > 40 then 2 else if (d4 g.Points I2).1≠0 then (d4 g.Points I2).1 else dY (!(gW g.Points g.Ends)) 31
theorem Aa (g:bv):bJ Tryz.prog 116 [.agg (bO g)] (aF (iS g)):=by
 refine aM Tryz.func116 rfl Tryz.ntmps116 rfl fun B=>?_
 unfold iS
 repeat' (first|refine Ji ?_|refine am ?_|refine JF a5 H6 ?_|refine bf ?_|fail)
 refine bX [1] (g.Advance < 0∨g.Advance > 16384) rfl (fun Q' K=>?_) (fun hC=>?_) (fun hC=>?_)
 ·repeat' (first|refine Ji ?_|refine JF a5 H6 ?_|refine JN H6 ?_|refine JO JB ?_|refine JR JA (fun _=>?_) (fun _=>?_))
  all_goals exact K _ _ rfl rfl (by clear K;grind)
 ·rw [if_pos hC]
  repeat' (first|refine Ji ?_|refine JF a5 H6 ?_)
  exact JM JA
 rw [if_neg hC]
 repeat' (first|refine Ji ?_|refine JF a5 H6 ?_)
 refine bX [1] (g.Points.length > 200∨g.Ends.length > 40) rfl (fun Q' K=>?_) (fun hC=>?_) (fun hC=>?_)
 ·repeat' (first|refine Ji ?_|refine JF a5 H6 ?_|refine JN H6 ?_|refine JO JB ?_|refine JR JA (fun _=>?_) (fun _=>?_))
  all_goals exact K _ _ rfl rfl (by clear K;simp_all [aZ] <;> omega)
 ·rw [if_pos hC]
  repeat' (first|refine Ji ?_|refine JF a5 H6 ?_)
  exact JM JA
 rw [if_neg hC]
 repeat' (first|refine Ji ?_|refine JF a5 H6 ?_)
 refine b8 [] [] (Ei (u:= .sc (.func (.func 199) #[] #[])) (g:=199) (caps:=[]) rfl g.Points _ (fun _ _=>True) [] trivial (da (fun i x _=>xh i x))) rfl rfl (Jo _) rfl fun c L1 hc=>?_
 have hc:c=cu (d4 g.Points I2):=hc
 subst hc
 unfold cu
 repeat' (first|refine Ji ?_|refine JF a5 H6 ?_)
 refine ar rfl (fun h=>?_) (fun h=>?_)
 ·rw [if_pos (Jy h)]
  repeat' (first|refine Ji ?_|refine JF a5 H6 ?_)
  exact JM JA
 ·rw [if_neg (Jx h)]
  repeat' (first|refine Ji ?_|refine JF a5 H6 ?_)
  refine bo (hc:=⟨tL g.Points g.Ends⟩) ?_
  repeat' (first|refine Ji ?_|refine JF a5 H6 ?_|(apply bz;refine bo ?_)|fail)
  exact JM JA
instance (g:bv):AD Tryz.prog 116 [.agg (bO g)] (aF (iS g)):=⟨Aa g⟩
end Go.Proofs.YtpmdfoaadejmkaaGreatDoor
namespace Go.Proofs.YtpmdfoaadejmkaaGreatDoor
open Go.RowKit
attribute [local irreducible] AT bI AX AO Av Kt bi dx DA cK
open Go.MapKept
def C9 (_:Nat) (i:g7):Int:=if i.Op < 1∨i.Op > 39 then 50 else if i.A < -999999999∨i.A > 999999999 then 3 else 0
theorem tR (n:Nat) (i:g7):bJ Tryz.prog 154 [aF n,.agg (eT i)] (aF (C9 n i)):=by
 refine aM Tryz.func154 rfl Tryz.ntmps154 rfl fun B=>?_
 unfold C9
 repeat' (first|refine Ji ?_|refine am ?_|refine JF a5 H6 ?_|refine bf ?_|fail)
 refine bX [3] (i.Op < 1∨i.Op > 39) rfl (fun Q' K=>?_) (fun hC=>?_) (fun hC=>?_)
 ·repeat' (first|refine Ji ?_|refine JF a5 H6 ?_|refine JN H6 ?_|refine JO JB ?_|refine JR JA (fun _=>?_) (fun _=>?_))
  all_goals exact K _ _ rfl rfl (by clear K;grind)
 ·rw [if_pos hC]
  repeat' (first|refine Ji ?_|refine JF a5 H6 ?_)
  exact JM JA
 rw [if_neg hC]
 repeat' (first|refine Ji ?_|refine JF a5 H6 ?_)
 refine bX [] (i.A < -999999999∨i.A > 999999999) rfl (fun Q' K=>?_) (fun hC=>?_) (fun hC=>?_)
 ·repeat' (first|refine Ji ?_|refine JF a5 H6 ?_|refine JN H6 ?_|refine JO JB ?_|refine JR JA (fun _=>?_) (fun _=>?_))
  all_goals exact K _ _ rfl rfl (by clear K;grind)
 ·rw [if_pos hC]
  repeat' (first|refine Ji ?_|refine JF a5 H6 ?_)
  exact JM JA
 rw [if_neg hC]
 repeat' (first|refine Ji ?_|refine JF a5 H6 ?_)
 exact JM JA
def nq (l:List g7):Int:=(ct 200 l C9).1
theorem vn (l:List g7):bJ Tryz.prog 75 [.imm 2 (l.map eT)] (aF (nq l)):=by
 refine aM Tryz.func75 rfl Tryz.ntmps75 rfl fun B=>?_
 repeat' (first|refine Ji ?_|refine JF a5 H6 ?_|(apply bz;refine bo ?_)|fail)
 refine dw (f:=227) (cs:=[]) [] [] (F9 (g:=154) (caps:=[]) rfl l 200 _ (fun _ _=>True) [] trivial (fun _=>da fun i x _=>tR i x)) rfl rfl rfl (Jo _) rfl rfl fun c L1 hc=>?_
 have hc:c=cu (ct 200 l C9):=hc
 subst hc
 unfold cu
 repeat' (first|refine Ji ?_|refine JF a5 H6 ?_)
 exact JM JA
instance (l:List g7):AD Tryz.prog 75 [.imm 2 (l.map eT)] (aF (nq l)):=⟨vn l⟩
def m6 (f:b6) (_:Nat) (p:dL):Int:=if lb f p.Glyph=false then 32 else dY (!([p.X,p.Y].all gn)) 30
theorem wC (f:b6) (n:Nat) (p:dL):bJ Tryz.prog 118 [aF n,.agg (eD p),.iptr (cD f)] (aF (m6 f n p)):=by
 refine aM Tryz.func118 rfl Tryz.ntmps118 rfl fun B=>?_
 unfold m6
 repeat' (first|refine Ji ?_|refine JF a5 H6 ?_|refine bf ?_|(apply bz;refine bo ?_)|fail)
 refine ar rfl (fun h=>?_) (fun h=>?_)
 ·rw [if_pos (by simpa using h)]
  repeat' (first|refine Ji ?_|refine JF a5 H6 ?_)
  exact JM JA
 ·rw [if_neg (by simpa using h)]
  repeat' (first|refine Ji ?_|refine JF a5 H6 ?_|refine bM a5 ?_|(apply bz;refine bo ?_)|fail)
  exact JM JA
def mg (g:bv) (i:Nat) (a:dv):Int:=if (a.Kind < 1∨a.Kind > 4)∨(a.Class < 0∨a.Class > 15)∨((a.Kind=3∨a.Kind=4)∧a.Class≠0)∨[a.X,a.Y].all gn=false∨(a.Kind=2∧g.Mark=false)∨(∃b∈g.Anchors.take i,b.Kind=a.Kind∧b.Class=a.Class) then 35 else 0
def rF (f:b6) (g:bv) (i:Nat) (d:dH):Int:=if d.Region < 0∨d.Region≥f.Regions.length then 61 else if (d.Point < -1∨d.Point≥g.Points.length)∨[d.X,d.Y].all gn=false∨(d.Point= -1∧d.Y≠0) then 30 else if (match i with | 0=>false | j+1=>match g.Deltas[j]? with | some b=>decide (d.Region < b.Region∨(d.Region=b.Region∧d.Point≤b.Point)) | none=>false)=true then 24 else 0
theorem vU (b:Bool):AC Tryz.prog 121 [dV b] [] fun c L=>∃m,c= .fn 205 [.iptr [dV b],.iptr [.sc (.map (some m))]]∧L=[(m,i8 fun _ _=>none)]:=by
 refine aM Tryz.func121 rfl Tryz.ntmps121 rfl fun B=>?_
 repeat' (first|refine Ji ?_|refine JF a5 H6 ?_|refine bf ?_|fail)
 refine wY fun m=>?_
 repeat' (first|refine Ji ?_|refine JF a5 H6 ?_|(apply aK;first|refine JH 3 a5 0 JE ?_|refine JH 3 a5 1 JE ?_|refine JH 3 a5 2 JE ?_|refine JG a5 0 JD ?_|refine JG a5 1 JD ?_|refine JG a5 2 JD ?_|refine JG a5 3 JD ?_|fail)|refine bj a5 fun _=>?_|fail)
 exact JL H6 ⟨_,rfl,rfl⟩
theorem zb (r p:Int):AC Tryz.prog 123 [aF r,aF p] [] fun c L=>∃b,c= .fn 208 [.iptr [aF r],.iptr [aF p],.sc (.pointer (some ⟨b,0,none⟩))]∧L=[(b,.box [aF 0,aF 0] 296)]:=by
 refine aM Tryz.func123 rfl Tryz.ntmps123 rfl fun B=>?_
 repeat' (first|refine Ji ?_|refine JF a5 H6 ?_|refine bf ?_|refine bj a5 fun _=>?_|fail)
 exact JL H6 ⟨_,rfl,rfl⟩
theorem wA (e:Int):bJ Tryz.prog 114 [.iptr [aF e]] (cu (e,0)):=by
 refine aM Tryz.func114 rfl Tryz.ntmps114 rfl fun B=>?_
 repeat' (first|refine Ji ?_|refine JF a5 H6 ?_)
 exact JS JB
theorem wB (g:bv):bJ Tryz.prog 115 [.iptr (bO g)] (cu (iS g,0)):=by
 refine aM Tryz.func115 rfl Tryz.ntmps115 rfl fun B=>?_
 repeat' (first|refine Ji ?_|refine JF a5 H6 ?_|(apply bz;refine bo ?_)|fail)
 exact JS JB
theorem wD (g:bv):bJ Tryz.prog 124 [.iptr (bO g)] (cu (nq g.Hint,0)):=by
 refine aM Tryz.func124 rfl Tryz.ntmps124 rfl fun B=>?_
 repeat' (first|refine Ji ?_|refine JF a5 H6 ?_|(apply bz;refine bo ?_)|fail)
 exact JS JB
def gF (l:List (Int×Int)):Int×Int:=match l with
 | []=>(0,0)
 | x::r=>if x.1=0 then gF r else x
theorem ki:∀l:List Lk,sw l=gF (l.map fun x=>(x.e,x.n))
 | []=>rfl
 | x::r=>by simp only [sw,Jq,gF];rw [ki r]
theorem qn:∀{l:List (Int×Int)},(∀x∈l,x.1=0)→gF l=(0,0)
 | [],_=>rfl
 | x::r,h=>by unfold gF;rw [if_pos (h x (List.mem_cons_self ..))];exact qn fun y hy=>h y (Jt _ hy)
def od (f:b6) (g:bv) (name:Int):Int:=(gF [(name,0),(iS g,0),ct 8 g.Parts (m6 f),ct 16 g.Anchors (mg g),ct 400 g.Deltas (rF f g),(nq g.Hint,0)]).1
end Go.Proofs.YtpmdfoaadejmkaaGreatDoor
