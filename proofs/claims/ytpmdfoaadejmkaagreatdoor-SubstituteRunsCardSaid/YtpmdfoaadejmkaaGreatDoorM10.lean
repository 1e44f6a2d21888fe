/-
  The program: what the first look tells that finds something wrong.
-/
import Derived.Test.YtpmdfoaadejmkaaGreatDoorM09
import Derived.Test.YtpmdfoaadejmkaaGreatDoorM08
import Derived.Test.YtpmdfoaadejmkaaGreatDoorM05
import Derived.Test.YtpmdfoaadejmkaaGreatDoorM07
namespace Go.Proofs.YtpmdfoaadejmkaaGreatDoor
open Go.RowKit
attribute [local irreducible] AT bK AX AO Av Kt bh dw DA cK
structure Lk where
 f:FuncId
 caps:List AV
 L:AL
 e:Int
 n:Int
def Lk.ok (x:Lk):Prop:=bM Tryz.prog x.f∧AC Tryz.prog x.f x.caps x.L fun c _=>c=cu (x.e,x.n)
def su:List Lk→Int×Int
 | []=>(0,0)
 | x::r=>if x.e=0 then su r else (x.e,x.n)
def GM (l:List Lk):AL:=(l.map Lk.L).flatten
def wP:List Lk→Prop
 | []=>True
 | x::r=>x.ok∧(x.e=0→wP r)
def IB (x:Lk):List AV:=[.fn x.f x.caps]
theorem Cj {l:List Lk} {i:Nat} {x:Lk} (h:l[i]?=some x):su (l.drop i)=if x.e=0 then su (l.drop (i+1)) else (x.e,x.n):=by
 obtain ⟨hi,hx⟩:=Jq h
 rw [List.drop_eq_getElem_cons hi,hx]
 rfl
theorem zE {l:List Lk} {i:Nat} {x:Lk} (h:l[i]?=some x) (hk:wP (l.drop i)):x.ok∧(x.e=0→wP (l.drop (i+1))):=by
 obtain ⟨hi,hx⟩:=Jq h
 rw [List.drop_eq_getElem_cons hi,hx] at hk
 exact hk
theorem uZ:∀{l:List Lk},(su l).1=0→su l=(0,0)
 | [],_=>rfl
 | x::r,h=>by
  unfold su at h ⊢
  split
  ·rename_i h0
   rw [if_pos h0] at h
   exact uZ h
  ·rename_i h0
   rw [if_neg h0] at h
   exact absurd h h0
theorem Ck {l:List Lk} {i:Nat} {x:Lk} (h:l[i]?=some x):GM (l.drop i)=x.L++GM (l.drop (i+1)):=by
 obtain ⟨hi,hx⟩:=Jq h
 unfold GM
 rw [List.drop_eq_getElem_cons hi,hx]
 rfl
theorem zk {σ0:cr} {l:Nat} (ls:List Lk) (hok:wP ls) (E:AL) (E':Int→Int→AL) (hy:∀e n,e≠0→AY Tryz.prog σ0 l [aF e,aF n] E fun c L=>c=dY false∧L=E' e n):
  FV Tryz.prog σ0 197 [.sc (.func (.yield l) #[] #[]),.iptr [.imm 1 (ls.map IB)]] (GM ls++E) fun _ L=>L=if (su ls).1=0 then E else E' (su ls).1 (su ls).2:=by
 refine B7 Tryz.func197 rfl Tryz.ntmps197 rfl fun B hB=>?_
 repeat' (first|refine JU ?_|refine am ?_|refine JG a5 JA ?_)
 refine cB 7 rfl rfl fun hlen=>?_
 rw [Jv] at hlen
 refine aP [0,7,8] (α:=Nat) (fun i=>[(9,aF i)]) (fun i=>i≤ls.length∧su ls=su (ls.drop i)∧wP (ls.drop i)) (fun i=>GM (ls.drop i)++E) (fun i=>ls.length - i) 0 rfl ⟨rfl,trivial⟩ ⟨Nat.zero_le _,rfl,hok⟩ (fun _ _ h=>h) fun i ⟨hi,he,hok⟩=>?_
 try dsimp only [Jt,Js,Jr,Kz]
 repeat' (first|refine JU ?_|refine JG a5 JA ?_)
 refine ar rfl (fun h=>?_) (fun h=>?_)
 ·have hil:i < ls.length:=by have:=Jz h;simp at this;omega
  obtain ⟨x,hx⟩:∃z,ls[i]?=some z:=⟨_,Hb hil⟩
  have hzg:=bH (c:=IB) hx
  obtain ⟨⟨hcf,hac⟩,hok⟩:=zE hx hok
  rw [Cj hx] at he
  rw [Ck hx]
  repeat' (first|refine JU ?_|refine am ?_|refine JG a5 JA ?_|(apply aL;first|refine aK a5 ?_|refine aG a5 ?_)|fail)
  refine dx (cs:=[]) x.L (GM (ls.drop (i+1))++E) (by simpa using hac) rfl rfl rfl (by rw [List.append_assoc]) rfl rfl fun c L1 hc=>?_
  subst hc
  refine aJ (bA (List.sublist_append_right ..)) ?_
  unfold cu
  repeat' (first|refine JU ?_|refine JG a5 JA ?_)
  by_cases h0:x.e=0
  ·rw [if_pos h0] at he
   rw [h0]
   repeat' (first|refine JU ?_|refine JG a5 JA ?_|refine JP JC ?_|(apply aS;refine aQ ?_)|refine bC rfl ?_)
   exact aC (i+1) rfl ⟨by rw [Jw];rfl,trivial⟩ ⟨by omega,he,hok h0⟩ (by omega) (fun _ _ h=>h)
  ·rw [if_neg h0] at he
   rw [show decide (x.e≠0)=true from decide_eq_true h0]
   repeat' (first|refine JG a5 JA ?_|refine JO JA ?_)
   refine aJ (bA (List.sublist_append_right ..)) ?_
   refine yf E [] hB (hy x.e x.n h0) rfl rfl rfl (ck rfl) rfl rfl fun c L1 ⟨hc,hL⟩=>?_
   subst hc;subst hL
   rw [List.append_nil]
   repeat' (first|refine JU ?_|refine JG a5 JA ?_|refine JO JA ?_|refine bD rfl ?_)
   refine pt rfl ?_
   rw [he,if_neg h0]
 ·have hil:i=ls.length:=by have:=Jy h;simp at this;omega
  subst hil
  rw [List.drop_length] at he ⊢
  repeat' (first|refine JU ?_|fail)
  refine cH rfl ?_
  rw [he]
  rfl
theorem wr (l:List (List AV)):bJ Tryz.prog 111 [.imm 1 l] (.fn 197 [.iptr [.imm 1 l]]):=by
 refine aN Tryz.func111 rfl Tryz.ntmps111 rfl fun B=>?_
 repeat' (first|refine JU ?_|refine JG a5 JA ?_|refine bf ?_|fail)
 exact JN JB
instance (l:List (List AV)):AD Tryz.prog 111 [.imm 1 l] (.fn 197 [.iptr [.imm 1 l]]):=⟨wr l⟩
theorem CT {p q:Nat×AB} {l l2:AL}:(p::q::(l++l2)).Perm (l++(p::q::l2)):=by
 have:=(List.perm_append_comm (l₁:=[p,q]) (l₂:=l)).append_right l2
 simpa using this
set_option maxHeartbeats 1000000 in
theorem jt (ls:List Lk) (hok:wP ls):AC Tryz.prog 47 [.imm 1 (ls.map IB)] (GM ls) fun c _=>c=cu (su ls):=by
 refine B6 Tryz.func47 rfl Tryz.ntmps47 rfl fun B=>?_
 repeat' (first|refine JU ?_|refine am ?_|refine JG a5 JA ?_|refine bj a5 fun _=>?_|(apply bw;refine bn ?_)|fail)
 rename_i b2 b3
 refine um (ps:=[8,9]) rfl fun σ0 l db rec hrec=>?_
 have hy:∀e n:Int,e≠0→AY Tryz.prog σ0 l [aF e,aF n] ([(b3,.box [aF 0] 3),(b2,.box [aF 0] 35),(db,u2)]++[(l,nI rec)]) fun c L=>c=dY false∧L=[(b3,.box [aF n] 3),(b2,.box [aF e] 35),(db,u2)]++[(l,nI { ({ rec with state:= .busy }:Loop) with state:= .done,pending:=some .ret })]:=by
  intro e n he
  refine FC hrec rfl rfl fun B1 hB1=>?_
  repeat' (first|refine JU ?_|refine JG a5 JA ?_)
  refine uq hrec.state ?_
  repeat' (first|refine JU ?_|refine am ?_|refine JG a5 JA ?_|(apply aM;first|refine JH a5 0 JE ?_|refine JH a5 1 JE ?_|refine JH a5 2 JE ?_|refine JH a5 3 JE ?_|fail))
  refine w8 (L:=[(b3,.box [aF n] 3),(b2,.box [aF e] 35),(db,u2)]) ?_
  exact ⟨rfl,rfl⟩
 refine ⟨_,(zk ls hok _ _ hy).perm ?_,fun c L' hL'=>?_⟩
 ·simp only [List.append_assoc,Jt,Js]
  exact CT
 ·by_cases h0:(su ls).1=0
  ·rw [if_pos h0] at hL'
   subst hL'
   refine ⟨rec,_,Jp _,(by rw [hrec.state];intro h;cases h),?_⟩
   rw [hrec.pending]
   show AX _ _ _ _ _ _ _ _
   repeat' (first|refine JU ?_|(apply aM;first|refine JH a5 0 JE ?_|refine JH a5 1 JE ?_|refine JH a5 2 JE ?_|refine JH a5 3 JE ?_|fail))
   refine pu (cs:=[aF 0,aF 0]) [db] [(b3,.box [aF 0] 3),(b2,.box [aF 0] 35)] rfl (Jp _) ?_ ?_
   ·exact ⟨⟨b2,1,_,_,rfl,rfl,.inl ⟨d3 a5 rfl,rfl⟩⟩,⟨b3,0,_,_,rfl,rfl,.inl ⟨d3 a5 rfl,rfl⟩⟩,trivial⟩
   ·have:su ls=(0,0):=uZ h0
    rw [this]
    rfl
  ·rw [if_neg h0] at hL'
   subst hL'
   refine ⟨_,_,Jp _,(by intro h;cases h),?_⟩
   show AX _ _ _ _ _ _ _ _
   repeat' (first|refine JU ?_|fail)
   refine pu (cs:=[aF (su ls).1,aF (su ls).2]) [db] [(b3,.box [aF (su ls).2] 3),(b2,.box [aF (su ls).1] 35)] rfl (Jp _) ?_ rfl
   exact ⟨⟨b2,1,_,_,rfl,rfl,.inl ⟨d3 a5 rfl,rfl⟩⟩,⟨b3,0,_,_,rfl,rfl,.inl ⟨d3 a5 rfl,rfl⟩⟩,trivial⟩
def Jh (l:List Int) (n:Nat):List Int:=((List.range n).map Int.ofNat).filter (l.contains ·)
theorem uR (a b:List Int):aW a++aW b=aW (a++b):=by simp [aW]
def dX (b:Bool) (e:Int):Int:=bif b then e else 0
theorem Dv (b:Bool) (e:Int):bJ Tryz.prog 78 [dY b,aF e] (aF (dX b e)):=by
 refine aN Tryz.func78 rfl Tryz.ntmps78 rfl fun B=>?_
 repeat' (first|refine JU ?_|refine JG a5 JA ?_)
 refine ar rfl (fun h=>?_) (fun h=>?_)
 ·subst h
  repeat' (first|refine JU ?_|refine JG a5 JA ?_)
  exact JN JB
 ·subst h
  repeat' (first|refine JU ?_|refine JG a5 JA ?_)
  exact JN JB
instance (b:Bool) (e:Int):AD Tryz.prog 78 [dY b,aF e] (aF (dX b e)):=⟨Dv b e⟩
def gp (z:Int):Bool:=decide (-16384≤z∧z≤16384)
theorem tu (l:List Int):bJ Tryz.prog 79 [.imm 1 (aW l)] (dY (l.all gp)):=by
 refine aN Tryz.func79 rfl Tryz.ntmps79 rfl fun B=>?_
 refine cB 0 rfl rfl fun hlen=>?_
 rw [aZ] at hlen
 repeat' (first|refine JU ?_|refine am ?_|refine JG a5 JA ?_)
 refine aP [5,6] (α:=Nat) (fun i=>[(7,aF i)]) (fun i=>i≤l.length∧(l.take i).all gp=true) (fun _=>[]) (fun i=>l.length - i) 0 rfl ⟨rfl,trivial⟩ ⟨Nat.zero_le _,by simp⟩ (fun _ _ h=>h) fun i hi=>?_
 try dsimp only [Jt,Js,Jr,Kz]
 repeat' (first|refine JU ?_|refine JG a5 JA ?_)
 refine ar rfl (fun h=>?_) (fun h=>?_)
 ·have hil:i < l.length:=by have:=Jz h;rw [aZ] at this;omega
  obtain ⟨z,hz⟩:∃z,l[i]?=some z:=⟨_,Hb hil⟩
  have hzg:=bO hz
  repeat' (first|refine JU ?_|refine am ?_|refine JG a5 JA ?_|(apply aL;first|refine aK a5 ?_|refine aG a5 ?_)|fail)
  refine bX [5,6,7] (gp z=false) rfl (fun Q' K=>?_) (fun hC=>?_) (fun hC=>?_)
  ·repeat' (first|refine JU ?_|refine JG a5 JA ?_|refine JO JA ?_|refine JP JC ?_|refine JS JB (fun _=>?_) (fun _=>?_))
   all_goals exact K _ _ rfl rfl (by unfold gp;simp_all <;> omega)
  ·repeat' (first|refine JU ?_|refine JG a5 JA ?_)
   refine JM JA ?_
   rw [show l.all gp=false by
    rw [List.all_eq_false]
    exact ⟨z,Jx hz,by simp [hC]⟩]
  ·repeat' (first|refine JU ?_|refine JG a5 JA ?_|(apply aS;refine aQ ?_)|fail)
   refine aC (i+1) rfl ⟨by rw [Jw];rfl,trivial⟩ ⟨by omega,?_⟩ (by omega) (fun _ _ h=>h)
   rw [List.take_add_one,hz,List.all_append,hi.2]
   simpa using hC
 ·have hil:i=l.length:=by have:=Jy h;rw [aZ] at this;omega
  subst hil
  rw [List.take_length] at hi
  repeat' (first|refine JU ?_|refine JG a5 JA ?_)
  refine JM JA ?_
  rw [hi.2]
instance (x:Int):AD Tryz.prog 79 [.imm 1 [[aF x]]] (dY ([x].all gp)):=⟨tu [x]⟩
instance (x y:Int):AD Tryz.prog 79 [.imm 1 [[aF x],[aF y]]] (dY ([x,y].all gp)):=⟨tu [x,y]⟩
instance (x y z:Int):AD Tryz.prog 79 [.imm 1 [[aF x],[aF y],[aF z]]] (dY ([x,y,z].all gp)):=⟨tu [x,y,z]⟩
def la (f:b7) (n:Int):Bool:=decide (0≤n∧n < f.Glyphs.length)
theorem uS (f:b7) (n:Int):bJ Tryz.prog 119 [bZ f,aF n] (dY (la f n)):=by
 refine aN Tryz.func119 rfl Tryz.ntmps119 rfl fun B=>?_
 repeat' (first|refine JU ?_|refine JG a5 JA ?_|refine bf ?_|fail)
 refine dp (t:=4) [] (la f n=true) rfl (fun Q' K=>?_) ?_
 ·repeat' (first|refine JU ?_|refine JG a5 JA ?_|refine JO JA ?_|refine JP JC ?_|refine JS JB (fun _=>?_) (fun _=>?_))
  all_goals exact K _ _ rfl rfl (by unfold la;simp_all <;> omega)
 repeat' (first|refine JU ?_|fail)
 refine JM JA ?_
 simp
instance (f:b7) (n:Int):AD Tryz.prog 119 [bZ f,aF n] (dY (la f n)):=⟨uS f n⟩
def kU (right taken:Bool):Int:=bif right then (bif taken then 24 else 0) else 23
theorem rG (a b:Bool):bJ Tryz.prog 53 [dY a,dY b] (aF (kU a b)):=by
 refine aN Tryz.func53 rfl Tryz.ntmps53 rfl fun B=>?_
 repeat' (first|refine JU ?_|refine am ?_|refine JG a5 JA ?_)
 refine ar rfl (fun h=>?_) (fun h=>?_)
 ·repeat' (first|refine JU ?_|refine JG a5 JA ?_)
  refine JM JA ?_
  cases a with
  | true=>cases h
  | false=>rfl
 ·repeat' (first|refine JU ?_|refine JG a5 JA ?_)
  have ha:a=true:=by cases a with
   | true=>rfl
   | false=>cases h
  subst ha
  refine ar rfl (fun h=>?_) (fun h=>?_)
  ·subst h
   repeat' (first|refine JU ?_|refine JG a5 JA ?_)
   exact JN JB
  ·subst h
   repeat' (first|refine JU ?_|refine JG a5 JA ?_)
   exact JN JB
instance (a b:Bool):AD Tryz.prog 53 [dY a,dY b] (aF (kU a b)):=⟨rG a b⟩
def oO (c:Int):Bool:=decide ((65≤c∧c≤90)∨(97≤c∧c≤122))
abbrev U8 (c:Int):AV:= .sc (.int .u8 c)
theorem th (c:Int):bJ Tryz.prog 125 [U8 c] (dY (oO c)):=by
 refine aN Tryz.func125 rfl Tryz.ntmps125 rfl fun B=>?_
 repeat' (first|refine JU ?_|refine JG a5 JA ?_)
 refine dp (t:=2) [] (oO c=true) rfl (fun Q' K=>?_) ?_
 ·repeat' (first|refine JU ?_|refine JG a5 JA ?_|refine JO JA ?_|refine JP JC ?_|refine dz rfl rfl rfl ?_|refine JS JB (fun _=>?_) (fun _=>?_))
  all_goals exact K _ _ rfl rfl (by unfold oO;simp_all <;> omega)
 repeat' (first|refine JU ?_|fail)
 refine JM JA ?_
 simp
instance (c:Int):AD Tryz.prog 125 [U8 c] (dY (oO c)):=⟨th c⟩
section
variable {P:Program} {tt:TT} {r:Option Nat} {ops:Array Oper} {Q:Exit→Act→World→Prop} {nt:Nat} {D:List Deferred} {fr:c8} {B:Bs} {L:AL} {rest:List Oper} {d:Nat} {ty t:TypeId} {pos:String} {af:Array Edge} {x y z:Operand}
theorem ye (ok:er P tt) {s:ByteArray} {k:IntKind} {i:Int} {c:UInt8} {ti:TI} (ht:df tt t=some ti) (hk:ti.k= .str) (hx:bo fr x=some (.sc (.string s))) (hy:bo fr y=some (.sc (.int k i))) (h0:0≤i) (hu:s[i.toNat]?=some c) (hd:Nat.ble nt d=false) (h:bK P r ops Q nt D rest ((d,U8 c.toNat)::fr) B L):bK P r ops Q nt D (⟨some d,.index t x y,ty,pos,af,none⟩::rest) fr B L:=cf (vT (ok.str ht hk) hx hy h0 hu) hd rfl h
end
def nU (s:ByteArray) (i:Nat):Int:=match s[i]? with | some c=>c.toNat | none=>0
theorem pS {s:ByteArray} {i:Nat} {c:UInt8} (h:s[i]?=some c):nU s i=c.toNat:=by unfold nU;rw [h]
def uc (n:Nat) (p:Nat→Bool):Bool:=(List.range n).all p
theorem nN {n:Nat} {p:Nat→Bool}:uc n p=true↔∀i,i < n→p i=true:=by simp [uc]
theorem oD {n:Nat} {p:Nat→Bool} {i:Nat} (hi:i < n) (h:p i=false):uc n p=false:=by
 rw [Bool.eq_false_iff]
 intro hh
 rw [nN.1 hh i hi] at h
 cases h
theorem yt {s:ByteArray} {i:Nat} (h:i < s.size):∃c,s[i]?=some c:=⟨s[i],by simp [h]⟩
def ff (s:ByteArray):Bool:=decide (1≤s.size∧s.size≤8) && uc s.size fun i=>oO (nU s i)
theorem rF (s:ByteArray):bJ Tryz.prog 66 [vQ s] (dY (ff s)):=by
 refine aN Tryz.func66 rfl Tryz.ntmps66 rfl fun B=>?_
 repeat' (first|refine JU ?_|refine JG a5 JA ?_)
 refine bX [0] (¬(1≤s.size∧s.size≤8)) rfl (fun Q' K=>?_) (fun hC=>?_) (fun hC=>?_)
 ·repeat' (first|refine JU ?_|refine JG a5 JA ?_|refine JO JA ?_|refine JP JC ?_|refine JS JB (fun _=>?_) (fun _=>?_))
  all_goals exact K _ _ rfl rfl (by simp_all <;> omega)
 ·repeat' (first|refine JU ?_|refine JG a5 JA ?_)
  refine JM JA ?_
  unfold ff
  rw [decide_eq_false hC]
  rfl
 have hC:=Decidable.not_not.1 hC
 repeat' (first|refine JU ?_|refine am ?_|refine JG a5 JA ?_)
 refine aP [0,13] (α:=Nat) (fun i=>[(14,aF i)]) (fun i=>i≤s.size∧∀j,j < i→oO (nU s j)=true) (fun _=>[]) (fun i=>s.size - i) 0 rfl ⟨rfl,trivial⟩ ⟨Nat.zero_le _,fun j hj=>absurd hj (Nat.not_lt_zero _)⟩ (fun _ _ h=>h) fun i hi=>?_
 try dsimp only [Jt,Js,Jr,Kz]
 repeat' (first|refine JU ?_|refine JG a5 JA ?_)
 refine ar rfl (fun h=>?_) (fun h=>?_)
 ·have hil:i < s.size:=by have:=Jz h;omega
  obtain ⟨c,hc⟩:=yt hil
  have hb:=pS hc
  repeat' (first|refine JU ?_|refine am ?_|refine JG a5 JA ?_)
  refine ye a5 rfl rfl rfl rfl (by omega) (by rw [Int.toNat_natCast];exact hc) rfl ?_
  repeat' (first|refine JU ?_|refine JG a5 JA ?_|(apply bw;refine bn ?_)|fail)
  refine ar rfl (fun h2=>?_) (fun h2=>?_)
  ·repeat' (first|refine JU ?_|refine JG a5 JA ?_)
   refine JM JA ?_
   unfold ff
   rw [oD hil (by rw [hb];simpa using h2),Bool.and_false]
  ·repeat' (first|refine JU ?_|refine JG a5 JA ?_|(apply aS;refine aQ ?_)|fail)
   refine aC (i+1) rfl ⟨by rw [Jw];rfl,trivial⟩ ⟨by omega,fun j hj=>?_⟩ (by omega) (fun _ _ h=>h)
   by_cases e:j=i
   ·subst e;rw [hb];simpa using h2
   ·exact hi.2 j (by omega)
 ·have hil:i=s.size:=by have:=Jy h;omega
  subst hil
  repeat' (first|refine JU ?_|refine JG a5 JA ?_)
  refine JM JA ?_
  unfold ff
  rw [decide_eq_true hC,nN.2 hi.2]
  rfl
instance (s:ByteArray):AD Tryz.prog 66 [vQ s] (dY (ff s)):=⟨rF s⟩
def tF (i:Nat) (c:Int):Bool:=decide ((oO c=true∨c=95∨c=46)∨(0 < i∧((48≤c∧c≤57)∨c=45)))
def gn (s:ByteArray):Bool:=decide (1≤s.size∧s.size≤16) && uc s.size fun i=>tF i (nU s i)
set_option maxHeartbeats 1000000 in
theorem wI (s:ByteArray):bJ Tryz.prog 54 [vQ s] (dY (gn s)):=by
 refine aN Tryz.func54 rfl Tryz.ntmps54 rfl fun B=>?_
 repeat' (first|refine JU ?_|refine JG a5 JA ?_)
 refine bX [0] (¬(1≤s.size∧s.size≤16)) rfl (fun Q' K=>?_) (fun hC=>?_) (fun hC=>?_)
 ·repeat' (first|refine JU ?_|refine JG a5 JA ?_|refine JO JA ?_|refine JP JC ?_|refine JS JB (fun _=>?_) (fun _=>?_))
  all_goals exact K _ _ rfl rfl (by simp_all <;> omega)
 ·repeat' (first|refine JU ?_|refine JG a5 JA ?_)
  refine JM JA ?_
  unfold gn
  rw [decide_eq_false hC]
  rfl
 have hC:=Decidable.not_not.1 hC
 repeat' (first|refine JU ?_|refine am ?_|refine JG a5 JA ?_)
 refine aP [0,16] (α:=Nat) (fun i=>[(17,aF i)]) (fun i=>i≤s.size∧∀j,j < i→tF j (nU s j)=true) (fun _=>[]) (fun i=>s.size - i) 0 rfl ⟨rfl,trivial⟩ ⟨Nat.zero_le _,fun j hj=>absurd hj (Nat.not_lt_zero _)⟩ (fun _ _ h=>h) fun i hi=>?_
 try dsimp only [Jt,Js,Jr,Kz]
 repeat' (first|refine JU ?_|refine JG a5 JA ?_)
 refine ar rfl (fun h=>?_) (fun h=>?_)
 ·have hil:i < s.size:=by have:=Jz h;omega
  obtain ⟨c,hc⟩:=yt hil
  have hb:=pS hc
  repeat' (first|refine JU ?_|refine am ?_|refine JG a5 JA ?_)
  refine ye a5 rfl rfl rfl rfl (by omega) (by rw [Int.toNat_natCast];exact hc) rfl ?_
  generalize (c.toNat:Int)=z at *
  repeat' (first|refine JU ?_|refine JG a5 JA ?_|(apply bw;refine bn ?_)|fail)
  refine dp (t:=5) [0,3,4,16,17] (oO z=true∨z=95∨z=46) rfl (fun Q' K=>?_) ?_
  ·clear hi hb hc h
   repeat' (first|refine JU ?_|refine JG a5 JA ?_|refine JO JA ?_|refine JP JC ?_|refine JS JB (fun _=>?_) (fun _=>?_))
   all_goals exact K _ _ rfl rfl (by simp_all)
  repeat' (first|refine JU ?_|refine JG a5 JA ?_)
  refine dp (t:=6) [0,5,16,17] (0 < i∧((48≤z∧z≤57)∨z=45)) rfl (fun Q' K=>?_) ?_
  ·clear hi hb hc h
   repeat' (first|refine JU ?_|refine JG a5 JA ?_|refine JO JA ?_|refine JP JC ?_|refine dz rfl rfl rfl ?_|refine JS JB (fun _=>?_) (fun _=>?_))
   all_goals exact K _ _ rfl rfl (by simp_all <;> omega)
  repeat' (first|refine JU ?_|refine JG a5 JA ?_)
  refine bX [0,16,17] (tF i z=false) rfl (fun Q' K=>?_) (fun h2=>?_) (fun h2=>?_)
  ·clear hi hb hc h
   repeat' (first|refine JU ?_|refine JG a5 JA ?_|refine JO JA ?_|refine JP JC ?_|refine JS JB (fun _=>?_) (fun _=>?_))
   all_goals exact K _ _ rfl rfl (by clear K;unfold tF;grind)
  ·repeat' (first|refine JU ?_|refine JG a5 JA ?_)
   refine JM JA ?_
   unfold gn
   rw [oD hil (by rw [hb];exact h2),Bool.and_false]
  ·repeat' (first|refine JU ?_|refine JG a5 JA ?_|(apply aS;refine aQ ?_)|fail)
   refine aC (i+1) rfl ⟨by rw [Jw];rfl,trivial⟩ ⟨by omega,fun j hj=>?_⟩ (by omega) (fun _ _ h=>h)
   by_cases e:j=i
   ·subst e;rw [hb];simpa using h2
   ·exact hi.2 j (by omega)
 ·have hil:i=s.size:=by have:=Jy h;omega
  subst hil
  repeat' (first|refine JU ?_|refine JG a5 JA ?_)
  refine JM JA ?_
  unfold gn
  rw [decide_eq_true hC,nN.2 hi.2]
  rfl
instance (s:ByteArray):AD Tryz.prog 54 [vQ s] (dY (gn s)):=⟨wI s⟩
end Go.Proofs.YtpmdfoaadejmkaaGreatDoor
namespace Go.Proofs.YtpmdfoaadejmkaaGreatDoor
open Go.RowKit
attribute [local irreducible] AT bK AX AO Av Kt bh dw DA cK
def fU {α:Type} (l:List α) (w:Nat→α→Int) (i:Nat):Int:=match l[i]? with | some x=>w i x | none=>0
def d5 {α:Type} (l:List α) (w:Nat→α→Int):Int×Int:=dc (fU l w) l.length
def ct {α:Type} (most:Int) (l:List α) (w:Nat→α→Int):Int×Int:=d6 most (fU l w) l.length
theorem iq {α:Type} {l:List α} {w:Nat→α→Int} {i:Nat} {x:α} (h:l[i]?=some x):fU l w i=w i x:=by unfold fU;rw [h]
theorem s5 {α:Type} {l:List α} {w:Nat→α→Int} (h:∀i x,l[i]?=some x→w i x=0) (i:Nat):fU l w i=0:=by
 unfold fU
 split
 ·exact h _ _ (by assumption)
 ·rfl
theorem fv {α:Type} {l:List α} {w:Nat→α→Int} (h:∀i x,l[i]?=some x→w i x=0):d5 l w=(0,0):=s3 fun i _=>s5 h i
theorem dO {α:Type} {most:Int} {l:List α} {w:Nat→α→Int} (hm:(l.length:Int)≤most) (h:∀i x,l[i]?=some x→w i x=0):ct most l w=(0,0):=Am hm fun i _=>s5 h i
theorem da {α:Type} {P:Program} {g:FuncId} {caps:List AV} {l:List α} {el:α→AV} {w:Nat→α→Int} (h:∀(i:Nat) x,l[i]?=some x→bJ P g ([aF i,el x]++caps) (aF (w i x))):∀(i:Nat) x (L:AL),l[i]?=some x→True→AC P g ([aF i,el x]++caps) L fun c _=>c=aF (fU l w i)∧(fU l w i=0→True):=by
 intro i x L hx _
 rw [iq hx]
 exact ((h i x hx).any L).mono fun c L' ⟨h1,_⟩=>⟨h1,fun _=>trivial⟩
theorem ru {α:Type} {P:Program} {g:FuncId} {caps:List AV} {l:List α} {el:α→AV} {w:Nat→α→Int} {L0:AL} (h:∀(i:Nat) x,l[i]?=some x→AC P g ([aF i,el x]++caps) L0 fun c L'=>c=aF (w i x)∧L'=L0):∀(i:Nat) x (L:AL),l[i]?=some x→L=L0→AC P g ([aF i,el x]++caps) L fun c L'=>c=aF (fU l w i)∧(fU l w i=0→L'=L0):=by
 intro i x L hx hL
 subst hL
 rw [iq hx]
 exact (h i x hx).mono fun c L' ⟨h1,h2⟩=>⟨h1,fun _=>h2⟩
theorem xu (n:Int):bJ Tryz.prog 263 [aF n] (dY (gp n)):=by
 refine aN Tryz.func263 rfl Tryz.ntmps263 rfl fun B=>?_
 repeat' (first|refine JU ?_|refine JG a5 JA ?_)
 refine dp (t:=2) [] (gp n=true) rfl (fun Q' K=>?_) ?_
 ·repeat' (first|refine JU ?_|refine JG a5 JA ?_|refine JO JA ?_|refine JP JC ?_|refine JS JB (fun _=>?_) (fun _=>?_))
  all_goals exact K _ _ rfl rfl (by clear K;unfold gp;grind)
 repeat' (first|refine JU ?_|fail)
 refine JM JA ?_
 simp
instance (n:Int):AD Tryz.prog 263 [aF n] (dY (gp n)):=⟨xu n⟩
def fL (n:Int):Int→List Int→Bool
 | last,[]=>decide (last=n - 1)
 | last,e::r=>if e≥n∨e < last+2 then false else fL n e r
def p6 (p:eE):Bool:=gp p.X && gp p.Y
def gV (pts:List eE) (ends:List Int):Bool:=decide (pts.length≤200∧ends.length≤40) && (pts.all p6 && fL pts.length (-1) ends)
theorem uF {n last:Int} {l:List Int} {i:Nat} {e:Int} (h:l[i]?=some e):fL n last (l.drop i)=if e≥n∨e < last+2 then false else fL n e (l.drop (i+1)):=by
 obtain ⟨hi,hx⟩:=Jq h
 rw [List.drop_eq_getElem_cons hi,hx]
 rfl
set_option maxHeartbeats 1000000 in
theorem tJ (pts:List eE) (ends:List Int):bJ Tryz.prog 200 [.agg [.imm 3 (pts.map dA),.imm 1 (aW ends)]] (dY (gV pts ends)):=by
 refine aN Tryz.func200 rfl Tryz.ntmps200 rfl fun B=>?_
 repeat' (first|refine JU ?_|refine JG a5 JA ?_|refine bf ?_|fail)
 refine bX [1] (¬(pts.length≤200∧ends.length≤40)) rfl (fun Q' K=>?_) (fun hC=>?_) (fun hC=>?_)
 ·repeat' (first|refine JU ?_|refine JG a5 JA ?_|refine JO JA ?_|refine JP JC ?_|refine JS JB (fun _=>?_) (fun _=>?_))
  all_goals exact K _ _ rfl rfl (by clear K;simp_all [aZ] <;> omega)
 ·repeat' (first|refine JU ?_|refine JG a5 JA ?_)
  refine JM JA ?_
  unfold gV
  rw [decide_eq_false hC]
  rfl
 have hC:=Decidable.not_not.1 hC
 have hlm:(pts.map dA).length=pts.length:=Jv ..
 repeat' (first|refine JU ?_|refine am ?_|refine JG a5 JA ?_)
 refine aP [1,19,20] (α:=Nat) (fun i=>[(21,aF i)]) (fun i=>i≤pts.length∧(pts.take i).all p6=true) (fun _=>[]) (fun i=>pts.length - i) 0 rfl ⟨rfl,trivial⟩ ⟨Nat.zero_le _,by simp⟩ (fun _ _ h=>h) fun i hi=>?_
 try dsimp only [Jt,Js,Jr,Kz]
 repeat' (first|refine JU ?_|refine JG a5 JA ?_)
 refine ar rfl (fun h=>?_) (fun h=>?_)
 ·have hil:i < pts.length:=by have:=Jz h;simp at this;omega
  obtain ⟨z,hz⟩:∃z,pts[i]?=some z:=⟨_,Hb hil⟩
  have hzg:=bH (c:=dA) hz
  clear h
  repeat' (first|refine JU ?_|refine am ?_|refine JG a5 JA ?_|(apply aL;first|refine aK a5 ?_|refine aG a5 ?_)|(apply aM;first|refine JI 4 a5 0 JF ?_|refine JI 4 a5 1 JF ?_|refine JI 4 a5 2 JF ?_|refine JH a5 0 JE ?_|refine JH a5 1 JE ?_|refine JH a5 2 JE ?_|refine JH a5 3 JE ?_|fail)|refine bj a5 fun _=>?_|(apply bw;refine bn ?_)|fail)
  refine bX [1,19,20,21] (p6 z=false) rfl (fun Q' K=>?_) (fun h2=>?_) (fun h2=>?_)
  ·clear hi hzg
   repeat' (first|refine JU ?_|refine JG a5 JA ?_|refine JO JA ?_|refine JP JC ?_|(apply bw;refine bn ?_)|refine JS JB (fun _=>?_) (fun _=>?_))
   all_goals exact K _ _ rfl rfl (by clear K;unfold p6;simp_all)
  ·repeat' (first|refine JU ?_|refine JG a5 JA ?_)
   refine JM JA ?_
   unfold gV
   rw [show pts.all p6=false by
    rw [List.all_eq_false]
    exact ⟨z,Jx hz,by simp [h2]⟩]
   simp
  ·repeat' (first|refine JU ?_|refine JG a5 JA ?_|(apply aS;refine aQ ?_)|fail)
   refine aC (i+1) rfl ⟨by rw [Jw];rfl,trivial⟩ ⟨by omega,?_⟩ (by omega) (fun _ _ h=>h)
   rw [List.take_add_one,hz,List.all_append,hi.2]
   simpa using h2
 have hil:i=pts.length:=by have:=Jy h;simp at this;omega
 subst hil
 rw [List.take_length] at hi
 have hall:=hi.2
 clear hi h
 have hval:gV pts ends=fL pts.length (-1) ends:=by
  unfold gV
  rw [decide_eq_true hC,hall]
  rfl
 rw [hval]
 repeat' (first|refine JU ?_|refine am ?_|refine JG a5 JA ?_)
 refine aP [1,37,38] (α:=Nat×Int) (fun x=>[(39,aF x.1),(5,aF x.2)]) (fun x=>x.1≤ends.length∧-1≤x.2∧x.2≤1000∧fL pts.length (-1) ends=fL pts.length x.2 (ends.drop x.1)) (fun _=>[]) (fun x=>ends.length - x.1) (0,-1) rfl ⟨rfl,rfl,trivial⟩ ⟨Nat.zero_le _,by decide,by decide,rfl⟩ (fun _ _ h=>h) ?_
 rintro ⟨i,last⟩ ⟨hi,hl0,hl1,he⟩
 dsimp only at hi hl0 hl1 he ⊢
 try dsimp only [Jt,Js,Jr,Kz]
 repeat' (first|refine JU ?_|refine JG a5 JA ?_)
 refine ar rfl (fun h=>?_) (fun h=>?_)
 ·have hil:i < ends.length:=by have:=Jz h;simp [aZ] at this;omega
  obtain ⟨z,hz⟩:∃z,ends[i]?=some z:=⟨_,Hb hil⟩
  have hzg:=bO hz
  rw [uF hz] at he
  clear h
  repeat' (first|refine JU ?_|refine am ?_|refine JG a5 JA ?_|(apply aL;first|refine aK a5 ?_|refine aG a5 ?_)|fail)
  refine bX [1,7,37,38,39] (z≥pts.length∨z < last+2) rfl (fun Q' K=>?_) (fun h2=>?_) (fun h2=>?_)
  ·clear hi hzg he hval
   repeat' (first|refine JU ?_|refine JG a5 JA ?_|refine JO JA ?_|refine JP JC ?_|(apply aS;refine aQ ?_)|refine JS JB (fun _=>?_) (fun _=>?_))
   all_goals exact K _ _ rfl rfl (by clear K;simp_all <;> omega)
  ·rw [if_pos h2] at he
   repeat' (first|refine JU ?_|refine JG a5 JA ?_)
   refine JM JA ?_
   rw [he]
  ·rw [if_neg h2] at he
   repeat' (first|refine JU ?_|refine JG a5 JA ?_|(apply aS;refine aQ ?_)|fail)
   exact aC (i+1,z) rfl ⟨by rw [Jw];rfl,rfl,trivial⟩ ⟨by dsimp only;omega,by dsimp only;omega,by dsimp only;omega,he⟩ (by dsimp only;omega) (fun _ _ h=>h)
 ·have hil:i=ends.length:=by have:=Jy h;simp [aZ] at this;omega
  subst hil
  rw [List.drop_length] at he
  repeat' (first|refine JU ?_|refine JG a5 JA ?_|(apply aS;refine aQ ?_)|fail)
  refine JM JA ?_
  rw [he]
  simp [fL]
def I7 (_:Nat) (p:eE):Int:=dX (!([p.X,p.Y].all gp)) 30
theorem xi (i:Nat) (p:eE):bJ Tryz.prog 199 [aF i,.agg (dA p)] (aF (I7 i p)):=by
 refine aN Tryz.func199 rfl Tryz.ntmps199 rfl fun B=>?_
 repeat' (first|refine JU ?_|refine JG a5 JA ?_|refine bf ?_|refine bN a5 ?_|(apply bw;refine bn ?_)|fail)
 exact JN JB
def iQ (g:bz):Int:=if g.Advance < 0∨g.Advance > 16384 then 1 else if g.Points.length > 200∨g.Ends.length > 40 then 2 else if (d5 g.Points I7).1≠0 then (d5 g.Points I7).1 else dX (!(gV g.Points g.Ends)) 31
theorem Ai (g:bz):bJ Tryz.prog 116 [.agg (bR g)] (aF (iQ g)):=by
 refine aN Tryz.func116 rfl Tryz.ntmps116 rfl fun B=>?_
 unfold iQ
 repeat' (first|refine JU ?_|refine am ?_|refine JG a5 JA ?_|refine bf ?_|fail)
 refine bX [1] (g.Advance < 0∨g.Advance > 16384) rfl (fun Q' K=>?_) (fun hC=>?_) (fun hC=>?_)
 ·repeat' (first|refine JU ?_|refine JG a5 JA ?_|refine JO JA ?_|refine JP JC ?_|refine JS JB (fun _=>?_) (fun _=>?_))
  all_goals exact K _ _ rfl rfl (by clear K;grind)
 ·rw [if_pos hC]
  repeat' (first|refine JU ?_|refine JG a5 JA ?_)
  exact JN JB
 rw [if_neg hC]
 repeat' (first|refine JU ?_|refine JG a5 JA ?_)
 refine bX [1] (g.Points.length > 200∨g.Ends.length > 40) rfl (fun Q' K=>?_) (fun hC=>?_) (fun hC=>?_)
 ·repeat' (first|refine JU ?_|refine JG a5 JA ?_|refine JO JA ?_|refine JP JC ?_|refine JS JB (fun _=>?_) (fun _=>?_))
  all_goals exact K _ _ rfl rfl (by clear K;simp_all [aZ] <;> omega)
 ·rw [if_pos hC]
  repeat' (first|refine JU ?_|refine JG a5 JA ?_)
  exact JN JB
 rw [if_neg hC]
 repeat' (first|refine JU ?_|refine JG a5 JA ?_)
 refine b9 [] [] (Eo (u:= .sc (.func (.func 199) #[] #[])) (g:=199) (caps:=[]) rfl g.Points _ (fun _ _=>True) [] trivial (da (fun i x _=>xi i x))) rfl rfl (Jp _) rfl fun c L1 hc=>?_
 have hc:c=cu (d5 g.Points I7):=hc
 subst hc
 unfold cu
 repeat' (first|refine JU ?_|refine JG a5 JA ?_)
 refine ar rfl (fun h=>?_) (fun h=>?_)
 ·rw [if_pos (Jz h)]
  repeat' (first|refine JU ?_|refine JG a5 JA ?_)
  exact JN JB
 ·rw [if_neg (Jy h)]
  repeat' (first|refine JU ?_|refine JG a5 JA ?_)
  refine bn (hc:=⟨tJ g.Points g.Ends⟩) ?_
  repeat' (first|refine JU ?_|refine JG a5 JA ?_|(apply bw;refine bn ?_)|fail)
  exact JN JB
instance (g:bz):AD Tryz.prog 116 [.agg (bR g)] (aF (iQ g)):=⟨Ai g⟩
end Go.Proofs.YtpmdfoaadejmkaaGreatDoor
namespace Go.Proofs.YtpmdfoaadejmkaaGreatDoor
open Go.RowKit
attribute [local irreducible] AT bK AX AO Av Kt bh dw DA cK
open Go.MapKept
def Ce (_:Nat) (i:g8):Int:=if i.Op < 1∨i.Op > 39 then 50 else if i.A < -999999999∨i.A > 999999999 then 3 else 0
theorem tP (n:Nat) (i:g8):bJ Tryz.prog 154 [aF n,.agg (eU i)] (aF (Ce n i)):=by
 refine aN Tryz.func154 rfl Tryz.ntmps154 rfl fun B=>?_
 unfold Ce
 repeat' (first|refine JU ?_|refine am ?_|refine JG a5 JA ?_|refine bf ?_|fail)
 refine bX [3] (i.Op < 1∨i.Op > 39) rfl (fun Q' K=>?_) (fun hC=>?_) (fun hC=>?_)
 ·repeat' (first|refine JU ?_|refine JG a5 JA ?_|refine JO JA ?_|refine JP JC ?_|refine JS JB (fun _=>?_) (fun _=>?_))
  all_goals exact K _ _ rfl rfl (by clear K;grind)
 ·rw [if_pos hC]
  repeat' (first|refine JU ?_|refine JG a5 JA ?_)
  exact JN JB
 rw [if_neg hC]
 repeat' (first|refine JU ?_|refine JG a5 JA ?_)
 refine bX [] (i.A < -999999999∨i.A > 999999999) rfl (fun Q' K=>?_) (fun hC=>?_) (fun hC=>?_)
 ·repeat' (first|refine JU ?_|refine JG a5 JA ?_|refine JO JA ?_|refine JP JC ?_|refine JS JB (fun _=>?_) (fun _=>?_))
  all_goals exact K _ _ rfl rfl (by clear K;grind)
 ·rw [if_pos hC]
  repeat' (first|refine JU ?_|refine JG a5 JA ?_)
  exact JN JB
 rw [if_neg hC]
 repeat' (first|refine JU ?_|refine JG a5 JA ?_)
 exact JN JB
def nl (l:List g8):Int:=(ct 200 l Ce).1
theorem vm (l:List g8):bJ Tryz.prog 75 [.imm 2 (l.map eU)] (aF (nl l)):=by
 refine aN Tryz.func75 rfl Tryz.ntmps75 rfl fun B=>?_
 repeat' (first|refine JU ?_|refine JG a5 JA ?_|(apply bw;refine bn ?_)|fail)
 refine dx (f:=227) (cs:=[]) [] [] (Fe (g:=154) (caps:=[]) rfl l 200 _ (fun _ _=>True) [] trivial (fun _=>da fun i x _=>tP i x)) rfl rfl rfl (Jp _) rfl rfl fun c L1 hc=>?_
 have hc:c=cu (ct 200 l Ce):=hc
 subst hc
 unfold cu
 repeat' (first|refine JU ?_|refine JG a5 JA ?_)
 exact JN JB
instance (l:List g8):AD Tryz.prog 75 [.imm 2 (l.map eU)] (aF (nl l)):=⟨vm l⟩
def lZ (f:b7) (_:Nat) (p:dM):Int:=if la f p.Glyph=false then 32 else dX (!([p.X,p.Y].all gp)) 30
theorem wC (f:b7) (n:Nat) (p:dM):bJ Tryz.prog 118 [aF n,.agg (eD p),.iptr (cE f)] (aF (lZ f n p)):=by
 refine aN Tryz.func118 rfl Tryz.ntmps118 rfl fun B=>?_
 unfold lZ
 repeat' (first|refine JU ?_|refine JG a5 JA ?_|refine bf ?_|(apply bw;refine bn ?_)|fail)
 refine ar rfl (fun h=>?_) (fun h=>?_)
 ·rw [if_pos (by simpa using h)]
  repeat' (first|refine JU ?_|refine JG a5 JA ?_)
  exact JN JB
 ·rw [if_neg (by simpa using h)]
  repeat' (first|refine JU ?_|refine JG a5 JA ?_|refine bN a5 ?_|(apply bw;refine bn ?_)|fail)
  exact JN JB
def mc (g:bz) (i:Nat) (a:dv):Int:=if (a.Kind < 1∨a.Kind > 4)∨(a.Class < 0∨a.Class > 15)∨((a.Kind=3∨a.Kind=4)∧a.Class≠0)∨[a.X,a.Y].all gp=false∨(a.Kind=2∧g.Mark=false)∨(∃b∈g.Anchors.take i,b.Kind=a.Kind∧b.Class=a.Class) then 35 else 0
def rE (f:b7) (g:bz) (i:Nat) (d:dH):Int:=if d.Region < 0∨d.Region≥f.Regions.length then 61 else if (d.Point < -1∨d.Point≥g.Points.length)∨[d.X,d.Y].all gp=false∨(d.Point= -1∧d.Y≠0) then 30 else if (match i with | 0=>false | j+1=>match g.Deltas[j]? with | some b=>decide (d.Region < b.Region∨(d.Region=b.Region∧d.Point≤b.Point)) | none=>false)=true then 24 else 0
theorem vV (b:Bool):AC Tryz.prog 121 [dY b] [] fun c L=>∃m,c= .fn 205 [.iptr [dY b],.iptr [.sc (.map (some m))]]∧L=[(m,i5 fun _ _=>none)]:=by
 refine aN Tryz.func121 rfl Tryz.ntmps121 rfl fun B=>?_
 repeat' (first|refine JU ?_|refine JG a5 JA ?_|refine bf ?_|fail)
 refine wZ fun m=>?_
 repeat' (first|refine JU ?_|refine JG a5 JA ?_|(apply aM;first|refine JI 3 a5 0 JF ?_|refine JI 3 a5 1 JF ?_|refine JI 3 a5 2 JF ?_|refine JH a5 0 JE ?_|refine JH a5 1 JE ?_|refine JH a5 2 JE ?_|refine JH a5 3 JE ?_|fail)|refine bj a5 fun _=>?_|fail)
 exact JM JA ⟨_,rfl,rfl⟩
theorem zj (r p:Int):AC Tryz.prog 123 [aF r,aF p] [] fun c L=>∃b,c= .fn 208 [.iptr [aF r],.iptr [aF p],.sc (.pointer (some ⟨b,0,none⟩))]∧L=[(b,.box [aF 0,aF 0] 296)]:=by
 refine aN Tryz.func123 rfl Tryz.ntmps123 rfl fun B=>?_
 repeat' (first|refine JU ?_|refine JG a5 JA ?_|refine bf ?_|refine bj a5 fun _=>?_|fail)
 exact JM JA ⟨_,rfl,rfl⟩
theorem wA (e:Int):bJ Tryz.prog 114 [.iptr [aF e]] (cu (e,0)):=by
 refine aN Tryz.func114 rfl Tryz.ntmps114 rfl fun B=>?_
 repeat' (first|refine JU ?_|refine JG a5 JA ?_)
 exact JT JC
theorem wB (g:bz):bJ Tryz.prog 115 [.iptr (bR g)] (cu (iQ g,0)):=by
 refine aN Tryz.func115 rfl Tryz.ntmps115 rfl fun B=>?_
 repeat' (first|refine JU ?_|refine JG a5 JA ?_|(apply bw;refine bn ?_)|fail)
 exact JT JC
theorem wD (g:bz):bJ Tryz.prog 124 [.iptr (bR g)] (cu (nl g.Hint,0)):=by
 refine aN Tryz.func124 rfl Tryz.ntmps124 rfl fun B=>?_
 repeat' (first|refine JU ?_|refine JG a5 JA ?_|(apply bw;refine bn ?_)|fail)
 exact JT JC
def gG (l:List (Int×Int)):Int×Int:=match l with
 | []=>(0,0)
 | x::r=>if x.1=0 then gG r else x
theorem ki:∀l:List Lk,su l=gG (l.map fun x=>(x.e,x.n))
 | []=>rfl
 | x::r=>by simp only [su,Jr,gG];rw [ki r]
theorem qk:∀{l:List (Int×Int)},(∀x∈l,x.1=0)→gG l=(0,0)
 | [],_=>rfl
 | x::r,h=>by unfold gG;rw [if_pos (h x (List.mem_cons_self ..))];exact qk fun y hy=>h y (Ju _ hy)
def o8 (f:b7) (g:bz) (name:Int):Int:=(gG [(name,0),(iQ g,0),ct 8 g.Parts (lZ f),ct 16 g.Anchors (mc g),ct 400 g.Deltas (rE f g),(nl g.Hint,0)]).1
end Go.Proofs.YtpmdfoaadejmkaaGreatDoor
