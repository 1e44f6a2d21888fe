/-
  The program: what the first look tells that finds something wrong.
-/
import Derived.Test.YtjjpkibjffmceaaGreatM08
import Derived.Test.YtjjpkibjffmceaaGreatM06
import Derived.Test.YtjjpkibjffmceaaGreatM07
namespace Go.Proofs.YtjjpkibjffmceaaGreat
open Go.RowKit
attribute [local irreducible] AT cg AX AO Av Kt bJ eC DA du
structure Lk where
 f:FuncId
 caps:List AV
 L:AL
 e:Int
 n:Int
def Lk.ok (x:Lk):Prop:=bT Tryz.prog x.f∧AC Tryz.prog x.f x.caps x.L fun c _=>c=cE (x.e,x.n)
def rF:List Lk→Int×Int
 | []=>(0,0)
 | x::r=>if x.e=0 then rF r else (x.e,x.n)
def G9 (l:List Lk):AL:=(l.map Lk.L).flatten
def ux:List Lk→Prop
 | []=>True
 | x::r=>x.ok∧(x.e=0→ux r)
def I0 (x:Lk):List AV:=[.fn x.f x.caps]
theorem BG {l:List Lk} {i:Nat} {x:Lk} (h:l[i]?=some x):rF (l.drop i)=if x.e=0 then rF (l.drop (i+1)) else (x.e,x.n):=by
 obtain ⟨hi,hx⟩:=Jo h
 rw [List.drop_eq_getElem_cons hi,hx]
 rfl
theorem zh {l:List Lk} {i:Nat} {x:Lk} (h:l[i]?=some x) (hk:ux (l.drop i)):x.ok∧(x.e=0→ux (l.drop (i+1))):=by
 obtain ⟨hi,hx⟩:=Jo h
 rw [List.drop_eq_getElem_cons hi,hx] at hk
 exact hk
theorem uw:∀{l:List Lk},(rF l).1=0→rF l=(0,0)
 | [],_=>rfl
 | x::r,h=>by
  unfold rF at h ⊢
  split
  ·rename_i h0
   rw [if_pos h0] at h
   exact uw h
  ·rename_i h0
   rw [if_neg h0] at h
   exact absurd h h0
theorem BH {l:List Lk} {i:Nat} {x:Lk} (h:l[i]?=some x):G9 (l.drop i)=x.L++G9 (l.drop (i+1)):=by
 obtain ⟨hi,hx⟩:=Jo h
 unfold G9
 rw [List.drop_eq_getElem_cons hi,hx]
 rfl
theorem yN {σ0:cP} {l:Nat} (ls:List Lk) (hok:ux ls) (E:AL) (E':Int→Int→AL) (hy:∀e n,e≠0→AY Tryz.prog σ0 l [aP e,aP n] E fun c L=>c=cM false∧L=E' e n):
  Ah Tryz.prog σ0 213 [.sc (.func (.yield l) #[] #[]),.iptr [.imm 1 (ls.map I0)]] (G9 ls++E) fun _ L=>L=if (rF ls).1=0 then E else E' (rF ls).1 (rF ls).2:=by
 refine nJ Tryz.func213 rfl Tryz.ntmps213 rfl fun B hB=>?_
 repeat' (first|refine go ?_|refine am ?_|refine IG a6 EV ?_)
 refine cN 7 rfl rfl fun hlen=>?_
 rw [Jt] at hlen
 refine aO [0,7,8] (α:=Nat) (fun i=>[(9,aP i)]) (fun i=>i≤ls.length∧rF ls=rF (ls.drop i)∧ux (ls.drop i)) (fun i=>G9 (ls.drop i)++E) (fun i=>ls.length - i) 0 rfl ⟨rfl,trivial⟩ ⟨Nat.zero_le _,rfl,hok⟩ (fun _ _ h=>h) fun i ⟨hi,he,hok⟩=>?_
 try dsimp only [Jr,Jq,Jp,Jk]
 repeat' (first|refine go ?_|refine IG a6 EV ?_)
 refine au rfl (fun h=>?_) (fun h=>?_)
 ·have hil:i < ls.length:=by have:=Jy h;simp at this;omega
  obtain ⟨x,hx⟩:∃z,ls[i]?=some z:=⟨_,Jz hil⟩
  have hzg:=bA (c:=I0) hx
  obtain ⟨⟨hcf,hac⟩,hok⟩:=zh hx hok
  rw [BG hx] at he
  rw [BH hx]
  repeat' (first|refine go ?_|refine am ?_|refine IG a6 EV ?_|(apply aV;first|refine aU a6 ?_|refine aN a6 ?_)|fail)
  refine dx (cs:=[]) x.L (G9 (ls.drop (i+1))++E) (by simpa using hac) rfl rfl rfl (by rw [List.append_assoc]) rfl rfl fun c L1 hc=>?_
  subst hc
  refine aK (bM (List.sublist_append_right ..)) ?_
  unfold cE
  repeat' (first|refine go ?_|refine IG a6 EV ?_)
  by_cases h0:x.e=0
  ·rw [if_pos h0] at he
   rw [h0]
   repeat' (first|refine go ?_|refine IG a6 EV ?_|refine IT IC ?_|(apply aW;refine aT ?_)|refine bP rfl ?_)
   exact aB (i+1) rfl ⟨by rw [Jv];rfl,trivial⟩ ⟨by omega,he,hok h0⟩ (by omega) (fun _ _ h=>h)
  ·rw [if_neg h0] at he
   rw [show decide (x.e≠0)=true from decide_eq_true h0]
   repeat' (first|refine IG a6 EV ?_|refine IR EV ?_)
   refine aK (bM (List.sublist_append_right ..)) ?_
   refine lB E [] hB (hy x.e x.n h0) rfl rfl rfl (ck rfl) rfl rfl fun c L1 ⟨hc,hL⟩=>?_
   subst hc;subst hL
   rw [List.append_nil]
   repeat' (first|refine go ?_|refine IG a6 EV ?_|refine IR EV ?_|refine cf rfl ?_)
   refine xe rfl ?_
   rw [he,if_neg h0]
 ·have hil:i=ls.length:=by have:=Jx h;simp at this;omega
  subst hil
  rw [List.drop_length] at he ⊢
  repeat' (first|refine go ?_|fail)
  refine dB rfl ?_
  rw [he]
  rfl
theorem vO (l:List (List AV)):bZ Tryz.prog 156 [.imm 1 l] (.fn 213 [.iptr [.imm 1 l]]):=by
 refine aX Tryz.func156 rfl Tryz.ntmps156 rfl fun B=>?_
 repeat' (first|refine go ?_|refine IG a6 EV ?_|refine bD ?_|fail)
 exact IP IB
instance (l:List (List AV)):AD Tryz.prog 156 [.imm 1 l] (.fn 213 [.iptr [.imm 1 l]]):=⟨vO l⟩
theorem uP {p q:Nat×AB} {l l2:AL}:(p::q::(l++l2)).Perm (l++(p::q::l2)):=by
 have:=(List.perm_append_comm (l₁:=[p,q]) (l₂:=l)).append_right l2
 simpa using this
set_option maxHeartbeats 1000000 in
theorem jC (ls:List Lk) (hok:ux ls):AC Tryz.prog 113 [.imm 1 (ls.map I0)] (G9 ls) fun c _=>c=cE (rF ls):=by
 refine lX Tryz.func113 rfl Tryz.ntmps113 rfl fun B=>?_
 repeat' (first|refine go ?_|refine am ?_|refine IG a6 EV ?_|refine bc a6 fun _=>?_|(apply bB;refine bq ?_)|fail)
 rename_i b2 b3
 refine ib (ps:=[8,9]) rfl fun σ0 l db rec hrec=>?_
 have hy:∀e n:Int,e≠0→AY Tryz.prog σ0 l [aP e,aP n] ([(b3,.box [aP 0] 3),(b2,.box [aP 0] 44),(db,g8)]++[(l,fY rec)]) fun c L=>c=cM false∧L=[(b3,.box [aP n] 3),(b2,.box [aP e] 44),(db,g8)]++[(l,fY { ({ rec with state:= .busy }:Loop) with state:= .done,pending:=some .ret })]:=by
  intro e n he
  refine ox hrec rfl rfl fun B1 hB1=>?_
  repeat' (first|refine go ?_|refine IG a6 EV ?_)
  refine ic hrec.state ?_
  repeat' (first|refine go ?_|refine am ?_|refine IG a6 EV ?_|(apply aJ;first|refine IH a6 0 IE ?_|refine IH a6 1 IE ?_|refine IH a6 2 IE ?_|refine IH a6 3 IE ?_|fail))
  refine pE (L:=[(b3,.box [aP n] 3),(b2,.box [aP e] 44),(db,g8)]) ?_
  exact ⟨rfl,rfl⟩
 refine ⟨_,(yN ls hok _ _ hy).perm ?_,fun c L' hL'=>?_⟩
 ·simp only [List.append_assoc,Jr,Jq]
  exact uP
 ·by_cases h0:(rF ls).1=0
  ·rw [if_pos h0] at hL'
   subst hL'
   refine ⟨rec,_,Jn _,(by rw [hrec.state];intro h;cases h),?_⟩
   rw [hrec.pending]
   show AX _ _ _ _ _ _ _ _
   repeat' (first|refine go ?_|(apply aJ;first|refine IH a6 0 IE ?_|refine IH a6 1 IE ?_|refine IH a6 2 IE ?_|refine IH a6 3 IE ?_|fail))
   refine i8 (cs:=[aP 0,aP 0]) [db] [(b3,.box [aP 0] 3),(b2,.box [aP 0] 44)] rfl (Jn _) ?_ ?_
   ·exact ⟨⟨b2,1,_,_,rfl,rfl,.inl ⟨dk a6 rfl,rfl⟩⟩,⟨b3,0,_,_,rfl,rfl,.inl ⟨dk a6 rfl,rfl⟩⟩,trivial⟩
   ·have:rF ls=(0,0):=uw h0
    rw [this]
    rfl
  ·rw [if_neg h0] at hL'
   subst hL'
   refine ⟨_,_,Jn _,(by intro h;cases h),?_⟩
   show AX _ _ _ _ _ _ _ _
   repeat' (first|refine go ?_|fail)
   refine i8 (cs:=[aP (rF ls).1,aP (rF ls).2]) [db] [(b3,.box [aP (rF ls).2] 3),(b2,.box [aP (rF ls).1] 44)] rfl (Jn _) ?_ rfl
   exact ⟨⟨b2,1,_,_,rfl,rfl,.inl ⟨dk a6 rfl,rfl⟩⟩,⟨b3,0,_,_,rfl,rfl,.inl ⟨dk a6 rfl,rfl⟩⟩,trivial⟩
def eL (b:Bool) (e:Int):Int:=bif b then e else 0
theorem CP (b:Bool) (e:Int):bZ Tryz.prog 144 [cM b,aP e] (aP (eL b e)):=by
 refine aX Tryz.func144 rfl Tryz.ntmps144 rfl fun B=>?_
 repeat' (first|refine go ?_|refine IG a6 EV ?_)
 refine au rfl (fun h=>?_) (fun h=>?_)
 ·subst h
  repeat' (first|refine go ?_|refine IG a6 EV ?_)
  exact IP IB
 ·subst h
  repeat' (first|refine go ?_|refine IG a6 EV ?_)
  exact IP IB
instance (b:Bool) (e:Int):AD Tryz.prog 144 [cM b,aP e] (aP (eL b e)):=⟨CP b e⟩
def hQ (z:Int):Bool:=decide (-16384≤z∧z≤16384)
theorem sG (l:List Int):bZ Tryz.prog 145 [.imm 1 (aS l)] (cM (l.all hQ)):=by
 refine aX Tryz.func145 rfl Tryz.ntmps145 rfl fun B=>?_
 refine cN 0 rfl rfl fun hlen=>?_
 rw [aF] at hlen
 repeat' (first|refine go ?_|refine am ?_|refine IG a6 EV ?_)
 refine aO [5,6] (α:=Nat) (fun i=>[(7,aP i)]) (fun i=>i≤l.length∧(l.take i).all hQ=true) (fun _=>[]) (fun i=>l.length - i) 0 rfl ⟨rfl,trivial⟩ ⟨Nat.zero_le _,by simp⟩ (fun _ _ h=>h) fun i hi=>?_
 try dsimp only [Jr,Jq,Jp,Jk]
 repeat' (first|refine go ?_|refine IG a6 EV ?_)
 refine au rfl (fun h=>?_) (fun h=>?_)
 ·have hil:i < l.length:=by have:=Jy h;rw [aF] at this;omega
  obtain ⟨z,hz⟩:∃z,l[i]?=some z:=⟨_,Jz hil⟩
  have hzg:=bQ hz
  repeat' (first|refine go ?_|refine am ?_|refine IG a6 EV ?_|(apply aV;first|refine aU a6 ?_|refine aN a6 ?_)|fail)
  refine ej [5,6,7] (hQ z=false) rfl (fun Q' K=>?_) (fun hC=>?_) (fun hC=>?_)
  ·repeat' (first|refine go ?_|refine IG a6 EV ?_|refine IR EV ?_|refine IT IC ?_|refine bF rfl rfl rfl (fun _=>?_) (fun _=>?_))
   all_goals exact K _ _ rfl rfl (by unfold hQ;simp_all <;> omega)
  ·repeat' (first|refine go ?_|refine IG a6 EV ?_)
   refine IM EV ?_
   rw [show l.all hQ=false by
    rw [List.all_eq_false]
    exact ⟨z,Jw hz,by simp [hC]⟩]
  ·repeat' (first|refine go ?_|refine IG a6 EV ?_|(apply aW;refine aT ?_)|fail)
   refine aB (i+1) rfl ⟨by rw [Jv];rfl,trivial⟩ ⟨by omega,?_⟩ (by omega) (fun _ _ h=>h)
   rw [List.take_add_one,hz,List.all_append,hi.2]
   simpa using hC
 ·have hil:i=l.length:=by have:=Jx h;rw [aF] at this;omega
  subst hil
  rw [List.take_length] at hi
  repeat' (first|refine go ?_|refine IG a6 EV ?_)
  refine IM EV ?_
  rw [hi.2]
instance (x:Int):AD Tryz.prog 145 [.imm 1 [[aP x]]] (cM ([x].all hQ)):=⟨sG [x]⟩
instance (x y:Int):AD Tryz.prog 145 [.imm 1 [[aP x],[aP y]]] (cM ([x,y].all hQ)):=⟨sG [x,y]⟩
instance (x y z:Int):AD Tryz.prog 145 [.imm 1 [[aP x],[aP y],[aP z]]] (cM ([x,y,z].all hQ)):=⟨sG [x,y,z]⟩
def jk (f:aL) (n:Int):Bool:=decide (0≤n∧n < f.Glyphs.length)
theorem ut (f:aL) (n:Int):bZ Tryz.prog 164 [cr f,aP n] (cM (jk f n)):=by
 refine aX Tryz.func164 rfl Tryz.ntmps164 rfl fun B=>?_
 repeat' (first|refine go ?_|refine IG a6 EV ?_|refine bD ?_|fail)
 refine dH (t:=4) [] (jk f n=true) rfl (fun Q' K=>?_) ?_
 ·repeat' (first|refine go ?_|refine IG a6 EV ?_|refine IR EV ?_|refine IT IC ?_|refine bF rfl rfl rfl (fun _=>?_) (fun _=>?_))
  all_goals exact K _ _ rfl rfl (by unfold jk;simp_all <;> omega)
 repeat' (first|refine go ?_|fail)
 refine IM EV ?_
 simp
instance (f:aL) (n:Int):AD Tryz.prog 164 [cr f,aP n] (cM (jk f n)):=⟨ut f n⟩
def pS (right taken:Bool):Int:=bif right then (bif taken then 24 else 0) else 23
theorem qZ (a b:Bool):bZ Tryz.prog 119 [cM a,cM b] (aP (pS a b)):=by
 refine aX Tryz.func119 rfl Tryz.ntmps119 rfl fun B=>?_
 repeat' (first|refine go ?_|refine am ?_|refine IG a6 EV ?_)
 refine au rfl (fun h=>?_) (fun h=>?_)
 ·repeat' (first|refine go ?_|refine IG a6 EV ?_)
  refine IM EV ?_
  cases a with
  | true=>cases h
  | false=>rfl
 ·repeat' (first|refine go ?_|refine IG a6 EV ?_)
  have ha:a=true:=by cases a with
   | true=>rfl
   | false=>cases h
  subst ha
  refine au rfl (fun h=>?_) (fun h=>?_)
  ·subst h
   repeat' (first|refine go ?_|refine IG a6 EV ?_)
   exact IP IB
  ·subst h
   repeat' (first|refine go ?_|refine IG a6 EV ?_)
   exact IP IB
instance (a b:Bool):AD Tryz.prog 119 [cM a,cM b] (aP (pS a b)):=⟨qZ a b⟩
def oI (c:Int):Bool:=decide ((65≤c∧c≤90)∨(97≤c∧c≤122))
abbrev U8 (c:Int):AV:= .sc (.int .u8 c)
theorem sw (c:Int):bZ Tryz.prog 170 [U8 c] (cM (oI c)):=by
 refine aX Tryz.func170 rfl Tryz.ntmps170 rfl fun B=>?_
 repeat' (first|refine go ?_|refine IG a6 EV ?_)
 refine dH (t:=2) [] (oI c=true) rfl (fun Q' K=>?_) ?_
 ·repeat' (first|refine go ?_|refine IG a6 EV ?_|refine IR EV ?_|refine IT IC ?_|refine dW rfl rfl rfl ?_|refine bF rfl rfl rfl (fun _=>?_) (fun _=>?_))
  all_goals exact K _ _ rfl rfl (by unfold oI;simp_all <;> omega)
 repeat' (first|refine go ?_|fail)
 refine IM EV ?_
 simp
instance (c:Int):AD Tryz.prog 170 [U8 c] (cM (oI c)):=⟨sw c⟩
section
variable {P:Program} {tt:TT} {r:Option Nat} {ops:Array Oper} {Q:Exit→Act→World→Prop} {nt:Nat} {D:List Deferred} {fr:cw} {B:Bs} {L:AL} {rest:List Oper} {d:Nat} {ty t:TypeId} {pos:String} {af:Array Edge} {x y z:Operand}
theorem xH (ok:f6 P tt) {s:ByteArray} {k:IntKind} {i:Int} {c:UInt8} {ti:TI} (ht:dZ tt t=some ti) (hk:ti.k= .str) (hx:bU fr x=some (.sc (.string s))) (hy:bU fr y=some (.sc (.int k i))) (h0:0≤i) (hu:s[i.toNat]?=some c) (hd:Nat.ble nt d=false) (h:cg P r ops Q nt D rest ((d,U8 c.toNat)::fr) B L):cg P r ops Q nt D (⟨some d,.index t x y,ty,pos,af,none⟩::rest) fr B L:=dT (vk (ok.str ht hk) hx hy h0 hu) hd rfl h
end
def nP (s:ByteArray) (i:Nat):Int:=match s[i]? with | some c=>c.toNat | none=>0
theorem pI {s:ByteArray} {i:Nat} {c:UInt8} (h:s[i]?=some c):nP s i=c.toNat:=by unfold nP;rw [h]
def tA (n:Nat) (p:Nat→Bool):Bool:=(List.range n).all p
theorem nK {n:Nat} {p:Nat→Bool}:tA n p=true↔∀i,i < n→p i=true:=by simp [tA]
theorem ov {n:Nat} {p:Nat→Bool} {i:Nat} (hi:i < n) (h:p i=false):tA n p=false:=by
 rw [Bool.eq_false_iff]
 intro hh
 rw [nK.1 hh i hi] at h
 cases h
theorem y4 {s:ByteArray} {i:Nat} (h:i < s.size):∃c,s[i]?=some c:=⟨s[i],by simp [h]⟩
def gu (s:ByteArray):Bool:=decide (1≤s.size∧s.size≤8) && tA s.size fun i=>oI (nP s i)
theorem qY (s:ByteArray):bZ Tryz.prog 132 [gW s] (cM (gu s)):=by
 refine aX Tryz.func132 rfl Tryz.ntmps132 rfl fun B=>?_
 repeat' (first|refine go ?_|refine IG a6 EV ?_)
 refine ej [0] (¬(1≤s.size∧s.size≤8)) rfl (fun Q' K=>?_) (fun hC=>?_) (fun hC=>?_)
 ·repeat' (first|refine go ?_|refine IG a6 EV ?_|refine IR EV ?_|refine IT IC ?_|refine bF rfl rfl rfl (fun _=>?_) (fun _=>?_))
  all_goals exact K _ _ rfl rfl (by simp_all <;> omega)
 ·repeat' (first|refine go ?_|refine IG a6 EV ?_)
  refine IM EV ?_
  unfold gu
  rw [decide_eq_false hC]
  rfl
 have hC:=Decidable.not_not.1 hC
 repeat' (first|refine go ?_|refine am ?_|refine IG a6 EV ?_)
 refine aO [0,13] (α:=Nat) (fun i=>[(14,aP i)]) (fun i=>i≤s.size∧∀j,j < i→oI (nP s j)=true) (fun _=>[]) (fun i=>s.size - i) 0 rfl ⟨rfl,trivial⟩ ⟨Nat.zero_le _,fun j hj=>absurd hj (Nat.not_lt_zero _)⟩ (fun _ _ h=>h) fun i hi=>?_
 try dsimp only [Jr,Jq,Jp,Jk]
 repeat' (first|refine go ?_|refine IG a6 EV ?_)
 refine au rfl (fun h=>?_) (fun h=>?_)
 ·have hil:i < s.size:=by have:=Jy h;omega
  obtain ⟨c,hc⟩:=y4 hil
  have hb:=pI hc
  repeat' (first|refine go ?_|refine am ?_|refine IG a6 EV ?_)
  refine xH a6 rfl rfl rfl rfl (by omega) (by rw [Int.toNat_natCast];exact hc) rfl ?_
  repeat' (first|refine go ?_|refine IG a6 EV ?_|(apply bB;refine bq ?_)|fail)
  refine au rfl (fun h2=>?_) (fun h2=>?_)
  ·repeat' (first|refine go ?_|refine IG a6 EV ?_)
   refine IM EV ?_
   unfold gu
   rw [ov hil (by rw [hb];simpa using h2),Bool.and_false]
  ·repeat' (first|refine go ?_|refine IG a6 EV ?_|(apply aW;refine aT ?_)|fail)
   refine aB (i+1) rfl ⟨by rw [Jv];rfl,trivial⟩ ⟨by omega,fun j hj=>?_⟩ (by omega) (fun _ _ h=>h)
   by_cases e:j=i
   ·subst e;rw [hb];simpa using h2
   ·exact hi.2 j (by omega)
 ·have hil:i=s.size:=by have:=Jx h;omega
  subst hil
  repeat' (first|refine go ?_|refine IG a6 EV ?_)
  refine IM EV ?_
  unfold gu
  rw [decide_eq_true hC,nK.2 hi.2]
  rfl
instance (s:ByteArray):AD Tryz.prog 132 [gW s] (cM (gu s)):=⟨qY s⟩
def sI (i:Nat) (c:Int):Bool:=decide ((oI c=true∨c=95∨c=46)∨(0 < i∧((48≤c∧c≤57)∨c=45)))
def jl (s:ByteArray):Bool:=decide (1≤s.size∧s.size≤16) && tA s.size fun i=>sI i (nP s i)
set_option maxHeartbeats 1000000 in
theorem w8 (s:ByteArray):bZ Tryz.prog 120 [gW s] (cM (jl s)):=by
 refine aX Tryz.func120 rfl Tryz.ntmps120 rfl fun B=>?_
 repeat' (first|refine go ?_|refine IG a6 EV ?_)
 refine ej [0] (¬(1≤s.size∧s.size≤16)) rfl (fun Q' K=>?_) (fun hC=>?_) (fun hC=>?_)
 ·repeat' (first|refine go ?_|refine IG a6 EV ?_|refine IR EV ?_|refine IT IC ?_|refine bF rfl rfl rfl (fun _=>?_) (fun _=>?_))
  all_goals exact K _ _ rfl rfl (by simp_all <;> omega)
 ·repeat' (first|refine go ?_|refine IG a6 EV ?_)
  refine IM EV ?_
  unfold jl
  rw [decide_eq_false hC]
  rfl
 have hC:=Decidable.not_not.1 hC
 repeat' (first|refine go ?_|refine am ?_|refine IG a6 EV ?_)
 refine aO [0,16] (α:=Nat) (fun i=>[(17,aP i)]) (fun i=>i≤s.size∧∀j,j < i→sI j (nP s j)=true) (fun _=>[]) (fun i=>s.size - i) 0 rfl ⟨rfl,trivial⟩ ⟨Nat.zero_le _,fun j hj=>absurd hj (Nat.not_lt_zero _)⟩ (fun _ _ h=>h) fun i hi=>?_
 try dsimp only [Jr,Jq,Jp,Jk]
 repeat' (first|refine go ?_|refine IG a6 EV ?_)
 refine au rfl (fun h=>?_) (fun h=>?_)
 ·have hil:i < s.size:=by have:=Jy h;omega
  obtain ⟨c,hc⟩:=y4 hil
  have hb:=pI hc
  repeat' (first|refine go ?_|refine am ?_|refine IG a6 EV ?_)
  refine xH a6 rfl rfl rfl rfl (by omega) (by rw [Int.toNat_natCast];exact hc) rfl ?_
  generalize (c.toNat:Int)=z at *
  repeat' (first|refine go ?_|refine IG a6 EV ?_|(apply bB;refine bq ?_)|fail)
  refine dH (t:=5) [0,3,4,16,17] (oI z=true∨z=95∨z=46) rfl (fun Q' K=>?_) ?_
  ·clear hi hb hc h
   repeat' (first|refine go ?_|refine IG a6 EV ?_|refine IR EV ?_|refine IT IC ?_|refine bF rfl rfl rfl (fun _=>?_) (fun _=>?_))
   all_goals exact K _ _ rfl rfl (by simp_all)
  repeat' (first|refine go ?_|refine IG a6 EV ?_)
  refine dH (t:=6) [0,5,16,17] (0 < i∧((48≤z∧z≤57)∨z=45)) rfl (fun Q' K=>?_) ?_
  ·clear hi hb hc h
   repeat' (first|refine go ?_|refine IG a6 EV ?_|refine IR EV ?_|refine IT IC ?_|refine dW rfl rfl rfl ?_|refine bF rfl rfl rfl (fun _=>?_) (fun _=>?_))
   all_goals exact K _ _ rfl rfl (by simp_all <;> omega)
  repeat' (first|refine go ?_|refine IG a6 EV ?_)
  refine ej [0,16,17] (sI i z=false) rfl (fun Q' K=>?_) (fun h2=>?_) (fun h2=>?_)
  ·clear hi hb hc h
   repeat' (first|refine go ?_|refine IG a6 EV ?_|refine IR EV ?_|refine IT IC ?_|refine bF rfl rfl rfl (fun _=>?_) (fun _=>?_))
   all_goals exact K _ _ rfl rfl (by clear K;unfold sI;grind)
  ·repeat' (first|refine go ?_|refine IG a6 EV ?_)
   refine IM EV ?_
   unfold jl
   rw [ov hil (by rw [hb];exact h2),Bool.and_false]
  ·repeat' (first|refine go ?_|refine IG a6 EV ?_|(apply aW;refine aT ?_)|fail)
   refine aB (i+1) rfl ⟨by rw [Jv];rfl,trivial⟩ ⟨by omega,fun j hj=>?_⟩ (by omega) (fun _ _ h=>h)
   by_cases e:j=i
   ·subst e;rw [hb];simpa using h2
   ·exact hi.2 j (by omega)
 ·have hil:i=s.size:=by have:=Jx h;omega
  subst hil
  repeat' (first|refine go ?_|refine IG a6 EV ?_)
  refine IM EV ?_
  unfold jl
  rw [decide_eq_true hC,nK.2 hi.2]
  rfl
instance (s:ByteArray):AD Tryz.prog 120 [gW s] (cM (jl s)):=⟨w8 s⟩
end Go.Proofs.YtjjpkibjffmceaaGreat
namespace Go.Proofs.YtjjpkibjffmceaaGreat
open Go.RowKit
attribute [local irreducible] AT cg AX AO Av Kt bJ eC DA du
def gH {α:Type} (l:List α) (w:Nat→α→Int) (i:Nat):Int:=match l[i]? with | some x=>w i x | none=>0
def dM {α:Type} (l:List α) (w:Nat→α→Int):Int×Int:=eg (gH l w) l.length
def dq {α:Type} (most:Int) (l:List α) (w:Nat→α→Int):Int×Int:=dY most (gH l w) l.length
theorem iM {α:Type} {l:List α} {w:Nat→α→Int} {i:Nat} {x:α} (h:l[i]?=some x):gH l w i=w i x:=by unfold gH;rw [h]
theorem dV {α:Type} {P:Program} {g:FuncId} {caps:List AV} {l:List α} {el:α→AV} {w:Nat→α→Int} (h:∀(i:Nat) x,l[i]?=some x→bZ P g ([aP i,el x]++caps) (aP (w i x))):∀(i:Nat) x (L:AL),l[i]?=some x→True→AC P g ([aP i,el x]++caps) L fun c _=>c=aP (gH l w i)∧(gH l w i=0→True):=by
 intro i x L hx _
 rw [iM hx]
 exact ((h i x hx).any L).mono fun c L' ⟨h1,_⟩=>⟨h1,fun _=>trivial⟩
theorem nC {α:Type} {P:Program} {g:FuncId} {caps:List AV} {l:List α} {el:α→AV} {w:Nat→α→Int} {L0:AL} (h:∀(i:Nat) x,l[i]?=some x→AC P g ([aP i,el x]++caps) L0 fun c L'=>c=aP (w i x)∧L'=L0):∀(i:Nat) x (L:AL),l[i]?=some x→L=L0→AC P g ([aP i,el x]++caps) L fun c L'=>c=aP (gH l w i)∧(gH l w i=0→L'=L0):=by
 intro i x L hx hL
 subst hL
 rw [iM hx]
 exact (h i x hx).mono fun c L' ⟨h1,h2⟩=>⟨h1,fun _=>h2⟩
theorem wT (n:Int):bZ Tryz.prog 250 [aP n] (cM (hQ n)):=by
 refine aX Tryz.func250 rfl Tryz.ntmps250 rfl fun B=>?_
 repeat' (first|refine go ?_|refine IG a6 EV ?_)
 refine dH (t:=2) [] (hQ n=true) rfl (fun Q' K=>?_) ?_
 ·repeat' (first|refine go ?_|refine IG a6 EV ?_|refine IR EV ?_|refine IT IC ?_|refine bF rfl rfl rfl (fun _=>?_) (fun _=>?_))
  all_goals exact K _ _ rfl rfl (by clear K;unfold hQ;grind)
 repeat' (first|refine go ?_|fail)
 refine IM EV ?_
 simp
instance (n:Int):AD Tryz.prog 250 [aP n] (cM (hQ n)):=⟨wT n⟩
def fH (n:Int):Int→List Int→Bool
 | last,[]=>decide (last=n - 1)
 | last,e::r=>if e≥n∨e < last+2 then false else fH n e r
def uR (p:eU):Bool:=hQ p.X && hQ p.Y
def jP (pts:List eU) (ends:List Int):Bool:=decide (pts.length≤200∧ends.length≤40) && (pts.all uR && fH pts.length (-1) ends)
theorem u4 {n last:Int} {l:List Int} {i:Nat} {e:Int} (h:l[i]?=some e):fH n last (l.drop i)=if e≥n∨e < last+2 then false else fH n e (l.drop (i+1)):=by
 obtain ⟨hi,hx⟩:=Jo h
 rw [List.drop_eq_getElem_cons hi,hx]
 rfl
set_option maxHeartbeats 1000000 in
theorem sN (pts:List eU) (ends:List Int):bZ Tryz.prog 216 [.agg [.imm 3 (pts.map dC),.imm 1 (aS ends)]] (cM (jP pts ends)):=by
 refine aX Tryz.func216 rfl Tryz.ntmps216 rfl fun B=>?_
 repeat' (first|refine go ?_|refine IG a6 EV ?_|refine bD ?_|fail)
 refine ej [1] (¬(pts.length≤200∧ends.length≤40)) rfl (fun Q' K=>?_) (fun hC=>?_) (fun hC=>?_)
 ·repeat' (first|refine go ?_|refine IG a6 EV ?_|refine IR EV ?_|refine IT IC ?_|refine bF rfl rfl rfl (fun _=>?_) (fun _=>?_))
  all_goals exact K _ _ rfl rfl (by clear K;simp_all [aF] <;> omega)
 ·repeat' (first|refine go ?_|refine IG a6 EV ?_)
  refine IM EV ?_
  unfold jP
  rw [decide_eq_false hC]
  rfl
 have hC:=Decidable.not_not.1 hC
 have hlm:(pts.map dC).length=pts.length:=Jt ..
 repeat' (first|refine go ?_|refine am ?_|refine IG a6 EV ?_)
 refine aO [1,19,20] (α:=Nat) (fun i=>[(21,aP i)]) (fun i=>i≤pts.length∧(pts.take i).all uR=true) (fun _=>[]) (fun i=>pts.length - i) 0 rfl ⟨rfl,trivial⟩ ⟨Nat.zero_le _,by simp⟩ (fun _ _ h=>h) fun i hi=>?_
 try dsimp only [Jr,Jq,Jp,Jk]
 repeat' (first|refine go ?_|refine IG a6 EV ?_)
 refine au rfl (fun h=>?_) (fun h=>?_)
 ·have hil:i < pts.length:=by have:=Jy h;simp at this;omega
  obtain ⟨z,hz⟩:∃z,pts[i]?=some z:=⟨_,Jz hil⟩
  have hzg:=bA (c:=dC) hz
  clear h
  repeat' (first|refine go ?_|refine am ?_|refine IG a6 EV ?_|(apply aV;first|refine aU a6 ?_|refine aN a6 ?_)|(apply aJ;first|refine II 4 a6 0 IF ?_|refine II 4 a6 1 IF ?_|refine II 4 a6 2 IF ?_|refine IH a6 0 IE ?_|refine IH a6 1 IE ?_|refine IH a6 2 IE ?_|refine IH a6 3 IE ?_|fail)|refine bc a6 fun _=>?_|(apply bB;refine bq ?_)|fail)
  refine ej [1,19,20,21] (uR z=false) rfl (fun Q' K=>?_) (fun h2=>?_) (fun h2=>?_)
  ·clear hi hzg
   repeat' (first|refine go ?_|refine IG a6 EV ?_|refine IR EV ?_|refine IT IC ?_|(apply bB;refine bq ?_)|refine bF rfl rfl rfl (fun _=>?_) (fun _=>?_))
   all_goals exact K _ _ rfl rfl (by clear K;unfold uR;simp_all)
  ·repeat' (first|refine go ?_|refine IG a6 EV ?_)
   refine IM EV ?_
   unfold jP
   rw [show pts.all uR=false by
    rw [List.all_eq_false]
    exact ⟨z,Jw hz,by simp [h2]⟩]
   simp
  ·repeat' (first|refine go ?_|refine IG a6 EV ?_|(apply aW;refine aT ?_)|fail)
   refine aB (i+1) rfl ⟨by rw [Jv];rfl,trivial⟩ ⟨by omega,?_⟩ (by omega) (fun _ _ h=>h)
   rw [List.take_add_one,hz,List.all_append,hi.2]
   simpa using h2
 have hil:i=pts.length:=by have:=Jx h;simp at this;omega
 subst hil
 rw [List.take_length] at hi
 have hall:=hi.2
 clear hi h
 have hval:jP pts ends=fH pts.length (-1) ends:=by
  unfold jP
  rw [decide_eq_true hC,hall]
  rfl
 rw [hval]
 repeat' (first|refine go ?_|refine am ?_|refine IG a6 EV ?_)
 refine aO [1,37,38] (α:=Nat×Int) (fun x=>[(39,aP x.1),(5,aP x.2)]) (fun x=>x.1≤ends.length∧-1≤x.2∧x.2≤1000∧fH pts.length (-1) ends=fH pts.length x.2 (ends.drop x.1)) (fun _=>[]) (fun x=>ends.length - x.1) (0,-1) rfl ⟨rfl,rfl,trivial⟩ ⟨Nat.zero_le _,by decide,by decide,rfl⟩ (fun _ _ h=>h) ?_
 rintro ⟨i,last⟩ ⟨hi,hl0,hl1,he⟩
 dsimp only at hi hl0 hl1 he ⊢
 try dsimp only [Jr,Jq,Jp,Jk]
 repeat' (first|refine go ?_|refine IG a6 EV ?_)
 refine au rfl (fun h=>?_) (fun h=>?_)
 ·have hil:i < ends.length:=by have:=Jy h;simp [aF] at this;omega
  obtain ⟨z,hz⟩:∃z,ends[i]?=some z:=⟨_,Jz hil⟩
  have hzg:=bQ hz
  rw [u4 hz] at he
  clear h
  repeat' (first|refine go ?_|refine am ?_|refine IG a6 EV ?_|(apply aV;first|refine aU a6 ?_|refine aN a6 ?_)|fail)
  refine ej [1,7,37,38,39] (z≥pts.length∨z < last+2) rfl (fun Q' K=>?_) (fun h2=>?_) (fun h2=>?_)
  ·clear hi hzg he hval
   repeat' (first|refine go ?_|refine IG a6 EV ?_|refine IR EV ?_|refine IT IC ?_|(apply aW;refine aT ?_)|refine bF rfl rfl rfl (fun _=>?_) (fun _=>?_))
   all_goals exact K _ _ rfl rfl (by clear K;simp_all <;> omega)
  ·rw [if_pos h2] at he
   repeat' (first|refine go ?_|refine IG a6 EV ?_)
   refine IM EV ?_
   rw [he]
  ·rw [if_neg h2] at he
   repeat' (first|refine go ?_|refine IG a6 EV ?_|(apply aW;refine aT ?_)|fail)
   exact aB (i+1,z) rfl ⟨by rw [Jv];rfl,rfl,trivial⟩ ⟨by dsimp only;omega,by dsimp only;omega,by dsimp only;omega,he⟩ (by dsimp only;omega) (fun _ _ h=>h)
 ·have hil:i=ends.length:=by have:=Jx h;simp [aF] at this;omega
  subst hil
  rw [List.drop_length] at he
  repeat' (first|refine go ?_|refine IG a6 EV ?_|(apply aW;refine aT ?_)|fail)
  refine IM EV ?_
  rw [he]
  simp [fH]
def HN (_:Nat) (p:eU):Int:=eL (!([p.X,p.Y].all hQ)) 30
theorem wG (i:Nat) (p:eU):bZ Tryz.prog 215 [aP i,.agg (dC p)] (aP (HN i p)):=by
 refine aX Tryz.func215 rfl Tryz.ntmps215 rfl fun B=>?_
 repeat' (first|refine go ?_|refine IG a6 EV ?_|refine bD ?_|refine bG a6 ?_|(apply bB;refine bq ?_)|fail)
 exact IP IB
def ky (g:bL):Int:=if g.Advance < 0∨g.Advance > 16384 then 1 else if g.Points.length > 200∨g.Ends.length > 40 then 2 else if (dM g.Points HN).1≠0 then (dM g.Points HN).1 else eL (!(jP g.Points g.Ends)) 31
theorem A5 (g:bL):bZ Tryz.prog 161 [.agg (bh g)] (aP (ky g)):=by
 refine aX Tryz.func161 rfl Tryz.ntmps161 rfl fun B=>?_
 unfold ky
 repeat' (first|refine go ?_|refine am ?_|refine IG a6 EV ?_|refine bD ?_|fail)
 refine ej [1] (g.Advance < 0∨g.Advance > 16384) rfl (fun Q' K=>?_) (fun hC=>?_) (fun hC=>?_)
 ·repeat' (first|refine go ?_|refine IG a6 EV ?_|refine IR EV ?_|refine IT IC ?_|refine bF rfl rfl rfl (fun _=>?_) (fun _=>?_))
  all_goals exact K _ _ rfl rfl (by clear K;grind)
 ·rw [if_pos hC]
  repeat' (first|refine go ?_|refine IG a6 EV ?_)
  exact IP IB
 rw [if_neg hC]
 repeat' (first|refine go ?_|refine IG a6 EV ?_)
 refine ej [1] (g.Points.length > 200∨g.Ends.length > 40) rfl (fun Q' K=>?_) (fun hC=>?_) (fun hC=>?_)
 ·repeat' (first|refine go ?_|refine IG a6 EV ?_|refine IR EV ?_|refine IT IC ?_|refine bF rfl rfl rfl (fun _=>?_) (fun _=>?_))
  all_goals exact K _ _ rfl rfl (by clear K;simp_all [aF] <;> omega)
 ·rw [if_pos hC]
  repeat' (first|refine go ?_|refine IG a6 EV ?_)
  exact IP IB
 rw [if_neg hC]
 repeat' (first|refine go ?_|refine IG a6 EV ?_)
 refine bn [] [] (DL (u:= .sc (.func (.func 215) #[] #[])) (g:=215) (caps:=[]) rfl g.Points _ (fun _ _=>True) [] trivial (dV (fun i x _=>wG i x))) rfl rfl (Jn _) rfl fun c L1 hc=>?_
 have hc:c=cE (dM g.Points HN):=hc
 subst hc
 unfold cE
 repeat' (first|refine go ?_|refine IG a6 EV ?_)
 refine au rfl (fun h=>?_) (fun h=>?_)
 ·rw [if_pos (Jy h)]
  repeat' (first|refine go ?_|refine IG a6 EV ?_)
  exact IP IB
 ·rw [if_neg (Jx h)]
  repeat' (first|refine go ?_|refine IG a6 EV ?_)
  refine bq (hc:=⟨sN g.Points g.Ends⟩) ?_
  repeat' (first|refine go ?_|refine IG a6 EV ?_|(apply bB;refine bq ?_)|fail)
  exact IP IB
instance (g:bL):AD Tryz.prog 161 [.agg (bh g)] (aP (ky g)):=⟨A5 g⟩
end Go.Proofs.YtjjpkibjffmceaaGreat
namespace Go.Proofs.YtjjpkibjffmceaaGreat
open Go.RowKit
attribute [local irreducible] AT cg AX AO Av Kt bJ eC DA du
open Go.MapKept
def E6 (_:Nat) (i:ep):Int:=if i.Op < 1∨i.Op > 39 then 50 else if i.A < -999999999∨i.A > 999999999 then 3 else 0
theorem sR (n:Nat) (i:ep):bZ Tryz.prog 199 [aP n,.agg (ea i)] (aP (E6 n i)):=by
 refine aX Tryz.func199 rfl Tryz.ntmps199 rfl fun B=>?_
 unfold E6
 repeat' (first|refine go ?_|refine am ?_|refine IG a6 EV ?_|refine bD ?_|fail)
 refine ej [3] (i.Op < 1∨i.Op > 39) rfl (fun Q' K=>?_) (fun hC=>?_) (fun hC=>?_)
 ·repeat' (first|refine go ?_|refine IG a6 EV ?_|refine IR EV ?_|refine IT IC ?_|refine bF rfl rfl rfl (fun _=>?_) (fun _=>?_))
  all_goals exact K _ _ rfl rfl (by clear K;grind)
 ·rw [if_pos hC]
  repeat' (first|refine go ?_|refine IG a6 EV ?_)
  exact IP IB
 rw [if_neg hC]
 repeat' (first|refine go ?_|refine IG a6 EV ?_)
 refine ej [] (i.A < -999999999∨i.A > 999999999) rfl (fun Q' K=>?_) (fun hC=>?_) (fun hC=>?_)
 ·repeat' (first|refine go ?_|refine IG a6 EV ?_|refine IR EV ?_|refine IT IC ?_|refine bF rfl rfl rfl (fun _=>?_) (fun _=>?_))
  all_goals exact K _ _ rfl rfl (by clear K;grind)
 ·rw [if_pos hC]
  repeat' (first|refine go ?_|refine IG a6 EV ?_)
  exact IP IB
 rw [if_neg hC]
 repeat' (first|refine go ?_|refine IG a6 EV ?_)
 exact IP IB
def qp (l:List ep):Int:=(dq 200 l E6).1
theorem uQ (l:List ep):bZ Tryz.prog 141 [.imm 2 (l.map ea)] (aP (qp l)):=by
 refine aX Tryz.func141 rfl Tryz.ntmps141 rfl fun B=>?_
 repeat' (first|refine go ?_|refine IG a6 EV ?_|(apply bB;refine bq ?_)|fail)
 refine dx (f:=242) (cs:=[]) [] [] (EK (g:=199) (caps:=[]) rfl l 200 _ (fun _ _=>True) [] trivial (fun _=>dV fun i x _=>sR i x)) rfl rfl rfl (Jn _) rfl rfl fun c L1 hc=>?_
 have hc:c=cE (dq 200 l E6):=hc
 subst hc
 unfold cE
 repeat' (first|refine go ?_|refine IG a6 EV ?_)
 exact IP IB
instance (l:List ep):AD Tryz.prog 141 [.imm 2 (l.map ea)] (aP (qp l)):=⟨uQ l⟩
def oQ (f:aL) (_:Nat) (p:cD):Int:=if jk f p.Glyph=false then 32 else eL (!([p.X,p.Y].all hQ)) 30
theorem vV (f:aL) (n:Nat) (p:cD):bZ Tryz.prog 163 [aP n,.agg (ct p),.iptr (ci f)] (aP (oQ f n p)):=by
 refine aX Tryz.func163 rfl Tryz.ntmps163 rfl fun B=>?_
 unfold oQ
 repeat' (first|refine go ?_|refine IG a6 EV ?_|refine bD ?_|(apply bB;refine bq ?_)|fail)
 refine au rfl (fun h=>?_) (fun h=>?_)
 ·rw [if_pos (by simpa using h)]
  repeat' (first|refine go ?_|refine IG a6 EV ?_)
  exact IP IB
 ·rw [if_neg (by simpa using h)]
  repeat' (first|refine go ?_|refine IG a6 EV ?_|refine bG a6 ?_|(apply bB;refine bq ?_)|fail)
  exact IP IB
def nL (g:bL) (i:Nat) (a:dv):Int:=if (a.Kind < 1∨a.Kind > 4)∨(a.Class < 0∨a.Class > 15)∨((a.Kind=3∨a.Kind=4)∧a.Class≠0)∨[a.X,a.Y].all hQ=false∨(a.Kind=2∧g.Mark=false)∨(∃b∈g.Anchors.take i,b.Kind=a.Kind∧b.Class=a.Class) then 35 else 0
def u3 (f:aL) (g:bL) (i:Nat) (d:dK):Int:=if d.Region < 0∨d.Region≥f.Regions.length then 61 else if (d.Point < -1∨d.Point≥g.Points.length)∨[d.X,d.Y].all hQ=false∨(d.Point= -1∧d.Y≠0) then 30 else if (match i with | 0=>false | j+1=>match g.Deltas[j]? with | some b=>decide (d.Region < b.Region∨(d.Region=b.Region∧d.Point≤b.Point)) | none=>false)=true then 24 else 0
theorem vn (b:Bool):AC Tryz.prog 166 [cM b] [] fun c L=>∃m,c= .fn 221 [.iptr [cM b],.iptr [.sc (.map (some m))]]∧L=[(m,iD fun _ _=>none)]:=by
 refine aX Tryz.func166 rfl Tryz.ntmps166 rfl fun B=>?_
 repeat' (first|refine go ?_|refine IG a6 EV ?_|refine bD ?_|fail)
 refine wi fun m=>?_
 repeat' (first|refine go ?_|refine IG a6 EV ?_|(apply aJ;first|refine II 3 a6 0 IF ?_|refine II 3 a6 1 IF ?_|refine II 3 a6 2 IF ?_|refine IH a6 0 IE ?_|refine IH a6 1 IE ?_|refine IH a6 2 IE ?_|refine IH a6 3 IE ?_|fail)|refine bc a6 fun _=>?_|fail)
 exact IM EV ⟨_,rfl,rfl⟩
theorem yJ (r p:Int):AC Tryz.prog 168 [aP r,aP p] [] fun c L=>∃b,c= .fn 224 [.iptr [aP r],.iptr [aP p],.sc (.pointer (some ⟨b,0,none⟩))]∧L=[(b,.box [aP 0,aP 0] 321)]:=by
 refine aX Tryz.func168 rfl Tryz.ntmps168 rfl fun B=>?_
 repeat' (first|refine go ?_|refine IG a6 EV ?_|refine bD ?_|refine bc a6 fun _=>?_|fail)
 exact IM EV ⟨_,rfl,rfl⟩
theorem vT (e:Int):bZ Tryz.prog 159 [.iptr [aP e]] (cE (e,0)):=by
 refine aX Tryz.func159 rfl Tryz.ntmps159 rfl fun B=>?_
 repeat' (first|refine go ?_|refine IG a6 EV ?_)
 exact bk rfl rfl rfl rfl
theorem vU (g:bL):bZ Tryz.prog 160 [.iptr (bh g)] (cE (ky g,0)):=by
 refine aX Tryz.func160 rfl Tryz.ntmps160 rfl fun B=>?_
 repeat' (first|refine go ?_|refine IG a6 EV ?_|(apply bB;refine bq ?_)|fail)
 exact bk rfl rfl rfl rfl
theorem vW (g:bL):bZ Tryz.prog 169 [.iptr (bh g)] (cE (qp g.Hint,0)):=by
 refine aX Tryz.func169 rfl Tryz.ntmps169 rfl fun B=>?_
 repeat' (first|refine go ?_|refine IG a6 EV ?_|(apply bB;refine bq ?_)|fail)
 exact bk rfl rfl rfl rfl
def gX (l:List (Int×Int)):Int×Int:=match l with
 | []=>(0,0)
 | x::r=>if x.1=0 then gX r else x
theorem kq:∀l:List Lk,rF l=gX (l.map fun x=>(x.e,x.n))
 | []=>rfl
 | x::r=>by simp only [rF,Jp,gX];rw [kq r]
def pX (f:aL) (g:bL) (name:Int):Int:=(gX [(name,0),(ky g,0),dq 8 g.Parts (oQ f),dq 16 g.Anchors (nL g),dq 400 g.Deltas (u3 f g),(qp g.Hint,0)]).1
end Go.Proofs.YtjjpkibjffmceaaGreat
