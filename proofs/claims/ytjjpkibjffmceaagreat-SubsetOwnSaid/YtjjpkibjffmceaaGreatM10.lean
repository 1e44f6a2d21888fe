/-
  The program: what the first look tells that finds something wrong.
-/
import Derived.Test.YtjjpkibjffmceaaGreatM09
import Derived.Test.YtjjpkibjffmceaaGreatM06
import Derived.Test.YtjjpkibjffmceaaGreatM08
namespace Go.Proofs.YtjjpkibjffmceaaGreat
open Go.RowKit
attribute [local irreducible] AT bW AX AO Av Kt bA eI DA dl
structure Lk where
 f:FuncId
 caps:List AV
 L:AL
 e:Int
 n:Int
def Lk.ok (x:Lk):Prop:=bN Tryz.prog x.f∧AC Tryz.prog x.f x.caps x.L fun c _=>c=cJ (x.e,x.n)
def rY:List Lk→Int×Int
 | []=>(0,0)
 | x::r=>if x.e=0 then rY r else (x.e,x.n)
def Fp (l:List Lk):AL:=(l.map Lk.L).flatten
def we:List Lk→Prop
 | []=>True
 | x::r=>x.ok∧(x.e=0→we r)
def Hb (x:Lk):List AV:=[.fn x.f x.caps]
theorem Bm {l:List Lk} {i:Nat} {x:Lk} (h:l[i]?=some x):rY (l.drop i)=if x.e=0 then rY (l.drop (i+1)) else (x.e,x.n):=by
 obtain ⟨hi,hx⟩:=Io h
 rw [List.drop_eq_getElem_cons hi,hx]
 rfl
theorem yC {l:List Lk} {i:Nat} {x:Lk} (h:l[i]?=some x) (hk:we (l.drop i)):x.ok∧(x.e=0→we (l.drop (i+1))):=by
 obtain ⟨hi,hx⟩:=Io h
 rw [List.drop_eq_getElem_cons hi,hx] at hk
 exact hk
theorem ux:∀{l:List Lk},(rY l).1=0→rY l=(0,0)
 | [],_=>rfl
 | x::r,h=>by
  unfold rY at h ⊢
  split
  ·rename_i h0
   rw [if_pos h0] at h
   exact ux h
  ·rename_i h0
   rw [if_neg h0] at h
   exact absurd h h0
theorem Bn {l:List Lk} {i:Nat} {x:Lk} (h:l[i]?=some x):Fp (l.drop i)=x.L++Fp (l.drop (i+1)):=by
 obtain ⟨hi,hx⟩:=Io h
 unfold Fp
 rw [List.drop_eq_getElem_cons hi,hx]
 rfl
theorem yh {σ0:ce} {l:Nat} (ls:List Lk) (hok:we ls) (E:AL) (E':Int→Int→AL) (hy:∀e n,e≠0→AY Tryz.prog σ0 l [aP e,aP n] E fun c L=>c=cx false∧L=E' e n):
  Cx Tryz.prog σ0 213 [.sc (.func (.yield l) #[] #[]),.iptr [.imm 1 (ls.map Hb)]] (Fp ls++E) fun _ L=>L=if (rY ls).1=0 then E else E' (rY ls).1 (rY ls).2:=by
 refine sv Tryz.func213 rfl Tryz.ntmps213 rfl fun B hB=>?_
 repeat' (first|refine go ?_|refine ak ?_|refine HK a6 FS ?_)
 refine cH 7 rfl rfl fun hlen=>?_
 rw [It] at hlen
 refine aJ [0,7,8] (α:=Nat) (fun i=>[(9,aP i)]) (fun i=>i≤ls.length∧rY ls=rY (ls.drop i)∧we (ls.drop i)) (fun i=>Fp (ls.drop i)++E) (fun i=>ls.length - i) 0 rfl ⟨rfl,trivial⟩ ⟨Nat.zero_le _,rfl,hok⟩ (fun _ _ h=>h) fun i ⟨hi,he,hok⟩=>?_
 try dsimp only [Ir,Iq,Ip,Ij]
 repeat' (first|refine go ?_|refine HK a6 FS ?_)
 refine ay rfl (fun h=>?_) (fun h=>?_)
 ·have hil:i < ls.length:=by have:=Iy h;simp at this;omega
  obtain ⟨x,hx⟩:∃z,ls[i]?=some z:=⟨_,Iz hil⟩
  have hzg:=bi (c:=Hb) hx
  obtain ⟨⟨hcf,hac⟩,hok⟩:=yC hx hok
  rw [Bm hx] at he
  rw [Bn hx]
  repeat' (first|refine go ?_|refine ak ?_|refine HK a6 FS ?_|(apply aU;first|refine aT a6 ?_|refine aM a6 ?_)|fail)
  refine dw (cs:=[]) x.L (Fp (ls.drop (i+1))++E) (by simpa using hac) rfl rfl rfl (by rw [List.append_assoc]) rfl rfl fun c L1 hc=>?_
  subst hc
  refine aO (ck (List.sublist_append_right ..)) ?_
  unfold cJ
  repeat' (first|refine go ?_|refine HK a6 FS ?_)
  by_cases h0:x.e=0
  ·rw [if_pos h0] at he
   rw [h0]
   repeat' (first|refine go ?_|refine HK a6 FS ?_|refine HW HF ?_|(apply aW;refine aV ?_)|refine bF rfl ?_)
   exact aB (i+1) rfl ⟨by rw [Iv];rfl,trivial⟩ ⟨by omega,he,hok h0⟩ (by omega) (fun _ _ h=>h)
  ·rw [if_neg h0] at he
   rw [show decide (x.e≠0)=true from decide_eq_true h0]
   repeat' (first|refine HK a6 FS ?_|refine HV FS ?_)
   refine aO (ck (List.sublist_append_right ..)) ?_
   refine pt E [] hB (hy x.e x.n h0) rfl rfl rfl (bR rfl) rfl rfl fun c L1 ⟨hc,hL⟩=>?_
   subst hc;subst hL
   rw [List.append_nil]
   repeat' (first|refine go ?_|refine HK a6 FS ?_|refine HV FS ?_|refine bP rfl ?_)
   refine CW rfl ?_
   rw [he,if_neg h0]
 ·have hil:i=ls.length:=by have:=Ix h;simp at this;omega
  subst hil
  rw [List.drop_length] at he ⊢
  repeat' (first|refine go ?_|fail)
  refine dY rfl ?_
  rw [he]
  rfl
theorem vR (l:List (List AV)):bV Tryz.prog 156 [.imm 1 l] (.fn 213 [.iptr [.imm 1 l]]):=by
 refine aS Tryz.func156 rfl Tryz.ntmps156 rfl fun B=>?_
 repeat' (first|refine go ?_|refine HK a6 FS ?_|refine bh ?_|fail)
 exact HT HE
instance (l:List (List AV)):AD Tryz.prog 156 [.imm 1 l] (.fn 213 [.iptr [.imm 1 l]]):=⟨vR l⟩
theorem BX {p q:Nat×AB} {l l2:AL}:(p::q::(l++l2)).Perm (l++(p::q::l2)):=by
 have:=(List.perm_append_comm (l₁:=[p,q]) (l₂:=l)).append_right l2
 simpa using this
set_option maxHeartbeats 1000000 in
theorem jw (ls:List Lk) (hok:we ls):AC Tryz.prog 113 [.imm 1 (ls.map Hb)] (Fp ls) fun c _=>c=cJ (rY ls):=by
 refine pC Tryz.func113 rfl Tryz.ntmps113 rfl fun B=>?_
 repeat' (first|refine go ?_|refine ak ?_|refine HK a6 FS ?_|refine aX a6 fun _=>?_|(apply bq;refine bg ?_)|fail)
 rename_i b2 b3
 refine kI (ps:=[8,9]) rfl fun σ0 l db rec hrec=>?_
 have hy:∀e n:Int,e≠0→AY Tryz.prog σ0 l [aP e,aP n] ([(b3,.box [aP 0] 3),(b2,.box [aP 0] 44),(db,iF)]++[(l,gZ rec)]) fun c L=>c=cx false∧L=[(b3,.box [aP n] 3),(b2,.box [aP e] 44),(db,iF)]++[(l,gZ { ({ rec with state:= .busy }:Loop) with state:= .done,pending:=some .ret })]:=by
  intro e n he
  refine tU hrec rfl rfl fun B1 hB1=>?_
  repeat' (first|refine go ?_|refine HK a6 FS ?_)
  refine kK hrec.state ?_
  repeat' (first|refine go ?_|refine ak ?_|refine HK a6 FS ?_|(apply aG;first|refine HM a6 0 HH ?_|refine HM a6 1 HH ?_|refine HM a6 2 HH ?_|refine HM a6 3 HH ?_|fail))
  refine vD (L:=[(b3,.box [aP n] 3),(b2,.box [aP e] 44),(db,iF)]) ?_
  exact ⟨rfl,rfl⟩
 refine ⟨_,(yh ls hok _ _ hy).perm ?_,fun c L' hL'=>?_⟩
 ·simp only [List.append_assoc,Ir,Iq]
  exact BX
 ·by_cases h0:(rY ls).1=0
  ·rw [if_pos h0] at hL'
   subst hL'
   refine ⟨rec,_,Im _,(by rw [hrec.state];intro h;cases h),?_⟩
   rw [hrec.pending]
   show AX _ _ _ _ _ _ _ _
   repeat' (first|refine go ?_|(apply aG;first|refine HM a6 0 HH ?_|refine HM a6 1 HH ?_|refine HM a6 2 HH ?_|refine HM a6 3 HH ?_|fail))
   refine jU (cs:=[aP 0,aP 0]) [db] [(b3,.box [aP 0] 3),(b2,.box [aP 0] 44)] rfl (Im _) ?_ ?_
   ·exact ⟨⟨b2,1,_,_,rfl,rfl,.inl ⟨dh a6 rfl,rfl⟩⟩,⟨b3,0,_,_,rfl,rfl,.inl ⟨dh a6 rfl,rfl⟩⟩,trivial⟩
   ·have:rY ls=(0,0):=ux h0
    rw [this]
    rfl
  ·rw [if_neg h0] at hL'
   subst hL'
   refine ⟨_,_,Im _,(by intro h;cases h),?_⟩
   show AX _ _ _ _ _ _ _ _
   repeat' (first|refine go ?_|fail)
   refine jU (cs:=[aP (rY ls).1,aP (rY ls).2]) [db] [(b3,.box [aP (rY ls).2] 3),(b2,.box [aP (rY ls).1] 44)] rfl (Im _) ?_ rfl
   exact ⟨⟨b2,1,_,_,rfl,rfl,.inl ⟨dh a6 rfl,rfl⟩⟩,⟨b3,0,_,_,rfl,rfl,.inl ⟨dh a6 rfl,rfl⟩⟩,trivial⟩
def eH (b:Bool) (e:Int):Int:=bif b then e else 0
theorem Cu (b:Bool) (e:Int):bV Tryz.prog 144 [cx b,aP e] (aP (eH b e)):=by
 refine aS Tryz.func144 rfl Tryz.ntmps144 rfl fun B=>?_
 repeat' (first|refine go ?_|refine HK a6 FS ?_)
 refine ay rfl (fun h=>?_) (fun h=>?_)
 ·subst h
  repeat' (first|refine go ?_|refine HK a6 FS ?_)
  exact HT HE
 ·subst h
  repeat' (first|refine go ?_|refine HK a6 FS ?_)
  exact HT HE
instance (b:Bool) (e:Int):AD Tryz.prog 144 [cx b,aP e] (aP (eH b e)):=⟨Cu b e⟩
def gG (z:Int):Bool:=decide (-16384≤z∧z≤16384)
theorem sZ (l:List Int):bV Tryz.prog 145 [.imm 1 (aZ l)] (cx (l.all gG)):=by
 refine aS Tryz.func145 rfl Tryz.ntmps145 rfl fun B=>?_
 refine cH 0 rfl rfl fun hlen=>?_
 rw [aQ] at hlen
 repeat' (first|refine go ?_|refine ak ?_|refine HK a6 FS ?_)
 refine aJ [5,6] (α:=Nat) (fun i=>[(7,aP i)]) (fun i=>i≤l.length∧(l.take i).all gG=true) (fun _=>[]) (fun i=>l.length - i) 0 rfl ⟨rfl,trivial⟩ ⟨Nat.zero_le _,by simp⟩ (fun _ _ h=>h) fun i hi=>?_
 try dsimp only [Ir,Iq,Ip,Ij]
 repeat' (first|refine go ?_|refine HK a6 FS ?_)
 refine ay rfl (fun h=>?_) (fun h=>?_)
 ·have hil:i < l.length:=by have:=Iy h;rw [aQ] at this;omega
  obtain ⟨z,hz⟩:∃z,l[i]?=some z:=⟨_,Iz hil⟩
  have hzg:=bT hz
  repeat' (first|refine go ?_|refine ak ?_|refine HK a6 FS ?_|(apply aU;first|refine aT a6 ?_|refine aM a6 ?_)|fail)
  refine eo [5,6,7] (gG z=false) rfl (fun Q' K=>?_) (fun hC=>?_) (fun hC=>?_)
  ·repeat' (first|refine go ?_|refine HK a6 FS ?_|refine HV FS ?_|refine HW HF ?_|refine bk rfl rfl rfl (fun _=>?_) (fun _=>?_))
   all_goals exact K _ _ rfl rfl (by unfold gG;simp_all <;> omega)
  ·repeat' (first|refine go ?_|refine HK a6 FS ?_)
   refine HS FS ?_
   rw [show l.all gG=false by
    rw [List.all_eq_false]
    exact ⟨z,Iw hz,by simp [hC]⟩]
  ·repeat' (first|refine go ?_|refine HK a6 FS ?_|(apply aW;refine aV ?_)|fail)
   refine aB (i+1) rfl ⟨by rw [Iv];rfl,trivial⟩ ⟨by omega,?_⟩ (by omega) (fun _ _ h=>h)
   rw [List.take_add_one,hz,List.all_append,hi.2]
   simpa using hC
 ·have hil:i=l.length:=by have:=Ix h;rw [aQ] at this;omega
  subst hil
  rw [List.take_length] at hi
  repeat' (first|refine go ?_|refine HK a6 FS ?_)
  refine HS FS ?_
  rw [hi.2]
instance (x:Int):AD Tryz.prog 145 [.imm 1 [[aP x]]] (cx ([x].all gG)):=⟨sZ [x]⟩
instance (x y:Int):AD Tryz.prog 145 [.imm 1 [[aP x],[aP y]]] (cx ([x,y].all gG)):=⟨sZ [x,y]⟩
instance (x y z:Int):AD Tryz.prog 145 [.imm 1 [[aP x],[aP y],[aP z]]] (cx ([x,y,z].all gG)):=⟨sZ [x,y,z]⟩
def l9 (f:aL) (n:Int):Bool:=decide (0≤n∧n < f.Glyphs.length)
theorem ut (f:aL) (n:Int):bV Tryz.prog 164 [cr f,aP n] (cx (l9 f n)):=by
 refine aS Tryz.func164 rfl Tryz.ntmps164 rfl fun B=>?_
 repeat' (first|refine go ?_|refine HK a6 FS ?_|refine bh ?_|fail)
 refine du (t:=4) [] (l9 f n=true) rfl (fun Q' K=>?_) ?_
 ·repeat' (first|refine go ?_|refine HK a6 FS ?_|refine HV FS ?_|refine HW HF ?_|refine bk rfl rfl rfl (fun _=>?_) (fun _=>?_))
  all_goals exact K _ _ rfl rfl (by unfold l9;simp_all <;> omega)
 repeat' (first|refine go ?_|fail)
 refine HS FS ?_
 simp
instance (f:aL) (n:Int):AD Tryz.prog 164 [cr f,aP n] (cx (l9 f n)):=⟨ut f n⟩
def kQ (right taken:Bool):Int:=bif right then (bif taken then 24 else 0) else 23
theorem ri (a b:Bool):bV Tryz.prog 119 [cx a,cx b] (aP (kQ a b)):=by
 refine aS Tryz.func119 rfl Tryz.ntmps119 rfl fun B=>?_
 repeat' (first|refine go ?_|refine ak ?_|refine HK a6 FS ?_)
 refine ay rfl (fun h=>?_) (fun h=>?_)
 ·repeat' (first|refine go ?_|refine HK a6 FS ?_)
  refine HS FS ?_
  cases a with
  | true=>cases h
  | false=>rfl
 ·repeat' (first|refine go ?_|refine HK a6 FS ?_)
  have ha:a=true:=by cases a with
   | true=>rfl
   | false=>cases h
  subst ha
  refine ay rfl (fun h=>?_) (fun h=>?_)
  ·subst h
   repeat' (first|refine go ?_|refine HK a6 FS ?_)
   exact HT HE
  ·subst h
   repeat' (first|refine go ?_|refine HK a6 FS ?_)
   exact HT HE
instance (a b:Bool):AD Tryz.prog 119 [cx a,cx b] (aP (kQ a b)):=⟨ri a b⟩
def oP (c:Int):Bool:=decide ((65≤c∧c≤90)∨(97≤c∧c≤122))
abbrev U8 (c:Int):AV:= .sc (.int .u8 c)
theorem sR (c:Int):bV Tryz.prog 170 [U8 c] (cx (oP c)):=by
 refine aS Tryz.func170 rfl Tryz.ntmps170 rfl fun B=>?_
 repeat' (first|refine go ?_|refine HK a6 FS ?_)
 refine du (t:=2) [] (oP c=true) rfl (fun Q' K=>?_) ?_
 ·repeat' (first|refine go ?_|refine HK a6 FS ?_|refine HV FS ?_|refine HW HF ?_|refine dN rfl rfl rfl ?_|refine bk rfl rfl rfl (fun _=>?_) (fun _=>?_))
  all_goals exact K _ _ rfl rfl (by unfold oP;simp_all <;> omega)
 repeat' (first|refine go ?_|fail)
 refine HS FS ?_
 simp
instance (c:Int):AD Tryz.prog 170 [U8 c] (cx (oP c)):=⟨sR c⟩
section
variable {P:Program} {tt:TT} {r:Option Nat} {ops:Array Oper} {Q:Exit→Act→World→Prop} {nt:Nat} {D:List Deferred} {fr:cu} {B:Bs} {L:AL} {rest:List Oper} {d:Nat} {ty t:TypeId} {pos:String} {af:Array Edge} {x y z:Operand}
theorem xg (ok:fp P tt) {s:ByteArray} {k:IntKind} {i:Int} {c:UInt8} {ti:TI} (ht:dP tt t=some ti) (hk:ti.k= .str) (hx:bO fr x=some (.sc (.string s))) (hy:bO fr y=some (.sc (.int k i))) (h0:0≤i) (hu:s[i.toNat]?=some c) (hd:Nat.ble nt d=false) (h:bW P r ops Q nt D rest ((d,U8 c.toNat)::fr) B L):bW P r ops Q nt D (⟨some d,.index t x y,ty,pos,af,none⟩::rest) fr B L:=dX (vp (ok.str ht hk) hx hy h0 hu) hd rfl h
end
def nV (s:ByteArray) (i:Nat):Int:=match s[i]? with | some c=>c.toNat | none=>0
theorem pQ {s:ByteArray} {i:Nat} {c:UInt8} (h:s[i]?=some c):nV s i=c.toNat:=by unfold nV;rw [h]
def tG (n:Nat) (p:Nat→Bool):Bool:=(List.range n).all p
theorem nO {n:Nat} {p:Nat→Bool}:tG n p=true↔∀i,i < n→p i=true:=by simp [tG]
theorem oJ {n:Nat} {p:Nat→Bool} {i:Nat} (hi:i < n) (h:p i=false):tG n p=false:=by
 rw [Bool.eq_false_iff]
 intro hh
 rw [nO.1 hh i hi] at h
 cases h
theorem xz {s:ByteArray} {i:Nat} (h:i < s.size):∃c,s[i]?=some c:=⟨s[i],by simp [h]⟩
def fF (s:ByteArray):Bool:=decide (1≤s.size∧s.size≤8) && tG s.size fun i=>oP (nV s i)
theorem rh (s:ByteArray):bV Tryz.prog 132 [gO s] (cx (fF s)):=by
 refine aS Tryz.func132 rfl Tryz.ntmps132 rfl fun B=>?_
 repeat' (first|refine go ?_|refine HK a6 FS ?_)
 refine eo [0] (¬(1≤s.size∧s.size≤8)) rfl (fun Q' K=>?_) (fun hC=>?_) (fun hC=>?_)
 ·repeat' (first|refine go ?_|refine HK a6 FS ?_|refine HV FS ?_|refine HW HF ?_|refine bk rfl rfl rfl (fun _=>?_) (fun _=>?_))
  all_goals exact K _ _ rfl rfl (by simp_all <;> omega)
 ·repeat' (first|refine go ?_|refine HK a6 FS ?_)
  refine HS FS ?_
  unfold fF
  rw [decide_eq_false hC]
  rfl
 have hC:=Decidable.not_not.1 hC
 repeat' (first|refine go ?_|refine ak ?_|refine HK a6 FS ?_)
 refine aJ [0,13] (α:=Nat) (fun i=>[(14,aP i)]) (fun i=>i≤s.size∧∀j,j < i→oP (nV s j)=true) (fun _=>[]) (fun i=>s.size - i) 0 rfl ⟨rfl,trivial⟩ ⟨Nat.zero_le _,fun j hj=>absurd hj (Nat.not_lt_zero _)⟩ (fun _ _ h=>h) fun i hi=>?_
 try dsimp only [Ir,Iq,Ip,Ij]
 repeat' (first|refine go ?_|refine HK a6 FS ?_)
 refine ay rfl (fun h=>?_) (fun h=>?_)
 ·have hil:i < s.size:=by have:=Iy h;omega
  obtain ⟨c,hc⟩:=xz hil
  have hb:=pQ hc
  repeat' (first|refine go ?_|refine ak ?_|refine HK a6 FS ?_)
  refine xg a6 rfl rfl rfl rfl (by omega) (by rw [Int.toNat_natCast];exact hc) rfl ?_
  repeat' (first|refine go ?_|refine HK a6 FS ?_|(apply bq;refine bg ?_)|fail)
  refine ay rfl (fun h2=>?_) (fun h2=>?_)
  ·repeat' (first|refine go ?_|refine HK a6 FS ?_)
   refine HS FS ?_
   unfold fF
   rw [oJ hil (by rw [hb];simpa using h2),Bool.and_false]
  ·repeat' (first|refine go ?_|refine HK a6 FS ?_|(apply aW;refine aV ?_)|fail)
   refine aB (i+1) rfl ⟨by rw [Iv];rfl,trivial⟩ ⟨by omega,fun j hj=>?_⟩ (by omega) (fun _ _ h=>h)
   by_cases e:j=i
   ·subst e;rw [hb];simpa using h2
   ·exact hi.2 j (by omega)
 ·have hil:i=s.size:=by have:=Ix h;omega
  subst hil
  repeat' (first|refine go ?_|refine HK a6 FS ?_)
  refine HS FS ?_
  unfold fF
  rw [decide_eq_true hC,nO.2 hi.2]
  rfl
instance (s:ByteArray):AD Tryz.prog 132 [gO s] (cx (fF s)):=⟨rh s⟩
def ta (i:Nat) (c:Int):Bool:=decide ((oP c=true∨c=95∨c=46)∨(0 < i∧((48≤c∧c≤57)∨c=45)))
def gF (s:ByteArray):Bool:=decide (1≤s.size∧s.size≤16) && tG s.size fun i=>ta i (nV s i)
set_option maxHeartbeats 1000000 in
theorem wc (s:ByteArray):bV Tryz.prog 120 [gO s] (cx (gF s)):=by
 refine aS Tryz.func120 rfl Tryz.ntmps120 rfl fun B=>?_
 repeat' (first|refine go ?_|refine HK a6 FS ?_)
 refine eo [0] (¬(1≤s.size∧s.size≤16)) rfl (fun Q' K=>?_) (fun hC=>?_) (fun hC=>?_)
 ·repeat' (first|refine go ?_|refine HK a6 FS ?_|refine HV FS ?_|refine HW HF ?_|refine bk rfl rfl rfl (fun _=>?_) (fun _=>?_))
  all_goals exact K _ _ rfl rfl (by simp_all <;> omega)
 ·repeat' (first|refine go ?_|refine HK a6 FS ?_)
  refine HS FS ?_
  unfold gF
  rw [decide_eq_false hC]
  rfl
 have hC:=Decidable.not_not.1 hC
 repeat' (first|refine go ?_|refine ak ?_|refine HK a6 FS ?_)
 refine aJ [0,16] (α:=Nat) (fun i=>[(17,aP i)]) (fun i=>i≤s.size∧∀j,j < i→ta j (nV s j)=true) (fun _=>[]) (fun i=>s.size - i) 0 rfl ⟨rfl,trivial⟩ ⟨Nat.zero_le _,fun j hj=>absurd hj (Nat.not_lt_zero _)⟩ (fun _ _ h=>h) fun i hi=>?_
 try dsimp only [Ir,Iq,Ip,Ij]
 repeat' (first|refine go ?_|refine HK a6 FS ?_)
 refine ay rfl (fun h=>?_) (fun h=>?_)
 ·have hil:i < s.size:=by have:=Iy h;omega
  obtain ⟨c,hc⟩:=xz hil
  have hb:=pQ hc
  repeat' (first|refine go ?_|refine ak ?_|refine HK a6 FS ?_)
  refine xg a6 rfl rfl rfl rfl (by omega) (by rw [Int.toNat_natCast];exact hc) rfl ?_
  generalize (c.toNat:Int)=z at *
  repeat' (first|refine go ?_|refine HK a6 FS ?_|(apply bq;refine bg ?_)|fail)
  refine du (t:=5) [0,3,4,16,17] (oP z=true∨z=95∨z=46) rfl (fun Q' K=>?_) ?_
  ·clear hi hb hc h
   repeat' (first|refine go ?_|refine HK a6 FS ?_|refine HV FS ?_|refine HW HF ?_|refine bk rfl rfl rfl (fun _=>?_) (fun _=>?_))
   all_goals exact K _ _ rfl rfl (by simp_all)
  repeat' (first|refine go ?_|refine HK a6 FS ?_)
  refine du (t:=6) [0,5,16,17] (0 < i∧((48≤z∧z≤57)∨z=45)) rfl (fun Q' K=>?_) ?_
  ·clear hi hb hc h
   repeat' (first|refine go ?_|refine HK a6 FS ?_|refine HV FS ?_|refine HW HF ?_|refine dN rfl rfl rfl ?_|refine bk rfl rfl rfl (fun _=>?_) (fun _=>?_))
   all_goals exact K _ _ rfl rfl (by simp_all <;> omega)
  repeat' (first|refine go ?_|refine HK a6 FS ?_)
  refine eo [0,16,17] (ta i z=false) rfl (fun Q' K=>?_) (fun h2=>?_) (fun h2=>?_)
  ·clear hi hb hc h
   repeat' (first|refine go ?_|refine HK a6 FS ?_|refine HV FS ?_|refine HW HF ?_|refine bk rfl rfl rfl (fun _=>?_) (fun _=>?_))
   all_goals exact K _ _ rfl rfl (by clear K;unfold ta;grind)
  ·repeat' (first|refine go ?_|refine HK a6 FS ?_)
   refine HS FS ?_
   unfold gF
   rw [oJ hil (by rw [hb];exact h2),Bool.and_false]
  ·repeat' (first|refine go ?_|refine HK a6 FS ?_|(apply aW;refine aV ?_)|fail)
   refine aB (i+1) rfl ⟨by rw [Iv];rfl,trivial⟩ ⟨by omega,fun j hj=>?_⟩ (by omega) (fun _ _ h=>h)
   by_cases e:j=i
   ·subst e;rw [hb];simpa using h2
   ·exact hi.2 j (by omega)
 ·have hil:i=s.size:=by have:=Ix h;omega
  subst hil
  repeat' (first|refine go ?_|refine HK a6 FS ?_)
  refine HS FS ?_
  unfold gF
  rw [decide_eq_true hC,nO.2 hi.2]
  rfl
instance (s:ByteArray):AD Tryz.prog 120 [gO s] (cx (gF s)):=⟨wc s⟩
end Go.Proofs.YtjjpkibjffmceaaGreat
namespace Go.Proofs.YtjjpkibjffmceaaGreat
open Go.RowKit
attribute [local irreducible] AT bW AX AO Av Kt bA eI DA dl
def gr {α:Type} (l:List α) (w:Nat→α→Int) (i:Nat):Int:=match l[i]? with | some x=>w i x | none=>0
def dE {α:Type} (l:List α) (w:Nat→α→Int):Int×Int:=dO (gr l w) l.length
def cE {α:Type} (most:Int) (l:List α) (w:Nat→α→Int):Int×Int:=dG most (gr l w) l.length
theorem iK {α:Type} {l:List α} {w:Nat→α→Int} {i:Nat} {x:α} (h:l[i]?=some x):gr l w i=w i x:=by unfold gr;rw [h]
theorem rL {α:Type} {l:List α} {w:Nat→α→Int} (h:∀i x,l[i]?=some x→w i x=0) (i:Nat):gr l w i=0:=by
 unfold gr
 split
 ·exact h _ _ (by assumption)
 ·rfl
theorem fR {α:Type} {l:List α} {w:Nat→α→Int} (h:∀i x,l[i]?=some x→w i x=0):dE l w=(0,0):=rI fun i _=>rL h i
theorem eA {α:Type} {most:Int} {l:List α} {w:Nat→α→Int} (hm:(l.length:Int)≤most) (h:∀i x,l[i]?=some x→w i x=0):cE most l w=(0,0):=zt hm fun i _=>rL h i
theorem dM {α:Type} {P:Program} {g:FuncId} {caps:List AV} {l:List α} {el:α→AV} {w:Nat→α→Int} (h:∀(i:Nat) x,l[i]?=some x→bV P g ([aP i,el x]++caps) (aP (w i x))):∀(i:Nat) x (L:AL),l[i]?=some x→True→AC P g ([aP i,el x]++caps) L fun c _=>c=aP (gr l w i)∧(gr l w i=0→True):=by
 intro i x L hx _
 rw [iK hx]
 exact ((h i x hx).any L).mono fun c L' ⟨h1,_⟩=>⟨h1,fun _=>trivial⟩
theorem qZ {α:Type} {P:Program} {g:FuncId} {caps:List AV} {l:List α} {el:α→AV} {w:Nat→α→Int} {L0:AL} (h:∀(i:Nat) x,l[i]?=some x→AC P g ([aP i,el x]++caps) L0 fun c L'=>c=aP (w i x)∧L'=L0):∀(i:Nat) x (L:AL),l[i]?=some x→L=L0→AC P g ([aP i,el x]++caps) L fun c L'=>c=aP (gr l w i)∧(gr l w i=0→L'=L0):=by
 intro i x L hx hL
 subst hL
 rw [iK hx]
 exact (h i x hx).mono fun c L' ⟨h1,h2⟩=>⟨h1,fun _=>h2⟩
theorem wI (n:Int):bV Tryz.prog 250 [aP n] (cx (gG n)):=by
 refine aS Tryz.func250 rfl Tryz.ntmps250 rfl fun B=>?_
 repeat' (first|refine go ?_|refine HK a6 FS ?_)
 refine du (t:=2) [] (gG n=true) rfl (fun Q' K=>?_) ?_
 ·repeat' (first|refine go ?_|refine HK a6 FS ?_|refine HV FS ?_|refine HW HF ?_|refine bk rfl rfl rfl (fun _=>?_) (fun _=>?_))
  all_goals exact K _ _ rfl rfl (by clear K;unfold gG;grind)
 repeat' (first|refine go ?_|fail)
 refine HS FS ?_
 simp
instance (n:Int):AD Tryz.prog 250 [aP n] (cx (gG n)):=⟨wI n⟩
def fD (n:Int):Int→List Int→Bool
 | last,[]=>decide (last=n - 1)
 | last,e::r=>if e≥n∨e < last+2 then false else fD n e r
def oW (p:eP):Bool:=gG p.X && gG p.Y
def ie (pts:List eP) (ends:List Int):Bool:=decide (pts.length≤200∧ends.length≤40) && (pts.all oW && fD pts.length (-1) ends)
theorem uf {n last:Int} {l:List Int} {i:Nat} {e:Int} (h:l[i]?=some e):fD n last (l.drop i)=if e≥n∨e < last+2 then false else fD n e (l.drop (i+1)):=by
 obtain ⟨hi,hx⟩:=Io h
 rw [List.drop_eq_getElem_cons hi,hx]
 rfl
set_option maxHeartbeats 1000000 in
theorem td (pts:List eP) (ends:List Int):bV Tryz.prog 216 [.agg [.imm 3 (pts.map cM),.imm 1 (aZ ends)]] (cx (ie pts ends)):=by
 refine aS Tryz.func216 rfl Tryz.ntmps216 rfl fun B=>?_
 repeat' (first|refine go ?_|refine HK a6 FS ?_|refine bh ?_|fail)
 refine eo [1] (¬(pts.length≤200∧ends.length≤40)) rfl (fun Q' K=>?_) (fun hC=>?_) (fun hC=>?_)
 ·repeat' (first|refine go ?_|refine HK a6 FS ?_|refine HV FS ?_|refine HW HF ?_|refine bk rfl rfl rfl (fun _=>?_) (fun _=>?_))
  all_goals exact K _ _ rfl rfl (by clear K;simp_all [aQ] <;> omega)
 ·repeat' (first|refine go ?_|refine HK a6 FS ?_)
  refine HS FS ?_
  unfold ie
  rw [decide_eq_false hC]
  rfl
 have hC:=Decidable.not_not.1 hC
 have hlm:(pts.map cM).length=pts.length:=It ..
 repeat' (first|refine go ?_|refine ak ?_|refine HK a6 FS ?_)
 refine aJ [1,19,20] (α:=Nat) (fun i=>[(21,aP i)]) (fun i=>i≤pts.length∧(pts.take i).all oW=true) (fun _=>[]) (fun i=>pts.length - i) 0 rfl ⟨rfl,trivial⟩ ⟨Nat.zero_le _,by simp⟩ (fun _ _ h=>h) fun i hi=>?_
 try dsimp only [Ir,Iq,Ip,Ij]
 repeat' (first|refine go ?_|refine HK a6 FS ?_)
 refine ay rfl (fun h=>?_) (fun h=>?_)
 ·have hil:i < pts.length:=by have:=Iy h;simp at this;omega
  obtain ⟨z,hz⟩:∃z,pts[i]?=some z:=⟨_,Iz hil⟩
  have hzg:=bi (c:=cM) hz
  clear h
  repeat' (first|refine go ?_|refine ak ?_|refine HK a6 FS ?_|(apply aU;first|refine aT a6 ?_|refine aM a6 ?_)|(apply aG;first|refine HN 4 a6 0 HJ ?_|refine HN 4 a6 1 HJ ?_|refine HN 4 a6 2 HJ ?_|refine HM a6 0 HH ?_|refine HM a6 1 HH ?_|refine HM a6 2 HH ?_|refine HM a6 3 HH ?_|fail)|refine aX a6 fun _=>?_|(apply bq;refine bg ?_)|fail)
  refine eo [1,19,20,21] (oW z=false) rfl (fun Q' K=>?_) (fun h2=>?_) (fun h2=>?_)
  ·clear hi hzg
   repeat' (first|refine go ?_|refine HK a6 FS ?_|refine HV FS ?_|refine HW HF ?_|(apply bq;refine bg ?_)|refine bk rfl rfl rfl (fun _=>?_) (fun _=>?_))
   all_goals exact K _ _ rfl rfl (by clear K;unfold oW;simp_all)
  ·repeat' (first|refine go ?_|refine HK a6 FS ?_)
   refine HS FS ?_
   unfold ie
   rw [show pts.all oW=false by
    rw [List.all_eq_false]
    exact ⟨z,Iw hz,by simp [h2]⟩]
   simp
  ·repeat' (first|refine go ?_|refine HK a6 FS ?_|(apply aW;refine aV ?_)|fail)
   refine aB (i+1) rfl ⟨by rw [Iv];rfl,trivial⟩ ⟨by omega,?_⟩ (by omega) (fun _ _ h=>h)
   rw [List.take_add_one,hz,List.all_append,hi.2]
   simpa using h2
 have hil:i=pts.length:=by have:=Ix h;simp at this;omega
 subst hil
 rw [List.take_length] at hi
 have hall:=hi.2
 clear hi h
 have hval:ie pts ends=fD pts.length (-1) ends:=by
  unfold ie
  rw [decide_eq_true hC,hall]
  rfl
 rw [hval]
 repeat' (first|refine go ?_|refine ak ?_|refine HK a6 FS ?_)
 refine aJ [1,37,38] (α:=Nat×Int) (fun x=>[(39,aP x.1),(5,aP x.2)]) (fun x=>x.1≤ends.length∧-1≤x.2∧x.2≤1000∧fD pts.length (-1) ends=fD pts.length x.2 (ends.drop x.1)) (fun _=>[]) (fun x=>ends.length - x.1) (0,-1) rfl ⟨rfl,rfl,trivial⟩ ⟨Nat.zero_le _,by decide,by decide,rfl⟩ (fun _ _ h=>h) ?_
 rintro ⟨i,last⟩ ⟨hi,hl0,hl1,he⟩
 dsimp only at hi hl0 hl1 he ⊢
 try dsimp only [Ir,Iq,Ip,Ij]
 repeat' (first|refine go ?_|refine HK a6 FS ?_)
 refine ay rfl (fun h=>?_) (fun h=>?_)
 ·have hil:i < ends.length:=by have:=Iy h;simp [aQ] at this;omega
  obtain ⟨z,hz⟩:∃z,ends[i]?=some z:=⟨_,Iz hil⟩
  have hzg:=bT hz
  rw [uf hz] at he
  clear h
  repeat' (first|refine go ?_|refine ak ?_|refine HK a6 FS ?_|(apply aU;first|refine aT a6 ?_|refine aM a6 ?_)|fail)
  refine eo [1,7,37,38,39] (z≥pts.length∨z < last+2) rfl (fun Q' K=>?_) (fun h2=>?_) (fun h2=>?_)
  ·clear hi hzg he hval
   repeat' (first|refine go ?_|refine HK a6 FS ?_|refine HV FS ?_|refine HW HF ?_|(apply aW;refine aV ?_)|refine bk rfl rfl rfl (fun _=>?_) (fun _=>?_))
   all_goals exact K _ _ rfl rfl (by clear K;simp_all <;> omega)
  ·rw [if_pos h2] at he
   repeat' (first|refine go ?_|refine HK a6 FS ?_)
   refine HS FS ?_
   rw [he]
  ·rw [if_neg h2] at he
   repeat' (first|refine go ?_|refine HK a6 FS ?_|(apply aW;refine aV ?_)|fail)
   exact aB (i+1,z) rfl ⟨by rw [Iv];rfl,rfl,trivial⟩ ⟨by dsimp only;omega,by dsimp only;omega,by dsimp only;omega,he⟩ (by dsimp only;omega) (fun _ _ h=>h)
 ·have hil:i=ends.length:=by have:=Ix h;simp [aQ] at this;omega
  subst hil
  rw [List.drop_length] at he
  repeat' (first|refine go ?_|refine HK a6 FS ?_|(apply aW;refine aV ?_)|fail)
  refine HS FS ?_
  rw [he]
  simp [fD]
def GJ (_:Nat) (p:eP):Int:=eH (!([p.X,p.Y].all gG)) 30
theorem wA (i:Nat) (p:eP):bV Tryz.prog 215 [aP i,.agg (cM p)] (aP (GJ i p)):=by
 refine aS Tryz.func215 rfl Tryz.ntmps215 rfl fun B=>?_
 repeat' (first|refine go ?_|refine HK a6 FS ?_|refine bh ?_|refine bG a6 ?_|(apply bq;refine bg ?_)|fail)
 exact HT HE
def j5 (g:br):Int:=if g.Advance < 0∨g.Advance > 16384 then 1 else if g.Points.length > 200∨g.Ends.length > 40 then 2 else if (dE g.Points GJ).1≠0 then (dE g.Points GJ).1 else eH (!(ie g.Points g.Ends)) 31
theorem zq (g:br):bV Tryz.prog 161 [.agg (bC g)] (aP (j5 g)):=by
 refine aS Tryz.func161 rfl Tryz.ntmps161 rfl fun B=>?_
 unfold j5
 repeat' (first|refine go ?_|refine ak ?_|refine HK a6 FS ?_|refine bh ?_|fail)
 refine eo [1] (g.Advance < 0∨g.Advance > 16384) rfl (fun Q' K=>?_) (fun hC=>?_) (fun hC=>?_)
 ·repeat' (first|refine go ?_|refine HK a6 FS ?_|refine HV FS ?_|refine HW HF ?_|refine bk rfl rfl rfl (fun _=>?_) (fun _=>?_))
  all_goals exact K _ _ rfl rfl (by clear K;grind)
 ·rw [if_pos hC]
  repeat' (first|refine go ?_|refine HK a6 FS ?_)
  exact HT HE
 rw [if_neg hC]
 repeat' (first|refine go ?_|refine HK a6 FS ?_)
 refine eo [1] (g.Points.length > 200∨g.Ends.length > 40) rfl (fun Q' K=>?_) (fun hC=>?_) (fun hC=>?_)
 ·repeat' (first|refine go ?_|refine HK a6 FS ?_|refine HV FS ?_|refine HW HF ?_|refine bk rfl rfl rfl (fun _=>?_) (fun _=>?_))
  all_goals exact K _ _ rfl rfl (by clear K;simp_all [aQ] <;> omega)
 ·rw [if_pos hC]
  repeat' (first|refine go ?_|refine HK a6 FS ?_)
  exact HT HE
 rw [if_neg hC]
 repeat' (first|refine go ?_|refine HK a6 FS ?_)
 refine ba [] [] (Df (u:= .sc (.func (.func 215) #[] #[])) (g:=215) (caps:=[]) rfl g.Points _ (fun _ _=>True) [] trivial (dM (fun i x _=>wA i x))) rfl rfl (Im _) rfl fun c L1 hc=>?_
 have hc:c=cJ (dE g.Points GJ):=hc
 subst hc
 unfold cJ
 repeat' (first|refine go ?_|refine HK a6 FS ?_)
 refine ay rfl (fun h=>?_) (fun h=>?_)
 ·rw [if_pos (Iy h)]
  repeat' (first|refine go ?_|refine HK a6 FS ?_)
  exact HT HE
 ·rw [if_neg (Ix h)]
  repeat' (first|refine go ?_|refine HK a6 FS ?_)
  refine bg (hc:=⟨td g.Points g.Ends⟩) ?_
  repeat' (first|refine go ?_|refine HK a6 FS ?_|(apply bq;refine bg ?_)|fail)
  exact HT HE
instance (g:br):AD Tryz.prog 161 [.agg (bC g)] (aP (j5 g)):=⟨zq g⟩
end Go.Proofs.YtjjpkibjffmceaaGreat
namespace Go.Proofs.YtjjpkibjffmceaaGreat
open Go.RowKit
attribute [local irreducible] AT bW AX AO Av Kt bA eI DA dl
open Go.MapKept
def Bg (_:Nat) (i:eL):Int:=if i.Op < 1∨i.Op > 39 then 50 else if i.A < -999999999∨i.A > 999999999 then 3 else 0
theorem th (n:Nat) (i:eL):bV Tryz.prog 199 [aP n,.agg (dQ i)] (aP (Bg n i)):=by
 refine aS Tryz.func199 rfl Tryz.ntmps199 rfl fun B=>?_
 unfold Bg
 repeat' (first|refine go ?_|refine ak ?_|refine HK a6 FS ?_|refine bh ?_|fail)
 refine eo [3] (i.Op < 1∨i.Op > 39) rfl (fun Q' K=>?_) (fun hC=>?_) (fun hC=>?_)
 ·repeat' (first|refine go ?_|refine HK a6 FS ?_|refine HV FS ?_|refine HW HF ?_|refine bk rfl rfl rfl (fun _=>?_) (fun _=>?_))
  all_goals exact K _ _ rfl rfl (by clear K;grind)
 ·rw [if_pos hC]
  repeat' (first|refine go ?_|refine HK a6 FS ?_)
  exact HT HE
 rw [if_neg hC]
 repeat' (first|refine go ?_|refine HK a6 FS ?_)
 refine eo [] (i.A < -999999999∨i.A > 999999999) rfl (fun Q' K=>?_) (fun hC=>?_) (fun hC=>?_)
 ·repeat' (first|refine go ?_|refine HK a6 FS ?_|refine HV FS ?_|refine HW HF ?_|refine bk rfl rfl rfl (fun _=>?_) (fun _=>?_))
  all_goals exact K _ _ rfl rfl (by clear K;grind)
 ·rw [if_pos hC]
  repeat' (first|refine go ?_|refine HK a6 FS ?_)
  exact HT HE
 rw [if_neg hC]
 repeat' (first|refine go ?_|refine HK a6 FS ?_)
 exact HT HE
def nu (l:List eL):Int:=(cE 200 l Bg).1
theorem uP (l:List eL):bV Tryz.prog 141 [.imm 2 (l.map dQ)] (aP (nu l)):=by
 refine aS Tryz.func141 rfl Tryz.ntmps141 rfl fun B=>?_
 repeat' (first|refine go ?_|refine HK a6 FS ?_|(apply bq;refine bg ?_)|fail)
 refine dw (f:=242) (cs:=[]) [] [] (Ee (g:=199) (caps:=[]) rfl l 200 _ (fun _ _=>True) [] trivial (fun _=>dM fun i x _=>th i x)) rfl rfl rfl (Im _) rfl rfl fun c L1 hc=>?_
 have hc:c=cJ (cE 200 l Bg):=hc
 subst hc
 unfold cJ
 repeat' (first|refine go ?_|refine HK a6 FS ?_)
 exact HT HE
instance (l:List eL):AD Tryz.prog 141 [.imm 2 (l.map dQ)] (aP (nu l)):=⟨uP l⟩
def lQ (f:aL) (_:Nat) (p:cP):Int:=if l9 f p.Glyph=false then 32 else eH (!([p.X,p.Y].all gG)) 30
theorem vZ (f:aL) (n:Nat) (p:cP):bV Tryz.prog 163 [aP n,.agg (cm p),.iptr (cb f)] (aP (lQ f n p)):=by
 refine aS Tryz.func163 rfl Tryz.ntmps163 rfl fun B=>?_
 unfold lQ
 repeat' (first|refine go ?_|refine HK a6 FS ?_|refine bh ?_|(apply bq;refine bg ?_)|fail)
 refine ay rfl (fun h=>?_) (fun h=>?_)
 ·rw [if_pos (by simpa using h)]
  repeat' (first|refine go ?_|refine HK a6 FS ?_)
  exact HT HE
 ·rw [if_neg (by simpa using h)]
  repeat' (first|refine go ?_|refine HK a6 FS ?_|refine bG a6 ?_|(apply bq;refine bg ?_)|fail)
  exact HT HE
def m7 (g:br) (i:Nat) (a:dT):Int:=if (a.Kind < 1∨a.Kind > 4)∨(a.Class < 0∨a.Class > 15)∨((a.Kind=3∨a.Kind=4)∧a.Class≠0)∨[a.X,a.Y].all gG=false∨(a.Kind=2∧g.Mark=false)∨(∃b∈g.Anchors.take i,b.Kind=a.Kind∧b.Class=a.Class) then 35 else 0
def rf (f:aL) (g:br) (i:Nat) (d:eb):Int:=if d.Region < 0∨d.Region≥f.Regions.length then 61 else if (d.Point < -1∨d.Point≥g.Points.length)∨[d.X,d.Y].all gG=false∨(d.Point= -1∧d.Y≠0) then 30 else if (match i with | 0=>false | j+1=>match g.Deltas[j]? with | some b=>decide (d.Region < b.Region∨(d.Region=b.Region∧d.Point≤b.Point)) | none=>false)=true then 24 else 0
theorem vt (b:Bool):AC Tryz.prog 166 [cx b] [] fun c L=>∃m,c= .fn 221 [.iptr [cx b],.iptr [.sc (.map (some m))]]∧L=[(m,iz fun _ _=>none)]:=by
 refine aS Tryz.func166 rfl Tryz.ntmps166 rfl fun B=>?_
 repeat' (first|refine go ?_|refine HK a6 FS ?_|refine bh ?_|fail)
 refine wm fun m=>?_
 repeat' (first|refine go ?_|refine HK a6 FS ?_|(apply aG;first|refine HN 3 a6 0 HJ ?_|refine HN 3 a6 1 HJ ?_|refine HN 3 a6 2 HJ ?_|refine HM a6 0 HH ?_|refine HM a6 1 HH ?_|refine HM a6 2 HH ?_|refine HM a6 3 HH ?_|fail)|refine aX a6 fun _=>?_|fail)
 exact HS FS ⟨_,rfl,rfl⟩
theorem ye (r p:Int):AC Tryz.prog 168 [aP r,aP p] [] fun c L=>∃b,c= .fn 224 [.iptr [aP r],.iptr [aP p],.sc (.pointer (some ⟨b,0,none⟩))]∧L=[(b,.box [aP 0,aP 0] 321)]:=by
 refine aS Tryz.func168 rfl Tryz.ntmps168 rfl fun B=>?_
 repeat' (first|refine go ?_|refine HK a6 FS ?_|refine bh ?_|refine aX a6 fun _=>?_|fail)
 exact HS FS ⟨_,rfl,rfl⟩
theorem vX (e:Int):bV Tryz.prog 159 [.iptr [aP e]] (cJ (e,0)):=by
 refine aS Tryz.func159 rfl Tryz.ntmps159 rfl fun B=>?_
 repeat' (first|refine go ?_|refine HK a6 FS ?_)
 exact be rfl rfl rfl rfl
theorem vY (g:br):bV Tryz.prog 160 [.iptr (bC g)] (cJ (j5 g,0)):=by
 refine aS Tryz.func160 rfl Tryz.ntmps160 rfl fun B=>?_
 repeat' (first|refine go ?_|refine HK a6 FS ?_|(apply bq;refine bg ?_)|fail)
 exact be rfl rfl rfl rfl
theorem w3 (g:br):bV Tryz.prog 169 [.iptr (bC g)] (cJ (nu g.Hint,0)):=by
 refine aS Tryz.func169 rfl Tryz.ntmps169 rfl fun B=>?_
 repeat' (first|refine go ?_|refine HK a6 FS ?_|(apply bq;refine bg ?_)|fail)
 exact be rfl rfl rfl rfl
def gR (l:List (Int×Int)):Int×Int:=match l with
 | []=>(0,0)
 | x::r=>if x.1=0 then gR r else x
theorem kp:∀l:List Lk,rY l=gR (l.map fun x=>(x.e,x.n))
 | []=>rfl
 | x::r=>by simp only [rY,Ip,gR];rw [kp r]
theorem qb:∀{l:List (Int×Int)},(∀x∈l,x.1=0)→gR l=(0,0)
 | [],_=>rfl
 | x::r,h=>by unfold gR;rw [if_pos (h x (List.mem_cons_self ..))];exact qb fun y hy=>h y (Is _ hy)
def o8 (f:aL) (g:br) (name:Int):Int:=(gR [(name,0),(j5 g,0),cE 8 g.Parts (lQ f),cE 16 g.Anchors (m7 g),cE 400 g.Deltas (rf f g),(nu g.Hint,0)]).1
end Go.Proofs.YtjjpkibjffmceaaGreat
