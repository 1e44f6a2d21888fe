/-
  The program: what the first look tells that finds something wrong.
-/
import Derived.Test.YtpbinloeemebkaaGreatM08
import Derived.Test.YtpbinloeemebkaaGreatM06
import Derived.Test.YtpbinloeemebkaaGreatM07
namespace Go.Proofs.YtpbinloeemebkaaGreat
open Go.RowKit
attribute [local irreducible] AT bO AX AO Av Kt bo dU DA cT
structure Lk where
 f:FuncId
 caps:List AV
 L:AL
 e:Int
 n:Int
def Lk.ok (x:Lk):Prop:=bK Tryz.prog x.f∧AC Tryz.prog x.f x.caps x.L fun c _=>c=ct (x.e,x.n)
def rC:List Lk→Int×Int
 | []=>(0,0)
 | x::r=>if x.e=0 then rC r else (x.e,x.n)
def EL (l:List Lk):AL:=(l.map Lk.L).flatten
def vS:List Lk→Prop
 | []=>True
 | x::r=>x.ok∧(x.e=0→vS r)
def GC (x:Lk):List AV:=[.fn x.f x.caps]
theorem AW {l:List Lk} {i:Nat} {x:Lk} (h:l[i]?=some x):rC (l.drop i)=if x.e=0 then rC (l.drop (i+1)) else (x.e,x.n):=by
 obtain ⟨hi,hx⟩:=Hp h
 rw [List.drop_eq_getElem_cons hi,hx]
 rfl
theorem yr {l:List Lk} {i:Nat} {x:Lk} (h:l[i]?=some x) (hk:vS (l.drop i)):x.ok∧(x.e=0→vS (l.drop (i+1))):=by
 obtain ⟨hi,hx⟩:=Hp h
 rw [List.drop_eq_getElem_cons hi,hx] at hk
 exact hk
theorem u0:∀{l:List Lk},(rC l).1=0→rC l=(0,0)
 | [],_=>rfl
 | x::r,h=>by
  unfold rC at h ⊢
  split
  ·rename_i h0
   rw [if_pos h0] at h
   exact u0 h
  ·rename_i h0
   rw [if_neg h0] at h
   exact absurd h h0
theorem AZ {l:List Lk} {i:Nat} {x:Lk} (h:l[i]?=some x):EL (l.drop i)=x.L++EL (l.drop (i+1)):=by
 obtain ⟨hi,hx⟩:=Hp h
 unfold EL
 rw [List.drop_eq_getElem_cons hi,hx]
 rfl
theorem yd {σ0:ci} {l:Nat} (ls:List Lk) (hok:vS ls) (E:AL) (E':Int→Int→AL) (hy:∀e n,e≠0→AY Tryz.prog σ0 l [aH e,aH n] E fun c L=>c=c9 false∧L=E' e n):
  zt Tryz.prog σ0 221 [.sc (.func (.yield l) #[] #[]),.iptr [.imm 1 (ls.map GC)]] (EL ls++E) fun _ L=>L=if (rC ls).1=0 then E else E' (rC ls).1 (rC ls).2:=by
 refine nu Tryz.func221 rfl Tryz.ntmps221 rfl fun B hB=>?_
 repeat' (first|refine go ?_|refine ak ?_|refine HF a1 F8 ?_)
 refine cF 7 rfl rfl fun hlen=>?_
 rw [Hu] at hlen
 refine aR [0,7,8] (α:=Nat) (fun i=>[(9,aH i)]) (fun i=>i≤ls.length∧rC ls=rC (ls.drop i)∧vS (ls.drop i)) (fun i=>EL (ls.drop i)++E) (fun i=>ls.length - i) 0 rfl ⟨rfl,trivial⟩ ⟨Nat.zero_le _,rfl,hok⟩ (fun _ _ h=>h) fun i ⟨hi,he,hok⟩=>?_
 try dsimp only [Hs,Hr,Hq,Hl]
 repeat' (first|refine go ?_|refine HF a1 F8 ?_)
 refine ay rfl (fun h=>?_) (fun h=>?_)
 ·have hil:i < ls.length:=by have:=Hy h;simp at this;omega
  obtain ⟨x,hx⟩:∃z,ls[i]?=some z:=⟨_,Hz hil⟩
  have hzg:=bA (c:=GC) hx
  obtain ⟨⟨hcf,hac⟩,hok⟩:=yr hx hok
  rw [AW hx] at he
  rw [AZ hx]
  repeat' (first|refine go ?_|refine ak ?_|refine HF a1 F8 ?_|(apply aX;first|refine aU a1 ?_|refine aK a1 ?_)|fail)
  refine df (cs:=[]) x.L (EL (ls.drop (i+1))++E) (by simpa using hac) rfl rfl rfl (by rw [List.append_assoc]) rfl rfl fun c L1 hc=>?_
  subst hc
  refine aV (cb (List.sublist_append_right ..)) ?_
  unfold ct
  repeat' (first|refine go ?_|refine HF a1 F8 ?_)
  by_cases h0:x.e=0
  ·rw [if_pos h0] at he
   rw [h0]
   repeat' (first|refine go ?_|refine HF a1 F8 ?_|refine HS HB ?_|(apply aZ;refine aY ?_)|refine bL rfl ?_)
   exact aF (i+1) rfl ⟨by rw [Hv];rfl,trivial⟩ ⟨by omega,he,hok h0⟩ (by omega) (fun _ _ h=>h)
  ·rw [if_neg h0] at he
   rw [show decide (x.e≠0)=true from decide_eq_true h0]
   repeat' (first|refine HF a1 F8 ?_|refine HO F8 ?_)
   refine aV (cb (List.sublist_append_right ..)) ?_
   refine jV E [] hB (hy x.e x.n h0) rfl rfl rfl (bB rfl) rfl rfl fun c L1 ⟨hc,hL⟩=>?_
   subst hc;subst hL
   rw [List.append_nil]
   repeat' (first|refine go ?_|refine HF a1 F8 ?_|refine HO F8 ?_|refine bR rfl ?_)
   refine lm rfl ?_
   rw [he,if_neg h0]
 ·have hil:i=ls.length:=by have:=Hx h;simp at this;omega
  subst hil
  rw [List.drop_length] at he ⊢
  repeat' (first|refine go ?_|fail)
  refine ce rfl ?_
  rw [he]
  rfl
theorem vv (l:List (List AV)):bM Tryz.prog 147 [.imm 1 l] (.fn 221 [.iptr [.imm 1 l]]):=by
 refine aT Tryz.func147 rfl Tryz.ntmps147 rfl fun B=>?_
 repeat' (first|refine go ?_|refine HF a1 F8 ?_|refine bC ?_|fail)
 exact HP HA
instance (l:List (List AV)):AD Tryz.prog 147 [.imm 1 l] (.fn 221 [.iptr [.imm 1 l]]):=⟨vv l⟩
theorem Bu {p q:Nat×AB} {l l2:AL}:(p::q::(l++l2)).Perm (l++(p::q::l2)):=by
 have:=(List.perm_append_comm (l₁:=[p,q]) (l₂:=l)).append_right l2
 simpa using this
set_option maxHeartbeats 1000000 in
theorem jh (ls:List Lk) (hok:vS ls):AC Tryz.prog 80 [.imm 1 (ls.map GC)] (EL ls) fun c _=>c=ct (rC ls):=by
 refine kB Tryz.func80 rfl Tryz.ntmps80 rfl fun B=>?_
 repeat' (first|refine go ?_|refine ak ?_|refine HF a1 F8 ?_|refine bl a1 fun _=>?_|(apply bD;refine bf ?_)|fail)
 rename_i b2 b3
 refine gK (ps:=[8,9]) rfl fun σ0 l db rec hrec=>?_
 have hy:∀e n:Int,e≠0→AY Tryz.prog σ0 l [aH e,aH n] ([(b3,.box [aH 0] 3),(b2,.box [aH 0] 40),(db,ec)]++[(l,eH rec)]) fun c L=>c=c9 false∧L=[(b3,.box [aH n] 3),(b2,.box [aH e] 40),(db,ec)]++[(l,eH { ({ rec with state:= .busy }:Loop) with state:= .done,pending:=some .ret })]:=by
  intro e n he
  refine oo hrec rfl rfl fun B1 hB1=>?_
  repeat' (first|refine go ?_|refine HF a1 F8 ?_)
  refine gL hrec.state ?_
  repeat' (first|refine go ?_|refine ak ?_|refine HF a1 F8 ?_|(apply aQ;first|refine HG a1 0 HD ?_|refine HG a1 1 HD ?_|refine HG a1 2 HD ?_|refine HG a1 3 HD ?_|fail))
  refine m4 (L:=[(b3,.box [aH n] 3),(b2,.box [aH e] 40),(db,ec)]) ?_
  exact ⟨rfl,rfl⟩
 refine ⟨_,(yd ls hok _ _ hy).perm ?_,fun c L' hL'=>?_⟩
 ·simp only [List.append_assoc,Hs,Hr]
  exact Bu
 ·by_cases h0:(rC ls).1=0
  ·rw [if_pos h0] at hL'
   subst hL'
   refine ⟨rec,_,Ho _,(by rw [hrec.state];intro h;cases h),?_⟩
   rw [hrec.pending]
   show AX _ _ _ _ _ _ _ _
   repeat' (first|refine go ?_|(apply aQ;first|refine HG a1 0 HD ?_|refine HG a1 1 HD ?_|refine HG a1 2 HD ?_|refine HG a1 3 HD ?_|fail))
   refine fG (cs:=[aH 0,aH 0]) [db] [(b3,.box [aH 0] 3),(b2,.box [aH 0] 40)] rfl (Ho _) ?_ ?_
   ·exact ⟨⟨b2,1,_,_,rfl,rfl,.inl ⟨cz a1 rfl,rfl⟩⟩,⟨b3,0,_,_,rfl,rfl,.inl ⟨cz a1 rfl,rfl⟩⟩,trivial⟩
   ·have:rC ls=(0,0):=u0 h0
    rw [this]
    rfl
  ·rw [if_neg h0] at hL'
   subst hL'
   refine ⟨_,_,Ho _,(by intro h;cases h),?_⟩
   show AX _ _ _ _ _ _ _ _
   repeat' (first|refine go ?_|fail)
   refine fG (cs:=[aH (rC ls).1,aH (rC ls).2]) [db] [(b3,.box [aH (rC ls).2] 3),(b2,.box [aH (rC ls).1] 40)] rfl (Ho _) ?_ rfl
   exact ⟨⟨b2,1,_,_,rfl,rfl,.inl ⟨cz a1 rfl,rfl⟩⟩,⟨b3,0,_,_,rfl,rfl,.inl ⟨cz a1 rfl,rfl⟩⟩,trivial⟩
def dX (b:Bool) (e:Int):Int:=bif b then e else 0
theorem C0 (b:Bool) (e:Int):bM Tryz.prog 111 [c9 b,aH e] (aH (dX b e)):=by
 refine aT Tryz.func111 rfl Tryz.ntmps111 rfl fun B=>?_
 repeat' (first|refine go ?_|refine HF a1 F8 ?_)
 refine ay rfl (fun h=>?_) (fun h=>?_)
 ·subst h
  repeat' (first|refine go ?_|refine HF a1 F8 ?_)
  exact HP HA
 ·subst h
  repeat' (first|refine go ?_|refine HF a1 F8 ?_)
  exact HP HA
instance (b:Bool) (e:Int):AD Tryz.prog 111 [c9 b,aH e] (aH (dX b e)):=⟨C0 b e⟩
def gd (z:Int):Bool:=decide (-16384≤z∧z≤16384)
theorem sx (l:List Int):bM Tryz.prog 112 [.imm 1 (aS l)] (c9 (l.all gd)):=by
 refine aT Tryz.func112 rfl Tryz.ntmps112 rfl fun B=>?_
 refine cF 0 rfl rfl fun hlen=>?_
 rw [aN] at hlen
 repeat' (first|refine go ?_|refine ak ?_|refine HF a1 F8 ?_)
 refine aR [5,6] (α:=Nat) (fun i=>[(7,aH i)]) (fun i=>i≤l.length∧(l.take i).all gd=true) (fun _=>[]) (fun i=>l.length - i) 0 rfl ⟨rfl,trivial⟩ ⟨Nat.zero_le _,by simp⟩ (fun _ _ h=>h) fun i hi=>?_
 try dsimp only [Hs,Hr,Hq,Hl]
 repeat' (first|refine go ?_|refine HF a1 F8 ?_)
 refine ay rfl (fun h=>?_) (fun h=>?_)
 ·have hil:i < l.length:=by have:=Hy h;rw [aN] at this;omega
  obtain ⟨z,hz⟩:∃z,l[i]?=some z:=⟨_,Hz hil⟩
  have hzg:=bG hz
  repeat' (first|refine go ?_|refine ak ?_|refine HF a1 F8 ?_|(apply aX;first|refine aU a1 ?_|refine aK a1 ?_)|fail)
  refine cN [5,6,7] (gd z=false) rfl (fun Q' K=>?_) (fun hC=>?_) (fun hC=>?_)
  ·repeat' (first|refine go ?_|refine HF a1 F8 ?_|refine HO F8 ?_|refine HS HB ?_|refine be rfl rfl rfl (fun _=>?_) (fun _=>?_))
   all_goals exact K _ _ rfl rfl (by unfold gd;simp_all <;> omega)
  ·repeat' (first|refine go ?_|refine HF a1 F8 ?_)
   refine HN F8 ?_
   rw [show l.all gd=false by
    rw [List.all_eq_false]
    exact ⟨z,Hw hz,by simp [hC]⟩]
  ·repeat' (first|refine go ?_|refine HF a1 F8 ?_|(apply aZ;refine aY ?_)|fail)
   refine aF (i+1) rfl ⟨by rw [Hv];rfl,trivial⟩ ⟨by omega,?_⟩ (by omega) (fun _ _ h=>h)
   rw [List.take_add_one,hz,List.all_append,hi.2]
   simpa using hC
 ·have hil:i=l.length:=by have:=Hx h;rw [aN] at this;omega
  subst hil
  rw [List.take_length] at hi
  repeat' (first|refine go ?_|refine HF a1 F8 ?_)
  refine HN F8 ?_
  rw [hi.2]
instance (x:Int):AD Tryz.prog 112 [.imm 1 [[aH x]]] (c9 ([x].all gd)):=⟨sx [x]⟩
instance (x y:Int):AD Tryz.prog 112 [.imm 1 [[aH x],[aH y]]] (c9 ([x,y].all gd)):=⟨sx [x,y]⟩
instance (x y z:Int):AD Tryz.prog 112 [.imm 1 [[aH x],[aH y],[aH z]]] (c9 ([x,y,z].all gd)):=⟨sx [x,y,z]⟩
def kU (f:aL) (n:Int):Bool:=decide (0≤n∧n < f.Glyphs.length)
theorem tU (f:aL) (n:Int):bM Tryz.prog 155 [cx f,aH n] (c9 (kU f n)):=by
 refine aT Tryz.func155 rfl Tryz.ntmps155 rfl fun B=>?_
 repeat' (first|refine go ?_|refine HF a1 F8 ?_|refine bC ?_|fail)
 refine d7 (t:=4) [] (kU f n=true) rfl (fun Q' K=>?_) ?_
 ·repeat' (first|refine go ?_|refine HF a1 F8 ?_|refine HO F8 ?_|refine HS HB ?_|refine be rfl rfl rfl (fun _=>?_) (fun _=>?_))
  all_goals exact K _ _ rfl rfl (by unfold kU;simp_all <;> omega)
 repeat' (first|refine go ?_|fail)
 refine HN F8 ?_
 simp
instance (f:aL) (n:Int):AD Tryz.prog 155 [cx f,aH n] (c9 (kU f n)):=⟨tU f n⟩
def kJ (right taken:Bool):Int:=bif right then (bif taken then 24 else 0) else 23
theorem qT (a b:Bool):bM Tryz.prog 86 [c9 a,c9 b] (aH (kJ a b)):=by
 refine aT Tryz.func86 rfl Tryz.ntmps86 rfl fun B=>?_
 repeat' (first|refine go ?_|refine ak ?_|refine HF a1 F8 ?_)
 refine ay rfl (fun h=>?_) (fun h=>?_)
 ·repeat' (first|refine go ?_|refine HF a1 F8 ?_)
  refine HN F8 ?_
  cases a with
  | true=>cases h
  | false=>rfl
 ·repeat' (first|refine go ?_|refine HF a1 F8 ?_)
  have ha:a=true:=by cases a with
   | true=>rfl
   | false=>cases h
  subst ha
  refine ay rfl (fun h=>?_) (fun h=>?_)
  ·subst h
   repeat' (first|refine go ?_|refine HF a1 F8 ?_)
   exact HP HA
  ·subst h
   repeat' (first|refine go ?_|refine HF a1 F8 ?_)
   exact HP HA
instance (a b:Bool):AD Tryz.prog 86 [c9 a,c9 b] (aH (kJ a b)):=⟨qT a b⟩
def ox (c:Int):Bool:=decide ((65≤c∧c≤90)∨(97≤c∧c≤122))
abbrev U8 (c:Int):AV:= .sc (.int .u8 c)
theorem sm (c:Int):bM Tryz.prog 161 [U8 c] (c9 (ox c)):=by
 refine aT Tryz.func161 rfl Tryz.ntmps161 rfl fun B=>?_
 repeat' (first|refine go ?_|refine HF a1 F8 ?_)
 refine d7 (t:=2) [] (ox c=true) rfl (fun Q' K=>?_) ?_
 ·repeat' (first|refine go ?_|refine HF a1 F8 ?_|refine HO F8 ?_|refine HS HB ?_|refine cR rfl rfl rfl ?_|refine be rfl rfl rfl (fun _=>?_) (fun _=>?_))
  all_goals exact K _ _ rfl rfl (by unfold ox;simp_all <;> omega)
 repeat' (first|refine go ?_|fail)
 refine HN F8 ?_
 simp
instance (c:Int):AD Tryz.prog 161 [U8 c] (c9 (ox c)):=⟨sm c⟩
section
variable {P:Program} {tt:TT} {r:Option Nat} {ops:Array Oper} {Q:Exit→Act→World→Prop} {nt:Nat} {D:List Deferred} {fr:c6} {B:Bs} {L:AL} {rest:List Oper} {d:Nat} {ty t:TypeId} {pos:String} {af:Array Edge} {x y z:Operand}
theorem xd (ok:ev P tt) {s:ByteArray} {k:IntKind} {i:Int} {c:UInt8} {ti:TI} (ht:du tt t=some ti) (hk:ti.k= .str) (hx:bt fr x=some (.sc (.string s))) (hy:bt fr y=some (.sc (.int k i))) (h0:0≤i) (hu:s[i.toNat]?=some c) (hd:Nat.ble nt d=false) (h:bO P r ops Q nt D rest ((d,U8 c.toNat)::fr) B L):bO P r ops Q nt D (⟨some d,.index t x y,ty,pos,af,none⟩::rest) fr B L:=d8 (uV (ok.str ht hk) hx hy h0 hu) hd rfl h
end
def nB (s:ByteArray) (i:Nat):Int:=match s[i]? with | some c=>c.toNat | none=>0
theorem pv {s:ByteArray} {i:Nat} {c:UInt8} (h:s[i]?=some c):nB s i=c.toNat:=by unfold nB;rw [h]
def t1 (n:Nat) (p:Nat→Bool):Bool:=(List.range n).all p
theorem nv {n:Nat} {p:Nat→Bool}:t1 n p=true↔∀i,i < n→p i=true:=by simp [t1]
theorem om {n:Nat} {p:Nat→Bool} {i:Nat} (hi:i < n) (h:p i=false):t1 n p=false:=by
 rw [Bool.eq_false_iff]
 intro hh
 rw [nv.1 hh i hi] at h
 cases h
theorem xt {s:ByteArray} {i:Nat} (h:i < s.size):∃c,s[i]?=some c:=⟨s[i],by simp [h]⟩
def fa (s:ByteArray):Bool:=decide (1≤s.size∧s.size≤8) && t1 s.size fun i=>ox (nB s i)
theorem qS (s:ByteArray):bM Tryz.prog 99 [uL s] (c9 (fa s)):=by
 refine aT Tryz.func99 rfl Tryz.ntmps99 rfl fun B=>?_
 repeat' (first|refine go ?_|refine HF a1 F8 ?_)
 refine cN [0] (¬(1≤s.size∧s.size≤8)) rfl (fun Q' K=>?_) (fun hC=>?_) (fun hC=>?_)
 ·repeat' (first|refine go ?_|refine HF a1 F8 ?_|refine HO F8 ?_|refine HS HB ?_|refine be rfl rfl rfl (fun _=>?_) (fun _=>?_))
  all_goals exact K _ _ rfl rfl (by simp_all <;> omega)
 ·repeat' (first|refine go ?_|refine HF a1 F8 ?_)
  refine HN F8 ?_
  unfold fa
  rw [decide_eq_false hC]
  rfl
 have hC:=Decidable.not_not.1 hC
 repeat' (first|refine go ?_|refine ak ?_|refine HF a1 F8 ?_)
 refine aR [0,13] (α:=Nat) (fun i=>[(14,aH i)]) (fun i=>i≤s.size∧∀j,j < i→ox (nB s j)=true) (fun _=>[]) (fun i=>s.size - i) 0 rfl ⟨rfl,trivial⟩ ⟨Nat.zero_le _,fun j hj=>absurd hj (Nat.not_lt_zero _)⟩ (fun _ _ h=>h) fun i hi=>?_
 try dsimp only [Hs,Hr,Hq,Hl]
 repeat' (first|refine go ?_|refine HF a1 F8 ?_)
 refine ay rfl (fun h=>?_) (fun h=>?_)
 ·have hil:i < s.size:=by have:=Hy h;omega
  obtain ⟨c,hc⟩:=xt hil
  have hb:=pv hc
  repeat' (first|refine go ?_|refine ak ?_|refine HF a1 F8 ?_)
  refine xd a1 rfl rfl rfl rfl (by omega) (by rw [Int.toNat_natCast];exact hc) rfl ?_
  repeat' (first|refine go ?_|refine HF a1 F8 ?_|(apply bD;refine bf ?_)|fail)
  refine ay rfl (fun h2=>?_) (fun h2=>?_)
  ·repeat' (first|refine go ?_|refine HF a1 F8 ?_)
   refine HN F8 ?_
   unfold fa
   rw [om hil (by rw [hb];simpa using h2),Bool.and_false]
  ·repeat' (first|refine go ?_|refine HF a1 F8 ?_|(apply aZ;refine aY ?_)|fail)
   refine aF (i+1) rfl ⟨by rw [Hv];rfl,trivial⟩ ⟨by omega,fun j hj=>?_⟩ (by omega) (fun _ _ h=>h)
   by_cases e:j=i
   ·subst e;rw [hb];simpa using h2
   ·exact hi.2 j (by omega)
 ·have hil:i=s.size:=by have:=Hx h;omega
  subst hil
  repeat' (first|refine go ?_|refine HF a1 F8 ?_)
  refine HN F8 ?_
  unfold fa
  rw [decide_eq_true hC,nv.2 hi.2]
  rfl
instance (s:ByteArray):AD Tryz.prog 99 [uL s] (c9 (fa s)):=⟨qS s⟩
def sB (i:Nat) (c:Int):Bool:=decide ((ox c=true∨c=95∨c=46)∨(0 < i∧((48≤c∧c≤57)∨c=45)))
def ga (s:ByteArray):Bool:=decide (1≤s.size∧s.size≤16) && t1 s.size fun i=>sB i (nB s i)
set_option maxHeartbeats 1000000 in
theorem vO (s:ByteArray):bM Tryz.prog 87 [uL s] (c9 (ga s)):=by
 refine aT Tryz.func87 rfl Tryz.ntmps87 rfl fun B=>?_
 repeat' (first|refine go ?_|refine HF a1 F8 ?_)
 refine cN [0] (¬(1≤s.size∧s.size≤16)) rfl (fun Q' K=>?_) (fun hC=>?_) (fun hC=>?_)
 ·repeat' (first|refine go ?_|refine HF a1 F8 ?_|refine HO F8 ?_|refine HS HB ?_|refine be rfl rfl rfl (fun _=>?_) (fun _=>?_))
  all_goals exact K _ _ rfl rfl (by simp_all <;> omega)
 ·repeat' (first|refine go ?_|refine HF a1 F8 ?_)
  refine HN F8 ?_
  unfold ga
  rw [decide_eq_false hC]
  rfl
 have hC:=Decidable.not_not.1 hC
 repeat' (first|refine go ?_|refine ak ?_|refine HF a1 F8 ?_)
 refine aR [0,16] (α:=Nat) (fun i=>[(17,aH i)]) (fun i=>i≤s.size∧∀j,j < i→sB j (nB s j)=true) (fun _=>[]) (fun i=>s.size - i) 0 rfl ⟨rfl,trivial⟩ ⟨Nat.zero_le _,fun j hj=>absurd hj (Nat.not_lt_zero _)⟩ (fun _ _ h=>h) fun i hi=>?_
 try dsimp only [Hs,Hr,Hq,Hl]
 repeat' (first|refine go ?_|refine HF a1 F8 ?_)
 refine ay rfl (fun h=>?_) (fun h=>?_)
 ·have hil:i < s.size:=by have:=Hy h;omega
  obtain ⟨c,hc⟩:=xt hil
  have hb:=pv hc
  repeat' (first|refine go ?_|refine ak ?_|refine HF a1 F8 ?_)
  refine xd a1 rfl rfl rfl rfl (by omega) (by rw [Int.toNat_natCast];exact hc) rfl ?_
  generalize (c.toNat:Int)=z at *
  repeat' (first|refine go ?_|refine HF a1 F8 ?_|(apply bD;refine bf ?_)|fail)
  refine d7 (t:=5) [0,3,4,16,17] (ox z=true∨z=95∨z=46) rfl (fun Q' K=>?_) ?_
  ·clear hi hb hc h
   repeat' (first|refine go ?_|refine HF a1 F8 ?_|refine HO F8 ?_|refine HS HB ?_|refine be rfl rfl rfl (fun _=>?_) (fun _=>?_))
   all_goals exact K _ _ rfl rfl (by simp_all)
  repeat' (first|refine go ?_|refine HF a1 F8 ?_)
  refine d7 (t:=6) [0,5,16,17] (0 < i∧((48≤z∧z≤57)∨z=45)) rfl (fun Q' K=>?_) ?_
  ·clear hi hb hc h
   repeat' (first|refine go ?_|refine HF a1 F8 ?_|refine HO F8 ?_|refine HS HB ?_|refine cR rfl rfl rfl ?_|refine be rfl rfl rfl (fun _=>?_) (fun _=>?_))
   all_goals exact K _ _ rfl rfl (by simp_all <;> omega)
  repeat' (first|refine go ?_|refine HF a1 F8 ?_)
  refine cN [0,16,17] (sB i z=false) rfl (fun Q' K=>?_) (fun h2=>?_) (fun h2=>?_)
  ·clear hi hb hc h
   repeat' (first|refine go ?_|refine HF a1 F8 ?_|refine HO F8 ?_|refine HS HB ?_|refine be rfl rfl rfl (fun _=>?_) (fun _=>?_))
   all_goals exact K _ _ rfl rfl (by clear K;unfold sB;grind)
  ·repeat' (first|refine go ?_|refine HF a1 F8 ?_)
   refine HN F8 ?_
   unfold ga
   rw [om hil (by rw [hb];exact h2),Bool.and_false]
  ·repeat' (first|refine go ?_|refine HF a1 F8 ?_|(apply aZ;refine aY ?_)|fail)
   refine aF (i+1) rfl ⟨by rw [Hv];rfl,trivial⟩ ⟨by omega,fun j hj=>?_⟩ (by omega) (fun _ _ h=>h)
   by_cases e:j=i
   ·subst e;rw [hb];simpa using h2
   ·exact hi.2 j (by omega)
 ·have hil:i=s.size:=by have:=Hx h;omega
  subst hil
  repeat' (first|refine go ?_|refine HF a1 F8 ?_)
  refine HN F8 ?_
  unfold ga
  rw [decide_eq_true hC,nv.2 hi.2]
  rfl
instance (s:ByteArray):AD Tryz.prog 87 [uL s] (c9 (ga s)):=⟨vO s⟩
end Go.Proofs.YtpbinloeemebkaaGreat
namespace Go.Proofs.YtpbinloeemebkaaGreat
open Go.RowKit
attribute [local irreducible] AT bO AX AO Av Kt bo dU DA cT
def fR {α:Type} (l:List α) (w:Nat→α→Int) (i:Nat):Int:=match l[i]? with | some x=>w i x | none=>0
def d5 {α:Type} (l:List α) (w:Nat→α→Int):Int×Int:=dk (fR l w) l.length
def ck {α:Type} (most:Int) (l:List α) (w:Nat→α→Int):Int×Int:=d6 most (fR l w) l.length
theorem il {α:Type} {l:List α} {w:Nat→α→Int} {i:Nat} {x:α} (h:l[i]?=some x):fR l w i=w i x:=by unfold fR;rw [h]
theorem rj {α:Type} {l:List α} {w:Nat→α→Int} (h:∀i x,l[i]?=some x→w i x=0) (i:Nat):fR l w i=0:=by
 unfold fR
 split
 ·exact h _ _ (by assumption)
 ·rfl
theorem fk {α:Type} {l:List α} {w:Nat→α→Int} (h:∀i x,l[i]?=some x→w i x=0):d5 l w=(0,0):=rh fun i _=>rj h i
theorem dL {α:Type} {most:Int} {l:List α} {w:Nat→α→Int} (hm:(l.length:Int)≤most) (h:∀i x,l[i]?=some x→w i x=0):ck most l w=(0,0):=zf hm fun i _=>rj h i
theorem dh {α:Type} {P:Program} {g:FuncId} {caps:List AV} {l:List α} {el:α→AV} {w:Nat→α→Int} (h:∀(i:Nat) x,l[i]?=some x→bM P g ([aH i,el x]++caps) (aH (w i x))):∀(i:Nat) x (L:AL),l[i]?=some x→True→AC P g ([aH i,el x]++caps) L fun c _=>c=aH (fR l w i)∧(fR l w i=0→True):=by
 intro i x L hx _
 rw [il hx]
 exact ((h i x hx).any L).mono fun c L' ⟨h1,_⟩=>⟨h1,fun _=>trivial⟩
theorem qJ {α:Type} {P:Program} {g:FuncId} {caps:List AV} {l:List α} {el:α→AV} {w:Nat→α→Int} {L0:AL} (h:∀(i:Nat) x,l[i]?=some x→AC P g ([aH i,el x]++caps) L0 fun c L'=>c=aH (w i x)∧L'=L0):∀(i:Nat) x (L:AL),l[i]?=some x→L=L0→AC P g ([aH i,el x]++caps) L fun c L'=>c=aH (fR l w i)∧(fR l w i=0→L'=L0):=by
 intro i x L hx hL
 subst hL
 rw [il hx]
 exact (h i x hx).mono fun c L' ⟨h1,h2⟩=>⟨h1,fun _=>h2⟩
theorem wC (n:Int):bM Tryz.prog 267 [aH n] (c9 (gd n)):=by
 refine aT Tryz.func267 rfl Tryz.ntmps267 rfl fun B=>?_
 repeat' (first|refine go ?_|refine HF a1 F8 ?_)
 refine d7 (t:=2) [] (gd n=true) rfl (fun Q' K=>?_) ?_
 ·repeat' (first|refine go ?_|refine HF a1 F8 ?_|refine HO F8 ?_|refine HS HB ?_|refine be rfl rfl rfl (fun _=>?_) (fun _=>?_))
  all_goals exact K _ _ rfl rfl (by clear K;unfold gd;grind)
 repeat' (first|refine go ?_|fail)
 refine HN F8 ?_
 simp
instance (n:Int):AD Tryz.prog 267 [aH n] (c9 (gd n)):=⟨wC n⟩
def fJ (n:Int):Int→List Int→Bool
 | last,[]=>decide (last=n - 1)
 | last,e::r=>if e≥n∨e < last+2 then false else fJ n e r
def oG (p:eB):Bool:=gd p.X && gd p.Y
def gP (pts:List eB) (ends:List Int):Bool:=decide (pts.length≤200∧ends.length≤40) && (pts.all oG && fJ pts.length (-1) ends)
theorem tE {n last:Int} {l:List Int} {i:Nat} {e:Int} (h:l[i]?=some e):fJ n last (l.drop i)=if e≥n∨e < last+2 then false else fJ n e (l.drop (i+1)):=by
 obtain ⟨hi,hx⟩:=Hp h
 rw [List.drop_eq_getElem_cons hi,hx]
 rfl
set_option maxHeartbeats 1000000 in
theorem sF (pts:List eB) (ends:List Int):bM Tryz.prog 224 [.agg [.imm 3 (pts.map dA),.imm 1 (aS ends)]] (c9 (gP pts ends)):=by
 refine aT Tryz.func224 rfl Tryz.ntmps224 rfl fun B=>?_
 repeat' (first|refine go ?_|refine HF a1 F8 ?_|refine bC ?_|fail)
 refine cN [1] (¬(pts.length≤200∧ends.length≤40)) rfl (fun Q' K=>?_) (fun hC=>?_) (fun hC=>?_)
 ·repeat' (first|refine go ?_|refine HF a1 F8 ?_|refine HO F8 ?_|refine HS HB ?_|refine be rfl rfl rfl (fun _=>?_) (fun _=>?_))
  all_goals exact K _ _ rfl rfl (by clear K;simp_all [aN] <;> omega)
 ·repeat' (first|refine go ?_|refine HF a1 F8 ?_)
  refine HN F8 ?_
  unfold gP
  rw [decide_eq_false hC]
  rfl
 have hC:=Decidable.not_not.1 hC
 have hlm:(pts.map dA).length=pts.length:=Hu ..
 repeat' (first|refine go ?_|refine ak ?_|refine HF a1 F8 ?_)
 refine aR [1,19,20] (α:=Nat) (fun i=>[(21,aH i)]) (fun i=>i≤pts.length∧(pts.take i).all oG=true) (fun _=>[]) (fun i=>pts.length - i) 0 rfl ⟨rfl,trivial⟩ ⟨Nat.zero_le _,by simp⟩ (fun _ _ h=>h) fun i hi=>?_
 try dsimp only [Hs,Hr,Hq,Hl]
 repeat' (first|refine go ?_|refine HF a1 F8 ?_)
 refine ay rfl (fun h=>?_) (fun h=>?_)
 ·have hil:i < pts.length:=by have:=Hy h;simp at this;omega
  obtain ⟨z,hz⟩:∃z,pts[i]?=some z:=⟨_,Hz hil⟩
  have hzg:=bA (c:=dA) hz
  clear h
  repeat' (first|refine go ?_|refine ak ?_|refine HF a1 F8 ?_|(apply aX;first|refine aU a1 ?_|refine aK a1 ?_)|(apply aQ;first|refine HH 4 a1 0 HE ?_|refine HH 4 a1 1 HE ?_|refine HH 4 a1 2 HE ?_|refine HG a1 0 HD ?_|refine HG a1 1 HD ?_|refine HG a1 2 HD ?_|refine HG a1 3 HD ?_|fail)|refine bl a1 fun _=>?_|(apply bD;refine bf ?_)|fail)
  refine cN [1,19,20,21] (oG z=false) rfl (fun Q' K=>?_) (fun h2=>?_) (fun h2=>?_)
  ·clear hi hzg
   repeat' (first|refine go ?_|refine HF a1 F8 ?_|refine HO F8 ?_|refine HS HB ?_|(apply bD;refine bf ?_)|refine be rfl rfl rfl (fun _=>?_) (fun _=>?_))
   all_goals exact K _ _ rfl rfl (by clear K;unfold oG;simp_all)
  ·repeat' (first|refine go ?_|refine HF a1 F8 ?_)
   refine HN F8 ?_
   unfold gP
   rw [show pts.all oG=false by
    rw [List.all_eq_false]
    exact ⟨z,Hw hz,by simp [h2]⟩]
   simp
  ·repeat' (first|refine go ?_|refine HF a1 F8 ?_|(apply aZ;refine aY ?_)|fail)
   refine aF (i+1) rfl ⟨by rw [Hv];rfl,trivial⟩ ⟨by omega,?_⟩ (by omega) (fun _ _ h=>h)
   rw [List.take_add_one,hz,List.all_append,hi.2]
   simpa using h2
 have hil:i=pts.length:=by have:=Hx h;simp at this;omega
 subst hil
 rw [List.take_length] at hi
 have hall:=hi.2
 clear hi h
 have hval:gP pts ends=fJ pts.length (-1) ends:=by
  unfold gP
  rw [decide_eq_true hC,hall]
  rfl
 rw [hval]
 repeat' (first|refine go ?_|refine ak ?_|refine HF a1 F8 ?_)
 refine aR [1,37,38] (α:=Nat×Int) (fun x=>[(39,aH x.1),(5,aH x.2)]) (fun x=>x.1≤ends.length∧-1≤x.2∧x.2≤1000∧fJ pts.length (-1) ends=fJ pts.length x.2 (ends.drop x.1)) (fun _=>[]) (fun x=>ends.length - x.1) (0,-1) rfl ⟨rfl,rfl,trivial⟩ ⟨Nat.zero_le _,by decide,by decide,rfl⟩ (fun _ _ h=>h) ?_
 rintro ⟨i,last⟩ ⟨hi,hl0,hl1,he⟩
 dsimp only at hi hl0 hl1 he ⊢
 try dsimp only [Hs,Hr,Hq,Hl]
 repeat' (first|refine go ?_|refine HF a1 F8 ?_)
 refine ay rfl (fun h=>?_) (fun h=>?_)
 ·have hil:i < ends.length:=by have:=Hy h;simp [aN] at this;omega
  obtain ⟨z,hz⟩:∃z,ends[i]?=some z:=⟨_,Hz hil⟩
  have hzg:=bG hz
  rw [tE hz] at he
  clear h
  repeat' (first|refine go ?_|refine ak ?_|refine HF a1 F8 ?_|(apply aX;first|refine aU a1 ?_|refine aK a1 ?_)|fail)
  refine cN [1,7,37,38,39] (z≥pts.length∨z < last+2) rfl (fun Q' K=>?_) (fun h2=>?_) (fun h2=>?_)
  ·clear hi hzg he hval
   repeat' (first|refine go ?_|refine HF a1 F8 ?_|refine HO F8 ?_|refine HS HB ?_|(apply aZ;refine aY ?_)|refine be rfl rfl rfl (fun _=>?_) (fun _=>?_))
   all_goals exact K _ _ rfl rfl (by clear K;simp_all <;> omega)
  ·rw [if_pos h2] at he
   repeat' (first|refine go ?_|refine HF a1 F8 ?_)
   refine HN F8 ?_
   rw [he]
  ·rw [if_neg h2] at he
   repeat' (first|refine go ?_|refine HF a1 F8 ?_|(apply aZ;refine aY ?_)|fail)
   exact aF (i+1,z) rfl ⟨by rw [Hv];rfl,rfl,trivial⟩ ⟨by dsimp only;omega,by dsimp only;omega,by dsimp only;omega,he⟩ (by dsimp only;omega) (fun _ _ h=>h)
 ·have hil:i=ends.length:=by have:=Hx h;simp [aN] at this;omega
  subst hil
  rw [List.drop_length] at he
  repeat' (first|refine go ?_|refine HF a1 F8 ?_|(apply aZ;refine aY ?_)|fail)
  refine HN F8 ?_
  rw [he]
  simp [fJ]
def G5 (_:Nat) (p:eB):Int:=dX (!([p.X,p.Y].all gd)) 30
theorem wt (i:Nat) (p:eB):bM Tryz.prog 223 [aH i,.agg (dA p)] (aH (G5 i p)):=by
 refine aT Tryz.func223 rfl Tryz.ntmps223 rfl fun B=>?_
 repeat' (first|refine go ?_|refine HF a1 F8 ?_|refine bC ?_|refine bI a1 ?_|(apply bD;refine bf ?_)|fail)
 exact HP HA
def iH (g:bn):Int:=if g.Advance < 0∨g.Advance > 16384 then 1 else if g.Points.length > 200∨g.Ends.length > 40 then 2 else if (d5 g.Points G5).1≠0 then (d5 g.Points G5).1 else dX (!(gP g.Points g.Ends)) 31
theorem za (g:bn):bM Tryz.prog 152 [.agg (bS g)] (aH (iH g)):=by
 refine aT Tryz.func152 rfl Tryz.ntmps152 rfl fun B=>?_
 unfold iH
 repeat' (first|refine go ?_|refine ak ?_|refine HF a1 F8 ?_|refine bC ?_|fail)
 refine cN [1] (g.Advance < 0∨g.Advance > 16384) rfl (fun Q' K=>?_) (fun hC=>?_) (fun hC=>?_)
 ·repeat' (first|refine go ?_|refine HF a1 F8 ?_|refine HO F8 ?_|refine HS HB ?_|refine be rfl rfl rfl (fun _=>?_) (fun _=>?_))
  all_goals exact K _ _ rfl rfl (by clear K;grind)
 ·rw [if_pos hC]
  repeat' (first|refine go ?_|refine HF a1 F8 ?_)
  exact HP HA
 rw [if_neg hC]
 repeat' (first|refine go ?_|refine HF a1 F8 ?_)
 refine cN [1] (g.Points.length > 200∨g.Ends.length > 40) rfl (fun Q' K=>?_) (fun hC=>?_) (fun hC=>?_)
 ·repeat' (first|refine go ?_|refine HF a1 F8 ?_|refine HO F8 ?_|refine HS HB ?_|refine be rfl rfl rfl (fun _=>?_) (fun _=>?_))
  all_goals exact K _ _ rfl rfl (by clear K;simp_all [aN] <;> omega)
 ·rw [if_pos hC]
  repeat' (first|refine go ?_|refine HF a1 F8 ?_)
  exact HP HA
 rw [if_neg hC]
 repeat' (first|refine go ?_|refine HF a1 F8 ?_)
 refine bb [] [] (CL (u:= .sc (.func (.func 223) #[] #[])) (g:=223) (caps:=[]) rfl g.Points _ (fun _ _=>True) [] trivial (dh (fun i x _=>wt i x))) rfl rfl (Ho _) rfl fun c L1 hc=>?_
 have hc:c=ct (d5 g.Points G5):=hc
 subst hc
 unfold ct
 repeat' (first|refine go ?_|refine HF a1 F8 ?_)
 refine ay rfl (fun h=>?_) (fun h=>?_)
 ·rw [if_pos (Hy h)]
  repeat' (first|refine go ?_|refine HF a1 F8 ?_)
  exact HP HA
 ·rw [if_neg (Hx h)]
  repeat' (first|refine go ?_|refine HF a1 F8 ?_)
  refine bf (hc:=⟨sF g.Points g.Ends⟩) ?_
  repeat' (first|refine go ?_|refine HF a1 F8 ?_|(apply bD;refine bf ?_)|fail)
  exact HP HA
instance (g:bn):AD Tryz.prog 152 [.agg (bS g)] (aH (iH g)):=⟨za g⟩
end Go.Proofs.YtpbinloeemebkaaGreat
namespace Go.Proofs.YtpbinloeemebkaaGreat
open Go.RowKit
attribute [local irreducible] AT bO AX AO Av Kt bo dU DA cT
open Go.MapKept
def AF (_:Nat) (i:fT):Int:=if i.Op < 1∨i.Op > 39 then 50 else if i.A < -999999999∨i.A > 999999999 then 3 else 0
theorem sJ (n:Nat) (i:fT):bM Tryz.prog 190 [aH n,.agg (eU i)] (aH (AF n i)):=by
 refine aT Tryz.func190 rfl Tryz.ntmps190 rfl fun B=>?_
 unfold AF
 repeat' (first|refine go ?_|refine ak ?_|refine HF a1 F8 ?_|refine bC ?_|fail)
 refine cN [3] (i.Op < 1∨i.Op > 39) rfl (fun Q' K=>?_) (fun hC=>?_) (fun hC=>?_)
 ·repeat' (first|refine go ?_|refine HF a1 F8 ?_|refine HO F8 ?_|refine HS HB ?_|refine be rfl rfl rfl (fun _=>?_) (fun _=>?_))
  all_goals exact K _ _ rfl rfl (by clear K;grind)
 ·rw [if_pos hC]
  repeat' (first|refine go ?_|refine HF a1 F8 ?_)
  exact HP HA
 rw [if_neg hC]
 repeat' (first|refine go ?_|refine HF a1 F8 ?_)
 refine cN [] (i.A < -999999999∨i.A > 999999999) rfl (fun Q' K=>?_) (fun hC=>?_) (fun hC=>?_)
 ·repeat' (first|refine go ?_|refine HF a1 F8 ?_|refine HO F8 ?_|refine HS HB ?_|refine be rfl rfl rfl (fun _=>?_) (fun _=>?_))
  all_goals exact K _ _ rfl rfl (by clear K;grind)
 ·rw [if_pos hC]
  repeat' (first|refine go ?_|refine HF a1 F8 ?_)
  exact HP HA
 rw [if_neg hC]
 repeat' (first|refine go ?_|refine HF a1 F8 ?_)
 exact HP HA
def n3 (l:List fT):Int:=(ck 200 l AF).1
theorem uk (l:List fT):bM Tryz.prog 108 [.imm 2 (l.map eU)] (aH (n3 l)):=by
 refine aT Tryz.func108 rfl Tryz.ntmps108 rfl fun B=>?_
 repeat' (first|refine go ?_|refine HF a1 F8 ?_|(apply bD;refine bf ?_)|fail)
 refine df (f:=250) (cs:=[]) [] [] (Dt (g:=190) (caps:=[]) rfl l 200 _ (fun _ _=>True) [] trivial (fun _=>dh fun i x _=>sJ i x)) rfl rfl rfl (Ho _) rfl rfl fun c L1 hc=>?_
 have hc:c=ct (ck 200 l AF):=hc
 subst hc
 unfold ct
 repeat' (first|refine go ?_|refine HF a1 F8 ?_)
 exact HP HA
instance (l:List fT):AD Tryz.prog 108 [.imm 2 (l.map eU)] (aH (n3 l)):=⟨uk l⟩
def lQ (f:aL) (_:Nat) (p:cX):Int:=if kU f p.Glyph=false then 32 else dX (!([p.X,p.Y].all gd)) 30
theorem vF (f:aL) (n:Nat) (p:cX):bM Tryz.prog 154 [aH n,.agg (dW p),.iptr (cf f)] (aH (lQ f n p)):=by
 refine aT Tryz.func154 rfl Tryz.ntmps154 rfl fun B=>?_
 unfold lQ
 repeat' (first|refine go ?_|refine HF a1 F8 ?_|refine bC ?_|(apply bD;refine bf ?_)|fail)
 refine ay rfl (fun h=>?_) (fun h=>?_)
 ·rw [if_pos (by simpa using h)]
  repeat' (first|refine go ?_|refine HF a1 F8 ?_)
  exact HP HA
 ·rw [if_neg (by simpa using h)]
  repeat' (first|refine go ?_|refine HF a1 F8 ?_|refine bI a1 ?_|(apply bD;refine bf ?_)|fail)
  exact HP HA
def lZ (g:bn) (i:Nat) (a:dz):Int:=if (a.Kind < 1∨a.Kind > 4)∨(a.Class < 0∨a.Class > 15)∨((a.Kind=3∨a.Kind=4)∧a.Class≠0)∨[a.X,a.Y].all gd=false∨(a.Kind=2∧g.Mark=false)∨(∃b∈g.Anchors.take i,b.Kind=a.Kind∧b.Class=a.Class) then 35 else 0
def qR (f:aL) (g:bn) (i:Nat) (d:dG):Int:=if d.Region < 0∨d.Region≥f.Regions.length then 61 else if (d.Point < -1∨d.Point≥g.Points.length)∨[d.X,d.Y].all gd=false∨(d.Point= -1∧d.Y≠0) then 30 else if (match i with | 0=>false | j+1=>match g.Deltas[j]? with | some b=>decide (d.Region < b.Region∨(d.Region=b.Region∧d.Point≤b.Point)) | none=>false)=true then 24 else 0
theorem uY (b:Bool):AC Tryz.prog 157 [c9 b] [] fun c L=>∃m,c= .fn 229 [.iptr [c9 b],.iptr [.sc (.map (some m))]]∧L=[(m,i5 fun _ _=>none)]:=by
 refine aT Tryz.func157 rfl Tryz.ntmps157 rfl fun B=>?_
 repeat' (first|refine go ?_|refine HF a1 F8 ?_|refine bC ?_|fail)
 refine w4 fun m=>?_
 repeat' (first|refine go ?_|refine HF a1 F8 ?_|(apply aQ;first|refine HH 3 a1 0 HE ?_|refine HH 3 a1 1 HE ?_|refine HH 3 a1 2 HE ?_|refine HG a1 0 HD ?_|refine HG a1 1 HD ?_|refine HG a1 2 HD ?_|refine HG a1 3 HD ?_|fail)|refine bl a1 fun _=>?_|fail)
 exact HN F8 ⟨_,rfl,rfl⟩
theorem yb (r p:Int):AC Tryz.prog 159 [aH r,aH p] [] fun c L=>∃b,c= .fn 232 [.iptr [aH r],.iptr [aH p],.sc (.pointer (some ⟨b,0,none⟩))]∧L=[(b,.box [aH 0,aH 0] 307)]:=by
 refine aT Tryz.func159 rfl Tryz.ntmps159 rfl fun B=>?_
 repeat' (first|refine go ?_|refine HF a1 F8 ?_|refine bC ?_|refine bl a1 fun _=>?_|fail)
 exact HN F8 ⟨_,rfl,rfl⟩
theorem vD (e:Int):bM Tryz.prog 150 [.iptr [aH e]] (ct (e,0)):=by
 refine aT Tryz.func150 rfl Tryz.ntmps150 rfl fun B=>?_
 repeat' (first|refine go ?_|refine HF a1 F8 ?_)
 exact bc rfl rfl rfl rfl
theorem vE (g:bn):bM Tryz.prog 151 [.iptr (bS g)] (ct (iH g,0)):=by
 refine aT Tryz.func151 rfl Tryz.ntmps151 rfl fun B=>?_
 repeat' (first|refine go ?_|refine HF a1 F8 ?_|(apply bD;refine bf ?_)|fail)
 exact bc rfl rfl rfl rfl
theorem vG (g:bn):bM Tryz.prog 160 [.iptr (bS g)] (ct (n3 g.Hint,0)):=by
 refine aT Tryz.func160 rfl Tryz.ntmps160 rfl fun B=>?_
 repeat' (first|refine go ?_|refine HF a1 F8 ?_|(apply bD;refine bf ?_)|fail)
 exact bc rfl rfl rfl rfl
def gu (l:List (Int×Int)):Int×Int:=match l with
 | []=>(0,0)
 | x::r=>if x.1=0 then gu r else x
theorem jR:∀l:List Lk,rC l=gu (l.map fun x=>(x.e,x.n))
 | []=>rfl
 | x::r=>by simp only [rC,Hq,gu];rw [jR r]
theorem pH:∀{l:List (Int×Int)},(∀x∈l,x.1=0)→gu l=(0,0)
 | [],_=>rfl
 | x::r,h=>by unfold gu;rw [if_pos (h x (List.mem_cons_self ..))];exact pH fun y hy=>h y (Ht _ hy)
def nR (f:aL) (g:bn) (name:Int):Int:=(gu [(name,0),(iH g,0),ck 8 g.Parts (lQ f),ck 16 g.Anchors (lZ g),ck 400 g.Deltas (qR f g),(n3 g.Hint,0)]).1
end Go.Proofs.YtpbinloeemebkaaGreat
