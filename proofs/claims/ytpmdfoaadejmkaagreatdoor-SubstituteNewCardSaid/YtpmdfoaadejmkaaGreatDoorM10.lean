/-
  The program: what the first look tells that finds something wrong.
-/
import Derived.Test.YtpmdfoaadejmkaaGreatDoorM09
import Derived.Test.YtpmdfoaadejmkaaGreatDoorM07
namespace Go.Proofs.YtpmdfoaadejmkaaGreatDoor
open Go.RowKit
section
attribute [local irreducible] AT bP AX AO Av Kt bb dh DA cG
structure Lk where
 f:FuncId
 caps:List AV
 L:AL
 e:Int
 n:Int
def Lk.ok (x:Lk):Prop:=bS Tryz.prog x.f∧AC Tryz.prog x.f x.caps x.L fun c _=>c=co (x.e,x.n)
def tT:List Lk→Int×Int
 | []=>(0,0)
 | x::r=>if x.e=0 then tT r else (x.e,x.n)
def JU (l:List Lk):AL:=(l.map Lk.L).flatten
def wM:List Lk→Prop
 | []=>True
 | x::r=>x.ok∧(x.e=0→wM r)
def Mg (x:Lk):List AV:=[.fn x.f x.caps]
theorem Fm {l:List Lk} {i:Nat} {x:Lk} (h:l[i]?=some x):tT (l.drop i)=if x.e=0 then tT (l.drop (i+1)) else (x.e,x.n):=by
 obtain ⟨hi,hx⟩:=Np h
 rw [List.drop_eq_getElem_cons hi,hx]
 rfl
theorem Cs {l:List Lk} {i:Nat} {x:Lk} (h:l[i]?=some x) (hk:wM (l.drop i)):x.ok∧(x.e=0→wM (l.drop (i+1))):=by
 obtain ⟨hi,hx⟩:=Np h
 rw [List.drop_eq_getElem_cons hi,hx] at hk
 exact hk
theorem wL:∀{l:List Lk},(tT l).1=0→tT l=(0,0)
 | [],_=>rfl
 | x::r,h=>by
  unfold tT at h ⊢
  split
  ·rename_i h0
   rw [if_pos h0] at h
   exact wL h
  ·rename_i h0
   rw [if_neg h0] at h
   exact absurd h h0
theorem Fn {l:List Lk} {i:Nat} {x:Lk} (h:l[i]?=some x):JU (l.drop i)=x.L++JU (l.drop (i+1)):=by
 obtain ⟨hi,hx⟩:=Np h
 unfold JU
 rw [List.drop_eq_getElem_cons hi,hx]
 rfl
theorem C2 {σ0:cF} {l:Nat} (ls:List Lk) (hok:wM ls) (E:AL) (E':Int→Int→AL) (hy:∀e n,e≠0→AY Tryz.prog σ0 l [aK e,aK n] E fun c L=>c=dy false∧L=E' e n):
  GJ Tryz.prog σ0 197 [.sc (.func (.yield l) #[] #[]),.iptr [.imm 1 (ls.map Mg)]] (JU ls++E) fun _ L=>L=if (tT ls).1=0 then E else E' (tT ls).1 (tT ls).2:=by
 refine ux Tryz.func197 rfl Tryz.ntmps197 rfl fun B hB=>?_
 refine W03 ?_
 refine cR 7 rfl rfl fun hlen=>?_
 rw [Nu] at hlen
 refine aM [0,7,8] (α:=Nat) (fun i=>[(9,aK i)]) (fun i=>i≤ls.length∧tT ls=tT (ls.drop i)∧wM (ls.drop i)) (fun i=>JU (ls.drop i)++E) (fun i=>ls.length - i) 0 rfl ⟨rfl,trivial⟩ ⟨Nat.zero_le _,rfl,hok⟩ (fun _ _ h=>h) fun i ⟨hi,he,hok⟩=>?_
 try dsimp only [Ns,Nr,Nq,Nk]
 refine W01 ?_
 refine aj rfl (fun h=>?_) (fun h=>?_)
 ·have hil:i < ls.length:=by have:=Ny h;simp at this;omega
  obtain ⟨x,hx⟩:∃z,ls[i]?=some z:=⟨_,Nz hil⟩
  have hzg:=bG (c:=Mg) hx
  obtain ⟨⟨hcf,hac⟩,hok⟩:=Cs hx hok
  rw [Fm hx] at he
  rw [Fn hx]
  refine W0a ?_
  refine dE (cs:=[]) x.L (JU (ls.drop (i+1))++E) (by simpa using hac) rfl rfl rfl (by rw [List.append_assoc]) rfl rfl fun c L1 hc=>?_
  subst hc
  refine aL (bF (List.sublist_append_right ..)) ?_
  unfold co
  refine W01 ?_
  by_cases h0:x.e=0
  ·rw [if_pos h0] at he
   rw [h0]
   refine W1h ?_
   exact aC (i+1) rfl ⟨by rw [Nv];rfl,trivial⟩ ⟨by omega,he,hok h0⟩ (by omega) (fun _ _ h=>h)
  ·rw [if_neg h0] at he
   rw [show decide (x.e≠0)=true from decide_eq_true h0]
   refine W0J ?_
   refine aL (bF (List.sublist_append_right ..)) ?_
   refine re E [] hB (hy x.e x.n h0) rfl rfl rfl (cy rfl) rfl rfl fun c L1 ⟨hc,hL⟩=>?_
   subst hc;subst hL
   rw [List.append_nil]
   refine W1M ?_
   refine o8 rfl ?_
   rw [he,if_neg h0]
 ·have hil:i=ls.length:=by have:=Nx h;simp at this;omega
  subst hil
  rw [List.drop_length] at he ⊢
  repeat' (first|refine Ng ?_|fail)
  refine cD rfl ?_
  rw [he]
  rfl
theorem ym (l:List (List AV)):bV Tryz.prog 111 [.imm 1 l] (.fn 197 [.iptr [.imm 1 l]]):=by
 refine aV Tryz.func111 rfl Tryz.ntmps111 rfl fun B=>?_
 refine W08 ?_
 exact NQ NA
instance (l:List (List AV)):AD Tryz.prog 111 [.imm 1 l] (.fn 197 [.iptr [.imm 1 l]]):=⟨ym l⟩
theorem x8 {p q:Nat×AB} {l l2:AL}:(p::q::(l++l2)).Perm (l++(p::q::l2)):=by
 have:=(List.perm_append_comm (l₁:=[p,q]) (l₂:=l)).append_right l2
 simpa using this
set_option maxHeartbeats 1000000 in
theorem kx (ls:List Lk) (hok:wM ls):AC Tryz.prog 47 [.imm 1 (ls.map Mg)] (JU ls) fun c _=>c=co (tT ls):=by
 refine uv Tryz.func47 rfl Tryz.ntmps47 rfl fun B=>?_
 refine W1A ?_
 intros
 rename_i b2 b3
 refine lQ (ps:=[8,9]) rfl fun σ0 l db rec hrec=>?_
 have hy:∀e n:Int,e≠0→AY Tryz.prog σ0 l [aK e,aK n] ([(b3,.box [aK 0] 3),(b2,.box [aK 0] 35),(db,lZ)]++[(l,kf rec)]) fun c L=>c=dy false∧L=[(b3,.box [aK n] 3),(b2,.box [aK e] 35),(db,lZ)]++[(l,kf { ({ rec with state:= .busy }:Loop) with state:= .done,pending:=some .ret })]:=by
  intro e n he
  refine w9 hrec rfl rfl fun B1 hB1=>?_
  refine W01 ?_
  refine lT hrec.state ?_
  refine W1c ?_
  refine rx (L:=[(b3,.box [aK n] 3),(b2,.box [aK e] 35),(db,lZ)]) ?_
  exact ⟨rfl,rfl⟩
 refine ⟨_,(C2 ls hok _ _ hy).perm ?_,fun c L' hL'=>?_⟩
 ·simp only [List.append_assoc,Ns,Nr]
  exact x8
 ·by_cases h0:(tT ls).1=0
  ·rw [if_pos h0] at hL'
   subst hL'
   refine ⟨rec,_,Nn _,(by rw [hrec.state];intro h;cases h),?_⟩
   rw [hrec.pending]
   show AX _ _ _ _ _ _ _ _
   refine W0O ?_
   refine kU (cs:=[aK 0,aK 0]) [db] [(b3,.box [aK 0] 3),(b2,.box [aK 0] 35)] rfl (Nn _) ?_ ?_
   ·exact ⟨⟨b2,1,_,_,rfl,rfl,.inl ⟨cZ a5 rfl,rfl⟩⟩,⟨b3,0,_,_,rfl,rfl,.inl ⟨cZ a5 rfl,rfl⟩⟩,trivial⟩
   ·have:tT ls=(0,0):=wL h0
    rw [this]
    rfl
  ·rw [if_neg h0] at hL'
   subst hL'
   refine ⟨_,_,Nn _,(by intro h;cases h),?_⟩
   show AX _ _ _ _ _ _ _ _
   repeat' (first|refine Ng ?_|fail)
   refine kU (cs:=[aK (tT ls).1,aK (tT ls).2]) [db] [(b3,.box [aK (tT ls).2] 3),(b2,.box [aK (tT ls).1] 35)] rfl (Nn _) ?_ rfl
   exact ⟨⟨b2,1,_,_,rfl,rfl,.inl ⟨cZ a5 rfl,rfl⟩⟩,⟨b3,0,_,_,rfl,rfl,.inl ⟨cZ a5 rfl,rfl⟩⟩,trivial⟩
def N7 (l:List Int) (n:Nat):List Int:=((List.range n).map Int.ofNat).filter (l.contains ·)
theorem mj (a b:List Int):aW a++aW b=aW (a++b):=by simp [aW]
def d3 (b:Bool) (e:Int):Int:=bif b then e else 0
theorem GG (b:Bool) (e:Int):bV Tryz.prog 78 [dy b,aK e] (aK (d3 b e)):=by
 refine aV Tryz.func78 rfl Tryz.ntmps78 rfl fun B=>?_
 refine W01 ?_
 refine aj rfl (fun h=>?_) (fun h=>?_)
 ·subst h
  refine W01 ?_
  exact NQ NA
 ·subst h
  refine W01 ?_
  exact NQ NA
instance (b:Bool) (e:Int):AD Tryz.prog 78 [dy b,aK e] (aK (d3 b e)):=⟨GG b e⟩
def cY (z:Int):Bool:=decide (-16384≤z∧z≤16384)
theorem uY (l:List Int):bV Tryz.prog 79 [.imm 1 (aW l)] (dy (l.all cY)):=by
 refine aV Tryz.func79 rfl Tryz.ntmps79 rfl fun B=>?_
 refine cR 0 rfl rfl fun hlen=>?_
 rw [aJ] at hlen
 refine W03 ?_
 refine aM [5,6] (α:=Nat) (fun i=>[(7,aK i)]) (fun i=>i≤l.length∧(l.take i).all cY=true) (fun _=>[]) (fun i=>l.length - i) 0 rfl ⟨rfl,trivial⟩ ⟨Nat.zero_le _,by simp⟩ (fun _ _ h=>h) fun i hi=>?_
 try dsimp only [Ns,Nr,Nq,Nk]
 refine W01 ?_
 refine aj rfl (fun h=>?_) (fun h=>?_)
 ·have hil:i < l.length:=by have:=Ny h;rw [aJ] at this;omega
  obtain ⟨z,hz⟩:∃z,l[i]?=some z:=⟨_,Nz hil⟩
  have hzg:=bK hz
  refine W0a ?_
  refine cu [5,6,7] (cY z=false) rfl (fun Q' K=>?_) (fun hC=>?_) (fun hC=>?_)
  ·repeat' (first|refine Ng ?_|refine NG a5 IG ?_|refine NN IG ?_|refine NO NB ?_|refine NR NA (fun _=>?_) (fun _=>?_))
   all_goals exact K _ _ rfl rfl (by unfold cY;simp_all <;> omega)
  ·refine W01 ?_
   refine NM IG ?_
   rw [show l.all cY=false by
    rw [List.all_eq_false]
    exact ⟨z,Nw hz,by simp [hC]⟩]
  ·refine W02 ?_
   refine aC (i+1) rfl ⟨by rw [Nv];rfl,trivial⟩ ⟨by omega,?_⟩ (by omega) (fun _ _ h=>h)
   rw [List.take_add_one,hz,List.all_append,hi.2]
   simpa using hC
 ·have hil:i=l.length:=by have:=Nx h;rw [aJ] at this;omega
  subst hil
  rw [List.take_length] at hi
  refine W01 ?_
  refine NM IG ?_
  rw [hi.2]
instance (x:Int):AD Tryz.prog 79 [.imm 1 [[aK x]]] (dy ([x].all cY)):=⟨uY [x]⟩
instance (x y:Int):AD Tryz.prog 79 [.imm 1 [[aK x],[aK y]]] (dy ([x,y].all cY)):=⟨uY [x,y]⟩
instance (x y z:Int):AD Tryz.prog 79 [.imm 1 [[aK x],[aK y],[aK z]]] (dy ([x,y,z].all cY)):=⟨uY [x,y,z]⟩
def gA (f:aT) (n:Int):Bool:=decide (0≤n∧n < f.Glyphs.length)
theorem wH (f:aT) (n:Int):bV Tryz.prog 119 [ca f,aK n] (dy (gA f n)):=by
 refine aV Tryz.func119 rfl Tryz.ntmps119 rfl fun B=>?_
 refine W08 ?_
 refine bY (t:=4) [] (gA f n=true) rfl (fun Q' K=>?_) ?_
 ·repeat' (first|refine Ng ?_|refine NG a5 IG ?_|refine NN IG ?_|refine NO NB ?_|refine NR NA (fun _=>?_) (fun _=>?_))
  all_goals exact K _ _ rfl rfl (by unfold gA;simp_all <;> omega)
 repeat' (first|refine Ng ?_|fail)
 refine NM IG ?_
 simp
instance (f:aT) (n:Int):AD Tryz.prog 119 [ca f,aK n] (dy (gA f n)):=⟨wH f n⟩
def gJ (right taken:Bool):Int:=bif right then (bif taken then 24 else 0) else 23
theorem t5 (a b:Bool):bV Tryz.prog 53 [dy a,dy b] (aK (gJ a b)):=by
 refine aV Tryz.func53 rfl Tryz.ntmps53 rfl fun B=>?_
 refine W03 ?_
 refine aj rfl (fun h=>?_) (fun h=>?_)
 ·refine W01 ?_
  refine NM IG ?_
  cases a with
  | true=>cases h
  | false=>rfl
 ·refine W01 ?_
  have ha:a=true:=by cases a with
   | true=>rfl
   | false=>cases h
  subst ha
  refine aj rfl (fun h=>?_) (fun h=>?_)
  ·subst h
   refine W01 ?_
   exact NQ NA
  ·subst h
   refine W01 ?_
   exact NQ NA
instance (a b:Bool):AD Tryz.prog 53 [dy a,dy b] (aK (gJ a b)):=⟨t5 a b⟩
def kz (c:Int):Bool:=decide ((65≤c∧c≤90)∨(97≤c∧c≤122))
abbrev U8 (c:Int):AV:= .sc (.int .u8 c)
theorem uP (c:Int):bV Tryz.prog 125 [U8 c] (dy (kz c)):=by
 refine aV Tryz.func125 rfl Tryz.ntmps125 rfl fun B=>?_
 refine W01 ?_
 refine bY (t:=2) [] (kz c=true) rfl (fun Q' K=>?_) ?_
 ·repeat' (first|refine Ng ?_|refine NG a5 IG ?_|refine NN IG ?_|refine NO NB ?_|refine cq rfl rfl rfl ?_|refine NR NA (fun _=>?_) (fun _=>?_))
  all_goals exact K _ _ rfl rfl (by unfold kz;simp_all <;> omega)
 repeat' (first|refine Ng ?_|fail)
 refine NM IG ?_
 simp
instance (c:Int):AD Tryz.prog 125 [U8 c] (dy (kz c)):=⟨uP c⟩
section
variable {P:Program} {tt:TT} {r:Option Nat} {ops:Array Oper} {Q:Exit→Act→World→Prop} {nt:Nat} {D:List Deferred} {fr:cf} {B:Bs} {L:AL} {rest:List Oper} {d:Nat} {ty t:TypeId} {pos:String} {af:Array Edge} {x y z:Operand}
theorem rd (ok:eF P tt) {s:ByteArray} {k:IntKind} {i:Int} {c:UInt8} {ti:TI} (ht:dC tt t=some ti) (hk:ti.k= .str) (hx:bE fr x=some (.sc (.string s))) (hy:bE fr y=some (.sc (.int k i))) (h0:0≤i) (hu:s[i.toNat]?=some c) (hd:Nat.ble nt d=false) (h:bP P r ops Q nt D rest ((d,U8 c.toNat)::fr) B L):bP P r ops Q nt D (⟨some d,.index t x y,ty,pos,af,none⟩::rest) fr B L:=cr (xR (ok.str ht hk) hx hy h0 hu) hd rfl h
end
def lW (s:ByteArray) (i:Nat):Int:=match s[i]? with | some c=>c.toNat | none=>0
theorem kV {s:ByteArray} {i:Nat} {c:UInt8} (h:s[i]?=some c):lW s i=c.toNat:=by unfold lW;rw [h]
def vR (n:Nat) (p:Nat→Bool):Bool:=(List.range n).all p
theorem km {n:Nat} {p:Nat→Bool}:vR n p=true↔∀i,i < n→p i=true:=by simp [vR]
theorem jW {n:Nat} {p:Nat→Bool} {i:Nat} (hi:i < n) (h:p i=false):vR n p=false:=by
 rw [Bool.eq_false_iff]
 intro hh
 rw [km.1 hh i hi] at h
 cases h
theorem ri {s:ByteArray} {i:Nat} (h:i < s.size):∃c,s[i]?=some c:=⟨s[i],by simp [h]⟩
def dU (s:ByteArray):Bool:=decide (1≤s.size∧s.size≤8) && vR s.size fun i=>kz (lW s i)
theorem t4 (s:ByteArray):bV Tryz.prog 66 [vE s] (dy (dU s)):=by
 refine aV Tryz.func66 rfl Tryz.ntmps66 rfl fun B=>?_
 refine W01 ?_
 refine cu [0] (¬(1≤s.size∧s.size≤8)) rfl (fun Q' K=>?_) (fun hC=>?_) (fun hC=>?_)
 ·repeat' (first|refine Ng ?_|refine NG a5 IG ?_|refine NN IG ?_|refine NO NB ?_|refine NR NA (fun _=>?_) (fun _=>?_))
  all_goals exact K _ _ rfl rfl (by simp_all <;> omega)
 ·refine W01 ?_
  refine NM IG ?_
  unfold dU
  rw [decide_eq_false hC]
  rfl
 have hC:=Decidable.not_not.1 hC
 refine W03 ?_
 refine aM [0,13] (α:=Nat) (fun i=>[(14,aK i)]) (fun i=>i≤s.size∧∀j,j < i→kz (lW s j)=true) (fun _=>[]) (fun i=>s.size - i) 0 rfl ⟨rfl,trivial⟩ ⟨Nat.zero_le _,fun j hj=>absurd hj (Nat.not_lt_zero _)⟩ (fun _ _ h=>h) fun i hi=>?_
 try dsimp only [Ns,Nr,Nq,Nk]
 refine W01 ?_
 refine aj rfl (fun h=>?_) (fun h=>?_)
 ·have hil:i < s.size:=by have:=Ny h;omega
  obtain ⟨c,hc⟩:=ri hil
  have hb:=kV hc
  refine W03 ?_
  refine rd a5 rfl rfl rfl rfl (by omega) (by rw [Int.toNat_natCast];exact hc) rfl ?_
  refine W0e ?_
  refine aj rfl (fun h2=>?_) (fun h2=>?_)
  ·refine W01 ?_
   refine NM IG ?_
   unfold dU
   rw [jW hil (by rw [hb];simpa using h2),Bool.and_false]
  ·refine W02 ?_
   refine aC (i+1) rfl ⟨by rw [Nv];rfl,trivial⟩ ⟨by omega,fun j hj=>?_⟩ (by omega) (fun _ _ h=>h)
   by_cases e:j=i
   ·subst e;rw [hb];simpa using h2
   ·exact hi.2 j (by omega)
 ·have hil:i=s.size:=by have:=Nx h;omega
  subst hil
  refine W01 ?_
  refine NM IG ?_
  unfold dU
  rw [decide_eq_true hC,km.2 hi.2]
  rfl
instance (s:ByteArray):AD Tryz.prog 66 [vE s] (dy (dU s)):=⟨t4 s⟩
def nM (i:Nat) (c:Int):Bool:=decide ((kz c=true∨c=95∨c=46)∨(0 < i∧((48≤c∧c≤57)∨c=45)))
def dx (s:ByteArray):Bool:=decide (1≤s.size∧s.size≤16) && vR s.size fun i=>nM i (lW s i)
set_option maxHeartbeats 1000000 in
theorem yM (s:ByteArray):bV Tryz.prog 54 [vE s] (dy (dx s)):=by
 refine aV Tryz.func54 rfl Tryz.ntmps54 rfl fun B=>?_
 refine W01 ?_
 refine cu [0] (¬(1≤s.size∧s.size≤16)) rfl (fun Q' K=>?_) (fun hC=>?_) (fun hC=>?_)
 ·repeat' (first|refine Ng ?_|refine NG a5 IG ?_|refine NN IG ?_|refine NO NB ?_|refine NR NA (fun _=>?_) (fun _=>?_))
  all_goals exact K _ _ rfl rfl (by simp_all <;> omega)
 ·refine W01 ?_
  refine NM IG ?_
  unfold dx
  rw [decide_eq_false hC]
  rfl
 have hC:=Decidable.not_not.1 hC
 refine W03 ?_
 refine aM [0,16] (α:=Nat) (fun i=>[(17,aK i)]) (fun i=>i≤s.size∧∀j,j < i→nM j (lW s j)=true) (fun _=>[]) (fun i=>s.size - i) 0 rfl ⟨rfl,trivial⟩ ⟨Nat.zero_le _,fun j hj=>absurd hj (Nat.not_lt_zero _)⟩ (fun _ _ h=>h) fun i hi=>?_
 try dsimp only [Ns,Nr,Nq,Nk]
 refine W01 ?_
 refine aj rfl (fun h=>?_) (fun h=>?_)
 ·have hil:i < s.size:=by have:=Ny h;omega
  obtain ⟨c,hc⟩:=ri hil
  have hb:=kV hc
  refine W03 ?_
  refine rd a5 rfl rfl rfl rfl (by omega) (by rw [Int.toNat_natCast];exact hc) rfl ?_
  generalize (c.toNat:Int)=z at *
  refine W0e ?_
  refine bY (t:=5) [0,3,4,16,17] (kz z=true∨z=95∨z=46) rfl (fun Q' K=>?_) ?_
  ·clear hi hb hc h
   repeat' (first|refine Ng ?_|refine NG a5 IG ?_|refine NN IG ?_|refine NO NB ?_|refine NR NA (fun _=>?_) (fun _=>?_))
   all_goals exact K _ _ rfl rfl (by simp_all)
  refine W01 ?_
  refine bY (t:=6) [0,5,16,17] (0 < i∧((48≤z∧z≤57)∨z=45)) rfl (fun Q' K=>?_) ?_
  ·clear hi hb hc h
   repeat' (first|refine Ng ?_|refine NG a5 IG ?_|refine NN IG ?_|refine NO NB ?_|refine cq rfl rfl rfl ?_|refine NR NA (fun _=>?_) (fun _=>?_))
   all_goals exact K _ _ rfl rfl (by simp_all <;> omega)
  refine W01 ?_
  refine cu [0,16,17] (nM i z=false) rfl (fun Q' K=>?_) (fun h2=>?_) (fun h2=>?_)
  ·clear hi hb hc h
   repeat' (first|refine Ng ?_|refine NG a5 IG ?_|refine NN IG ?_|refine NO NB ?_|refine NR NA (fun _=>?_) (fun _=>?_))
   all_goals exact K _ _ rfl rfl (by clear K;unfold nM;grind)
  ·refine W01 ?_
   refine NM IG ?_
   unfold dx
   rw [jW hil (by rw [hb];exact h2),Bool.and_false]
  ·refine W02 ?_
   refine aC (i+1) rfl ⟨by rw [Nv];rfl,trivial⟩ ⟨by omega,fun j hj=>?_⟩ (by omega) (fun _ _ h=>h)
   by_cases e:j=i
   ·subst e;rw [hb];simpa using h2
   ·exact hi.2 j (by omega)
 ·have hil:i=s.size:=by have:=Nx h;omega
  subst hil
  refine W01 ?_
  refine NM IG ?_
  unfold dx
  rw [decide_eq_true hC,km.2 hi.2]
  rfl
instance (s:ByteArray):AD Tryz.prog 54 [vE s] (dy (dx s)):=⟨yM s⟩
def gO {α:Type} (l:List α) (w:Nat→α→Int) (i:Nat):Int:=match l[i]? with | some x=>w i x | none=>0
def cw {α:Type} (l:List α) (w:Nat→α→Int):Int×Int:=dK (gO l w) l.length
def bT {α:Type} (most:Int) (l:List α) (w:Nat→α→Int):Int×Int:=dB most (gO l w) l.length
theorem fW {α:Type} {l:List α} {w:Nat→α→Int} {i:Nat} {x:α} (h:l[i]?=some x):gO l w i=w i x:=by unfold gO;rw [h]
theorem dH {α:Type} {P:Program} {g:FuncId} {caps:List AV} {l:List α} {el:α→AV} {w:Nat→α→Int} (h:∀(i:Nat) x,l[i]?=some x→bV P g ([aK i,el x]++caps) (aK (w i x))):∀(i:Nat) x (L:AL),l[i]?=some x→True→AC P g ([aK i,el x]++caps) L fun c _=>c=aK (gO l w i)∧(gO l w i=0→True):=by
 intro i x L hx _
 rw [fW hx]
 exact ((h i x hx).any L).mono fun c L' ⟨h1,_⟩=>⟨h1,fun _=>trivial⟩
theorem pd {α:Type} {P:Program} {g:FuncId} {caps:List AV} {l:List α} {el:α→AV} {w:Nat→α→Int} {L0:AL} (h:∀(i:Nat) x,l[i]?=some x→AC P g ([aK i,el x]++caps) L0 fun c L'=>c=aK (w i x)∧L'=L0):∀(i:Nat) x (L:AL),l[i]?=some x→L=L0→AC P g ([aK i,el x]++caps) L fun c L'=>c=aK (gO l w i)∧(gO l w i=0→L'=L0):=by
 intro i x L hx hL
 subst hL
 rw [fW hx]
 exact (h i x hx).mono fun c L' ⟨h1,h2⟩=>⟨h1,fun _=>h2⟩
theorem zQ (n:Int):bV Tryz.prog 263 [aK n] (dy (cY n)):=by
 refine aV Tryz.func263 rfl Tryz.ntmps263 rfl fun B=>?_
 refine W01 ?_
 refine bY (t:=2) [] (cY n=true) rfl (fun Q' K=>?_) ?_
 ·repeat' (first|refine Ng ?_|refine NG a5 IG ?_|refine NN IG ?_|refine NO NB ?_|refine NR NA (fun _=>?_) (fun _=>?_))
  all_goals exact K _ _ rfl rfl (by clear K;unfold cY;grind)
 repeat' (first|refine Ng ?_|fail)
 refine NM IG ?_
 simp
instance (n:Int):AD Tryz.prog 263 [aK n] (dy (cY n)):=⟨zQ n⟩
def fB (n:Int):Int→List Int→Bool
 | last,[]=>decide (last=n - 1)
 | last,e::r=>if e≥n∨e < last+2 then false else fB n e r
def oO (p:eO):Bool:=cY p.X && cY p.Y
def iR (pts:List eO) (ends:List Int):Bool:=decide (pts.length≤200∧ends.length≤40) && (pts.all oO && fB pts.length (-1) ends)
theorem wl {n last:Int} {l:List Int} {i:Nat} {e:Int} (h:l[i]?=some e):fB n last (l.drop i)=if e≥n∨e < last+2 then false else fB n e (l.drop (i+1)):=by
 obtain ⟨hi,hx⟩:=Np h
 rw [List.drop_eq_getElem_cons hi,hx]
 rfl
set_option maxHeartbeats 1000000 in
theorem vf (pts:List eO) (ends:List Int):bV Tryz.prog 200 [.agg [.imm 3 (pts.map dl),.imm 1 (aW ends)]] (dy (iR pts ends)):=by
 refine aV Tryz.func200 rfl Tryz.ntmps200 rfl fun B=>?_
 refine W08 ?_
 refine cu [1] (¬(pts.length≤200∧ends.length≤40)) rfl (fun Q' K=>?_) (fun hC=>?_) (fun hC=>?_)
 ·repeat' (first|refine Ng ?_|refine NG a5 IG ?_|refine NN IG ?_|refine NO NB ?_|refine NR NA (fun _=>?_) (fun _=>?_))
  all_goals exact K _ _ rfl rfl (by clear K;simp_all [aJ] <;> omega)
 ·refine W01 ?_
  refine NM IG ?_
  unfold iR
  rw [decide_eq_false hC]
  rfl
 have hC:=Decidable.not_not.1 hC
 have hlm:(pts.map dl).length=pts.length:=Nu ..
 refine W03 ?_
 refine aM [1,19,20] (α:=Nat) (fun i=>[(21,aK i)]) (fun i=>i≤pts.length∧(pts.take i).all oO=true) (fun _=>[]) (fun i=>pts.length - i) 0 rfl ⟨rfl,trivial⟩ ⟨Nat.zero_le _,by simp⟩ (fun _ _ h=>h) fun i hi=>?_
 try dsimp only [Ns,Nr,Nq,Nk]
 refine W01 ?_
 refine aj rfl (fun h=>?_) (fun h=>?_)
 ·have hil:i < pts.length:=by have:=Ny h;simp at this;omega
  obtain ⟨z,hz⟩:∃z,pts[i]?=some z:=⟨_,Nz hil⟩
  have hzg:=bG (c:=dl) hz
  clear h
  refine W0u ?_
  intros
  refine cu [1,19,20,21] (oO z=false) rfl (fun Q' K=>?_) (fun h2=>?_) (fun h2=>?_)
  ·clear hi hzg
   repeat' (first|refine Ng ?_|refine NG a5 IG ?_|refine NN IG ?_|refine NO NB ?_|(apply bA;refine bw ?_)|refine NR NA (fun _=>?_) (fun _=>?_))
   all_goals exact K _ _ rfl rfl (by clear K;unfold oO;simp_all)
  ·refine W01 ?_
   refine NM IG ?_
   unfold iR
   rw [show pts.all oO=false by
    rw [List.all_eq_false]
    exact ⟨z,Nw hz,by simp [h2]⟩]
   simp
  ·refine W02 ?_
   refine aC (i+1) rfl ⟨by rw [Nv];rfl,trivial⟩ ⟨by omega,?_⟩ (by omega) (fun _ _ h=>h)
   rw [List.take_add_one,hz,List.all_append,hi.2]
   simpa using h2
 have hil:i=pts.length:=by have:=Nx h;simp at this;omega
 subst hil
 rw [List.take_length] at hi
 have hall:=hi.2
 clear hi h
 have hval:iR pts ends=fB pts.length (-1) ends:=by
  unfold iR
  rw [decide_eq_true hC,hall]
  rfl
 rw [hval]
 refine W03 ?_
 refine aM [1,37,38] (α:=Nat×Int) (fun x=>[(39,aK x.1),(5,aK x.2)]) (fun x=>x.1≤ends.length∧-1≤x.2∧x.2≤1000∧fB pts.length (-1) ends=fB pts.length x.2 (ends.drop x.1)) (fun _=>[]) (fun x=>ends.length - x.1) (0,-1) rfl ⟨rfl,rfl,trivial⟩ ⟨Nat.zero_le _,by decide,by decide,rfl⟩ (fun _ _ h=>h) ?_
 rintro ⟨i,last⟩ ⟨hi,hl0,hl1,he⟩
 dsimp only at hi hl0 hl1 he ⊢
 try dsimp only [Ns,Nr,Nq,Nk]
 refine W01 ?_
 refine aj rfl (fun h=>?_) (fun h=>?_)
 ·have hil:i < ends.length:=by have:=Ny h;simp [aJ] at this;omega
  obtain ⟨z,hz⟩:∃z,ends[i]?=some z:=⟨_,Nz hil⟩
  have hzg:=bK hz
  rw [wl hz] at he
  clear h
  refine W0a ?_
  refine cu [1,7,37,38,39] (z≥pts.length∨z < last+2) rfl (fun Q' K=>?_) (fun h2=>?_) (fun h2=>?_)
  ·clear hi hzg he hval
   repeat' (first|refine Ng ?_|refine NG a5 IG ?_|refine NN IG ?_|refine NO NB ?_|(apply aS;refine aR ?_)|refine NR NA (fun _=>?_) (fun _=>?_))
   all_goals exact K _ _ rfl rfl (by clear K;simp_all <;> omega)
  ·rw [if_pos h2] at he
   refine W01 ?_
   refine NM IG ?_
   rw [he]
  ·rw [if_neg h2] at he
   refine W02 ?_
   exact aC (i+1,z) rfl ⟨by rw [Nv];rfl,rfl,trivial⟩ ⟨by dsimp only;omega,by dsimp only;omega,by dsimp only;omega,he⟩ (by dsimp only;omega) (fun _ _ h=>h)
 ·have hil:i=ends.length:=by have:=Nx h;simp [aJ] at this;omega
  subst hil
  rw [List.drop_length] at he
  refine W02 ?_
  refine NM IG ?_
  rw [he]
  simp [fB]
def CQ (_:Nat) (p:eO):Int:=d3 (!([p.X,p.Y].all cY)) 30
theorem zA (i:Nat) (p:eO):bV Tryz.prog 199 [aK i,.agg (dl p)] (aK (CQ i p)):=by
 refine aV Tryz.func199 rfl Tryz.ntmps199 rfl fun B=>?_
 repeat' (first|refine Ng ?_|refine NG a5 IG ?_|refine bq ?_|refine bM a5 ?_|(apply bA;refine bw ?_)|fail)
 exact NQ NA
def eX (g:bj):Int:=if g.Advance < 0∨g.Advance > 16384 then 1 else if g.Points.length > 200∨g.Ends.length > 40 then 2 else if (cw g.Points CQ).1≠0 then (cw g.Points CQ).1 else d3 (!(iR g.Points g.Ends)) 31
theorem Da (g:bj):bV Tryz.prog 116 [.agg (bD g)] (aK (eX g)):=by
 refine aV Tryz.func116 rfl Tryz.ntmps116 rfl fun B=>?_
 unfold eX
 refine W0y ?_
 refine cu [1] (g.Advance < 0∨g.Advance > 16384) rfl (fun Q' K=>?_) (fun hC=>?_) (fun hC=>?_)
 ·repeat' (first|refine Ng ?_|refine NG a5 IG ?_|refine NN IG ?_|refine NO NB ?_|refine NR NA (fun _=>?_) (fun _=>?_))
  all_goals exact K _ _ rfl rfl (by clear K;grind)
 ·rw [if_pos hC]
  refine W01 ?_
  exact NQ NA
 rw [if_neg hC]
 refine W01 ?_
 refine cu [1] (g.Points.length > 200∨g.Ends.length > 40) rfl (fun Q' K=>?_) (fun hC=>?_) (fun hC=>?_)
 ·repeat' (first|refine Ng ?_|refine NG a5 IG ?_|refine NN IG ?_|refine NO NB ?_|refine NR NA (fun _=>?_) (fun _=>?_))
  all_goals exact K _ _ rfl rfl (by clear K;simp_all [aJ] <;> omega)
 ·rw [if_pos hC]
  refine W01 ?_
  exact NQ NA
 rw [if_neg hC]
 refine W01 ?_
 refine b7 [] [] (Hy (u:= .sc (.func (.func 199) #[] #[])) (g:=199) (caps:=[]) rfl g.Points _ (fun _ _=>True) [] trivial (dH (fun i x _=>zA i x))) rfl rfl (Nn _) rfl fun c L1 hc=>?_
 have hc:c=co (cw g.Points CQ):=hc
 subst hc
 unfold co
 refine W01 ?_
 refine aj rfl (fun h=>?_) (fun h=>?_)
 ·rw [if_pos (Ny h)]
  refine W01 ?_
  exact NQ NA
 ·rw [if_neg (Nx h)]
  refine W01 ?_
  refine bw (hc:=⟨vf g.Points g.Ends⟩) ?_
  refine W0e ?_
  exact NQ NA
instance (g:bj):AD Tryz.prog 116 [.agg (bD g)] (aK (eX g)):=⟨Da g⟩
end
section
open Go.MapKept
attribute [local irreducible] AT bP AX AO Av Kt bb dh DA cG
def wG (_:Nat) (i:fh):Int:=if i.Op < 1∨i.Op > 39 then 50 else if i.A < -999999999∨i.A > 999999999 then 3 else 0
theorem vm (n:Nat) (i:fh):bV Tryz.prog 154 [aK n,.agg (eS i)] (aK (wG n i)):=by
 refine aV Tryz.func154 rfl Tryz.ntmps154 rfl fun B=>?_
 unfold wG
 refine W0y ?_
 refine cu [3] (i.Op < 1∨i.Op > 39) rfl (fun Q' K=>?_) (fun hC=>?_) (fun hC=>?_)
 ·repeat' (first|refine Ng ?_|refine NG a5 IG ?_|refine NN IG ?_|refine NO NB ?_|refine NR NA (fun _=>?_) (fun _=>?_))
  all_goals exact K _ _ rfl rfl (by clear K;grind)
 ·rw [if_pos hC]
  refine W01 ?_
  exact NQ NA
 rw [if_neg hC]
 refine W01 ?_
 refine cu [] (i.A < -999999999∨i.A > 999999999) rfl (fun Q' K=>?_) (fun hC=>?_) (fun hC=>?_)
 ·repeat' (first|refine Ng ?_|refine NG a5 IG ?_|refine NN IG ?_|refine NO NB ?_|refine NR NA (fun _=>?_) (fun _=>?_))
  all_goals exact K _ _ rfl rfl (by clear K;grind)
 ·rw [if_pos hC]
  refine W01 ?_
  exact NQ NA
 rw [if_neg hC]
 refine W01 ?_
 exact NQ NA
def il (l:List fh):Int:=(bT 200 l wG).1
theorem xb (l:List fh):bV Tryz.prog 75 [.imm 2 (l.map eS)] (aK (il l)):=by
 refine aV Tryz.func75 rfl Tryz.ntmps75 rfl fun B=>?_
 refine W0e ?_
 refine dE (f:=227) (cs:=[]) [] [] (Ir (g:=154) (caps:=[]) rfl l 200 _ (fun _ _=>True) [] trivial (fun _=>dH fun i x _=>vm i x)) rfl rfl rfl (Nn _) rfl rfl fun c L1 hc=>?_
 have hc:c=co (bT 200 l wG):=hc
 subst hc
 unfold co
 refine W01 ?_
 exact NQ NA
instance (l:List fh):AD Tryz.prog 75 [.imm 2 (l.map eS)] (aK (il l)):=⟨xb l⟩
def iS (f:aT) (_:Nat) (p:cA):Int:=if gA f p.Glyph=false then 32 else d3 (!([p.X,p.Y].all cY)) 30
theorem yD (f:aT) (n:Nat) (p:cA):bV Tryz.prog 118 [aK n,.agg (dJ p),.iptr (cn f)] (aK (iS f n p)):=by
 refine aV Tryz.func118 rfl Tryz.ntmps118 rfl fun B=>?_
 unfold iS
 refine W0Z ?_
 refine aj rfl (fun h=>?_) (fun h=>?_)
 ·rw [if_pos (by simpa using h)]
  refine W01 ?_
  exact NQ NA
 ·rw [if_neg (by simpa using h)]
  refine W0Y ?_
  exact NQ NA
def iI (g:bj) (i:Nat) (a:d9):Int:=if (a.Kind < 1∨a.Kind > 4)∨(a.Class < 0∨a.Class > 15)∨((a.Kind=3∨a.Kind=4)∧a.Class≠0)∨[a.X,a.Y].all cY=false∨(a.Kind=2∧g.Mark=false)∨(∃b∈g.Anchors.take i,b.Kind=a.Kind∧b.Class=a.Class) then 35 else 0
def lF (f:aT) (g:bj) (i:Nat) (d:dk):Int:=if d.Region < 0∨d.Region≥f.Regions.length then 61 else if (d.Point < -1∨d.Point≥g.Points.length)∨[d.X,d.Y].all cY=false∨(d.Point= -1∧d.Y≠0) then 30 else if (match i with | 0=>false | j+1=>match g.Deltas[j]? with | some b=>decide (d.Region < b.Region∨(d.Region=b.Region∧d.Point≤b.Point)) | none=>false)=true then 24 else 0
theorem xT (b:Bool):AC Tryz.prog 121 [dy b] [] fun c L=>∃m,c= .fn 205 [.iptr [dy b],.iptr [.sc (.map (some m))]]∧L=[(m,j9 fun _ _=>none)]:=by
 refine aV Tryz.func121 rfl Tryz.ntmps121 rfl fun B=>?_
 refine W08 ?_
 refine z4 fun m=>?_
 repeat' (first|refine Ng ?_|refine NG a5 IG ?_|(apply aI;first|refine NI 3 a5 0 NF ?_|refine NI 3 a5 1 NF ?_|refine NI 3 a5 2 NF ?_|refine NH a5 0 NE ?_|refine NH a5 1 NE ?_|refine NH a5 2 NE ?_|refine NH a5 3 NE ?_|fail)|refine bn a5 fun _=>?_|fail)
 exact NM IG ⟨_,rfl,rfl⟩
theorem BY (r p:Int):AC Tryz.prog 123 [aK r,aK p] [] fun c L=>∃b,c= .fn 208 [.iptr [aK r],.iptr [aK p],.sc (.pointer (some ⟨b,0,none⟩))]∧L=[(b,.box [aK 0,aK 0] 296)]:=by
 refine aV Tryz.func123 rfl Tryz.ntmps123 rfl fun B=>?_
 refine W0G ?_
 intros
 exact NM IG ⟨_,rfl,rfl⟩
theorem yB (e:Int):bV Tryz.prog 114 [.iptr [aK e]] (co (e,0)):=by
 refine aV Tryz.func114 rfl Tryz.ntmps114 rfl fun B=>?_
 refine W01 ?_
 exact NW NB
theorem yC (g:bj):bV Tryz.prog 115 [.iptr (bD g)] (co (eX g,0)):=by
 refine aV Tryz.func115 rfl Tryz.ntmps115 rfl fun B=>?_
 refine W0e ?_
 exact NW NB
theorem yE (g:bj):bV Tryz.prog 124 [.iptr (bD g)] (co (il g.Hint,0)):=by
 refine aV Tryz.func124 rfl Tryz.ntmps124 rfl fun B=>?_
 refine W0e ?_
 exact NW NB
def gL (l:List (Int×Int)):Int×Int:=match l with
 | []=>(0,0)
 | x::r=>if x.1=0 then gL r else x
theorem lf:∀l:List Lk,tT l=gL (l.map fun x=>(x.e,x.n))
 | []=>rfl
 | x::r=>by simp only [tT,Nq,gL];rw [lf r]
def nI (f:aT) (g:bj) (name:Int):Int:=(gL [(name,0),(eX g,0),bT 8 g.Parts (iS f),bT 16 g.Anchors (iI g),bT 400 g.Deltas (lF f g),(il g.Hint,0)]).1
end
end Go.Proofs.YtpmdfoaadejmkaaGreatDoor
