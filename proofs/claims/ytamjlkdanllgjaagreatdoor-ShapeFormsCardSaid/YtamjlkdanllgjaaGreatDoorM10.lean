/-
  The program: what the first look tells that finds something wrong.
-/
import Derived.Test.YtamjlkdanllgjaaGreatDoorM09
import Derived.Test.YtamjlkdanllgjaaGreatDoorM08
import Derived.Test.YtamjlkdanllgjaaGreatDoorM05
import Derived.Test.YtamjlkdanllgjaaGreatDoorM07
namespace Go.Proofs.YtamjlkdanllgjaaGreatDoor
open Go.RowKit
attribute [local irreducible] AT bz AX AO Av Kt aZ cY DA cu
set_option maxRecDepth 8000
structure Lk where
 f:FuncId
 caps:List AV
 L:AL
 e:Int
 n:Int
def Lk.ok (x:Lk):Prop:=bC Tryz.prog x.f∧AC Tryz.prog x.f x.caps x.L fun c _=>c=cf (x.e,x.n)
def rz:List Lk→Int×Int
 | []=>(0,0)
 | x::r=>if x.e=0 then rz r else (x.e,x.n)
def Hk (l:List Lk):AL:=(l.map Lk.L).flatten
def w4:List Lk→Prop
 | []=>True
 | x::r=>x.ok∧(x.e=0→w4 r)
def K9 (x:Lk):List AV:=[.fn x.f x.caps]
theorem BR {l:List Lk} {i:Nat} {x:Lk} (h:l[i]?=some x):rz (l.drop i)=if x.e=0 then rz (l.drop (i+1)) else (x.e,x.n):=by
 obtain ⟨hi,hx⟩:=Mq h
 rw [List.drop_eq_getElem_cons hi,hx]
 rfl
theorem yV {l:List Lk} {i:Nat} {x:Lk} (h:l[i]?=some x) (hk:w4 (l.drop i)):x.ok∧(x.e=0→w4 (l.drop (i+1))):=by
 obtain ⟨hi,hx⟩:=Mq h
 rw [List.drop_eq_getElem_cons hi,hx] at hk
 exact hk
theorem ud:∀{l:List Lk},(rz l).1=0→rz l=(0,0)
 | [],_=>rfl
 | x::r,h=>by
  unfold rz at h ⊢
  split
  ·rename_i h0
   rw [if_pos h0] at h
   exact ud h
  ·rename_i h0
   rw [if_neg h0] at h
   exact absurd h h0
theorem BT {l:List Lk} {i:Nat} {x:Lk} (h:l[i]?=some x):Hk (l.drop i)=x.L++Hk (l.drop (i+1)):=by
 obtain ⟨hi,hx⟩:=Mq h
 unfold Hk
 rw [List.drop_eq_getElem_cons hi,hx]
 rfl
theorem yB {σ0:bW} {l:Nat} (ls:List Lk) (hok:w4 ls) (E:AL) (E':Int→Int→AL) (hy:∀e n,e≠0→AY Tryz.prog σ0 l [aF e,aF n] E fun c L=>c=cw false∧L=E' e n):
  FF Tryz.prog σ0 243 [.sc (.func (.yield l) #[] #[]),.iptr [.imm 1 (ls.map K9)]] (Hk ls++E) fun _ L=>L=if (rz ls).1=0 then E else E' (rz ls).1 (rz ls).2:=by
 refine vd Tryz.func243 rfl Tryz.ntmps243 rfl fun B hB=>?_
 repeat' (first|refine ae ?_|refine a6 ?_|refine ar ?_|refine a8 ?_|refine aa ?_|refine LR a7 LL ?_)
 refine cF 7 rfl rfl fun hlen=>?_
 rw [Mv] at hlen
 refine aN [0,7,8] (α:=Nat) (fun i=>[(9,aF i)]) (fun i=>i≤ls.length∧rz ls=rz (ls.drop i)∧w4 (ls.drop i)) (fun i=>Hk (ls.drop i)++E) (fun i=>ls.length - i) 0 rfl ⟨rfl,trivial⟩ ⟨Nat.zero_le _,rfl,hok⟩ (fun _ _ h=>h) fun i ⟨hi,he,hok⟩=>?_
 try dsimp only [Mt,Ms,Mr,Mn]
 repeat' (first|refine ae ?_|refine a6 ?_|refine a8 ?_|refine aa ?_|refine LR a7 LL ?_)
 refine aB rfl (fun h=>?_) (fun h=>?_)
 ·have hil:i < ls.length:=by have:=Mz h;simp at this;omega
  obtain ⟨x,hx⟩:∃z,ls[i]?=some z:=⟨_,Ia hil⟩
  have hzg:=c6 (c:=K9) hx
  obtain ⟨⟨hcf,hac⟩,hok⟩:=yV hx hok
  rw [BR hx] at he
  rw [BT hx]
  repeat' (first|refine ae ?_|refine a6 ?_|refine ar ?_|refine aq ?_|refine a8 ?_|refine aa ?_|refine LR a7 LL ?_|(apply aL;first|refine aK a7 ?_|refine aH a7 ?_)|fail)
  refine dl (cs:=[]) x.L (Hk (ls.drop (i+1))++E) (by simpa using hac) rfl rfl rfl (by rw [List.append_assoc]) rfl rfl fun c L1 hc=>?_
  subst hc
  refine bq (dE (List.sublist_append_right ..)) ?_
  unfold cf
  repeat' (first|refine ae ?_|refine a6 ?_|refine a8 ?_|refine aa ?_|refine LR a7 LL ?_)
  by_cases h0:x.e=0
  ·rw [if_pos h0] at he
   rw [h0]
   repeat' (first|refine a6 ?_|refine aq ?_|refine a8 ?_|refine aP ?_|refine aa ?_|refine LR a7 LL ?_|refine MC LN ?_|(apply aY;refine aX ?_)|refine bo rfl ?_)
   exact aE (i+1) rfl ⟨by rw [Mw];rfl,trivial⟩ ⟨by omega,he,hok h0⟩ (by omega) (fun _ _ h=>h)
  ·rw [if_neg h0] at he
   rw [show decide (x.e≠0)=true from decide_eq_true h0]
   repeat' (first|refine LR a7 LL ?_|refine MB LL ?_)
   refine bq (dE (List.sublist_append_right ..)) ?_
   refine oK E [] hB (hy x.e x.n h0) rfl rfl rfl (bZ rfl) rfl rfl fun c L1 ⟨hc,hL⟩=>?_
   subst hc;subst hL
   rw [List.append_nil]
   repeat' (first|refine am ?_|refine a8 ?_|refine az ?_|refine aR ?_|refine bF ?_|refine aa ?_|refine LR a7 LL ?_|refine MB LL ?_|refine bI rfl ?_)
   refine kr rfl ?_
   rw [he,if_neg h0]
 ·have hil:i=ls.length:=by have:=My h;simp at this;omega
  subst hil
  rw [List.drop_length] at he ⊢
  repeat' (first|refine aO ?_|refine av ?_|refine aC ?_|refine aA ?_)
  refine bT rfl ?_
  rw [he]
  rfl
theorem vG (l:List (List AV)):bD Tryz.prog 170 [.imm 1 l] (.fn 243 [.iptr [.imm 1 l]]):=by
 refine aI Tryz.func170 rfl Tryz.ntmps170 rfl fun B=>?_
 repeat' (first|refine ae ?_|refine a6 ?_|refine am ?_|refine a8 ?_|refine aa ?_|refine LR a7 LL ?_|refine bi ?_|fail)
 exact LY LM
instance (l:List (List AV)):AD Tryz.prog 170 [.imm 1 l] (.fn 243 [.iptr [.imm 1 l]]):=⟨vG l⟩
theorem Cs {p q:Nat×AB} {l l2:AL}:(p::q::(l++l2)).Perm (l++(p::q::l2)):=by
 have:=(List.perm_append_comm (l₁:=[p,q]) (l₂:=l)).append_right l2
 simpa using this
set_option maxHeartbeats 1000000 in
theorem iD (ls:List Lk) (hok:w4 ls):AC Tryz.prog 104 [.imm 1 (ls.map K9)] (Hk ls) fun c _=>c=cf (rz ls):=by
 refine oU Tryz.func104 rfl Tryz.ntmps104 rfl fun B=>?_
 repeat' (first|refine ae ?_|refine a6 ?_|refine ar ?_|refine a8 ?_|refine aa ?_|refine LR a7 LL ?_|refine bf a7 fun _=>?_|(apply bk;refine b9 ?_)|fail)
 rename_i b2 b3
 refine p6 (ps:=[8,9]) rfl fun σ0 l db rec hrec=>?_
 have hy:∀e n:Int,e≠0→AY Tryz.prog σ0 l [aF e,aF n] ([(b3,.box [aF 0] 3),(b2,.box [aF 0] 52),(db,n3)]++[(l,jF rec)]) fun c L=>c=cw false∧L=[(b3,.box [aF n] 3),(b2,.box [aF e] 52),(db,n3)]++[(l,jF { ({ rec with state:= .busy }:Loop) with state:= .done,pending:=some .ret })]:=by
  intro e n he
  refine AH hrec rfl rfl fun B1 hB1=>?_
  repeat' (first|refine ae ?_|refine a6 ?_|refine a8 ?_|refine aa ?_|refine LR a7 LL ?_)
  refine p7 hrec.state ?_
  repeat' (first|refine ae ?_|refine a6 ?_|refine ar ?_|refine am ?_|refine a8 ?_|refine aR ?_|refine aa ?_|refine LR a7 LL ?_|(apply aU;first|refine LU a7 0 LP ?_|refine LU a7 1 LP ?_|refine LU a7 2 LP ?_|refine LU a7 3 LP ?_|fail))
  refine vo (L:=[(b3,.box [aF n] 3),(b2,.box [aF e] 52),(db,n3)]) ?_
  exact ⟨rfl,rfl⟩
 refine ⟨_,(yB ls hok _ _ hy).perm ?_,fun c L' hL'=>?_⟩
 ·simp only [List.append_assoc,Mt,Ms]
  exact Cs
 ·by_cases h0:(rz ls).1=0
  ·rw [if_pos h0] at hL'
   subst hL'
   refine ⟨rec,_,Mp _,(by rw [hrec.state];intro h;cases h),?_⟩
   rw [hrec.pending]
   show AX _ _ _ _ _ _ _ _
   repeat' (first|refine ae ?_|refine a6 ?_|refine am ?_|refine a8 ?_|refine aP ?_|refine aa ?_|(apply aU;first|refine LU a7 0 LP ?_|refine LU a7 1 LP ?_|refine LU a7 2 LP ?_|refine LU a7 3 LP ?_|fail))
   refine lN (cs:=[aF 0,aF 0]) [db] [(b3,.box [aF 0] 3),(b2,.box [aF 0] 52)] rfl (Mp _) ?_ ?_
   ·exact ⟨⟨b2,1,_,_,rfl,rfl,.inl ⟨ck a7 rfl,rfl⟩⟩,⟨b3,0,_,_,rfl,rfl,.inl ⟨ck a7 rfl,rfl⟩⟩,trivial⟩
   ·have:rz ls=(0,0):=ud h0
    rw [this]
    rfl
  ·rw [if_neg h0] at hL'
   subst hL'
   refine ⟨_,_,Mp _,(by intro h;cases h),?_⟩
   show AX _ _ _ _ _ _ _ _
   repeat' (first|refine az ?_|refine aR ?_)
   refine lN (cs:=[aF (rz ls).1,aF (rz ls).2]) [db] [(b3,.box [aF (rz ls).2] 3),(b2,.box [aF (rz ls).1] 52)] rfl (Mp _) ?_ rfl
   exact ⟨⟨b2,1,_,_,rfl,rfl,.inl ⟨ck a7 rfl,rfl⟩⟩,⟨b3,0,_,_,rfl,rfl,.inl ⟨ck a7 rfl,rfl⟩⟩,trivial⟩
set_option maxRecDepth 8000
set_option maxRecDepth 8000
def LD (l:List Int) (n:Nat):List Int:=((List.range n).map Int.ofNat).filter (l.contains ·)
theorem pC (a b:List Int):aT a++aT b=aT (a++b):=by simp [aT]
set_option maxRecDepth 8000
def dP (b:Bool) (e:Int):Int:=bif b then e else 0
theorem Dm (b:Bool) (e:Int):bD Tryz.prog 135 [cw b,aF e] (aF (dP b e)):=by
 refine aI Tryz.func135 rfl Tryz.ntmps135 rfl fun B=>?_
 repeat' (first|refine ae ?_|refine a6 ?_|refine a8 ?_|refine aa ?_|refine LR a7 LL ?_)
 refine aB rfl (fun h=>?_) (fun h=>?_)
 ·subst h
  repeat' (first|refine ae ?_|refine a6 ?_|refine am ?_|refine a8 ?_|refine az ?_|refine aa ?_|refine LR a7 LL ?_)
  exact LY LM
 ·subst h
  repeat' (first|refine ae ?_|refine a6 ?_|refine aq ?_|refine am ?_|refine a8 ?_|refine aa ?_|refine LR a7 LL ?_)
  exact LY LM
instance (b:Bool) (e:Int):AD Tryz.prog 135 [cw b,aF e] (aF (dP b e)):=⟨Dm b e⟩
def gc (z:Int):Bool:=decide (-16384≤z∧z≤16384)
theorem sA (l:List Int):bD Tryz.prog 136 [.imm 1 (aT l)] (cw (l.all gc)):=by
 refine aI Tryz.func136 rfl Tryz.ntmps136 rfl fun B=>?_
 refine cF 0 rfl rfl fun hlen=>?_
 rw [b7] at hlen
 repeat' (first|refine ae ?_|refine a6 ?_|refine ar ?_|refine a8 ?_|refine aa ?_|refine LR a7 LL ?_)
 refine aN [5,6] (α:=Nat) (fun i=>[(7,aF i)]) (fun i=>i≤l.length∧(l.take i).all gc=true) (fun _=>[]) (fun i=>l.length - i) 0 rfl ⟨rfl,trivial⟩ ⟨Nat.zero_le _,by simp⟩ (fun _ _ h=>h) fun i hi=>?_
 try dsimp only [Mt,Ms,Mr,Mn]
 repeat' (first|refine ae ?_|refine a6 ?_|refine a8 ?_|refine aa ?_|refine LR a7 LL ?_)
 refine aB rfl (fun h=>?_) (fun h=>?_)
 ·have hil:i < l.length:=by have:=Mz h;rw [b7] at this;omega
  obtain ⟨z,hz⟩:∃z,l[i]?=some z:=⟨_,Ia hil⟩
  have hzg:=bH hz
  repeat' (first|refine ae ?_|refine a6 ?_|refine ar ?_|refine aq ?_|refine a8 ?_|refine aa ?_|refine LR a7 LL ?_|(apply aL;first|refine aK a7 ?_|refine aH a7 ?_)|fail)
  refine bN [5,6,7] (gc z=false) rfl (fun Q' K=>?_) (fun hC=>?_) (fun hC=>?_)
  ·repeat' (first|refine aa ?_|refine LR a7 LL ?_|refine MB LL ?_|refine MC LN ?_|refine MD LM (fun _=>?_) (fun _=>?_))
   all_goals exact K _ _ rfl rfl (by unfold gc;simp_all <;> omega)
  ·repeat' (first|refine ae ?_|refine a6 ?_|refine am ?_|refine a8 ?_|refine az ?_|refine aR ?_|refine bF ?_|refine aa ?_|refine LR a7 LL ?_)
   refine MA LL ?_
   rw [show l.all gc=false by
    rw [List.all_eq_false]
    exact ⟨z,Mx hz,by simp [hC]⟩]
  ·repeat' (first|refine a6 ?_|refine aq ?_|refine a8 ?_|refine aP ?_|refine aa ?_|refine LR a7 LL ?_|(apply aY;refine aX ?_)|fail)
   refine aE (i+1) rfl ⟨by rw [Mw];rfl,trivial⟩ ⟨by omega,?_⟩ (by omega) (fun _ _ h=>h)
   rw [List.take_add_one,hz,List.all_append,hi.2]
   simpa using hC
 ·have hil:i=l.length:=by have:=My h;rw [b7] at this;omega
  subst hil
  rw [List.take_length] at hi
  repeat' (first|refine ae ?_|refine a6 ?_|refine am ?_|refine aO ?_|refine a8 ?_|refine av ?_|refine aC ?_|refine aA ?_|refine aa ?_|refine LR a7 LL ?_)
  refine MA LL ?_
  rw [hi.2]
instance (x:Int):AD Tryz.prog 136 [.imm 1 [[aF x]]] (cw ([x].all gc)):=⟨sA [x]⟩
instance (x y:Int):AD Tryz.prog 136 [.imm 1 [[aF x],[aF y]]] (cw ([x,y].all gc)):=⟨sA [x,y]⟩
instance (x y z:Int):AD Tryz.prog 136 [.imm 1 [[aF x],[aF y],[aF z]]] (cw ([x,y,z].all gc)):=⟨sA [x,y,z]⟩
def kQ (f:aS) (n:Int):Bool:=decide (0≤n∧n < f.Glyphs.length)
theorem u9 (f:aS) (n:Int):bD Tryz.prog 178 [cD f,aF n] (cw (kQ f n)):=by
 refine aI Tryz.func178 rfl Tryz.ntmps178 rfl fun B=>?_
 repeat' (first|refine ae ?_|refine a6 ?_|refine a8 ?_|refine aa ?_|refine LR a7 LL ?_|refine bi ?_|fail)
 refine di (t:=4) [] (kQ f n=true) rfl (fun Q' K=>?_) ?_
 ·repeat' (first|refine aa ?_|refine LR a7 LL ?_|refine MB LL ?_|refine MC LN ?_|refine MD LM (fun _=>?_) (fun _=>?_))
  all_goals exact K _ _ rfl rfl (by unfold kQ;simp_all <;> omega)
 repeat' (first|refine am ?_|refine a8 ?_)
 refine MA LL ?_
 simp
instance (f:aS) (n:Int):AD Tryz.prog 178 [cD f,aF n] (cw (kQ f n)):=⟨u9 f n⟩
def pq (right taken:Bool):Int:=bif right then (bif taken then 24 else 0) else 23
theorem qF (a b:Bool):bD Tryz.prog 110 [cw a,cw b] (aF (pq a b)):=by
 refine aI Tryz.func110 rfl Tryz.ntmps110 rfl fun B=>?_
 repeat' (first|refine ae ?_|refine a6 ?_|refine ar ?_|refine a8 ?_|refine aa ?_|refine LR a7 LL ?_)
 refine aB rfl (fun h=>?_) (fun h=>?_)
 ·repeat' (first|refine ae ?_|refine a6 ?_|refine am ?_|refine a8 ?_|refine az ?_|refine aR ?_|refine aa ?_|refine LR a7 LL ?_)
  refine MA LL ?_
  cases a with
  | true=>cases h
  | false=>rfl
 ·repeat' (first|refine ae ?_|refine a6 ?_|refine a8 ?_|refine aa ?_|refine LR a7 LL ?_)
  have ha:a=true:=by cases a with
   | true=>rfl
   | false=>cases h
  subst ha
  refine aB rfl (fun h=>?_) (fun h=>?_)
  ·subst h
   repeat' (first|refine ae ?_|refine a6 ?_|refine am ?_|refine a8 ?_|refine az ?_|refine aR ?_|refine aa ?_|refine LR a7 LL ?_)
   exact LY LM
  ·subst h
   repeat' (first|refine ae ?_|refine a6 ?_|refine aq ?_|refine am ?_|refine a8 ?_|refine aP ?_|refine aa ?_|refine LR a7 LL ?_)
   exact LY LM
instance (a b:Bool):AD Tryz.prog 110 [cw a,cw b] (aF (pq a b)):=⟨qF a b⟩
def nW (c:Int):Bool:=decide ((65≤c∧c≤90)∨(97≤c∧c≤122))
abbrev U8 (c:Int):AV:= .sc (.int .u8 c)
theorem sn (c:Int):bD Tryz.prog 184 [U8 c] (cw (nW c)):=by
 refine aI Tryz.func184 rfl Tryz.ntmps184 rfl fun B=>?_
 repeat' (first|refine ae ?_|refine a6 ?_|refine a8 ?_|refine aa ?_|refine LR a7 LL ?_)
 refine di (t:=2) [] (nW c=true) rfl (fun Q' K=>?_) ?_
 ·repeat' (first|refine aa ?_|refine LR a7 LL ?_|refine MB LL ?_|refine MC LN ?_|refine dq rfl rfl rfl ?_|refine MD LM (fun _=>?_) (fun _=>?_))
  all_goals exact K _ _ rfl rfl (by unfold nW;simp_all <;> omega)
 repeat' (first|refine am ?_|refine a8 ?_)
 refine MA LL ?_
 simp
instance (c:Int):AD Tryz.prog 184 [U8 c] (cw (nW c)):=⟨sn c⟩
set_option maxRecDepth 8000
section
variable {P:Program} {tt:TT} {r:Option Nat} {ops:Array Oper} {Q:Exit→Act→World→Prop} {nt:Nat} {D:List Deferred} {fr:bP} {B:Bs} {L:AL} {rest:List Oper} {d:Nat} {ty t:TypeId} {pos:String} {af:Array Edge} {x y z:Operand}
theorem xC (ok:dG P tt) {s:ByteArray} {k:IntKind} {i:Int} {c:UInt8} {ti:TI} (ht:dp tt t=some ti) (hk:ti.k= .str) (hx:bc fr x=some (.sc (.string s))) (hy:bc fr y=some (.sc (.int k i))) (h0:0≤i) (hu:s[i.toNat]?=some c) (hd:Nat.ble nt d=false) (h:bz P r ops Q nt D rest ((d,U8 c.toNat)::fr) B L):bz P r ops Q nt D (⟨some d,.index t x y,ty,pos,af,none⟩::rest) fr B L:=c5 (oT (ok.str ht hk) hx hy h0 hu) hd rfl h
end
def mZ (s:ByteArray) (i:Nat):Int:=match s[i]? with | some c=>c.toNat | none=>0
theorem pd {s:ByteArray} {i:Nat} {c:UInt8} (h:s[i]?=some c):mZ s i=c.toNat:=by unfold mZ;rw [h]
def tu (n:Nat) (p:Nat→Bool):Bool:=(List.range n).all p
theorem mS {n:Nat} {p:Nat→Bool}:tu n p=true↔∀i,i < n→p i=true:=by simp [tu]
theorem nL {n:Nat} {p:Nat→Bool} {i:Nat} (hi:i < n) (h:p i=false):tu n p=false:=by
 rw [Bool.eq_false_iff]
 intro hh
 rw [mS.1 hh i hi] at h
 cases h
theorem xS {s:ByteArray} {i:Nat} (h:i < s.size):∃c,s[i]?=some c:=⟨s[i],by simp [h]⟩
def ga (s:ByteArray):Bool:=decide (1≤s.size∧s.size≤8) && tu s.size fun i=>nW (mZ s i)
theorem qD (s:ByteArray):bD Tryz.prog 123 [mP s] (cw (ga s)):=by
 refine aI Tryz.func123 rfl Tryz.ntmps123 rfl fun B=>?_
 repeat' (first|refine ae ?_|refine a6 ?_|refine a8 ?_|refine aa ?_|refine LR a7 LL ?_)
 refine bN [0] (¬(1≤s.size∧s.size≤8)) rfl (fun Q' K=>?_) (fun hC=>?_) (fun hC=>?_)
 ·repeat' (first|refine aa ?_|refine LR a7 LL ?_|refine MB LL ?_|refine MC LN ?_|refine MD LM (fun _=>?_) (fun _=>?_))
  all_goals exact K _ _ rfl rfl (by simp_all <;> omega)
 ·repeat' (first|refine ae ?_|refine a6 ?_|refine am ?_|refine a8 ?_|refine az ?_|refine aa ?_|refine LR a7 LL ?_)
  refine MA LL ?_
  unfold ga
  rw [decide_eq_false hC]
  rfl
 have hC:=Decidable.not_not.1 hC
 repeat' (first|refine ae ?_|refine a6 ?_|refine ar ?_|refine aq ?_|refine a8 ?_|refine aa ?_|refine LR a7 LL ?_)
 refine aN [0,13] (α:=Nat) (fun i=>[(14,aF i)]) (fun i=>i≤s.size∧∀j,j < i→nW (mZ s j)=true) (fun _=>[]) (fun i=>s.size - i) 0 rfl ⟨rfl,trivial⟩ ⟨Nat.zero_le _,fun j hj=>absurd hj (Nat.not_lt_zero _)⟩ (fun _ _ h=>h) fun i hi=>?_
 try dsimp only [Mt,Ms,Mr,Mn]
 repeat' (first|refine ae ?_|refine a6 ?_|refine a8 ?_|refine aa ?_|refine LR a7 LL ?_)
 refine aB rfl (fun h=>?_) (fun h=>?_)
 ·have hil:i < s.size:=by have:=Mz h;omega
  obtain ⟨c,hc⟩:=xS hil
  have hb:=pd hc
  repeat' (first|refine ae ?_|refine a6 ?_|refine ar ?_|refine aq ?_|refine a8 ?_|refine aa ?_|refine LR a7 LL ?_)
  refine xC a7 rfl rfl rfl rfl (by omega) (by rw [Int.toNat_natCast];exact hc) rfl ?_
  repeat' (first|refine a8 ?_|refine aa ?_|refine LR a7 LL ?_|(apply bk;refine b9 ?_)|fail)
  refine aB rfl (fun h2=>?_) (fun h2=>?_)
  ·repeat' (first|refine ae ?_|refine a6 ?_|refine am ?_|refine a8 ?_|refine az ?_|refine aR ?_|refine bF ?_|refine aa ?_|refine LR a7 LL ?_)
   refine MA LL ?_
   unfold ga
   rw [nL hil (by rw [hb];simpa using h2),Bool.and_false]
  ·repeat' (first|refine a6 ?_|refine aq ?_|refine a8 ?_|refine aP ?_|refine aa ?_|refine LR a7 LL ?_|(apply aY;refine aX ?_)|fail)
   refine aE (i+1) rfl ⟨by rw [Mw];rfl,trivial⟩ ⟨by omega,fun j hj=>?_⟩ (by omega) (fun _ _ h=>h)
   by_cases e:j=i
   ·subst e;rw [hb];simpa using h2
   ·exact hi.2 j (by omega)
 ·have hil:i=s.size:=by have:=My h;omega
  subst hil
  repeat' (first|refine ae ?_|refine a6 ?_|refine am ?_|refine aO ?_|refine a8 ?_|refine av ?_|refine aC ?_|refine aA ?_|refine aa ?_|refine LR a7 LL ?_)
  refine MA LL ?_
  unfold ga
  rw [decide_eq_true hC,mS.2 hi.2]
  rfl
instance (s:ByteArray):AD Tryz.prog 123 [mP s] (cw (ga s)):=⟨qD s⟩
def sI (i:Nat) (c:Int):Bool:=decide ((nW c=true∨c=95∨c=46)∨(0 < i∧((48≤c∧c≤57)∨c=45)))
def jd (s:ByteArray):Bool:=decide (1≤s.size∧s.size≤16) && tu s.size fun i=>sI i (mZ s i)
set_option maxHeartbeats 1000000 in
theorem vV (s:ByteArray):bD Tryz.prog 111 [mP s] (cw (jd s)):=by
 refine aI Tryz.func111 rfl Tryz.ntmps111 rfl fun B=>?_
 repeat' (first|refine ae ?_|refine a6 ?_|refine a8 ?_|refine aa ?_|refine LR a7 LL ?_)
 refine bN [0] (¬(1≤s.size∧s.size≤16)) rfl (fun Q' K=>?_) (fun hC=>?_) (fun hC=>?_)
 ·repeat' (first|refine aa ?_|refine LR a7 LL ?_|refine MB LL ?_|refine MC LN ?_|refine MD LM (fun _=>?_) (fun _=>?_))
  all_goals exact K _ _ rfl rfl (by simp_all <;> omega)
 ·repeat' (first|refine ae ?_|refine a6 ?_|refine am ?_|refine a8 ?_|refine az ?_|refine aa ?_|refine LR a7 LL ?_)
  refine MA LL ?_
  unfold jd
  rw [decide_eq_false hC]
  rfl
 have hC:=Decidable.not_not.1 hC
 repeat' (first|refine ae ?_|refine a6 ?_|refine ar ?_|refine aq ?_|refine a8 ?_|refine aa ?_|refine LR a7 LL ?_)
 refine aN [0,16] (α:=Nat) (fun i=>[(17,aF i)]) (fun i=>i≤s.size∧∀j,j < i→sI j (mZ s j)=true) (fun _=>[]) (fun i=>s.size - i) 0 rfl ⟨rfl,trivial⟩ ⟨Nat.zero_le _,fun j hj=>absurd hj (Nat.not_lt_zero _)⟩ (fun _ _ h=>h) fun i hi=>?_
 try dsimp only [Mt,Ms,Mr,Mn]
 repeat' (first|refine ae ?_|refine a6 ?_|refine a8 ?_|refine aa ?_|refine LR a7 LL ?_)
 refine aB rfl (fun h=>?_) (fun h=>?_)
 ·have hil:i < s.size:=by have:=Mz h;omega
  obtain ⟨c,hc⟩:=xS hil
  have hb:=pd hc
  repeat' (first|refine ae ?_|refine a6 ?_|refine ar ?_|refine aq ?_|refine a8 ?_|refine aa ?_|refine LR a7 LL ?_)
  refine xC a7 rfl rfl rfl rfl (by omega) (by rw [Int.toNat_natCast];exact hc) rfl ?_
  generalize (c.toNat:Int)=z at *
  repeat' (first|refine ae ?_|refine a6 ?_|refine a8 ?_|refine aa ?_|refine LR a7 LL ?_|(apply bk;refine b9 ?_)|fail)
  refine di (t:=5) [0,3,4,16,17] (nW z=true∨z=95∨z=46) rfl (fun Q' K=>?_) ?_
  ·clear hi hb hc h
   repeat' (first|refine aa ?_|refine LR a7 LL ?_|refine MB LL ?_|refine MC LN ?_|refine MD LM (fun _=>?_) (fun _=>?_))
   all_goals exact K _ _ rfl rfl (by simp_all)
  repeat' (first|refine ae ?_|refine a6 ?_|refine a8 ?_|refine LR a7 LL ?_)
  refine di (t:=6) [0,5,16,17] (0 < i∧((48≤z∧z≤57)∨z=45)) rfl (fun Q' K=>?_) ?_
  ·clear hi hb hc h
   repeat' (first|refine aa ?_|refine LR a7 LL ?_|refine MB LL ?_|refine MC LN ?_|refine dq rfl rfl rfl ?_|refine MD LM (fun _=>?_) (fun _=>?_))
   all_goals exact K _ _ rfl rfl (by simp_all <;> omega)
  repeat' (first|refine ae ?_|refine a6 ?_|refine a8 ?_|refine LR a7 LL ?_)
  refine bN [0,16,17] (sI i z=false) rfl (fun Q' K=>?_) (fun h2=>?_) (fun h2=>?_)
  ·clear hi hb hc h
   repeat' (first|refine aa ?_|refine LR a7 LL ?_|refine MB LL ?_|refine MC LN ?_|refine MD LM (fun _=>?_) (fun _=>?_))
   all_goals exact K _ _ rfl rfl (by clear K;unfold sI;grind)
  ·repeat' (first|refine ae ?_|refine a6 ?_|refine am ?_|refine a8 ?_|refine az ?_|refine aR ?_|refine bF ?_|refine aa ?_|refine LR a7 LL ?_)
   refine MA LL ?_
   unfold jd
   rw [nL hil (by rw [hb];exact h2),Bool.and_false]
  ·repeat' (first|refine a6 ?_|refine aq ?_|refine a8 ?_|refine aP ?_|refine aa ?_|refine LR a7 LL ?_|(apply aY;refine aX ?_)|fail)
   refine aE (i+1) rfl ⟨by rw [Mw];rfl,trivial⟩ ⟨by omega,fun j hj=>?_⟩ (by omega) (fun _ _ h=>h)
   by_cases e:j=i
   ·subst e;rw [hb];simpa using h2
   ·exact hi.2 j (by omega)
 ·have hil:i=s.size:=by have:=My h;omega
  subst hil
  repeat' (first|refine ae ?_|refine a6 ?_|refine am ?_|refine aO ?_|refine a8 ?_|refine av ?_|refine aC ?_|refine aA ?_|refine aa ?_|refine LR a7 LL ?_)
  refine MA LL ?_
  unfold jd
  rw [decide_eq_true hC,mS.2 hi.2]
  rfl
instance (s:ByteArray):AD Tryz.prog 111 [mP s] (cw (jd s)):=⟨vV s⟩
end Go.Proofs.YtamjlkdanllgjaaGreatDoor
namespace Go.Proofs.YtamjlkdanllgjaaGreatDoor
open Go.RowKit
attribute [local irreducible] AT bz AX AO Av Kt aZ cY DA cu
set_option maxRecDepth 8000
def fS {α:Type} (l:List α) (w:Nat→α→Int) (i:Nat):Int:=match l[i]? with | some x=>w i x | none=>0
def cT {α:Type} (l:List α) (w:Nat→α→Int):Int×Int:=d6 (fS l w) l.length
def cB {α:Type} (most:Int) (l:List α) (w:Nat→α→Int):Int×Int:=d3 most (fS l w) l.length
theorem gJ {α:Type} {l:List α} {w:Nat→α→Int} {i:Nat} {x:α} (h:l[i]?=some x):fS l w i=w i x:=by unfold fS;rw [h]
theorem cV {α:Type} {P:Program} {g:FuncId} {caps:List AV} {l:List α} {el:α→AV} {w:Nat→α→Int} (h:∀(i:Nat) x,l[i]?=some x→bD P g ([aF i,el x]++caps) (aF (w i x))):∀(i:Nat) x (L:AL),l[i]?=some x→True→AC P g ([aF i,el x]++caps) L fun c _=>c=aF (fS l w i)∧(fS l w i=0→True):=by
 intro i x L hx _
 rw [gJ hx]
 exact ((h i x hx).any L).mono fun c L' ⟨h1,_⟩=>⟨h1,fun _=>trivial⟩
theorem qu {α:Type} {P:Program} {g:FuncId} {caps:List AV} {l:List α} {el:α→AV} {w:Nat→α→Int} {L0:AL} (h:∀(i:Nat) x,l[i]?=some x→AC P g ([aF i,el x]++caps) L0 fun c L'=>c=aF (w i x)∧L'=L0):∀(i:Nat) x (L:AL),l[i]?=some x→L=L0→AC P g ([aF i,el x]++caps) L fun c L'=>c=aF (fS l w i)∧(fS l w i=0→L'=L0):=by
 intro i x L hx hL
 subst hL
 rw [gJ hx]
 exact (h i x hx).mono fun c L' ⟨h1,h2⟩=>⟨h1,fun _=>h2⟩
theorem wK (n:Int):bD Tryz.prog 308 [aF n] (cw (gc n)):=by
 refine aI Tryz.func308 rfl Tryz.ntmps308 rfl fun B=>?_
 repeat' (first|refine ae ?_|refine a6 ?_|refine a8 ?_|refine aa ?_|refine LR a7 LL ?_)
 refine di (t:=2) [] (gc n=true) rfl (fun Q' K=>?_) ?_
 ·repeat' (first|refine aa ?_|refine LR a7 LL ?_|refine MB LL ?_|refine MC LN ?_|refine MD LM (fun _=>?_) (fun _=>?_))
  all_goals exact K _ _ rfl rfl (by clear K;unfold gc;grind)
 repeat' (first|refine am ?_|refine a8 ?_)
 refine MA LL ?_
 simp
instance (n:Int):AD Tryz.prog 308 [aF n] (cw (gc n)):=⟨wK n⟩
def j6 (n:Int):Int→List Int→Bool
 | last,[]=>decide (last=n - 1)
 | last,e::r=>if e≥n∨e < last+2 then false else j6 n e r
def ux (p:eL):Bool:=gc p.X && gc p.Y
def iO (pts:List eL) (ends:List Int):Bool:=decide (pts.length≤200∧ends.length≤40) && (pts.all ux && j6 pts.length (-1) ends)
theorem tY {n last:Int} {l:List Int} {i:Nat} {e:Int} (h:l[i]?=some e):j6 n last (l.drop i)=if e≥n∨e < last+2 then false else j6 n e (l.drop (i+1)):=by
 obtain ⟨hi,hx⟩:=Mq h
 rw [List.drop_eq_getElem_cons hi,hx]
 rfl
set_option maxHeartbeats 1000000 in
theorem sO (pts:List eL) (ends:List Int):bD Tryz.prog 246 [.agg [.imm 3 (pts.map fk),.imm 1 (aT ends)]] (cw (iO pts ends)):=by
 refine aI Tryz.func246 rfl Tryz.ntmps246 rfl fun B=>?_
 repeat' (first|refine ae ?_|refine a6 ?_|refine a8 ?_|refine aa ?_|refine LR a7 LL ?_|refine bi ?_|fail)
 refine bN [1] (¬(pts.length≤200∧ends.length≤40)) rfl (fun Q' K=>?_) (fun hC=>?_) (fun hC=>?_)
 ·repeat' (first|refine aa ?_|refine LR a7 LL ?_|refine MB LL ?_|refine MC LN ?_|refine MD LM (fun _=>?_) (fun _=>?_))
  all_goals exact K _ _ rfl rfl (by clear K;simp_all [b7] <;> omega)
 ·repeat' (first|refine ae ?_|refine a6 ?_|refine am ?_|refine a8 ?_|refine az ?_|refine aa ?_|refine LR a7 LL ?_)
  refine MA LL ?_
  unfold iO
  rw [decide_eq_false hC]
  rfl
 have hC:=Decidable.not_not.1 hC
 have hlm:(pts.map fk).length=pts.length:=Mv ..
 repeat' (first|refine ae ?_|refine a6 ?_|refine ar ?_|refine aq ?_|refine a8 ?_|refine aa ?_|refine LR a7 LL ?_)
 refine aN [1,19,20] (α:=Nat) (fun i=>[(21,aF i)]) (fun i=>i≤pts.length∧(pts.take i).all ux=true) (fun _=>[]) (fun i=>pts.length - i) 0 rfl ⟨rfl,trivial⟩ ⟨Nat.zero_le _,by simp⟩ (fun _ _ h=>h) fun i hi=>?_
 try dsimp only [Mt,Ms,Mr,Mn]
 repeat' (first|refine ae ?_|refine a6 ?_|refine a8 ?_|refine aa ?_|refine LR a7 LL ?_)
 refine aB rfl (fun h=>?_) (fun h=>?_)
 ·have hil:i < pts.length:=by have:=Mz h;simp at this;omega
  obtain ⟨z,hz⟩:∃z,pts[i]?=some z:=⟨_,Ia hil⟩
  have hzg:=c6 (c:=fk) hz
  clear h
  repeat' (first|refine ae ?_|refine a6 ?_|refine ar ?_|refine aq ?_|refine a8 ?_|refine aa ?_|refine LR a7 LL ?_|(apply aL;first|refine aK a7 ?_|refine aH a7 ?_)|(apply aU;first|refine LT 4 a7 0 LQ ?_|refine LT 4 a7 1 LQ ?_|refine LT 4 a7 2 LQ ?_|refine LU a7 0 LP ?_|refine LU a7 1 LP ?_|refine LU a7 2 LP ?_|refine LU a7 3 LP ?_|fail)|refine bf a7 fun _=>?_|(apply bk;refine b9 ?_)|fail)
  refine bN [1,19,20,21] (ux z=false) rfl (fun Q' K=>?_) (fun h2=>?_) (fun h2=>?_)
  ·clear hi hzg
   repeat' (first|refine aa ?_|refine LR a7 LL ?_|refine MB LL ?_|refine MC LN ?_|(apply bk;refine b9 ?_)|refine MD LM (fun _=>?_) (fun _=>?_))
   all_goals exact K _ _ rfl rfl (by clear K;unfold ux;simp_all)
  ·repeat' (first|refine ae ?_|refine a6 ?_|refine am ?_|refine a8 ?_|refine az ?_|refine aR ?_|refine bF ?_|refine aa ?_|refine LR a7 LL ?_)
   refine MA LL ?_
   unfold iO
   rw [show pts.all ux=false by
    rw [List.all_eq_false]
    exact ⟨z,Mx hz,by simp [h2]⟩]
   simp
  ·repeat' (first|refine a6 ?_|refine aq ?_|refine a8 ?_|refine aP ?_|refine aa ?_|refine LR a7 LL ?_|(apply aY;refine aX ?_)|fail)
   refine aE (i+1) rfl ⟨by rw [Mw];rfl,trivial⟩ ⟨by omega,?_⟩ (by omega) (fun _ _ h=>h)
   rw [List.take_add_one,hz,List.all_append,hi.2]
   simpa using h2
 have hil:i=pts.length:=by have:=My h;simp at this;omega
 subst hil
 rw [List.take_length] at hi
 have hall:=hi.2
 clear hi h
 have hval:iO pts ends=j6 pts.length (-1) ends:=by
  unfold iO
  rw [decide_eq_true hC,hall]
  rfl
 rw [hval]
 repeat' (first|refine ae ?_|refine a6 ?_|refine ar ?_|refine aO ?_|refine a8 ?_|refine av ?_|refine aC ?_|refine aA ?_|refine aa ?_|refine LR a7 LL ?_)
 refine aN [1,37,38] (α:=Nat×Int) (fun x=>[(39,aF x.1),(5,aF x.2)]) (fun x=>x.1≤ends.length∧-1≤x.2∧x.2≤1000∧j6 pts.length (-1) ends=j6 pts.length x.2 (ends.drop x.1)) (fun _=>[]) (fun x=>ends.length - x.1) (0,-1) rfl ⟨rfl,rfl,trivial⟩ ⟨Nat.zero_le _,by decide,by decide,rfl⟩ (fun _ _ h=>h) ?_
 rintro ⟨i,last⟩ ⟨hi,hl0,hl1,he⟩
 dsimp only at hi hl0 hl1 he ⊢
 try dsimp only [Mt,Ms,Mr,Mn]
 repeat' (first|refine ae ?_|refine a6 ?_|refine a8 ?_|refine aa ?_|refine LR a7 LL ?_)
 refine aB rfl (fun h=>?_) (fun h=>?_)
 ·have hil:i < ends.length:=by have:=Mz h;simp [b7] at this;omega
  obtain ⟨z,hz⟩:∃z,ends[i]?=some z:=⟨_,Ia hil⟩
  have hzg:=bH hz
  rw [tY hz] at he
  clear h
  repeat' (first|refine ae ?_|refine a6 ?_|refine ar ?_|refine aq ?_|refine a8 ?_|refine aa ?_|refine LR a7 LL ?_|(apply aL;first|refine aK a7 ?_|refine aH a7 ?_)|fail)
  refine bN [1,7,37,38,39] (z≥pts.length∨z < last+2) rfl (fun Q' K=>?_) (fun h2=>?_) (fun h2=>?_)
  ·clear hi hzg he hval
   repeat' (first|refine aa ?_|refine LR a7 LL ?_|refine MB LL ?_|refine MC LN ?_|(apply aY;refine aX ?_)|refine MD LM (fun _=>?_) (fun _=>?_))
   all_goals exact K _ _ rfl rfl (by clear K;simp_all <;> omega)
  ·rw [if_pos h2] at he
   repeat' (first|refine ae ?_|refine a6 ?_|refine am ?_|refine a8 ?_|refine az ?_|refine aR ?_|refine bF ?_|refine aa ?_|refine LR a7 LL ?_)
   refine MA LL ?_
   rw [he]
  ·rw [if_neg h2] at he
   repeat' (first|refine a6 ?_|refine aq ?_|refine a8 ?_|refine aP ?_|refine aa ?_|refine LR a7 LL ?_|(apply aY;refine aX ?_)|fail)
   exact aE (i+1,z) rfl ⟨by rw [Mw];rfl,rfl,trivial⟩ ⟨by dsimp only;omega,by dsimp only;omega,by dsimp only;omega,he⟩ (by dsimp only;omega) (fun _ _ h=>h)
 ·have hil:i=ends.length:=by have:=My h;simp [b7] at this;omega
  subst hil
  rw [List.drop_length] at he
  repeat' (first|refine ae ?_|refine a6 ?_|refine am ?_|refine aO ?_|refine a8 ?_|refine av ?_|refine aC ?_|refine aA ?_|refine aa ?_|refine LR a7 LL ?_|(apply aY;refine aX ?_)|fail)
  refine MA LL ?_
  rw [he]
  simp [j6]
def JJ (_:Nat) (p:eL):Int:=dP (!([p.X,p.Y].all gc)) 30
theorem wB (i:Nat) (p:eL):bD Tryz.prog 245 [aF i,.agg (fk p)] (aF (JJ i p)):=by
 refine aI Tryz.func245 rfl Tryz.ntmps245 rfl fun B=>?_
 repeat' (first|refine ae ?_|refine a6 ?_|refine am ?_|refine a8 ?_|refine aa ?_|refine LR a7 LL ?_|refine bi ?_|refine cA a7 ?_|(apply bk;refine b9 ?_)|fail)
 exact LY LM
def jo (g:bn):Int:=if g.Advance < 0∨g.Advance > 16384 then 1 else if g.Points.length > 200∨g.Ends.length > 40 then 2 else if (cT g.Points JJ).1≠0 then (cT g.Points JJ).1 else dP (!(iO g.Points g.Ends)) 31
theorem zE (g:bn):bD Tryz.prog 175 [.agg (bK g)] (aF (jo g)):=by
 refine aI Tryz.func175 rfl Tryz.ntmps175 rfl fun B=>?_
 unfold jo
 repeat' (first|refine ae ?_|refine a6 ?_|refine ar ?_|refine a8 ?_|refine aa ?_|refine LR a7 LL ?_|refine bi ?_|fail)
 refine bN [1] (g.Advance < 0∨g.Advance > 16384) rfl (fun Q' K=>?_) (fun hC=>?_) (fun hC=>?_)
 ·repeat' (first|refine aa ?_|refine LR a7 LL ?_|refine MB LL ?_|refine MC LN ?_|refine MD LM (fun _=>?_) (fun _=>?_))
  all_goals exact K _ _ rfl rfl (by clear K;grind)
 ·rw [if_pos hC]
  repeat' (first|refine ae ?_|refine a6 ?_|refine am ?_|refine a8 ?_|refine az ?_|refine aR ?_|refine aa ?_|refine LR a7 LL ?_)
  exact LY LM
 rw [if_neg hC]
 repeat' (first|refine ae ?_|refine a6 ?_|refine LR a7 LL ?_)
 refine bN [1] (g.Points.length > 200∨g.Ends.length > 40) rfl (fun Q' K=>?_) (fun hC=>?_) (fun hC=>?_)
 ·repeat' (first|refine aa ?_|refine LR a7 LL ?_|refine MB LL ?_|refine MC LN ?_|refine MD LM (fun _=>?_) (fun _=>?_))
  all_goals exact K _ _ rfl rfl (by clear K;simp_all [b7] <;> omega)
 ·rw [if_pos hC]
  repeat' (first|refine ae ?_|refine a6 ?_|refine am ?_|refine a8 ?_|refine az ?_|refine aR ?_|refine aa ?_|refine LR a7 LL ?_)
  exact LY LM
 rw [if_neg hC]
 repeat' (first|refine ae ?_|refine a6 ?_|refine aq ?_|refine a8 ?_|refine aP ?_|refine LR a7 LL ?_)
 refine aW [] [] (Em (u:= .sc (.func (.func 245) #[] #[])) (g:=245) (caps:=[]) rfl g.Points _ (fun _ _=>True) [] trivial (cV (fun i x _=>wB i x))) rfl rfl (Mp _) rfl fun c L1 hc=>?_
 have hc:c=cf (cT g.Points JJ):=hc
 subst hc
 unfold cf
 repeat' (first|refine ae ?_|refine a6 ?_|refine a8 ?_|refine aa ?_|refine LR a7 LL ?_)
 refine aB rfl (fun h=>?_) (fun h=>?_)
 ·rw [if_pos (Mz h)]
  repeat' (first|refine ae ?_|refine a6 ?_|refine am ?_|refine a8 ?_|refine az ?_|refine aa ?_|refine LR a7 LL ?_)
  exact LY LM
 ·rw [if_neg (My h)]
  repeat' (first|refine ae ?_|refine a6 ?_|refine aq ?_|refine a8 ?_|refine LR a7 LL ?_)
  refine b9 (hc:=⟨sO g.Points g.Ends⟩) ?_
  repeat' (first|refine am ?_|refine a8 ?_|refine aa ?_|refine LR a7 LL ?_|(apply bk;refine b9 ?_)|fail)
  exact LY LM
instance (g:bn):AD Tryz.prog 175 [.agg (bK g)] (aF (jo g)):=⟨zE g⟩
set_option maxRecDepth 8000
open Go.MapKept
def EK (_:Nat) (i:eJ):Int:=if i.Op < 1∨i.Op > 39 then 50 else if i.A < -999999999∨i.A > 999999999 then 3 else 0
theorem sT (n:Nat) (i:eJ):bD Tryz.prog 213 [aF n,.agg (fF i)] (aF (EK n i)):=by
 refine aI Tryz.func213 rfl Tryz.ntmps213 rfl fun B=>?_
 unfold EK
 repeat' (first|refine ae ?_|refine a6 ?_|refine ar ?_|refine a8 ?_|refine aa ?_|refine LR a7 LL ?_|refine bi ?_|fail)
 refine bN [3] (i.Op < 1∨i.Op > 39) rfl (fun Q' K=>?_) (fun hC=>?_) (fun hC=>?_)
 ·repeat' (first|refine aa ?_|refine LR a7 LL ?_|refine MB LL ?_|refine MC LN ?_|refine MD LM (fun _=>?_) (fun _=>?_))
  all_goals exact K _ _ rfl rfl (by clear K;grind)
 ·rw [if_pos hC]
  repeat' (first|refine ae ?_|refine a6 ?_|refine am ?_|refine a8 ?_|refine az ?_|refine aR ?_|refine aa ?_|refine LR a7 LL ?_)
  exact LY LM
 rw [if_neg hC]
 repeat' (first|refine ae ?_|refine a6 ?_|refine LR a7 LL ?_)
 refine bN [] (i.A < -999999999∨i.A > 999999999) rfl (fun Q' K=>?_) (fun hC=>?_) (fun hC=>?_)
 ·repeat' (first|refine aa ?_|refine LR a7 LL ?_|refine MB LL ?_|refine MC LN ?_|refine MD LM (fun _=>?_) (fun _=>?_))
  all_goals exact K _ _ rfl rfl (by clear K;grind)
 ·rw [if_pos hC]
  repeat' (first|refine ae ?_|refine a6 ?_|refine am ?_|refine a8 ?_|refine az ?_|refine aR ?_|refine aa ?_|refine LR a7 LL ?_)
  exact LY LM
 rw [if_neg hC]
 repeat' (first|refine ae ?_|refine a6 ?_|refine aq ?_|refine am ?_|refine a8 ?_|refine aP ?_|refine aa ?_|refine LR a7 LL ?_)
 exact LY LM
def q4 (l:List eJ):Int:=(cB 200 l EK).1
theorem uw (l:List eJ):bD Tryz.prog 132 [.imm 2 (l.map fF)] (aF (q4 l)):=by
 refine aI Tryz.func132 rfl Tryz.ntmps132 rfl fun B=>?_
 repeat' (first|refine ae ?_|refine a6 ?_|refine a8 ?_|refine aa ?_|refine LR a7 LL ?_|(apply bk;refine b9 ?_)|fail)
 refine dl (f:=273) (cs:=[]) [] [] (Fp (g:=213) (caps:=[]) rfl l 200 _ (fun _ _=>True) [] trivial (fun _=>cV fun i x _=>sT i x)) rfl rfl rfl (Mp _) rfl rfl fun c L1 hc=>?_
 have hc:c=cf (cB 200 l EK):=hc
 subst hc
 unfold cf
 repeat' (first|refine ae ?_|refine a6 ?_|refine am ?_|refine a8 ?_|refine aa ?_|refine LR a7 LL ?_)
 exact LY LM
instance (l:List eJ):AD Tryz.prog 132 [.imm 2 (l.map fF)] (aF (q4 l)):=⟨uw l⟩
def o8 (f:aS) (_:Nat) (p:dA):Int:=if kQ f p.Glyph=false then 32 else dP (!([p.X,p.Y].all gc)) 30
theorem vO (f:aS) (n:Nat) (p:dA):bD Tryz.prog 177 [aF n,.agg (fG p),.iptr (bY f)] (aF (o8 f n p)):=by
 refine aI Tryz.func177 rfl Tryz.ntmps177 rfl fun B=>?_
 unfold o8
 repeat' (first|refine ae ?_|refine a6 ?_|refine a8 ?_|refine aa ?_|refine LR a7 LL ?_|refine bi ?_|(apply bk;refine b9 ?_)|fail)
 refine aB rfl (fun h=>?_) (fun h=>?_)
 ·rw [if_pos (by simpa using h)]
  repeat' (first|refine ae ?_|refine a6 ?_|refine am ?_|refine a8 ?_|refine az ?_|refine aa ?_|refine LR a7 LL ?_)
  exact LY LM
 ·rw [if_neg (by simpa using h)]
  repeat' (first|refine ae ?_|refine a6 ?_|refine aq ?_|refine am ?_|refine a8 ?_|refine aa ?_|refine LR a7 LL ?_|refine cA a7 ?_|(apply bk;refine b9 ?_)|fail)
  exact LY LM
def mT (g:bn) (i:Nat) (a:dK):Int:=if (a.Kind < 1∨a.Kind > 4)∨(a.Class < 0∨a.Class > 15)∨((a.Kind=3∨a.Kind=4)∧a.Class≠0)∨[a.X,a.Y].all gc=false∨(a.Kind=2∧g.Mark=false)∨(∃b∈g.Anchors.take i,b.Kind=a.Kind∧b.Class=a.Class) then 35 else 0
def tV (f:aS) (g:bn) (i:Nat) (d:ez):Int:=if d.Region < 0∨d.Region≥f.Regions.length then 61 else if (d.Point < -1∨d.Point≥g.Points.length)∨[d.X,d.Y].all gc=false∨(d.Point= -1∧d.Y≠0) then 30 else if (match i with | 0=>false | j+1=>match g.Deltas[j]? with | some b=>decide (d.Region < b.Region∨(d.Region=b.Region∧d.Point≤b.Point)) | none=>false)=true then 24 else 0
theorem vf (b:Bool):AC Tryz.prog 180 [cw b] [] fun c L=>∃m,c= .fn 251 [.iptr [cw b],.iptr [.sc (.map (some m))]]∧L=[(m,gC fun _ _=>none)]:=by
 refine aI Tryz.func180 rfl Tryz.ntmps180 rfl fun B=>?_
 repeat' (first|refine ae ?_|refine a6 ?_|refine a8 ?_|refine aa ?_|refine LR a7 LL ?_|refine bi ?_|fail)
 refine we fun m=>?_
 repeat' (first|refine ae ?_|refine a6 ?_|refine am ?_|refine a8 ?_|refine aa ?_|refine LR a7 LL ?_|(apply aU;first|refine LT 3 a7 0 LQ ?_|refine LT 3 a7 1 LQ ?_|refine LT 3 a7 2 LQ ?_|refine LU a7 0 LP ?_|refine LU a7 1 LP ?_|refine LU a7 2 LP ?_|refine LU a7 3 LP ?_|fail)|refine bf a7 fun _=>?_|fail)
 exact MA LL ⟨_,rfl,rfl⟩
theorem yA (r p:Int):AC Tryz.prog 182 [aF r,aF p] [] fun c L=>∃b,c= .fn 254 [.iptr [aF r],.iptr [aF p],.sc (.pointer (some ⟨b,0,none⟩))]∧L=[(b,.box [aF 0,aF 0] 364)]:=by
 refine aI Tryz.func182 rfl Tryz.ntmps182 rfl fun B=>?_
 repeat' (first|refine ae ?_|refine a6 ?_|refine am ?_|refine a8 ?_|refine aa ?_|refine LR a7 LL ?_|refine bi ?_|refine bf a7 fun _=>?_|fail)
 exact MA LL ⟨_,rfl,rfl⟩
theorem vM (e:Int):bD Tryz.prog 173 [.iptr [aF e]] (cf (e,0)):=by
 refine aI Tryz.func173 rfl Tryz.ntmps173 rfl fun B=>?_
 repeat' (first|refine ae ?_|refine a6 ?_|refine am ?_|refine a8 ?_|refine aa ?_|refine LR a7 LL ?_)
 exact MH LN
theorem vN (g:bn):bD Tryz.prog 174 [.iptr (bK g)] (cf (jo g,0)):=by
 refine aI Tryz.func174 rfl Tryz.ntmps174 rfl fun B=>?_
 repeat' (first|refine ae ?_|refine a6 ?_|refine am ?_|refine a8 ?_|refine aa ?_|refine LR a7 LL ?_|(apply bk;refine b9 ?_)|fail)
 exact MH LN
theorem vP (g:bn):bD Tryz.prog 183 [.iptr (bK g)] (cf (q4 g.Hint,0)):=by
 refine aI Tryz.func183 rfl Tryz.ntmps183 rfl fun B=>?_
 repeat' (first|refine ae ?_|refine a6 ?_|refine am ?_|refine a8 ?_|refine aa ?_|refine LR a7 LL ?_|(apply bk;refine b9 ?_)|fail)
 exact MH LN
def gQ (l:List (Int×Int)):Int×Int:=match l with
 | []=>(0,0)
 | x::r=>if x.1=0 then gQ r else x
theorem jf:∀l:List Lk,rz l=gQ (l.map fun x=>(x.e,x.n))
 | []=>rfl
 | x::r=>by simp only [rz,Mr,gQ];rw [jf r]
def py (f:aS) (g:bn) (name:Int):Int:=(gQ [(name,0),(jo g,0),cB 8 g.Parts (o8 f),cB 16 g.Anchors (mT g),cB 400 g.Deltas (tV f g),(q4 g.Hint,0)]).1
end Go.Proofs.YtamjlkdanllgjaaGreatDoor
