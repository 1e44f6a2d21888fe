/-
  The program: what the first look tells that finds something wrong.
-/
import Derived.Test.YtamjlkdanllgjaaGreatDoorM08
import Derived.Test.YtamjlkdanllgjaaGreatDoorM07
import Derived.Test.YtamjlkdanllgjaaGreatDoorM05
import Derived.Test.YtamjlkdanllgjaaGreatDoorM06
namespace Go.Proofs.YtamjlkdanllgjaaGreatDoor
open Go.RowKit
attribute [local irreducible] AT bB AX AO Av Kt ba dt DA cz
set_option maxRecDepth 8000
structure Lk where
 f:FuncId
 caps:List AV
 L:AL
 e:Int
 n:Int
def Lk.ok (x:Lk):Prop:=bF Tryz.prog x.f∧AC Tryz.prog x.f x.caps x.L fun c _=>c=cm (x.e,x.n)
def sG:List Lk→Int×Int
 | []=>(0,0)
 | x::r=>if x.e=0 then sG r else (x.e,x.n)
def HC (l:List Lk):AL:=(l.map Lk.L).flatten
def wW:List Lk→Prop
 | []=>True
 | x::r=>x.ok∧(x.e=0→wW r)
def JW (x:Lk):List AV:=[.fn x.f x.caps]
theorem CB {l:List Lk} {i:Nat} {x:Lk} (h:l[i]?=some x):sG (l.drop i)=if x.e=0 then sG (l.drop (i+1)) else (x.e,x.n):=by
 obtain ⟨hi,hx⟩:=Lm h
 rw [List.drop_eq_getElem_cons hi,hx]
 rfl
theorem zW {l:List Lk} {i:Nat} {x:Lk} (h:l[i]?=some x) (hk:wW (l.drop i)):x.ok∧(x.e=0→wW (l.drop (i+1))):=by
 obtain ⟨hi,hx⟩:=Lm h
 rw [List.drop_eq_getElem_cons hi,hx] at hk
 exact hk
theorem vb:∀{l:List Lk},(sG l).1=0→sG l=(0,0)
 | [],_=>rfl
 | x::r,h=>by
  unfold sG at h ⊢
  split
  ·rename_i h0
   rw [if_pos h0] at h
   exact vb h
  ·rename_i h0
   rw [if_neg h0] at h
   exact absurd h h0
theorem CC {l:List Lk} {i:Nat} {x:Lk} (h:l[i]?=some x):HC (l.drop i)=x.L++HC (l.drop (i+1)):=by
 obtain ⟨hi,hx⟩:=Lm h
 unfold HC
 rw [List.drop_eq_getElem_cons hi,hx]
 rfl
theorem zD {σ0:cf} {l:Nat} (ls:List Lk) (hok:wW ls) (E:AL) (E':Int→Int→AL) (hy:∀e n,e≠0→AY Tryz.prog σ0 l [aH e,aH n] E fun c L=>c=cQ false∧L=E' e n):
  G7 Tryz.prog σ0 243 [.sc (.func (.yield l) #[] #[]),.iptr [.imm 1 (ls.map JW)]] (HC ls++E) fun _ L=>L=if (sG ls).1=0 then E else E' (sG ls).1 (sG ls).2:=by
 refine wc Tryz.func243 rfl Tryz.ntmps243 rfl fun B hB=>?_
 repeat' (first|refine ae ?_|refine a6 ?_|refine am ?_|refine a8 ?_|refine aa ?_|refine LF a7 I9 ?_)
 refine d7 7 rfl rfl fun hlen=>?_
 rw [Lr] at hlen
 refine aJ [0,7,8] (α:=Nat) (fun i=>[(9,aH i)]) (fun i=>i≤ls.length∧sG ls=sG (ls.drop i)∧wW (ls.drop i)) (fun i=>HC (ls.drop i)++E) (fun i=>ls.length - i) 0 rfl ⟨rfl,trivial⟩ ⟨Nat.zero_le _,rfl,hok⟩ (fun _ _ h=>h) fun i ⟨hi,he,hok⟩=>?_
 try dsimp only [Lp,Lo,Ln,Lh]
 repeat' (first|refine ae ?_|refine a6 ?_|refine a8 ?_|refine aa ?_|refine LF a7 I9 ?_)
 refine ay rfl (fun h=>?_) (fun h=>?_)
 ·have hil:i < ls.length:=by have:=Ly h;simp at this;omega
  obtain ⟨x,hx⟩:∃z,ls[i]?=some z:=⟨_,Lz hil⟩
  have hzg:=c7 (c:=JW) hx
  obtain ⟨⟨hcf,hac⟩,hok⟩:=zW hx hok
  rw [CB hx] at he
  rw [CC hx]
  repeat' (first|refine ae ?_|refine a6 ?_|refine am ?_|refine au ?_|refine a8 ?_|refine aa ?_|refine LF a7 I9 ?_|(apply aU;first|refine aT a7 ?_|refine aN a7 ?_)|fail)
  refine dD (cs:=[]) x.L (HC (ls.drop (i+1))++E) (by simpa using hac) rfl rfl rfl (by rw [List.append_assoc]) rfl rfl fun c L1 hc=>?_
  subst hc
  refine aS (bX (List.sublist_append_right ..)) ?_
  unfold cm
  repeat' (first|refine ae ?_|refine a6 ?_|refine a8 ?_|refine aa ?_|refine LF a7 I9 ?_)
  by_cases h0:x.e=0
  ·rw [if_pos h0] at he
   rw [h0]
   repeat' (first|refine a6 ?_|refine au ?_|refine a8 ?_|refine aM ?_|refine aa ?_|refine LF a7 I9 ?_|refine LO LB ?_|(apply aY;refine aX ?_)|refine bk rfl ?_)
   exact aE (i+1) rfl ⟨by rw [Ls];rfl,trivial⟩ ⟨by omega,he,hok h0⟩ (by omega) (fun _ _ h=>h)
  ·rw [if_neg h0] at he
   rw [show decide (x.e≠0)=true from decide_eq_true h0]
   repeat' (first|refine LF a7 I9 ?_|refine LN I9 ?_)
   refine aS (bX (List.sublist_append_right ..)) ?_
   refine pt E [] hB (hy x.e x.n h0) rfl rfl rfl (ce rfl) rfl rfl fun c L1 ⟨hc,hL⟩=>?_
   subst hc;subst hL
   rw [List.append_nil]
   repeat' (first|refine aq ?_|refine a8 ?_|refine aC ?_|refine aQ ?_|refine bM ?_|refine aa ?_|refine LF a7 I9 ?_|refine LN I9 ?_|refine bV rfl ?_)
   refine tf rfl ?_
   rw [he,if_neg h0]
 ·have hil:i=ls.length:=by have:=Lw h;simp at this;omega
  subst hil
  rw [List.drop_length] at he ⊢
  repeat' (first|refine aL ?_|refine av ?_|refine aA ?_|refine aw ?_)
  refine cX rfl ?_
  rw [he]
  rfl
theorem wF (l:List (List AV)):bH Tryz.prog 170 [.imm 1 l] (.fn 243 [.iptr [.imm 1 l]]):=by
 refine aP Tryz.func170 rfl Tryz.ntmps170 rfl fun B=>?_
 repeat' (first|refine ae ?_|refine a6 ?_|refine aq ?_|refine a8 ?_|refine aa ?_|refine LF a7 I9 ?_|refine bo ?_|fail)
 exact LK LA
instance (l:List (List AV)):AD Tryz.prog 170 [.imm 1 l] (.fn 243 [.iptr [.imm 1 l]]):=⟨wF l⟩
theorem Df {p q:Nat×AB} {l l2:AL}:(p::q::(l++l2)).Perm (l++(p::q::l2)):=by
 have:=(List.perm_append_comm (l₁:=[p,q]) (l₂:=l)).append_right l2
 simpa using this
set_option maxHeartbeats 1000000 in
theorem jk (ls:List Lk) (hok:wW ls):AC Tryz.prog 104 [.imm 1 (ls.map JW)] (HC ls) fun c _=>c=cm (sG ls):=by
 refine pG Tryz.func104 rfl Tryz.ntmps104 rfl fun B=>?_
 repeat' (first|refine ae ?_|refine a6 ?_|refine am ?_|refine a8 ?_|refine aa ?_|refine LF a7 I9 ?_|refine bg a7 fun _=>?_|(apply bw;refine bi ?_)|fail)
 rename_i b2 b3
 refine pR (ps:=[8,9]) rfl fun σ0 l db rec hrec=>?_
 have hy:∀e n:Int,e≠0→AY Tryz.prog σ0 l [aH e,aH n] ([(b3,.box [aH 0] 3),(b2,.box [aH 0] 52),(db,nE)]++[(l,ky rec)]) fun c L=>c=cQ false∧L=[(b3,.box [aH n] 3),(b2,.box [aH e] 52),(db,nE)]++[(l,ky { ({ rec with state:= .busy }:Loop) with state:= .done,pending:=some .ret })]:=by
  intro e n he
  refine BO hrec rfl rfl fun B1 hB1=>?_
  repeat' (first|refine ae ?_|refine a6 ?_|refine a8 ?_|refine aa ?_|refine LF a7 I9 ?_)
  refine pS hrec.state ?_
  repeat' (first|refine ae ?_|refine a6 ?_|refine am ?_|refine aq ?_|refine a8 ?_|refine aQ ?_|refine aa ?_|refine LF a7 I9 ?_|(apply aK;first|refine LG a7 0 LD ?_|refine LG a7 1 LD ?_|refine LG a7 2 LD ?_|refine LG a7 3 LD ?_|fail))
  refine wl (L:=[(b3,.box [aH n] 3),(b2,.box [aH e] 52),(db,nE)]) ?_
  exact ⟨rfl,rfl⟩
 refine ⟨_,(zD ls hok _ _ hy).perm ?_,fun c L' hL'=>?_⟩
 ·simp only [List.append_assoc,Lp,Lo]
  exact Df
 ·by_cases h0:(sG ls).1=0
  ·rw [if_pos h0] at hL'
   subst hL'
   refine ⟨rec,_,Ll _,(by rw [hrec.state];intro h;cases h),?_⟩
   rw [hrec.pending]
   show AX _ _ _ _ _ _ _ _
   repeat' (first|refine ae ?_|refine a6 ?_|refine aq ?_|refine a8 ?_|refine aM ?_|refine aa ?_|(apply aK;first|refine LG a7 0 LD ?_|refine LG a7 1 LD ?_|refine LG a7 2 LD ?_|refine LG a7 3 LD ?_|fail))
   refine mv (cs:=[aH 0,aH 0]) [db] [(b3,.box [aH 0] 3),(b2,.box [aH 0] 52)] rfl (Ll _) ?_ ?_
   ·exact ⟨⟨b2,1,_,_,rfl,rfl,.inl ⟨cu a7 rfl,rfl⟩⟩,⟨b3,0,_,_,rfl,rfl,.inl ⟨cu a7 rfl,rfl⟩⟩,trivial⟩
   ·have:sG ls=(0,0):=vb h0
    rw [this]
    rfl
  ·rw [if_neg h0] at hL'
   subst hL'
   refine ⟨_,_,Ll _,(by intro h;cases h),?_⟩
   show AX _ _ _ _ _ _ _ _
   repeat' (first|refine aC ?_|refine aQ ?_)
   refine mv (cs:=[aH (sG ls).1,aH (sG ls).2]) [db] [(b3,.box [aH (sG ls).2] 3),(b2,.box [aH (sG ls).1] 52)] rfl (Ll _) ?_ rfl
   exact ⟨⟨b2,1,_,_,rfl,rfl,.inl ⟨cu a7 rfl,rfl⟩⟩,⟨b3,0,_,_,rfl,rfl,.inl ⟨cu a7 rfl,rfl⟩⟩,trivial⟩
set_option maxRecDepth 8000
set_option maxRecDepth 8000
def KP (l:List Int) (n:Nat):List Int:=((List.range n).map Int.ofNat).filter (l.contains ·)
theorem qC (a b:List Int):aO a++aO b=aO (a++b):=by simp [aO]
set_option maxRecDepth 8000
def dY (b:Bool) (e:Int):Int:=bif b then e else 0
theorem E6 (b:Bool) (e:Int):bH Tryz.prog 135 [cQ b,aH e] (aH (dY b e)):=by
 refine aP Tryz.func135 rfl Tryz.ntmps135 rfl fun B=>?_
 repeat' (first|refine ae ?_|refine a6 ?_|refine a8 ?_|refine aa ?_|refine LF a7 I9 ?_)
 refine ay rfl (fun h=>?_) (fun h=>?_)
 ·subst h
  repeat' (first|refine ae ?_|refine a6 ?_|refine aq ?_|refine a8 ?_|refine aC ?_|refine aa ?_|refine LF a7 I9 ?_)
  exact LK LA
 ·subst h
  repeat' (first|refine ae ?_|refine a6 ?_|refine au ?_|refine aq ?_|refine a8 ?_|refine aa ?_|refine LF a7 I9 ?_)
  exact LK LA
instance (b:Bool) (e:Int):AD Tryz.prog 135 [cQ b,aH e] (aH (dY b e)):=⟨E6 b e⟩
def gj (z:Int):Bool:=decide (-16384≤z∧z≤16384)
theorem tK (l:List Int):bH Tryz.prog 136 [.imm 1 (aO l)] (cQ (l.all gj)):=by
 refine aP Tryz.func136 rfl Tryz.ntmps136 rfl fun B=>?_
 refine d7 0 rfl rfl fun hlen=>?_
 rw [aW] at hlen
 repeat' (first|refine ae ?_|refine a6 ?_|refine am ?_|refine a8 ?_|refine aa ?_|refine LF a7 I9 ?_)
 refine aJ [5,6] (α:=Nat) (fun i=>[(7,aH i)]) (fun i=>i≤l.length∧(l.take i).all gj=true) (fun _=>[]) (fun i=>l.length - i) 0 rfl ⟨rfl,trivial⟩ ⟨Nat.zero_le _,by simp⟩ (fun _ _ h=>h) fun i hi=>?_
 try dsimp only [Lp,Lo,Ln,Lh]
 repeat' (first|refine ae ?_|refine a6 ?_|refine a8 ?_|refine aa ?_|refine LF a7 I9 ?_)
 refine ay rfl (fun h=>?_) (fun h=>?_)
 ·have hil:i < l.length:=by have:=Ly h;rw [aW] at this;omega
  obtain ⟨z,hz⟩:∃z,l[i]?=some z:=⟨_,Lz hil⟩
  have hzg:=bO hz
  repeat' (first|refine ae ?_|refine a6 ?_|refine am ?_|refine au ?_|refine a8 ?_|refine aa ?_|refine LF a7 I9 ?_|(apply aU;first|refine aT a7 ?_|refine aN a7 ?_)|fail)
  refine cN [5,6,7] (gj z=false) rfl (fun Q' K=>?_) (fun hC=>?_) (fun hC=>?_)
  ·repeat' (first|refine aa ?_|refine LF a7 I9 ?_|refine LN I9 ?_|refine LO LB ?_|refine bc rfl rfl rfl (fun _=>?_) (fun _=>?_))
   all_goals exact K _ _ rfl rfl (by unfold gj;simp_all <;> omega)
  ·repeat' (first|refine ae ?_|refine a6 ?_|refine aq ?_|refine a8 ?_|refine aC ?_|refine aQ ?_|refine bM ?_|refine aa ?_|refine LF a7 I9 ?_)
   refine LM I9 ?_
   rw [show l.all gj=false by
    rw [List.all_eq_false]
    exact ⟨z,Lv hz,by simp [hC]⟩]
  ·repeat' (first|refine a6 ?_|refine au ?_|refine a8 ?_|refine aM ?_|refine aa ?_|refine LF a7 I9 ?_|(apply aY;refine aX ?_)|fail)
   refine aE (i+1) rfl ⟨by rw [Ls];rfl,trivial⟩ ⟨by omega,?_⟩ (by omega) (fun _ _ h=>h)
   rw [List.take_add_one,hz,List.all_append,hi.2]
   simpa using hC
 ·have hil:i=l.length:=by have:=Lw h;rw [aW] at this;omega
  subst hil
  rw [List.take_length] at hi
  repeat' (first|refine ae ?_|refine a6 ?_|refine aq ?_|refine aL ?_|refine a8 ?_|refine av ?_|refine aA ?_|refine aw ?_|refine aa ?_|refine LF a7 I9 ?_)
  refine LM I9 ?_
  rw [hi.2]
instance (x:Int):AD Tryz.prog 136 [.imm 1 [[aH x]]] (cQ ([x].all gj)):=⟨tK [x]⟩
instance (x y:Int):AD Tryz.prog 136 [.imm 1 [[aH x],[aH y]]] (cQ ([x,y].all gj)):=⟨tK [x,y]⟩
instance (x y z:Int):AD Tryz.prog 136 [.imm 1 [[aH x],[aH y],[aH z]]] (cQ ([x,y,z].all gj)):=⟨tK [x,y,z]⟩
def kS (f:aV) (n:Int):Bool:=decide (0≤n∧n < f.Glyphs.length)
theorem uZ (f:aV) (n:Int):bH Tryz.prog 178 [cD f,aH n] (cQ (kS f n)):=by
 refine aP Tryz.func178 rfl Tryz.ntmps178 rfl fun B=>?_
 repeat' (first|refine ae ?_|refine a6 ?_|refine a8 ?_|refine aa ?_|refine LF a7 I9 ?_|refine bo ?_|fail)
 refine dx (t:=4) [] (kS f n=true) rfl (fun Q' K=>?_) ?_
 ·repeat' (first|refine aa ?_|refine LF a7 I9 ?_|refine LN I9 ?_|refine LO LB ?_|refine bc rfl rfl rfl (fun _=>?_) (fun _=>?_))
  all_goals exact K _ _ rfl rfl (by unfold kS;simp_all <;> omega)
 repeat' (first|refine aq ?_|refine a8 ?_)
 refine LM I9 ?_
 simp
instance (f:aV) (n:Int):AD Tryz.prog 178 [cD f,aH n] (cQ (kS f n)):=⟨uZ f n⟩
def kI (right taken:Bool):Int:=bif right then (bif taken then 24 else 0) else 23
theorem rM (a b:Bool):bH Tryz.prog 110 [cQ a,cQ b] (aH (kI a b)):=by
 refine aP Tryz.func110 rfl Tryz.ntmps110 rfl fun B=>?_
 repeat' (first|refine ae ?_|refine a6 ?_|refine am ?_|refine a8 ?_|refine aa ?_|refine LF a7 I9 ?_)
 refine ay rfl (fun h=>?_) (fun h=>?_)
 ·repeat' (first|refine ae ?_|refine a6 ?_|refine aq ?_|refine a8 ?_|refine aC ?_|refine aQ ?_|refine aa ?_|refine LF a7 I9 ?_)
  refine LM I9 ?_
  cases a with
  | true=>cases h
  | false=>rfl
 ·repeat' (first|refine ae ?_|refine a6 ?_|refine a8 ?_|refine aa ?_|refine LF a7 I9 ?_)
  have ha:a=true:=by cases a with
   | true=>rfl
   | false=>cases h
  subst ha
  refine ay rfl (fun h=>?_) (fun h=>?_)
  ·subst h
   repeat' (first|refine ae ?_|refine a6 ?_|refine aq ?_|refine a8 ?_|refine aC ?_|refine aQ ?_|refine aa ?_|refine LF a7 I9 ?_)
   exact LK LA
  ·subst h
   repeat' (first|refine ae ?_|refine a6 ?_|refine au ?_|refine aq ?_|refine a8 ?_|refine aM ?_|refine aa ?_|refine LF a7 I9 ?_)
   exact LK LA
instance (a b:Bool):AD Tryz.prog 110 [cQ a,cQ b] (aH (kI a b)):=⟨rM a b⟩
def oB (c:Int):Bool:=decide ((65≤c∧c≤90)∨(97≤c∧c≤122))
abbrev U8 (c:Int):AV:= .sc (.int .u8 c)
theorem tz (c:Int):bH Tryz.prog 184 [U8 c] (cQ (oB c)):=by
 refine aP Tryz.func184 rfl Tryz.ntmps184 rfl fun B=>?_
 repeat' (first|refine ae ?_|refine a6 ?_|refine a8 ?_|refine aa ?_|refine LF a7 I9 ?_)
 refine dx (t:=2) [] (oB c=true) rfl (fun Q' K=>?_) ?_
 ·repeat' (first|refine aa ?_|refine LF a7 I9 ?_|refine LN I9 ?_|refine LO LB ?_|refine dk rfl rfl rfl ?_|refine bc rfl rfl rfl (fun _=>?_) (fun _=>?_))
  all_goals exact K _ _ rfl rfl (by unfold oB;simp_all <;> omega)
 repeat' (first|refine aq ?_|refine a8 ?_)
 refine LM I9 ?_
 simp
instance (c:Int):AD Tryz.prog 184 [U8 c] (cQ (oB c)):=⟨tz c⟩
set_option maxRecDepth 8000
section
variable {P:Program} {tt:TT} {r:Option Nat} {ops:Array Oper} {Q:Exit→Act→World→Prop} {nt:Nat} {D:List Deferred} {fr:bY} {B:Bs} {L:AL} {rest:List Oper} {d:Nat} {ty t:TypeId} {pos:String} {af:Array Edge} {x y z:Operand}
theorem yu (ok:ej P tt) {s:ByteArray} {k:IntKind} {i:Int} {c:UInt8} {ti:TI} (ht:dq tt t=some ti) (hk:ti.k= .str) (hx:br fr x=some (.sc (.string s))) (hy:br fr y=some (.sc (.int k i))) (h0:0≤i) (hu:s[i.toNat]?=some c) (hd:Nat.ble nt d=false) (h:bB P r ops Q nt D rest ((d,U8 c.toNat)::fr) B L):bB P r ops Q nt D (⟨some d,.index t x y,ty,pos,af,none⟩::rest) fr B L:=cU (pE (ok.str ht hk) hx hy h0 hu) hd rfl h
end
def nD (s:ByteArray) (i:Nat):Int:=match s[i]? with | some c=>c.toNat | none=>0
theorem pZ {s:ByteArray} {i:Nat} {c:UInt8} (h:s[i]?=some c):nD s i=c.toNat:=by unfold nD;rw [h]
def uo (n:Nat) (p:Nat→Bool):Bool:=(List.range n).all p
theorem nw {n:Nat} {p:Nat→Bool}:uo n p=true↔∀i,i < n→p i=true:=by simp [uo]
theorem oq {n:Nat} {p:Nat→Bool} {i:Nat} (hi:i < n) (h:p i=false):uo n p=false:=by
 rw [Bool.eq_false_iff]
 intro hh
 rw [nw.1 hh i hi] at h
 cases h
theorem yL {s:ByteArray} {i:Nat} (h:i < s.size):∃c,s[i]?=some c:=⟨s[i],by simp [h]⟩
def fj (s:ByteArray):Bool:=decide (1≤s.size∧s.size≤8) && uo s.size fun i=>oB (nD s i)
theorem rL (s:ByteArray):bH Tryz.prog 123 [rE s] (cQ (fj s)):=by
 refine aP Tryz.func123 rfl Tryz.ntmps123 rfl fun B=>?_
 repeat' (first|refine ae ?_|refine a6 ?_|refine a8 ?_|refine aa ?_|refine LF a7 I9 ?_)
 refine cN [0] (¬(1≤s.size∧s.size≤8)) rfl (fun Q' K=>?_) (fun hC=>?_) (fun hC=>?_)
 ·repeat' (first|refine aa ?_|refine LF a7 I9 ?_|refine LN I9 ?_|refine LO LB ?_|refine bc rfl rfl rfl (fun _=>?_) (fun _=>?_))
  all_goals exact K _ _ rfl rfl (by simp_all <;> omega)
 ·repeat' (first|refine ae ?_|refine a6 ?_|refine aq ?_|refine a8 ?_|refine aC ?_|refine aa ?_|refine LF a7 I9 ?_)
  refine LM I9 ?_
  unfold fj
  rw [decide_eq_false hC]
  rfl
 have hC:=Decidable.not_not.1 hC
 repeat' (first|refine ae ?_|refine a6 ?_|refine am ?_|refine au ?_|refine a8 ?_|refine aa ?_|refine LF a7 I9 ?_)
 refine aJ [0,13] (α:=Nat) (fun i=>[(14,aH i)]) (fun i=>i≤s.size∧∀j,j < i→oB (nD s j)=true) (fun _=>[]) (fun i=>s.size - i) 0 rfl ⟨rfl,trivial⟩ ⟨Nat.zero_le _,fun j hj=>absurd hj (Nat.not_lt_zero _)⟩ (fun _ _ h=>h) fun i hi=>?_
 try dsimp only [Lp,Lo,Ln,Lh]
 repeat' (first|refine ae ?_|refine a6 ?_|refine a8 ?_|refine aa ?_|refine LF a7 I9 ?_)
 refine ay rfl (fun h=>?_) (fun h=>?_)
 ·have hil:i < s.size:=by have:=Ly h;omega
  obtain ⟨c,hc⟩:=yL hil
  have hb:=pZ hc
  repeat' (first|refine ae ?_|refine a6 ?_|refine am ?_|refine au ?_|refine a8 ?_|refine aa ?_|refine LF a7 I9 ?_)
  refine yu a7 rfl rfl rfl rfl (by omega) (by rw [Int.toNat_natCast];exact hc) rfl ?_
  repeat' (first|refine a8 ?_|refine aa ?_|refine LF a7 I9 ?_|(apply bw;refine bi ?_)|fail)
  refine ay rfl (fun h2=>?_) (fun h2=>?_)
  ·repeat' (first|refine ae ?_|refine a6 ?_|refine aq ?_|refine a8 ?_|refine aC ?_|refine aQ ?_|refine bM ?_|refine aa ?_|refine LF a7 I9 ?_)
   refine LM I9 ?_
   unfold fj
   rw [oq hil (by rw [hb];simpa using h2),Bool.and_false]
  ·repeat' (first|refine a6 ?_|refine au ?_|refine a8 ?_|refine aM ?_|refine aa ?_|refine LF a7 I9 ?_|(apply aY;refine aX ?_)|fail)
   refine aE (i+1) rfl ⟨by rw [Ls];rfl,trivial⟩ ⟨by omega,fun j hj=>?_⟩ (by omega) (fun _ _ h=>h)
   by_cases e:j=i
   ·subst e;rw [hb];simpa using h2
   ·exact hi.2 j (by omega)
 ·have hil:i=s.size:=by have:=Lw h;omega
  subst hil
  repeat' (first|refine ae ?_|refine a6 ?_|refine aq ?_|refine aL ?_|refine a8 ?_|refine av ?_|refine aA ?_|refine aw ?_|refine aa ?_|refine LF a7 I9 ?_)
  refine LM I9 ?_
  unfold fj
  rw [decide_eq_true hC,nw.2 hi.2]
  rfl
instance (s:ByteArray):AD Tryz.prog 123 [rE s] (cQ (fj s)):=⟨rL s⟩
def tP (i:Nat) (c:Int):Bool:=decide ((oB c=true∨c=95∨c=46)∨(0 < i∧((48≤c∧c≤57)∨c=45)))
def gi (s:ByteArray):Bool:=decide (1≤s.size∧s.size≤16) && uo s.size fun i=>tP i (nD s i)
set_option maxHeartbeats 1000000 in
theorem wS (s:ByteArray):bH Tryz.prog 111 [rE s] (cQ (gi s)):=by
 refine aP Tryz.func111 rfl Tryz.ntmps111 rfl fun B=>?_
 repeat' (first|refine ae ?_|refine a6 ?_|refine a8 ?_|refine aa ?_|refine LF a7 I9 ?_)
 refine cN [0] (¬(1≤s.size∧s.size≤16)) rfl (fun Q' K=>?_) (fun hC=>?_) (fun hC=>?_)
 ·repeat' (first|refine aa ?_|refine LF a7 I9 ?_|refine LN I9 ?_|refine LO LB ?_|refine bc rfl rfl rfl (fun _=>?_) (fun _=>?_))
  all_goals exact K _ _ rfl rfl (by simp_all <;> omega)
 ·repeat' (first|refine ae ?_|refine a6 ?_|refine aq ?_|refine a8 ?_|refine aC ?_|refine aa ?_|refine LF a7 I9 ?_)
  refine LM I9 ?_
  unfold gi
  rw [decide_eq_false hC]
  rfl
 have hC:=Decidable.not_not.1 hC
 repeat' (first|refine ae ?_|refine a6 ?_|refine am ?_|refine au ?_|refine a8 ?_|refine aa ?_|refine LF a7 I9 ?_)
 refine aJ [0,16] (α:=Nat) (fun i=>[(17,aH i)]) (fun i=>i≤s.size∧∀j,j < i→tP j (nD s j)=true) (fun _=>[]) (fun i=>s.size - i) 0 rfl ⟨rfl,trivial⟩ ⟨Nat.zero_le _,fun j hj=>absurd hj (Nat.not_lt_zero _)⟩ (fun _ _ h=>h) fun i hi=>?_
 try dsimp only [Lp,Lo,Ln,Lh]
 repeat' (first|refine ae ?_|refine a6 ?_|refine a8 ?_|refine aa ?_|refine LF a7 I9 ?_)
 refine ay rfl (fun h=>?_) (fun h=>?_)
 ·have hil:i < s.size:=by have:=Ly h;omega
  obtain ⟨c,hc⟩:=yL hil
  have hb:=pZ hc
  repeat' (first|refine ae ?_|refine a6 ?_|refine am ?_|refine au ?_|refine a8 ?_|refine aa ?_|refine LF a7 I9 ?_)
  refine yu a7 rfl rfl rfl rfl (by omega) (by rw [Int.toNat_natCast];exact hc) rfl ?_
  generalize (c.toNat:Int)=z at *
  repeat' (first|refine ae ?_|refine a6 ?_|refine a8 ?_|refine aa ?_|refine LF a7 I9 ?_|(apply bw;refine bi ?_)|fail)
  refine dx (t:=5) [0,3,4,16,17] (oB z=true∨z=95∨z=46) rfl (fun Q' K=>?_) ?_
  ·clear hi hb hc h
   repeat' (first|refine aa ?_|refine LF a7 I9 ?_|refine LN I9 ?_|refine LO LB ?_|refine bc rfl rfl rfl (fun _=>?_) (fun _=>?_))
   all_goals exact K _ _ rfl rfl (by simp_all)
  repeat' (first|refine ae ?_|refine a6 ?_|refine a8 ?_|refine LF a7 I9 ?_)
  refine dx (t:=6) [0,5,16,17] (0 < i∧((48≤z∧z≤57)∨z=45)) rfl (fun Q' K=>?_) ?_
  ·clear hi hb hc h
   repeat' (first|refine aa ?_|refine LF a7 I9 ?_|refine LN I9 ?_|refine LO LB ?_|refine dk rfl rfl rfl ?_|refine bc rfl rfl rfl (fun _=>?_) (fun _=>?_))
   all_goals exact K _ _ rfl rfl (by simp_all <;> omega)
  repeat' (first|refine ae ?_|refine a6 ?_|refine a8 ?_|refine LF a7 I9 ?_)
  refine cN [0,16,17] (tP i z=false) rfl (fun Q' K=>?_) (fun h2=>?_) (fun h2=>?_)
  ·clear hi hb hc h
   repeat' (first|refine aa ?_|refine LF a7 I9 ?_|refine LN I9 ?_|refine LO LB ?_|refine bc rfl rfl rfl (fun _=>?_) (fun _=>?_))
   all_goals exact K _ _ rfl rfl (by clear K;unfold tP;grind)
  ·repeat' (first|refine ae ?_|refine a6 ?_|refine aq ?_|refine a8 ?_|refine aC ?_|refine aQ ?_|refine bM ?_|refine aa ?_|refine LF a7 I9 ?_)
   refine LM I9 ?_
   unfold gi
   rw [oq hil (by rw [hb];exact h2),Bool.and_false]
  ·repeat' (first|refine a6 ?_|refine au ?_|refine a8 ?_|refine aM ?_|refine aa ?_|refine LF a7 I9 ?_|(apply aY;refine aX ?_)|fail)
   refine aE (i+1) rfl ⟨by rw [Ls];rfl,trivial⟩ ⟨by omega,fun j hj=>?_⟩ (by omega) (fun _ _ h=>h)
   by_cases e:j=i
   ·subst e;rw [hb];simpa using h2
   ·exact hi.2 j (by omega)
 ·have hil:i=s.size:=by have:=Lw h;omega
  subst hil
  repeat' (first|refine ae ?_|refine a6 ?_|refine aq ?_|refine aL ?_|refine a8 ?_|refine av ?_|refine aA ?_|refine aw ?_|refine aa ?_|refine LF a7 I9 ?_)
  refine LM I9 ?_
  unfold gi
  rw [decide_eq_true hC,nw.2 hi.2]
  rfl
instance (s:ByteArray):AD Tryz.prog 111 [rE s] (cQ (gi s)):=⟨wS s⟩
end Go.Proofs.YtamjlkdanllgjaaGreatDoor
namespace Go.Proofs.YtamjlkdanllgjaaGreatDoor
open Go.RowKit
attribute [local irreducible] AT bB AX AO Av Kt ba dt DA cz
set_option maxRecDepth 8000
def fY {α:Type} (l:List α) (w:Nat→α→Int) (i:Nat):Int:=match l[i]? with | some x=>w i x | none=>0
def d9 {α:Type} (l:List α) (w:Nat→α→Int):Int×Int:=dl (fY l w) l.length
def cg {α:Type} (most:Int) (l:List α) (w:Nat→α→Int):Int×Int:=da most (fY l w) l.length
theorem ip {α:Type} {l:List α} {w:Nat→α→Int} {i:Nat} {x:α} (h:l[i]?=some x):fY l w i=w i x:=by unfold fY;rw [h]
theorem sd {α:Type} {l:List α} {w:Nat→α→Int} (h:∀i x,l[i]?=some x→w i x=0) (i:Nat):fY l w i=0:=by
 unfold fY
 split
 ·exact h _ _ (by assumption)
 ·rfl
theorem fA {α:Type} {l:List α} {w:Nat→α→Int} (h:∀i x,l[i]?=some x→w i x=0):d9 l w=(0,0):=s9 fun i _=>sd h i
theorem dQ {α:Type} {most:Int} {l:List α} {w:Nat→α→Int} (hm:(l.length:Int)≤most) (h:∀i x,l[i]?=some x→w i x=0):cg most l w=(0,0):=AQ hm fun i _=>sd h i
theorem dh {α:Type} {P:Program} {g:FuncId} {caps:List AV} {l:List α} {el:α→AV} {w:Nat→α→Int} (h:∀(i:Nat) x,l[i]?=some x→bH P g ([aH i,el x]++caps) (aH (w i x))):∀(i:Nat) x (L:AL),l[i]?=some x→True→AC P g ([aH i,el x]++caps) L fun c _=>c=aH (fY l w i)∧(fY l w i=0→True):=by
 intro i x L hx _
 rw [ip hx]
 exact ((h i x hx).any L).mono fun c L' ⟨h1,_⟩=>⟨h1,fun _=>trivial⟩
theorem rA {α:Type} {P:Program} {g:FuncId} {caps:List AV} {l:List α} {el:α→AV} {w:Nat→α→Int} {L0:AL} (h:∀(i:Nat) x,l[i]?=some x→AC P g ([aH i,el x]++caps) L0 fun c L'=>c=aH (w i x)∧L'=L0):∀(i:Nat) x (L:AL),l[i]?=some x→L=L0→AC P g ([aH i,el x]++caps) L fun c L'=>c=aH (fY l w i)∧(fY l w i=0→L'=L0):=by
 intro i x L hx hL
 subst hL
 rw [ip hx]
 exact (h i x hx).mono fun c L' ⟨h1,h2⟩=>⟨h1,fun _=>h2⟩
theorem xB (n:Int):bH Tryz.prog 308 [aH n] (cQ (gj n)):=by
 refine aP Tryz.func308 rfl Tryz.ntmps308 rfl fun B=>?_
 repeat' (first|refine ae ?_|refine a6 ?_|refine a8 ?_|refine aa ?_|refine LF a7 I9 ?_)
 refine dx (t:=2) [] (gj n=true) rfl (fun Q' K=>?_) ?_
 ·repeat' (first|refine aa ?_|refine LF a7 I9 ?_|refine LN I9 ?_|refine LO LB ?_|refine bc rfl rfl rfl (fun _=>?_) (fun _=>?_))
  all_goals exact K _ _ rfl rfl (by clear K;unfold gj;grind)
 repeat' (first|refine aq ?_|refine a8 ?_)
 refine LM I9 ?_
 simp
instance (n:Int):AD Tryz.prog 308 [aH n] (cQ (gj n)):=⟨xB n⟩
def fS (n:Int):Int→List Int→Bool
 | last,[]=>decide (last=n - 1)
 | last,e::r=>if e≥n∨e < last+2 then false else fS n e r
def oQ (p:eH):Bool:=gj p.X && gj p.Y
def gU (pts:List eH) (ends:List Int):Bool:=decide (pts.length≤200∧ends.length≤40) && (pts.all oQ && fS pts.length (-1) ends)
theorem uM {n last:Int} {l:List Int} {i:Nat} {e:Int} (h:l[i]?=some e):fS n last (l.drop i)=if e≥n∨e < last+2 then false else fS n e (l.drop (i+1)):=by
 obtain ⟨hi,hx⟩:=Lm h
 rw [List.drop_eq_getElem_cons hi,hx]
 rfl
set_option maxHeartbeats 1000000 in
theorem tT (pts:List eH) (ends:List Int):bH Tryz.prog 246 [.agg [.imm 3 (pts.map dw),.imm 1 (aO ends)]] (cQ (gU pts ends)):=by
 refine aP Tryz.func246 rfl Tryz.ntmps246 rfl fun B=>?_
 repeat' (first|refine ae ?_|refine a6 ?_|refine a8 ?_|refine aa ?_|refine LF a7 I9 ?_|refine bo ?_|fail)
 refine cN [1] (¬(pts.length≤200∧ends.length≤40)) rfl (fun Q' K=>?_) (fun hC=>?_) (fun hC=>?_)
 ·repeat' (first|refine aa ?_|refine LF a7 I9 ?_|refine LN I9 ?_|refine LO LB ?_|refine bc rfl rfl rfl (fun _=>?_) (fun _=>?_))
  all_goals exact K _ _ rfl rfl (by clear K;simp_all [aW] <;> omega)
 ·repeat' (first|refine ae ?_|refine a6 ?_|refine aq ?_|refine a8 ?_|refine aC ?_|refine aa ?_|refine LF a7 I9 ?_)
  refine LM I9 ?_
  unfold gU
  rw [decide_eq_false hC]
  rfl
 have hC:=Decidable.not_not.1 hC
 have hlm:(pts.map dw).length=pts.length:=Lr ..
 repeat' (first|refine ae ?_|refine a6 ?_|refine am ?_|refine au ?_|refine a8 ?_|refine aa ?_|refine LF a7 I9 ?_)
 refine aJ [1,19,20] (α:=Nat) (fun i=>[(21,aH i)]) (fun i=>i≤pts.length∧(pts.take i).all oQ=true) (fun _=>[]) (fun i=>pts.length - i) 0 rfl ⟨rfl,trivial⟩ ⟨Nat.zero_le _,by simp⟩ (fun _ _ h=>h) fun i hi=>?_
 try dsimp only [Lp,Lo,Ln,Lh]
 repeat' (first|refine ae ?_|refine a6 ?_|refine a8 ?_|refine aa ?_|refine LF a7 I9 ?_)
 refine ay rfl (fun h=>?_) (fun h=>?_)
 ·have hil:i < pts.length:=by have:=Ly h;simp at this;omega
  obtain ⟨z,hz⟩:∃z,pts[i]?=some z:=⟨_,Lz hil⟩
  have hzg:=c7 (c:=dw) hz
  clear h
  repeat' (first|refine ae ?_|refine a6 ?_|refine am ?_|refine au ?_|refine a8 ?_|refine aa ?_|refine LF a7 I9 ?_|(apply aU;first|refine aT a7 ?_|refine aN a7 ?_)|(apply aK;first|refine LH 4 a7 0 LE ?_|refine LH 4 a7 1 LE ?_|refine LH 4 a7 2 LE ?_|refine LG a7 0 LD ?_|refine LG a7 1 LD ?_|refine LG a7 2 LD ?_|refine LG a7 3 LD ?_|fail)|refine bg a7 fun _=>?_|(apply bw;refine bi ?_)|fail)
  refine cN [1,19,20,21] (oQ z=false) rfl (fun Q' K=>?_) (fun h2=>?_) (fun h2=>?_)
  ·clear hi hzg
   repeat' (first|refine aa ?_|refine LF a7 I9 ?_|refine LN I9 ?_|refine LO LB ?_|(apply bw;refine bi ?_)|refine bc rfl rfl rfl (fun _=>?_) (fun _=>?_))
   all_goals exact K _ _ rfl rfl (by clear K;unfold oQ;simp_all)
  ·repeat' (first|refine ae ?_|refine a6 ?_|refine aq ?_|refine a8 ?_|refine aC ?_|refine aQ ?_|refine bM ?_|refine aa ?_|refine LF a7 I9 ?_)
   refine LM I9 ?_
   unfold gU
   rw [show pts.all oQ=false by
    rw [List.all_eq_false]
    exact ⟨z,Lv hz,by simp [h2]⟩]
   simp
  ·repeat' (first|refine a6 ?_|refine au ?_|refine a8 ?_|refine aM ?_|refine aa ?_|refine LF a7 I9 ?_|(apply aY;refine aX ?_)|fail)
   refine aE (i+1) rfl ⟨by rw [Ls];rfl,trivial⟩ ⟨by omega,?_⟩ (by omega) (fun _ _ h=>h)
   rw [List.take_add_one,hz,List.all_append,hi.2]
   simpa using h2
 have hil:i=pts.length:=by have:=Lw h;simp at this;omega
 subst hil
 rw [List.take_length] at hi
 have hall:=hi.2
 clear hi h
 have hval:gU pts ends=fS pts.length (-1) ends:=by
  unfold gU
  rw [decide_eq_true hC,hall]
  rfl
 rw [hval]
 repeat' (first|refine ae ?_|refine a6 ?_|refine am ?_|refine aL ?_|refine a8 ?_|refine av ?_|refine aA ?_|refine aw ?_|refine aa ?_|refine LF a7 I9 ?_)
 refine aJ [1,37,38] (α:=Nat×Int) (fun x=>[(39,aH x.1),(5,aH x.2)]) (fun x=>x.1≤ends.length∧-1≤x.2∧x.2≤1000∧fS pts.length (-1) ends=fS pts.length x.2 (ends.drop x.1)) (fun _=>[]) (fun x=>ends.length - x.1) (0,-1) rfl ⟨rfl,rfl,trivial⟩ ⟨Nat.zero_le _,by decide,by decide,rfl⟩ (fun _ _ h=>h) ?_
 rintro ⟨i,last⟩ ⟨hi,hl0,hl1,he⟩
 dsimp only at hi hl0 hl1 he ⊢
 try dsimp only [Lp,Lo,Ln,Lh]
 repeat' (first|refine ae ?_|refine a6 ?_|refine a8 ?_|refine aa ?_|refine LF a7 I9 ?_)
 refine ay rfl (fun h=>?_) (fun h=>?_)
 ·have hil:i < ends.length:=by have:=Ly h;simp [aW] at this;omega
  obtain ⟨z,hz⟩:∃z,ends[i]?=some z:=⟨_,Lz hil⟩
  have hzg:=bO hz
  rw [uM hz] at he
  clear h
  repeat' (first|refine ae ?_|refine a6 ?_|refine am ?_|refine au ?_|refine a8 ?_|refine aa ?_|refine LF a7 I9 ?_|(apply aU;first|refine aT a7 ?_|refine aN a7 ?_)|fail)
  refine cN [1,7,37,38,39] (z≥pts.length∨z < last+2) rfl (fun Q' K=>?_) (fun h2=>?_) (fun h2=>?_)
  ·clear hi hzg he hval
   repeat' (first|refine aa ?_|refine LF a7 I9 ?_|refine LN I9 ?_|refine LO LB ?_|(apply aY;refine aX ?_)|refine bc rfl rfl rfl (fun _=>?_) (fun _=>?_))
   all_goals exact K _ _ rfl rfl (by clear K;simp_all <;> omega)
  ·rw [if_pos h2] at he
   repeat' (first|refine ae ?_|refine a6 ?_|refine aq ?_|refine a8 ?_|refine aC ?_|refine aQ ?_|refine bM ?_|refine aa ?_|refine LF a7 I9 ?_)
   refine LM I9 ?_
   rw [he]
  ·rw [if_neg h2] at he
   repeat' (first|refine a6 ?_|refine au ?_|refine a8 ?_|refine aM ?_|refine aa ?_|refine LF a7 I9 ?_|(apply aY;refine aX ?_)|fail)
   exact aE (i+1,z) rfl ⟨by rw [Ls];rfl,rfl,trivial⟩ ⟨by dsimp only;omega,by dsimp only;omega,by dsimp only;omega,he⟩ (by dsimp only;omega) (fun _ _ h=>h)
 ·have hil:i=ends.length:=by have:=Lw h;simp [aW] at this;omega
  subst hil
  rw [List.drop_length] at he
  repeat' (first|refine ae ?_|refine a6 ?_|refine aq ?_|refine aL ?_|refine a8 ?_|refine av ?_|refine aA ?_|refine aw ?_|refine aa ?_|refine LF a7 I9 ?_|(apply aY;refine aX ?_)|fail)
  refine LM I9 ?_
  rw [he]
  simp [fS]
def Jh (_:Nat) (p:eH):Int:=dY (!([p.X,p.Y].all gj)) 30
theorem xr (i:Nat) (p:eH):bH Tryz.prog 245 [aH i,.agg (dw p)] (aH (Jh i p)):=by
 refine aP Tryz.func245 rfl Tryz.ntmps245 rfl fun B=>?_
 repeat' (first|refine ae ?_|refine a6 ?_|refine aq ?_|refine a8 ?_|refine aa ?_|refine LF a7 I9 ?_|refine bo ?_|refine bS a7 ?_|(apply bw;refine bi ?_)|fail)
 exact LK LA
def iK (g:bf):Int:=if g.Advance < 0∨g.Advance > 16384 then 1 else if g.Points.length > 200∨g.Ends.length > 40 then 2 else if (d9 g.Points Jh).1≠0 then (d9 g.Points Jh).1 else dY (!(gU g.Points g.Ends)) 31
theorem AM (g:bf):bH Tryz.prog 175 [.agg (bj g)] (aH (iK g)):=by
 refine aP Tryz.func175 rfl Tryz.ntmps175 rfl fun B=>?_
 unfold iK
 repeat' (first|refine ae ?_|refine a6 ?_|refine am ?_|refine a8 ?_|refine aa ?_|refine LF a7 I9 ?_|refine bo ?_|fail)
 refine cN [1] (g.Advance < 0∨g.Advance > 16384) rfl (fun Q' K=>?_) (fun hC=>?_) (fun hC=>?_)
 ·repeat' (first|refine aa ?_|refine LF a7 I9 ?_|refine LN I9 ?_|refine LO LB ?_|refine bc rfl rfl rfl (fun _=>?_) (fun _=>?_))
  all_goals exact K _ _ rfl rfl (by clear K;grind)
 ·rw [if_pos hC]
  repeat' (first|refine ae ?_|refine a6 ?_|refine aq ?_|refine a8 ?_|refine aC ?_|refine aQ ?_|refine aa ?_|refine LF a7 I9 ?_)
  exact LK LA
 rw [if_neg hC]
 repeat' (first|refine ae ?_|refine a6 ?_|refine LF a7 I9 ?_)
 refine cN [1] (g.Points.length > 200∨g.Ends.length > 40) rfl (fun Q' K=>?_) (fun hC=>?_) (fun hC=>?_)
 ·repeat' (first|refine aa ?_|refine LF a7 I9 ?_|refine LN I9 ?_|refine LO LB ?_|refine bc rfl rfl rfl (fun _=>?_) (fun _=>?_))
  all_goals exact K _ _ rfl rfl (by clear K;simp_all [aW] <;> omega)
 ·rw [if_pos hC]
  repeat' (first|refine ae ?_|refine a6 ?_|refine aq ?_|refine a8 ?_|refine aC ?_|refine aQ ?_|refine aa ?_|refine LF a7 I9 ?_)
  exact LK LA
 rw [if_neg hC]
 repeat' (first|refine ae ?_|refine a6 ?_|refine au ?_|refine a8 ?_|refine aM ?_|refine LF a7 I9 ?_)
 refine bh [] [] (EU (u:= .sc (.func (.func 245) #[] #[])) (g:=245) (caps:=[]) rfl g.Points _ (fun _ _=>True) [] trivial (dh (fun i x _=>xr i x))) rfl rfl (Ll _) rfl fun c L1 hc=>?_
 have hc:c=cm (d9 g.Points Jh):=hc
 subst hc
 unfold cm
 repeat' (first|refine ae ?_|refine a6 ?_|refine a8 ?_|refine aa ?_|refine LF a7 I9 ?_)
 refine ay rfl (fun h=>?_) (fun h=>?_)
 ·rw [if_pos (Ly h)]
  repeat' (first|refine ae ?_|refine a6 ?_|refine aq ?_|refine a8 ?_|refine aC ?_|refine aa ?_|refine LF a7 I9 ?_)
  exact LK LA
 ·rw [if_neg (Lw h)]
  repeat' (first|refine ae ?_|refine a6 ?_|refine au ?_|refine a8 ?_|refine LF a7 I9 ?_)
  refine bi (hc:=⟨tT g.Points g.Ends⟩) ?_
  repeat' (first|refine aq ?_|refine a8 ?_|refine aa ?_|refine LF a7 I9 ?_|(apply bw;refine bi ?_)|fail)
  exact LK LA
instance (g:bf):AD Tryz.prog 175 [.agg (bj g)] (aH (iK g)):=⟨AM g⟩
set_option maxRecDepth 8000
open Go.MapKept
def Cu (_:Nat) (i:eG):Int:=if i.Op < 1∨i.Op > 39 then 50 else if i.A < -999999999∨i.A > 999999999 then 3 else 0
theorem tY (n:Nat) (i:eG):bH Tryz.prog 213 [aH n,.agg (dO i)] (aH (Cu n i)):=by
 refine aP Tryz.func213 rfl Tryz.ntmps213 rfl fun B=>?_
 unfold Cu
 repeat' (first|refine ae ?_|refine a6 ?_|refine am ?_|refine a8 ?_|refine aa ?_|refine LF a7 I9 ?_|refine bo ?_|fail)
 refine cN [3] (i.Op < 1∨i.Op > 39) rfl (fun Q' K=>?_) (fun hC=>?_) (fun hC=>?_)
 ·repeat' (first|refine aa ?_|refine LF a7 I9 ?_|refine LN I9 ?_|refine LO LB ?_|refine bc rfl rfl rfl (fun _=>?_) (fun _=>?_))
  all_goals exact K _ _ rfl rfl (by clear K;grind)
 ·rw [if_pos hC]
  repeat' (first|refine ae ?_|refine a6 ?_|refine aq ?_|refine a8 ?_|refine aC ?_|refine aQ ?_|refine aa ?_|refine LF a7 I9 ?_)
  exact LK LA
 rw [if_neg hC]
 repeat' (first|refine ae ?_|refine a6 ?_|refine LF a7 I9 ?_)
 refine cN [] (i.A < -999999999∨i.A > 999999999) rfl (fun Q' K=>?_) (fun hC=>?_) (fun hC=>?_)
 ·repeat' (first|refine aa ?_|refine LF a7 I9 ?_|refine LN I9 ?_|refine LO LB ?_|refine bc rfl rfl rfl (fun _=>?_) (fun _=>?_))
  all_goals exact K _ _ rfl rfl (by clear K;grind)
 ·rw [if_pos hC]
  repeat' (first|refine ae ?_|refine a6 ?_|refine aq ?_|refine a8 ?_|refine aC ?_|refine aQ ?_|refine aa ?_|refine LF a7 I9 ?_)
  exact LK LA
 rw [if_neg hC]
 repeat' (first|refine ae ?_|refine a6 ?_|refine au ?_|refine aq ?_|refine a8 ?_|refine aM ?_|refine aa ?_|refine LF a7 I9 ?_)
 exact LK LA
def n4 (l:List eG):Int:=(cg 200 l Cu).1
theorem vB (l:List eG):bH Tryz.prog 132 [.imm 2 (l.map dO)] (aH (n4 l)):=by
 refine aP Tryz.func132 rfl Tryz.ntmps132 rfl fun B=>?_
 repeat' (first|refine ae ?_|refine a6 ?_|refine a8 ?_|refine aa ?_|refine LF a7 I9 ?_|(apply bw;refine bi ?_)|fail)
 refine dD (f:=273) (cs:=[]) [] [] (FT (g:=213) (caps:=[]) rfl l 200 _ (fun _ _=>True) [] trivial (fun _=>dh fun i x _=>tY i x)) rfl rfl rfl (Ll _) rfl rfl fun c L1 hc=>?_
 have hc:c=cm (cg 200 l Cu):=hc
 subst hc
 unfold cm
 repeat' (first|refine ae ?_|refine a6 ?_|refine aq ?_|refine a8 ?_|refine aa ?_|refine LF a7 I9 ?_)
 exact LK LA
instance (l:List eG):AD Tryz.prog 132 [.imm 2 (l.map dO)] (aH (n4 l)):=⟨vB l⟩
def lI (f:aV) (_:Nat) (p:dL):Int:=if kS f p.Glyph=false then 32 else dY (!([p.X,p.Y].all gj)) 30
theorem wM (f:aV) (n:Nat) (p:dL):bH Tryz.prog 177 [aH n,.agg (er p),.iptr (c6 f)] (aH (lI f n p)):=by
 refine aP Tryz.func177 rfl Tryz.ntmps177 rfl fun B=>?_
 unfold lI
 repeat' (first|refine ae ?_|refine a6 ?_|refine a8 ?_|refine aa ?_|refine LF a7 I9 ?_|refine bo ?_|(apply bw;refine bi ?_)|fail)
 refine ay rfl (fun h=>?_) (fun h=>?_)
 ·rw [if_pos (by simpa using h)]
  repeat' (first|refine ae ?_|refine a6 ?_|refine aq ?_|refine a8 ?_|refine aC ?_|refine aa ?_|refine LF a7 I9 ?_)
  exact LK LA
 ·rw [if_neg (by simpa using h)]
  repeat' (first|refine ae ?_|refine a6 ?_|refine au ?_|refine aq ?_|refine a8 ?_|refine aa ?_|refine LF a7 I9 ?_|refine bS a7 ?_|(apply bw;refine bi ?_)|fail)
  exact LK LA
def lU (g:bf) (i:Nat) (a:dA):Int:=if (a.Kind < 1∨a.Kind > 4)∨(a.Class < 0∨a.Class > 15)∨((a.Kind=3∨a.Kind=4)∧a.Class≠0)∨[a.X,a.Y].all gj=false∨(a.Kind=2∧g.Mark=false)∨(∃b∈g.Anchors.take i,b.Kind=a.Kind∧b.Class=a.Class) then 35 else 0
def rK (f:aV) (g:bf) (i:Nat) (d:dG):Int:=if d.Region < 0∨d.Region≥f.Regions.length then 61 else if (d.Point < -1∨d.Point≥g.Points.length)∨[d.X,d.Y].all gj=false∨(d.Point= -1∧d.Y≠0) then 30 else if (match i with | 0=>false | j+1=>match g.Deltas[j]? with | some b=>decide (d.Region < b.Region∨(d.Region=b.Region∧d.Point≤b.Point)) | none=>false)=true then 24 else 0
theorem we (b:Bool):AC Tryz.prog 180 [cQ b] [] fun c L=>∃m,c= .fn 251 [.iptr [cQ b],.iptr [.sc (.map (some m))]]∧L=[(m,i7 fun _ _=>none)]:=by
 refine aP Tryz.func180 rfl Tryz.ntmps180 rfl fun B=>?_
 repeat' (first|refine ae ?_|refine a6 ?_|refine a8 ?_|refine aa ?_|refine LF a7 I9 ?_|refine bo ?_|fail)
 refine x8 fun m=>?_
 repeat' (first|refine ae ?_|refine a6 ?_|refine aq ?_|refine a8 ?_|refine aa ?_|refine LF a7 I9 ?_|(apply aK;first|refine LH 3 a7 0 LE ?_|refine LH 3 a7 1 LE ?_|refine LH 3 a7 2 LE ?_|refine LG a7 0 LD ?_|refine LG a7 1 LD ?_|refine LG a7 2 LD ?_|refine LG a7 3 LD ?_|fail)|refine bg a7 fun _=>?_|fail)
 exact LM I9 ⟨_,rfl,rfl⟩
theorem zC (r p:Int):AC Tryz.prog 182 [aH r,aH p] [] fun c L=>∃b,c= .fn 254 [.iptr [aH r],.iptr [aH p],.sc (.pointer (some ⟨b,0,none⟩))]∧L=[(b,.box [aH 0,aH 0] 364)]:=by
 refine aP Tryz.func182 rfl Tryz.ntmps182 rfl fun B=>?_
 repeat' (first|refine ae ?_|refine a6 ?_|refine aq ?_|refine a8 ?_|refine aa ?_|refine LF a7 I9 ?_|refine bo ?_|refine bg a7 fun _=>?_|fail)
 exact LM I9 ⟨_,rfl,rfl⟩
theorem wK (e:Int):bH Tryz.prog 173 [.iptr [aH e]] (cm (e,0)):=by
 refine aP Tryz.func173 rfl Tryz.ntmps173 rfl fun B=>?_
 repeat' (first|refine ae ?_|refine a6 ?_|refine aq ?_|refine a8 ?_|refine aa ?_|refine LF a7 I9 ?_)
 exact LR LB
theorem wL (g:bf):bH Tryz.prog 174 [.iptr (bj g)] (cm (iK g,0)):=by
 refine aP Tryz.func174 rfl Tryz.ntmps174 rfl fun B=>?_
 repeat' (first|refine ae ?_|refine a6 ?_|refine aq ?_|refine a8 ?_|refine aa ?_|refine LF a7 I9 ?_|(apply bw;refine bi ?_)|fail)
 exact LR LB
theorem wN (g:bf):bH Tryz.prog 183 [.iptr (bj g)] (cm (n4 g.Hint,0)):=by
 refine aP Tryz.func183 rfl Tryz.ntmps183 rfl fun B=>?_
 repeat' (first|refine ae ?_|refine a6 ?_|refine aq ?_|refine a8 ?_|refine aa ?_|refine LF a7 I9 ?_|(apply bw;refine bi ?_)|fail)
 exact LR LB
def gD (l:List (Int×Int)):Int×Int:=match l with
 | []=>(0,0)
 | x::r=>if x.1=0 then gD r else x
theorem jX:∀l:List Lk,sG l=gD (l.map fun x=>(x.e,x.n))
 | []=>rfl
 | x::r=>by simp only [sG,Ln,gD];rw [jX r]
theorem qu:∀{l:List (Int×Int)},(∀x∈l,x.1=0)→gD l=(0,0)
 | [],_=>rfl
 | x::r,h=>by unfold gD;rw [if_pos (h x (List.mem_cons_self ..))];exact qu fun y hy=>h y (Lq _ hy)
def nN (f:aV) (g:bf) (name:Int):Int:=(gD [(name,0),(iK g,0),cg 8 g.Parts (lI f),cg 16 g.Anchors (lU g),cg 400 g.Deltas (rK f g),(n4 g.Hint,0)]).1
end Go.Proofs.YtamjlkdanllgjaaGreatDoor
