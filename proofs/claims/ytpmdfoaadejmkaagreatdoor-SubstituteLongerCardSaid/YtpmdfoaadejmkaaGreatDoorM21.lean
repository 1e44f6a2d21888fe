/-
  The laws' small fonts: marks, calls, reverse.
-/
import Derived.Test.YtpmdfoaadejmkaaGreatDoorM18
import Derived.Test.YtpmdfoaadejmkaaGreatDoorM11
import Derived.Test.YtpmdfoaadejmkaaGreatDoorM07
namespace Go.Proofs.YtpmdfoaadejmkaaGreatDoor
open Go.RowKit
attribute [local irreducible] AT br AX AO Av Kt bb df DA cC
def ff:Nat→List Int→List aK
 | _,[]=>[]
 | i,g::l=>⟨g,i,0,0,0,0⟩::ff (i+1) l
def eJ (l:List Int):List aK:=ff 0 l
def jL:List Bool:=[false,false,false,false,true]
def Gt (ig:Bool):List aL:=[⟨3,ig,[⟨[],[[0],[1]],[],[2],[],0⟩]⟩]
def sn (a b c:Nat):List Int:=List.replicate a 4++0::(List.replicate b 4++1::List.replicate c 4)
def u3 (a b c:Nat) (ig:Bool):List Int:=if 0 < b∧ig=false then sn a b c else List.replicate a 4++2::(List.replicate b 4++List.replicate c 4)
def Bc (a b c:Nat) (ig:Bool):Bool:=
 let out:=dL jL (Gt ig) 0 (eJ (sn a b c)) []
 (out.map aK.Glyph==u3 a b c ig) && (decide ((u3 a b c ig).length=(sn a b c).length) || (match out[a]? with | some x=>decide (x.Cluster=a) | none=>false))
def GX:Bool:=(List.range 8).all fun a=>(List.range 8).all fun b=>(List.range 8).all fun c=>Bc a b c true && Bc a b c false
def GK:b8:=⟨[],[[0]],[[1]],[1],[],0⟩
def Dy:List aL:=[⟨5,false,[GK]⟩,⟨1,false,[GK]⟩]
def BH (n:Nat):List Int:=List.replicate n 0++[1]
def FG (n:Nat):List Int:=(List.range (n+1)).map fun (k:Nat)=>if (n:Int) - 1≤(k:Int) then (1:Int) else 0
def I7 (n:Nat):Bool:=((dL jL Dy 0 (eJ (BH n)) []).map aK.Glyph==List.replicate (n+1) 1) && ((dL jL Dy 1 (eJ (BH n)) []).map aK.Glyph==FG n)
def Gf (k:Nat):List aL:=[⟨4,false,[⟨[],[[0]],[],[],[⟨0,1⟩,⟨0,2⟩,⟨0,0⟩],0⟩]⟩,⟨1,false,[⟨[],[[0]],[],[2],[],0⟩]⟩,⟨2,false,[⟨[],[[2]],[],List.replicate k 1,[],0⟩]⟩]
def HG (n k:Nat):Bool:=
 let out:=dL jL (Gf k) 0 (eJ (List.replicate n 0)) []
 if k=0 then decide (out.length < n) else out.map aK.Glyph==List.replicate (n * k) 1
end Go.Proofs.YtpmdfoaadejmkaaGreatDoor
namespace Go.Proofs.YtpmdfoaadejmkaaGreatDoor
open Go.RowKit
attribute [local irreducible] AT br AX AO Av Kt bb df DA cC
open Go.MapKept
section
variable {P:Program} {r:Option Nat} {ops:Array Oper} {Q:Exit→Act→World→Prop} {nt:Nat} {D:List Deferred} {fr:bW} {B:Bs} {L:AL} {rest:List Oper} {d:Nat} {ty t:TypeId} {pos:String} {af:Array Edge} {x y z:Operand} {u:AV} {cd:Code}
theorem j7 {f:FuncId} {args:Array Operand} {ts:Array TypeId} {cs caps:List AV} {v:AV} [bB P f] (hc:bN P f (cs++caps) v) (hx:bc fr x=some u) (hu:k6 u=some (f,caps)) (hv:eg fr args.toList=some cs) (hn:Oper.noDefer ⟨some d,.call ⟨.value x,args,ts⟩,ty,pos,af,none⟩=true) (hd:Nat.ble nt d=false) (h:br P r ops Q nt D rest ((d,v)::fr) B L):
  br P r ops Q nt D (⟨some d,.call ⟨.value x,args,ts⟩,ty,pos,af,none⟩::rest) fr B L:=
 dh [] L hc hx hu hv (Io _) hn hd fun c L1 hc=>by
  have hc':c=v:=hc
  subst hc'
  exact aJ (bM (List.sublist_append_right ..)) h
theorem CE (t:Nat) {u:AV} {s:Nat} {l:List (List AV)} (hl:c6 fr t=some u) (hu:ij u=some (s,l)) (h:l.length≤9223372036854775807→br P r ops Q nt D rest fr B L):br P r ops Q nt D rest fr B L:=
 CD (fun σ a w ha _=>(AP (ha.look t u hl) hu).1) h
end
def tW (t:bV) (i:Nat) (l:Int):Bool:=match i with | 0=>false | j+1=>match t.Lookups[j]? with | some b=>decide (l≤b) | none=>false
def oM (f:aY) (t:bV) (i:Nat) (l:Int):Int:=dK (decide (l < 0∨l≥f.Lookups.length) || tW t i l) 43
set_option maxHeartbeats 1000000 in
theorem xZ (f:aY) (t:bV) (i:Nat) (l:Int) (hl:t.Lookups[i]?=some l) (hn:t.Lookups.length≤9223372036854775807):bN Tryz.prog 144 [aF i,aF l,.iptr (cx f),.iptr (ce t)] (aF (oM f t i l)):=by
 refine aN Tryz.func144 rfl Tryz.ntmps144 rfl fun B=>?_
 have hil:=(Ip hl).1
 unfold oM
 cases i with
 | zero=>
  repeat' (first|refine If ?_|refine IF a5 FN ?_)
  refine da (t:=7) [] (l < 0∨l≥f.Lookups.length) rfl (fun Q' K=>?_) ?_
  ·repeat' (first|refine If ?_|refine IF a5 FN ?_|refine IN FN ?_|refine IP IB ?_|refine dl rfl rfl rfl ?_|refine IR IA (fun _=>?_) (fun _=>?_))
   all_goals exact K _ _ rfl rfl (by clear K;simp_all <;> omega)
  repeat' (first|refine If ?_|refine IF a5 FN ?_|(apply bv;refine bn ?_)|fail)
  refine IL FN ?_
  simp [tW]
 | succ j=>
  obtain ⟨b,hb⟩:∃b,t.Lookups[j]?=some b:=⟨_,Iz (by omega)⟩
  have hbg:(aT t.Lookups)[(((j+1:Nat):Int) - 1).toNat]?=some [aF b]:=by rw [show (((j+1:Nat):Int) - 1).toNat=j by omega];exact bR hb
  have hlt:tW t (j+1) l=decide (l≤b):=by simp [tW,hb]
  have hpos:decide (0 < ((j+1:Nat):Int))=true:=decide_eq_true (by omega)
  rw [hlt]
  repeat' (first|refine If ?_|refine IF a5 FN ?_)
  refine da (t:=7) [] ((l < 0∨l≥f.Lookups.length)∨l≤b) rfl (fun Q' K=>?_) ?_
  ·repeat' (first|refine If ?_|refine IF a5 FN ?_|refine IN FN ?_|refine IP IB ?_|refine dl rfl rfl rfl ?_|(apply aV;refine aU ?_)|(apply aS;first|refine aR a5 ?_|refine aH a5 ?_)|refine IR IA (fun _=>?_) (fun _=>?_))
   all_goals exact K _ _ rfl rfl (by clear K;simp_all <;> omega)
  repeat' (first|refine If ?_|refine IF a5 FN ?_|(apply bv;refine bn ?_)|fail)
  refine IL FN ?_
  rw [Bool.decide_or]
def tH (f:aY) (t:bV) (name:Int):Int:=if name≠0 then name else (cU t.Lookups (oM f t)).1
theorem tI (f:aY) (t:bV) (name:Int):bN Tryz.prog 65 [cQ f,.agg (ce t),aF name] (aF (tH f t name)):=by
 refine aN Tryz.func65 rfl Tryz.ntmps65 rfl fun B=>?_
 unfold tH
 repeat' (first|refine If ?_|refine IF a5 FN ?_|refine bk ?_|fail)
 refine aq rfl (fun h=>?_) (fun h=>?_)
 ·rw [if_pos (Iy h)]
  repeat' (first|refine If ?_|refine IF a5 FN ?_)
  exact IM IA
 rw [if_neg (Ix h)]
 repeat' (first|refine If ?_|refine IF a5 FN ?_)
 refine CE 14 rfl rfl fun hlen=>?_
 rw [aZ] at hlen
 refine b9 [] [] (mf (u:= .fn 144 [.iptr (cx f),.iptr (ce t)]) (g:=144) rfl t.Lookups _ (fun _ _=>True) [] trivial (d3 (fun i x hx=>xZ f t i x hx (by omega)))) rfl rfl (Io _) rfl fun c L1 hc=>?_
 have hc:c=ck (cU t.Lookups (oM f t)):=hc
 subst hc
 unfold ck
 repeat' (first|refine If ?_|refine IF a5 FN ?_)
 exact IM IA
instance (f:aY) (t:bV) (name:Int):AD Tryz.prog 65 [cQ f,.agg (ce t),aF name] (aF (tH f t name)):=⟨tI f t name⟩
def cT (names:List ByteArray) (s:ByteArray):Option Nat:=names.findIdx? (fun x=>decide (x=s))
def cG (names:List ByteArray) (v:Value):Option AV:=match v with
 | .string s=>(cT names s).map fun (n:Nat)=>aF (n:Int)
 | _=>none
theorem jC {names:List ByteArray} {i:Nat} {s:ByteArray} (h:names[i]?=some s) (q:ByteArray):cT (names.take (i+1)) q=match cT (names.take i) q with | some n=>some n | none=>if s=q then some i else none:=by
 unfold cT
 have hlt:=(Ip h).1
 have hlen:(names.take i).length=i:=by rw [List.length_take];omega
 rw [List.take_add_one,h,Option.toList_some,List.findIdx?_append,hlen]
 cases List.findIdx? (fun x=>decide (x=q)) (names.take i) with
 | some n=>rfl
 | none=>
  by_cases e:s=q
  ·simp [e]
  ·simp [e]
theorem lF:cG []=fun _=>none:=by
 funext v
 cases v <;> rfl
theorem kx {names:List ByteArray} {s:ByteArray}:(cG names (.string s)).isSome=(cT names s).isSome:=by
 show (Option.map (fun n:Nat=>aF (n:Int)) (cT names s)).isSome=_
 cases cT names s <;> rfl
theorem jD {names:List ByteArray} {i:Nat} {s:ByteArray} (h:names[i]?=some s) (hk:(cT (names.take i) s).isSome=true):cG (names.take (i+1))=cG (names.take i):=by
 funext v
 cases v with
 | string q=>
  simp only [cG]
  rw [jC h]
  cases hq:cT (names.take i) q with
  | some n=>rfl
  | none=>
   by_cases e:s=q
   ·subst e;rw [hq] at hk;cases hk
   ·simp [e]
 | _=>rfl
theorem kw {names:List ByteArray} {i:Nat} {s:ByteArray} (h:names[i]?=some s) (hk:(cT (names.take i) s).isSome=false):cG (names.take (i+1)) (.string s)=some (aF i):=by
 simp only [cG]
 rw [jC h]
 cases hq:cT (names.take i) s with
 | some n=>rw [hq] at hk;cases hk
 | none=>simp
theorem jE {names:List ByteArray} {i:Nat} {s:ByteArray} (h:names[i]?=some s) (q:Value) (hne:q≠ .string s):cG (names.take (i+1)) q=cG (names.take i) q:=by
 cases q with
 | string q=>
  have hne':s≠q:=fun e=>hne (by rw [e])
  simp only [cG]
  rw [jC h]
  cases hq:cT (names.take i) q with
  | some n=>rfl
  | none=>simp [hne']
 | _=>rfl
theorem pS (g:bj):bN Tryz.prog 42 [.agg (bL g)] (uL g.Name):=by
 refine aN Tryz.func42 rfl Tryz.ntmps42 rfl fun B=>?_
 repeat' (first|refine If ?_|refine IF a5 FN ?_|refine bk ?_|fail)
 exact IM IA
theorem pT (g:bV):bN Tryz.prog 44 [.agg (ce g)] (uL g.Name):=by
 refine aN Tryz.func44 rfl Tryz.ntmps44 rfl fun B=>?_
 repeat' (first|refine If ?_|refine IF a5 FN ?_|refine bk ?_|fail)
 exact IM IA
theorem pU (g:ee):bN Tryz.prog 46 [.agg (cE g)] (uL g.Name):=by
 refine aN Tryz.func46 rfl Tryz.ntmps46 rfl fun B=>?_
 repeat' (first|refine If ?_|refine IF a5 FN ?_|refine bk ?_|fail)
 exact IM IA
set_option maxHeartbeats 1000000 in
theorem Am (l:List bj):AC Tryz.prog 41 [.imm 9 (l.map bL),.sc (.func (.func 42) #[] #[])] [] fun c L=>∃m,c= .sc (.map (some m))∧L=[(m,cN .string (cG (l.map bj.Name)))]:=by
 refine aN Tryz.func41 rfl Tryz.ntmps41 rfl fun B=>?_
 refine cK 0 rfl rfl fun hlen=>?_
 rw [Iu] at hlen
 repeat' (first|refine If ?_|refine IF a5 FN ?_)
 refine fO .string fun m=>?_
 repeat' (first|refine If ?_|refine ak ?_|refine IF a5 FN ?_)
 refine aO [1,5,11,12] (α:=Nat) (fun i=>[(13,aF i)]) (fun i=>i≤l.length) (fun i=>[(m,cN .string (cG ((l.map bj.Name).take i)))]) (fun i=>l.length - i) 0 rfl ⟨rfl,trivial⟩ (Nat.zero_le _) (fun _ _ h=>by rw [List.take_zero,lF];exact h) fun i hi=>?_
 try dsimp only [Is,Ir,Iq,Ik]
 repeat' (first|refine If ?_|refine IF a5 FN ?_)
 refine aq rfl (fun h=>?_) (fun h=>?_)
 ·have hil:i < l.length:=by have:=Iy h;simp at this;omega
  obtain ⟨z,hz⟩:∃z,l[i]?=some z:=⟨_,Iz hil⟩
  have hzg:=cw (c:=bL) hz
  have hzn:(l.map bj.Name)[i]?=some z.Name:=by rw [List.getElem?_map,hz];rfl
  repeat' (first|refine If ?_|refine ak ?_|refine IF a5 FN ?_|(apply aS;first|refine aR a5 ?_|refine aH a5 ?_)|(apply aM;first|refine IH 7 a5 0 IE ?_|refine IH 7 a5 1 IE ?_|refine IH 7 a5 2 IE ?_|refine IG a5 0 ID ?_|refine IG a5 1 ID ?_|refine IG a5 2 ID ?_|refine IG a5 3 ID ?_|fail)|refine bh a5 fun _=>?_|fail)
  refine j7 (cs:=[.agg (bL z)]) (caps:=[]) (pS z) rfl rfl rfl rfl rfl ?_
  repeat' (first|fail)
  refine hZ 0 (.int .i64 0) Tryz.underlying129 Tryz.underlying9 rfl rfl trivial rfl (by kernel_rfl) rfl ?_
  rw [kx]
  repeat' (first|refine If ?_|refine IF a5 FN ?_)
  refine aq rfl (fun h2=>?_) (fun h2=>?_)
  ·have h2':(cT ((l.map bj.Name).take i) z.Name).isSome=false:=by simpa using h2
   repeat' (first|refine If ?_|refine IF a5 FN ?_)
   refine j7 (cs:=[.agg (bL z)]) (caps:=[]) (pS z) rfl rfl rfl rfl rfl ?_
   repeat' (first|refine IF a5 FN ?_)
   refine dU 0 (cG ((l.map bj.Name).take (i+1))) Tryz.underlying129 Tryz.underlying9 rfl rfl trivial rfl rfl (kw hzn h2') (jE hzn) ?_
   repeat' (first|refine If ?_|refine IF a5 FN ?_|(apply aV;refine aU ?_)|fail)
   exact aD (i+1) rfl ⟨by rw [Iv];rfl,trivial⟩ (by omega) (by omega) (fun _ _ h=>h)
  ·have h2':(cT ((l.map bj.Name).take i) z.Name).isSome=true:=by simpa using h2
   repeat' (first|refine If ?_|refine IF a5 FN ?_|(apply aV;refine aU ?_)|fail)
   exact aD (i+1) rfl ⟨by rw [Iv];rfl,trivial⟩ (by omega) (by omega) (fun _ _ h=>by rw [jD hzn h2'];exact h)
 ·have hil:i=l.length:=by have:=Ix h;simp at this;omega
  subst hil
  rw [List.take_of_length_le (by simp)]
  repeat' (first|refine If ?_|refine IF a5 FN ?_)
  exact IL FN ⟨_,rfl,rfl⟩
set_option maxHeartbeats 1000000 in
theorem An (l:List bV):AC Tryz.prog 43 [.imm 2 (l.map ce),.sc (.func (.func 44) #[] #[])] [] fun c L=>∃m,c= .sc (.map (some m))∧L=[(m,cN .string (cG (l.map bV.Name)))]:=by
 refine aN Tryz.func43 rfl Tryz.ntmps43 rfl fun B=>?_
 refine cK 0 rfl rfl fun hlen=>?_
 rw [Iu] at hlen
 repeat' (first|refine If ?_|refine IF a5 FN ?_)
 refine fO .string fun m=>?_
 repeat' (first|refine If ?_|refine ak ?_|refine IF a5 FN ?_)
 refine aO [1,5,11,12] (α:=Nat) (fun i=>[(13,aF i)]) (fun i=>i≤l.length) (fun i=>[(m,cN .string (cG ((l.map bV.Name).take i)))]) (fun i=>l.length - i) 0 rfl ⟨rfl,trivial⟩ (Nat.zero_le _) (fun _ _ h=>by rw [List.take_zero,lF];exact h) fun i hi=>?_
 try dsimp only [Is,Ir,Iq,Ik]
 repeat' (first|refine If ?_|refine IF a5 FN ?_)
 refine aq rfl (fun h=>?_) (fun h=>?_)
 ·have hil:i < l.length:=by have:=Iy h;simp at this;omega
  obtain ⟨z,hz⟩:∃z,l[i]?=some z:=⟨_,Iz hil⟩
  have hzg:=cw (c:=ce) hz
  have hzn:(l.map bV.Name)[i]?=some z.Name:=by rw [List.getElem?_map,hz];rfl
  repeat' (first|refine If ?_|refine ak ?_|refine IF a5 FN ?_|(apply aS;first|refine aR a5 ?_|refine aH a5 ?_)|(apply aM;first|refine IH 7 a5 0 IE ?_|refine IH 7 a5 1 IE ?_|refine IH 7 a5 2 IE ?_|refine IG a5 0 ID ?_|refine IG a5 1 ID ?_|refine IG a5 2 ID ?_|refine IG a5 3 ID ?_|fail)|refine bh a5 fun _=>?_|fail)
  refine j7 (cs:=[.agg (ce z)]) (caps:=[]) (pT z) rfl rfl rfl rfl rfl ?_
  repeat' (first|fail)
  refine hZ 0 (.int .i64 0) Tryz.underlying129 Tryz.underlying9 rfl rfl trivial rfl (by kernel_rfl) rfl ?_
  rw [kx]
  repeat' (first|refine If ?_|refine IF a5 FN ?_)
  refine aq rfl (fun h2=>?_) (fun h2=>?_)
  ·have h2':(cT ((l.map bV.Name).take i) z.Name).isSome=false:=by simpa using h2
   repeat' (first|refine If ?_|refine IF a5 FN ?_)
   refine j7 (cs:=[.agg (ce z)]) (caps:=[]) (pT z) rfl rfl rfl rfl rfl ?_
   repeat' (first|refine IF a5 FN ?_)
   refine dU 0 (cG ((l.map bV.Name).take (i+1))) Tryz.underlying129 Tryz.underlying9 rfl rfl trivial rfl rfl (kw hzn h2') (jE hzn) ?_
   repeat' (first|refine If ?_|refine IF a5 FN ?_|(apply aV;refine aU ?_)|fail)
   exact aD (i+1) rfl ⟨by rw [Iv];rfl,trivial⟩ (by omega) (by omega) (fun _ _ h=>h)
  ·have h2':(cT ((l.map bV.Name).take i) z.Name).isSome=true:=by simpa using h2
   repeat' (first|refine If ?_|refine IF a5 FN ?_|(apply aV;refine aU ?_)|fail)
   exact aD (i+1) rfl ⟨by rw [Iv];rfl,trivial⟩ (by omega) (by omega) (fun _ _ h=>by rw [jD hzn h2'];exact h)
 ·have hil:i=l.length:=by have:=Ix h;simp at this;omega
  subst hil
  rw [List.take_of_length_le (by simp)]
  repeat' (first|refine If ?_|refine IF a5 FN ?_)
  exact IL FN ⟨_,rfl,rfl⟩
set_option maxHeartbeats 1000000 in
theorem Ao (l:List ee):AC Tryz.prog 45 [.imm 4 (l.map cE),.sc (.func (.func 46) #[] #[])] [] fun c L=>∃m,c= .sc (.map (some m))∧L=[(m,cN .string (cG (l.map ee.Name)))]:=by
 refine aN Tryz.func45 rfl Tryz.ntmps45 rfl fun B=>?_
 refine cK 0 rfl rfl fun hlen=>?_
 rw [Iu] at hlen
 repeat' (first|refine If ?_|refine IF a5 FN ?_)
 refine fO .string fun m=>?_
 repeat' (first|refine If ?_|refine ak ?_|refine IF a5 FN ?_)
 refine aO [1,5,11,12] (α:=Nat) (fun i=>[(13,aF i)]) (fun i=>i≤l.length) (fun i=>[(m,cN .string (cG ((l.map ee.Name).take i)))]) (fun i=>l.length - i) 0 rfl ⟨rfl,trivial⟩ (Nat.zero_le _) (fun _ _ h=>by rw [List.take_zero,lF];exact h) fun i hi=>?_
 try dsimp only [Is,Ir,Iq,Ik]
 repeat' (first|refine If ?_|refine IF a5 FN ?_)
 refine aq rfl (fun h=>?_) (fun h=>?_)
 ·have hil:i < l.length:=by have:=Iy h;simp at this;omega
  obtain ⟨z,hz⟩:∃z,l[i]?=some z:=⟨_,Iz hil⟩
  have hzg:=cw (c:=cE) hz
  have hzn:(l.map ee.Name)[i]?=some z.Name:=by rw [List.getElem?_map,hz];rfl
  repeat' (first|refine If ?_|refine ak ?_|refine IF a5 FN ?_|(apply aS;first|refine aR a5 ?_|refine aH a5 ?_)|(apply aM;first|refine IH 7 a5 0 IE ?_|refine IH 7 a5 1 IE ?_|refine IH 7 a5 2 IE ?_|refine IG a5 0 ID ?_|refine IG a5 1 ID ?_|refine IG a5 2 ID ?_|refine IG a5 3 ID ?_|fail)|refine bh a5 fun _=>?_|fail)
  refine j7 (cs:=[.agg (cE z)]) (caps:=[]) (pU z) rfl rfl rfl rfl rfl ?_
  repeat' (first|fail)
  refine hZ 0 (.int .i64 0) Tryz.underlying129 Tryz.underlying9 rfl rfl trivial rfl (by kernel_rfl) rfl ?_
  rw [kx]
  repeat' (first|refine If ?_|refine IF a5 FN ?_)
  refine aq rfl (fun h2=>?_) (fun h2=>?_)
  ·have h2':(cT ((l.map ee.Name).take i) z.Name).isSome=false:=by simpa using h2
   repeat' (first|refine If ?_|refine IF a5 FN ?_)
   refine j7 (cs:=[.agg (cE z)]) (caps:=[]) (pU z) rfl rfl rfl rfl rfl ?_
   repeat' (first|refine IF a5 FN ?_)
   refine dU 0 (cG ((l.map ee.Name).take (i+1))) Tryz.underlying129 Tryz.underlying9 rfl rfl trivial rfl rfl (kw hzn h2') (jE hzn) ?_
   repeat' (first|refine If ?_|refine IF a5 FN ?_|(apply aV;refine aU ?_)|fail)
   exact aD (i+1) rfl ⟨by rw [Iv];rfl,trivial⟩ (by omega) (by omega) (fun _ _ h=>h)
  ·have h2':(cT ((l.map ee.Name).take i) z.Name).isSome=true:=by simpa using h2
   repeat' (first|refine If ?_|refine IF a5 FN ?_|(apply aV;refine aU ?_)|fail)
   exact aD (i+1) rfl ⟨by rw [Iv];rfl,trivial⟩ (by omega) (by omega) (fun _ _ h=>by rw [jD hzn h2'];exact h)
 ·have hil:i=l.length:=by have:=Ix h;simp at this;omega
  subst hil
  rw [List.take_of_length_le (by simp)]
  repeat' (first|refine If ?_|refine IF a5 FN ?_)
  exact IL FN ⟨_,rfl,rfl⟩
end Go.Proofs.YtpmdfoaadejmkaaGreatDoor
namespace Go.Proofs.YtpmdfoaadejmkaaGreatDoor
open Go.RowKit
attribute [local irreducible] AT br AX AO Av Kt bb df DA cC
theorem kv (names:List ByteArray) (s:ByteArray):(cG names (.string s)).getD (.sc (.int .i64 0))=aF ((cT names s).getD 0:Nat):=by
 show (Option.map (fun n:Nat=>aF (n:Int)) (cT names s)).getD (.sc (.int .i64 0))=_
 cases cT names s <;> rfl
def jP (names:List ByteArray) (i:Nat) (s:ByteArray):Bool:=decide ((((cT names s).getD 0:Nat):Int) < (i:Int))
def jG (f:aY):List ByteArray:=f.Glyphs.map bj.Name
def kR (f:aY):List ByteArray:=f.Features.map bV.Name
def i4 (f:aY):List ByteArray:=f.Axes.map ee.Name
def dT (f:aY) (i:Nat) (g:bj):Int:=nr f g (ku (g9 g.Name) (jP (jG f) i g.Name))
def jB (f:aY) (i:Nat) (t:bV):Int:=tH f t (ku (eZ t.Name) (jP (kR f) i t.Name))
def ju (f:aY) (i:Nat) (a:ee):Int:=tp a (ku (g9 a.Name) (jP (i4 f) i a.Name))
set_option maxHeartbeats 1000000 in
theorem vw (f:aY) (i:Nat) (g:bj) (m:Nat):AC Tryz.prog 51 [aF i,.agg (bL g),.iptr (cx f),.iptr [.sc (.map (some m))]] [(m,cN .string (cG (jG f)))] fun c L=>c=aF (dT f i g)∧L=[(m,cN .string (cG (jG f)))]:=by
 refine aN Tryz.func51 rfl Tryz.ntmps51 rfl fun B=>?_
 repeat' (first|refine If ?_|refine IF a5 FN ?_|refine bk ?_|fail)
 refine bz 12 [(0,.v),(1,.v),(2,.v),(3,.v),(4,.v),(5,.v),(6,.v),(7,.v),(9,.v),(8,.e),(10,.v),(11,.v)] none ?_ trivial rfl (by kernel_rfl) (by kernel_rfl) (by kernel_rfl) bT (by kernel_rfl) rfl
 repeat' (first|refine aC ?_|refine b6 a5 ?_|(apply dy;refine eh ?_)|fail)
 refine pq 0 (.int .i64 0) Tryz.underlying129 Tryz.underlying9 rfl rfl trivial rfl (by kernel_rfl) trivial ?_
 rw [kv]
 repeat' (first|refine aC ?_|refine b6 a5 ?_|(apply dy;refine eh ?_)|fail)
 refine IQ [7,8,18] FN ?_
 repeat' (first|refine If ?_|refine a7 ?_|refine IF a5 FN ?_|(apply bv;refine bn ?_)|fail)
 exact IL FN ⟨rfl,rfl⟩
set_option maxHeartbeats 1000000 in
theorem y0 (f:aY) (i:Nat) (t:bV) (m:Nat):AC Tryz.prog 64 [aF i,.agg (ce t),.iptr (cx f),.iptr [.sc (.map (some m))]] [(m,cN .string (cG (kR f)))] fun c L=>c=aF (jB f i t)∧L=[(m,cN .string (cG (kR f)))]:=by
 refine aN Tryz.func64 rfl Tryz.ntmps64 rfl fun B=>?_
 repeat' (first|refine If ?_|refine IF a5 FN ?_|refine bk ?_|fail)
 refine bz 12 [(0,.v),(1,.v),(2,.v),(3,.v),(4,.v),(5,.v),(6,.v),(7,.v),(9,.v),(8,.e),(10,.v),(11,.v)] none ?_ trivial rfl (by kernel_rfl) (by kernel_rfl) (by kernel_rfl) bT (by kernel_rfl) rfl
 repeat' (first|refine aC ?_|refine b6 a5 ?_|(apply dy;refine eh ?_)|fail)
 refine pq 0 (.int .i64 0) Tryz.underlying129 Tryz.underlying9 rfl rfl trivial rfl (by kernel_rfl) trivial ?_
 rw [kv]
 repeat' (first|refine aC ?_|refine b6 a5 ?_|(apply dy;refine eh ?_)|fail)
 refine IQ [7,8,18] FN ?_
 repeat' (first|refine If ?_|refine a7 ?_|refine IF a5 FN ?_|(apply bv;refine bn ?_)|fail)
 exact IL FN ⟨rfl,rfl⟩
set_option maxHeartbeats 1000000 in
theorem xA (f:aY) (i:Nat) (a:ee) (m:Nat):AC Tryz.prog 68 [aF i,.agg (cE a),.iptr [.sc (.map (some m))]] [(m,cN .string (cG (i4 f)))] fun c L=>c=aF (ju f i a)∧L=[(m,cN .string (cG (i4 f)))]:=by
 refine aN Tryz.func68 rfl Tryz.ntmps68 rfl fun B=>?_
 repeat' (first|refine If ?_|refine IF a5 FN ?_|refine bk ?_|fail)
 refine bz 11 [(0,.v),(1,.v),(2,.v),(3,.v),(4,.v),(5,.v),(6,.v),(8,.v),(7,.e),(9,.v),(10,.v)] none ?_ trivial rfl (by kernel_rfl) (by kernel_rfl) (by kernel_rfl) bT (by kernel_rfl) rfl
 repeat' (first|refine aC ?_|refine b6 a5 ?_|(apply dy;refine eh ?_)|fail)
 refine pq 0 (.int .i64 0) Tryz.underlying129 Tryz.underlying9 rfl rfl trivial rfl (by kernel_rfl) trivial ?_
 rw [kv]
 repeat' (first|refine aC ?_|refine b6 a5 ?_|(apply dy;refine eh ?_)|fail)
 refine IQ [6,16] FN ?_
 repeat' (first|refine If ?_|refine a7 ?_|refine IF a5 FN ?_|(apply bv;refine bn ?_)|fail)
 exact IL FN ⟨rfl,rfl⟩
theorem Dh (n:Nat) (hn:n≤1000000):AC Tryz.prog 271 [.sc (.slice none 0 0),aF n] [] fun c L=>∃k,c= .vec k 1 []∧L=tok k 22 1 0:=by
 refine aN Tryz.func271 rfl Tryz.ntmps271 rfl fun B=>?_
 repeat' (first|refine If ?_|refine IF a5 FN ?_|refine bI rfl ?_)
 refine su a5 rfl rfl rfl ?_
 repeat' (first|refine If ?_|refine IF a5 FN ?_|(apply aV;refine aU ?_)|fail)
 by_cases h0:n=0
 ·subst h0
  repeat' (first|refine If ?_|refine IF a5 FN ?_|refine bI rfl ?_)
  refine bf (bO (t:=4) (c':= .vec none 1 []) rfl fun σ v h=>cJ 1 h) (IL FN ⟨none,rfl,rfl⟩)
 ·refine aq rfl (fun h2=>?_) (fun h2=>?_)
  ·repeat' (first|refine If ?_|refine IF a5 FN ?_)
   refine su a5 rfl rfl rfl ?_
   repeat' (first|fail)
   refine Fq a5 rfl rfl rfl rfl ?_
   repeat' (first|refine IF a5 FN ?_)
   refine yn a5 n rfl Tryz.underlying3 rfl rfl (by omega) (by omega) (by omega) (by omega) rfl fun b cap h3 h4=>?_
   repeat' (first|refine IF a5 FN ?_)
   refine Bo a5 0 rfl rfl rfl rfl (by omega) (by omega) rfl ?_
   repeat' (first|refine If ?_|refine IF a5 FN ?_)
   refine bf (bO (t:=4) (c':= .vec (some (b,cap)) 1 []) rfl fun σ v h=>E1 h4 h) (IL FN ⟨some (b,cap),rfl,rfl⟩)
  ·exact absurd (Ix h2) (by omega)
def qc (l:List (List (List Int))):List (List AV):=l.map fun r=>[.imm 1 (b7 r)]
def gz (l:List (List (List Int))):Nat:=(l.map List.length).sum
theorem ou {l:List (List (List Int))} {i:Nat} {r:List (List Int)} (h:l[i]?=some r):gz (l.take (i+1))=gz (l.take i)+r.length:=by
 unfold gz
 rw [List.take_add_one,h]
 simp
theorem rK (l:List (List (List Int))) (i:Nat):gz (l.take i)≤gz l:=by
 have h:((l.take i++l.drop i).map List.length).sum=(l.map List.length).sum:=by rw [List.take_append_drop]
 rw [List.map_append,List.sum_append] at h
 unfold gz
 omega
theorem Ap (l:List (List (List Int))):l.flatten.length=gz l:=by
 unfold gz
 rw [List.length_flatten]
theorem yE (a b:List (List Int)):b7 a++b7 b=b7 (a++b):=by unfold b7;rw [List.map_append]
set_option maxHeartbeats 1000000 in
theorem vf (l:List (List (List Int))) (hs:gz l≤1000000):bN Tryz.prog 216 [.imm 1 (qc l)] (.imm 1 (b7 l.flatten)):=by
 refine aN Tryz.func216 rfl Tryz.ntmps216 rfl fun B=>?_
 have hrl:(qc l).length=l.length:=by simp [qc]
 refine cK 0 rfl rfl fun hlen=>?_
 rw [hrl] at hlen
 repeat' (first|refine If ?_|refine ak ?_|refine IF a5 FN ?_)
 refine aO [0,9,10] (α:=Nat) (fun i=>[(11,aF i),(3,aF (gz (l.take i)))]) (fun i=>i≤l.length) (fun _=>[]) (fun i=>l.length - i) 0 rfl ⟨rfl,rfl,trivial⟩ (Nat.zero_le _) (fun _ _ h=>h) fun i hi=>?_
 try dsimp only [Is,Ir,Iq,Ik]
 repeat' (first|refine If ?_|refine IF a5 FN ?_)
 refine aq rfl (fun h=>?_) (fun h=>?_)
 ·have hil:i < l.length:=by have:=Iy h;rw [hrl] at this;omega
  obtain ⟨z,hz⟩:∃z,l[i]?=some z:=⟨_,Iz hil⟩
  have hzg:(qc l)[i]?=some [.imm 1 (b7 z)]:=by simp [qc,hz]
  have hsz:=ou hz
  have hle:=rK l (i+1)
  have hzl:(b7 z).length=z.length:=by simp [b7]
  repeat' (first|refine If ?_|refine ak ?_|refine IF a5 FN ?_|(apply aV;refine aU ?_)|(apply aS;first|refine aR a5 ?_|refine aH a5 ?_)|refine bI rfl ?_)
  exact aD (i+1) rfl ⟨by rw [Iv];rfl,by rw [hsz,Iv,hzl];rfl,trivial⟩ (by omega) (by omega) (fun _ _ h=>h)
 have hil:i=l.length:=by have:=Ix h;rw [hrl] at this;omega
 subst hil
 rw [List.take_length]
 clear h
 repeat' (first|refine If ?_|refine IF a5 FN ?_)
 refine b9 [] [] (Dh (gz l) hs) rfl rfl (Io _) rfl fun c L1 ⟨k,hc,hL⟩=>?_
 subst hc;subst hL
 rw [List.append_nil]
 repeat' (first|refine If ?_|refine ak ?_|refine IF a5 FN ?_)
 refine aO [25,26] (α:=Nat×Option (Nat×Nat)) (fun x=>[(27,aF x.1),(6,.vec x.2 1 (b7 (l.take x.1).flatten))]) (fun x=>x.1≤l.length) (fun x=>tok x.2 22 1 (b7 (l.take x.1).flatten).length) (fun x=>l.length - x.1) (0,k) rfl ⟨rfl,rfl,trivial⟩ (Nat.zero_le _) (fun _ _ h=>h) ?_
 rintro ⟨i,k⟩ hi
 dsimp only at hi ⊢
 try dsimp only [Is,Ir,Iq,Ik]
 repeat' (first|refine If ?_|refine IF a5 FN ?_)
 refine aq rfl (fun h=>?_) (fun h=>?_)
 ·have hil:i < l.length:=by have:=Iy h;rw [hrl] at this;omega
  obtain ⟨z,hz⟩:∃z,l[i]?=some z:=⟨_,Iz hil⟩
  have hzg:(qc l)[i]?=some [.imm 1 (b7 z)]:=by simp [qc,hz]
  have hsz:=ou hz
  have hle:=rK l (i+1)
  have hzl:(b7 z).length=z.length:=by simp [b7]
  have hfl:(b7 (l.take i).flatten).length=gz (l.take i):=by rw [cq,Ap]
  have hcat:b7 (l.take i).flatten++b7 z=b7 (l.take (i+1)).flatten:=by rw [yE,List.take_add_one,hz];simp
  repeat' (first|refine If ?_|refine ak ?_|refine IF a5 FN ?_|(apply aS;first|refine aR a5 ?_|refine aH a5 ?_)|fail)
  refine bJ a5 [] rfl rfl rfl rfl (by rw [List.append_nil]) (by rw [hfl,hzl];omega) (by rw [hfl,hzl];omega) rfl fun k'=>?_
  rw [hcat,List.append_nil]
  repeat' (first|refine If ?_|refine IF a5 FN ?_|(apply aV;refine aU ?_)|fail)
  exact aD (i+1,k') rfl ⟨by rw [Iv];rfl,rfl,trivial⟩ (by dsimp only;omega) (by dsimp only;omega) (fun _ _ h=>h)
 ·have hil:i=l.length:=by have:=Ix h;rw [hrl] at this;omega
  subst hil
  rw [List.take_length]
  repeat' (first|refine If ?_|refine IF a5 FN ?_)
  exact zJ rfl rfl rfl rfl
end Go.Proofs.YtpmdfoaadejmkaaGreatDoor
