/-
  The program: features; the first thing of a name.
-/
import Derived.Test.YtamjlkdanllgjaaGreatDoorM10
import Derived.Test.YtamjlkdanllgjaaGreatDoorM07
namespace Go.Proofs.YtamjlkdanllgjaaGreatDoor
open Go.RowKit
attribute [local irreducible] AT bF AX AO Av Kt b8 d9 DA cu
set_option maxRecDepth 8000
open Go.MapKept
section
variable {P:Program} {r:Option Nat} {ops:Array Oper} {Q:Exit→Act→World→Prop} {nt:Nat} {D:List Deferred} {fr:bZ} {B:Bs} {L:AL} {rest:List Oper} {d:Nat} {ty t:TypeId} {pos:String} {af:Array Edge} {x y z:Operand} {u:AV} {cd:Code}
theorem jH {f:FuncId} {args:Array Operand} {ts:Array TypeId} {cs caps:List AV} {v:AV} [bK P f] (hc:bH P f (cs++caps) v) (hx:bw fr x=some u) (hu:kW u=some (f,caps)) (hv:eB fr args.toList=some cs) (hn:Oper.noDefer ⟨some d,.call ⟨.value x,args,ts⟩,ty,pos,af,none⟩=true) (hd:Nat.ble nt d=false) (h:bF P r ops Q nt D rest ((d,v)::fr) B L):
  bF P r ops Q nt D (⟨some d,.call ⟨.value x,args,ts⟩,ty,pos,af,none⟩::rest) fr B L:=
 dO [] L hc hx hu hv (Ok _) hn hd fun c L1 hc=>by
  have hc':c=v:=hc
  subst hc'
  exact aX (bS (List.sublist_append_right ..)) h
theorem GA (t:Nat) {u:AV} {s:Nat} {l:List (List AV)} (hl:ce fr t=some u) (hu:gZ u=some (s,l)) (h:l.length≤9223372036854775807→bF P r ops Q nt D rest fr B L):bF P r ops Q nt D rest fr B L:=
 Gz (fun σ a w ha _=>(Ep (ha.look t u hl) hu).1) h
end
def zR (t:bz) (i:Nat) (l:Int):Bool:=match i with | 0=>false | j+1=>match t.Lookups[j]? with | some b=>decide (l≤b) | none=>false
def qp (f:aY) (t:bz) (i:Nat) (l:Int):Int:=ez (decide (l < 0∨l≥f.Lookups.length) || zR t i l) 43
set_option maxHeartbeats 1000000 in
theorem BA (f:aY) (t:bz) (i:Nat) (l:Int) (hl:t.Lookups[i]?=some l) (hn:t.Lookups.length≤9223372036854775807):bH Tryz.prog 203 [aG i,aG l,.iptr (cf f),.iptr (bI t)] (aG (qp f t i l)):=by
 refine aQ Tryz.func203 rfl Tryz.ntmps203 rfl fun B=>?_
 have hil:=(Ol hl).1
 unfold qp
 cases i with
 | zero=>
  refine W01 ?_
  refine da (t:=7) [] (l < 0∨l≥f.Lookups.length) rfl (fun Q' K=>?_) ?_
  ·repeat' (first|refine O1 ?_|refine OE a7 KN ?_|refine ON KN ?_|refine OP OA ?_|refine dc rfl rfl rfl ?_|refine OR NZ (fun _=>?_) (fun _=>?_))
   all_goals exact K _ _ rfl rfl (by clear K;simp_all <;> omega)
  refine W0a ?_
  refine OK KN ?_
  simp [zR]
 | succ j=>
  obtain ⟨b,hb⟩:∃b,t.Lookups[j]?=some b:=⟨_,Oz (by omega)⟩
  have hbg:(aL t.Lookups)[(((j+1:Nat):Int) - 1).toNat]?=some [aG b]:=by rw [show (((j+1:Nat):Int) - 1).toNat=j by omega];exact bD hb
  have hlt:zR t (j+1) l=decide (l≤b):=by simp [zR,hb]
  have hpos:decide (0 < ((j+1:Nat):Int))=true:=decide_eq_true (by omega)
  rw [hlt]
  refine W01 ?_
  refine da (t:=7) [] ((l < 0∨l≥f.Lookups.length)∨l≤b) rfl (fun Q' K=>?_) ?_
  ·repeat' (first|refine O1 ?_|refine OE a7 KN ?_|refine ON KN ?_|refine OP OA ?_|refine dc rfl rfl rfl ?_|(apply aS;refine aR ?_)|(apply aV;first|refine aU a7 ?_|refine aN a7 ?_)|refine OR NZ (fun _=>?_) (fun _=>?_))
   all_goals exact K _ _ rfl rfl (by clear K;simp_all <;> omega)
  refine W0a ?_
  refine OK KN ?_
  rw [Bool.decide_or]
def zD (f:aY) (t:bz) (name:Int):Int:=if name≠0 then name else (dx t.Lookups (qp f t)).1
theorem vS (f:aY) (t:bz) (name:Int):bH Tryz.prog 122 [cR f,.agg (bI t),aG name] (aG (zD f t name)):=by
 refine aQ Tryz.func122 rfl Tryz.ntmps122 rfl fun B=>?_
 unfold zD
 refine W07 ?_
 refine aw rfl (fun h=>?_) (fun h=>?_)
 ·rw [if_pos (Oy h)]
  refine W01 ?_
  exact OL NZ
 rw [if_neg (Ox h)]
 refine W01 ?_
 refine GA 14 rfl rfl fun hlen=>?_
 rw [aP] at hlen
 refine bh [] [] (nh (u:= .fn 203 [.iptr (cf f),.iptr (bI t)]) (g:=203) rfl t.Lookups _ (fun _ _=>True) [] trivial (dz (fun i x hx=>BA f t i x hx (by omega)))) rfl rfl (Ok _) rfl fun c L1 hc=>?_
 have hc:c=ct (dx t.Lookups (qp f t)):=hc
 subst hc
 unfold ct
 refine W01 ?_
 exact OL NZ
instance (f:aY) (t:bz) (name:Int):AD Tryz.prog 122 [cR f,.agg (bI t),aG name] (aG (zD f t name)):=⟨vS f t name⟩
def dD (names:List ByteArray) (s:ByteArray):Option Nat:=names.findIdx? (fun x=>decide (x=s))
def cY (names:List ByteArray) (v:Value):Option AV:=match v with
 | .string s=>(dD names s).map fun (n:Nat)=>aG (n:Int)
 | _=>none
theorem kl {names:List ByteArray} {i:Nat} {s:ByteArray} (h:names[i]?=some s) (q:ByteArray):dD (names.take (i+1)) q=match dD (names.take i) q with | some n=>some n | none=>if s=q then some i else none:=by
 unfold dD
 have hlt:=(Ol h).1
 have hlen:(names.take i).length=i:=by rw [List.length_take];omega
 rw [List.take_add_one,h,Option.toList_some,List.findIdx?_append,hlen]
 cases List.findIdx? (fun x=>decide (x=q)) (names.take i) with
 | some n=>rfl
 | none=>
  by_cases e:s=q
  ·simp [e]
  ·simp [e]
theorem mz:cY []=fun _=>none:=by
 funext v
 cases v <;> rfl
theorem lg {names:List ByteArray} {s:ByteArray}:(cY names (.string s)).isSome=(dD names s).isSome:=by
 show (Option.map (fun n:Nat=>aG (n:Int)) (dD names s)).isSome=_
 cases dD names s <;> rfl
theorem km {names:List ByteArray} {i:Nat} {s:ByteArray} (h:names[i]?=some s) (hk:(dD (names.take i) s).isSome=true):cY (names.take (i+1))=cY (names.take i):=by
 funext v
 cases v with
 | string q=>
  simp only [cY]
  rw [kl h]
  cases hq:dD (names.take i) q with
  | some n=>rfl
  | none=>
   by_cases e:s=q
   ·subst e;rw [hq] at hk;cases hk
   ·simp [e]
 | _=>rfl
theorem lf {names:List ByteArray} {i:Nat} {s:ByteArray} (h:names[i]?=some s) (hk:(dD (names.take i) s).isSome=false):cY (names.take (i+1)) (.string s)=some (aG i):=by
 simp only [cY]
 rw [kl h]
 cases hq:dD (names.take i) s with
 | some n=>rw [hq] at hk;cases hk
 | none=>simp
theorem kp {names:List ByteArray} {i:Nat} {s:ByteArray} (h:names[i]?=some s) (q:Value) (hne:q≠ .string s):cY (names.take (i+1)) q=cY (names.take i) q:=by
 cases q with
 | string q=>
  have hne':s≠q:=fun e=>hne (by rw [e])
  simp only [cY]
  rw [kl h]
  cases hq:dD (names.take i) q with
  | some n=>rfl
  | none=>simp [hne']
 | _=>rfl
theorem rP (g:bn):bH Tryz.prog 99 [.agg (bG g)] (oh g.Name):=by
 refine aQ Tryz.func99 rfl Tryz.ntmps99 rfl fun B=>?_
 refine W07 ?_
 exact OL NZ
theorem rQ (g:bz):bH Tryz.prog 101 [.agg (bI g)] (oh g.Name):=by
 refine aQ Tryz.func101 rfl Tryz.ntmps101 rfl fun B=>?_
 refine W07 ?_
 exact OL NZ
theorem rR (g:eI):bH Tryz.prog 103 [.agg (cS g)] (oh g.Name):=by
 refine aQ Tryz.func103 rfl Tryz.ntmps103 rfl fun B=>?_
 refine W07 ?_
 exact OL NZ
set_option maxHeartbeats 1000000 in
theorem E7 (l:List bn):AC Tryz.prog 98 [.imm 9 (l.map bG),.sc (.func (.func 99) #[] #[])] [] fun c L=>∃m,c= .sc (.map (some m))∧L=[(m,ci .string (cY (l.map bn.Name)))]:=by
 refine aQ Tryz.func98 rfl Tryz.ntmps98 rfl fun B=>?_
 refine cV 0 rfl rfl fun hlen=>?_
 rw [Ou] at hlen
 refine W01 ?_
 refine eo .string fun m=>?_
 refine W03 ?_
 refine aJ [1,5,11,12] (α:=Nat) (fun i=>[(13,aG i)]) (fun i=>i≤l.length) (fun i=>[(m,ci .string (cY ((l.map bn.Name).take i)))]) (fun i=>l.length - i) 0 rfl ⟨rfl,trivial⟩ (Nat.zero_le _) (fun _ _ h=>by rw [List.take_zero,mz];exact h) fun i hi=>?_
 try dsimp only [Oq,Oo,Om,Oh]
 refine W01 ?_
 refine aw rfl (fun h=>?_) (fun h=>?_)
 ·have hil:i < l.length:=by have:=Oy h;simp at this;omega
  obtain ⟨z,hz⟩:∃z,l[i]?=some z:=⟨_,Oz hil⟩
  have hzg:=c7 (c:=bG) hz
  have hzn:(l.map bn.Name)[i]?=some z.Name:=by rw [List.getElem?_map,hz];rfl
  refine W04 ?_
  intros
  refine jH (cs:=[.agg (bG z)]) (caps:=[]) (rP z) rfl rfl rfl rfl rfl ?_
  repeat' (first|fail)
  refine gQ 0 (.int .i64 0) Tryz.underlying196 Tryz.underlying9 rfl rfl trivial rfl (by kernel_rfl) rfl ?_
  rw [lg]
  refine W01 ?_
  refine aw rfl (fun h2=>?_) (fun h2=>?_)
  ·have h2':(dD ((l.map bn.Name).take i) z.Name).isSome=false:=by simpa using h2
   refine W01 ?_
   refine jH (cs:=[.agg (bG z)]) (caps:=[]) (rP z) rfl rfl rfl rfl rfl ?_
   repeat' (first|refine OE a7 KN ?_)
   refine dA 0 (cY ((l.map bn.Name).take (i+1))) Tryz.underlying196 Tryz.underlying9 rfl rfl trivial rfl rfl (lf hzn h2') (kp hzn) ?_
   refine W02 ?_
   exact aD (i+1) rfl ⟨by rw [Ov];rfl,trivial⟩ (by omega) (by omega) (fun _ _ h=>h)
  ·have h2':(dD ((l.map bn.Name).take i) z.Name).isSome=true:=by simpa using h2
   refine W02 ?_
   exact aD (i+1) rfl ⟨by rw [Ov];rfl,trivial⟩ (by omega) (by omega) (fun _ _ h=>by rw [km hzn h2'];exact h)
 ·have hil:i=l.length:=by have:=Ox h;simp at this;omega
  subst hil
  rw [List.take_of_length_le (by simp)]
  refine W01 ?_
  exact OK KN ⟨_,rfl,rfl⟩
set_option maxHeartbeats 1000000 in
theorem E8 (l:List bz):AC Tryz.prog 100 [.imm 2 (l.map bI),.sc (.func (.func 101) #[] #[])] [] fun c L=>∃m,c= .sc (.map (some m))∧L=[(m,ci .string (cY (l.map bz.Name)))]:=by
 refine aQ Tryz.func100 rfl Tryz.ntmps100 rfl fun B=>?_
 refine cV 0 rfl rfl fun hlen=>?_
 rw [Ou] at hlen
 refine W01 ?_
 refine eo .string fun m=>?_
 refine W03 ?_
 refine aJ [1,5,11,12] (α:=Nat) (fun i=>[(13,aG i)]) (fun i=>i≤l.length) (fun i=>[(m,ci .string (cY ((l.map bz.Name).take i)))]) (fun i=>l.length - i) 0 rfl ⟨rfl,trivial⟩ (Nat.zero_le _) (fun _ _ h=>by rw [List.take_zero,mz];exact h) fun i hi=>?_
 try dsimp only [Oq,Oo,Om,Oh]
 refine W01 ?_
 refine aw rfl (fun h=>?_) (fun h=>?_)
 ·have hil:i < l.length:=by have:=Oy h;simp at this;omega
  obtain ⟨z,hz⟩:∃z,l[i]?=some z:=⟨_,Oz hil⟩
  have hzg:=c7 (c:=bI) hz
  have hzn:(l.map bz.Name)[i]?=some z.Name:=by rw [List.getElem?_map,hz];rfl
  refine W04 ?_
  intros
  refine jH (cs:=[.agg (bI z)]) (caps:=[]) (rQ z) rfl rfl rfl rfl rfl ?_
  repeat' (first|fail)
  refine gQ 0 (.int .i64 0) Tryz.underlying196 Tryz.underlying9 rfl rfl trivial rfl (by kernel_rfl) rfl ?_
  rw [lg]
  refine W01 ?_
  refine aw rfl (fun h2=>?_) (fun h2=>?_)
  ·have h2':(dD ((l.map bz.Name).take i) z.Name).isSome=false:=by simpa using h2
   refine W01 ?_
   refine jH (cs:=[.agg (bI z)]) (caps:=[]) (rQ z) rfl rfl rfl rfl rfl ?_
   repeat' (first|refine OE a7 KN ?_)
   refine dA 0 (cY ((l.map bz.Name).take (i+1))) Tryz.underlying196 Tryz.underlying9 rfl rfl trivial rfl rfl (lf hzn h2') (kp hzn) ?_
   refine W02 ?_
   exact aD (i+1) rfl ⟨by rw [Ov];rfl,trivial⟩ (by omega) (by omega) (fun _ _ h=>h)
  ·have h2':(dD ((l.map bz.Name).take i) z.Name).isSome=true:=by simpa using h2
   refine W02 ?_
   exact aD (i+1) rfl ⟨by rw [Ov];rfl,trivial⟩ (by omega) (by omega) (fun _ _ h=>by rw [km hzn h2'];exact h)
 ·have hil:i=l.length:=by have:=Ox h;simp at this;omega
  subst hil
  rw [List.take_of_length_le (by simp)]
  refine W01 ?_
  exact OK KN ⟨_,rfl,rfl⟩
set_option maxHeartbeats 1000000 in
theorem E9 (l:List eI):AC Tryz.prog 102 [.imm 4 (l.map cS),.sc (.func (.func 103) #[] #[])] [] fun c L=>∃m,c= .sc (.map (some m))∧L=[(m,ci .string (cY (l.map eI.Name)))]:=by
 refine aQ Tryz.func102 rfl Tryz.ntmps102 rfl fun B=>?_
 refine cV 0 rfl rfl fun hlen=>?_
 rw [Ou] at hlen
 refine W01 ?_
 refine eo .string fun m=>?_
 refine W03 ?_
 refine aJ [1,5,11,12] (α:=Nat) (fun i=>[(13,aG i)]) (fun i=>i≤l.length) (fun i=>[(m,ci .string (cY ((l.map eI.Name).take i)))]) (fun i=>l.length - i) 0 rfl ⟨rfl,trivial⟩ (Nat.zero_le _) (fun _ _ h=>by rw [List.take_zero,mz];exact h) fun i hi=>?_
 try dsimp only [Oq,Oo,Om,Oh]
 refine W01 ?_
 refine aw rfl (fun h=>?_) (fun h=>?_)
 ·have hil:i < l.length:=by have:=Oy h;simp at this;omega
  obtain ⟨z,hz⟩:∃z,l[i]?=some z:=⟨_,Oz hil⟩
  have hzg:=c7 (c:=cS) hz
  have hzn:(l.map eI.Name)[i]?=some z.Name:=by rw [List.getElem?_map,hz];rfl
  refine W04 ?_
  intros
  refine jH (cs:=[.agg (cS z)]) (caps:=[]) (rR z) rfl rfl rfl rfl rfl ?_
  repeat' (first|fail)
  refine gQ 0 (.int .i64 0) Tryz.underlying196 Tryz.underlying9 rfl rfl trivial rfl (by kernel_rfl) rfl ?_
  rw [lg]
  refine W01 ?_
  refine aw rfl (fun h2=>?_) (fun h2=>?_)
  ·have h2':(dD ((l.map eI.Name).take i) z.Name).isSome=false:=by simpa using h2
   refine W01 ?_
   refine jH (cs:=[.agg (cS z)]) (caps:=[]) (rR z) rfl rfl rfl rfl rfl ?_
   repeat' (first|refine OE a7 KN ?_)
   refine dA 0 (cY ((l.map eI.Name).take (i+1))) Tryz.underlying196 Tryz.underlying9 rfl rfl trivial rfl rfl (lf hzn h2') (kp hzn) ?_
   refine W02 ?_
   exact aD (i+1) rfl ⟨by rw [Ov];rfl,trivial⟩ (by omega) (by omega) (fun _ _ h=>h)
  ·have h2':(dD ((l.map eI.Name).take i) z.Name).isSome=true:=by simpa using h2
   refine W02 ?_
   exact aD (i+1) rfl ⟨by rw [Ov];rfl,trivial⟩ (by omega) (by omega) (fun _ _ h=>by rw [km hzn h2'];exact h)
 ·have hil:i=l.length:=by have:=Ox h;simp at this;omega
  subst hil
  rw [List.take_of_length_le (by simp)]
  refine W01 ?_
  exact OK KN ⟨_,rfl,rfl⟩
end Go.Proofs.YtamjlkdanllgjaaGreatDoor
namespace Go.Proofs.YtamjlkdanllgjaaGreatDoor
open Go.RowKit
attribute [local irreducible] AT bF AX AO Av Kt b8 d9 DA cu
set_option maxRecDepth 8000
theorem ld (names:List ByteArray) (s:ByteArray):(cY names (.string s)).getD (.sc (.int .i64 0))=aG ((dD names s).getD 0:Nat):=by
 show (Option.map (fun n:Nat=>aG (n:Int)) (dD names s)).getD (.sc (.int .i64 0))=_
 cases dD names s <;> rfl
def yS (names:List ByteArray) (i:Nat) (s:ByteArray):Bool:=decide ((((dD names s).getD 0:Nat):Int) < (i:Int))
def oL (f:aY):List ByteArray:=f.Glyphs.map bn.Name
def oZ (f:aY):List ByteArray:=f.Features.map bz.Name
def ol (f:aY):List ByteArray:=f.Axes.map eI.Name
def gn (f:aY) (i:Nat) (g:bn):Int:=ry f g (rk (j9 g.Name) (yS (oL f) i g.Name))
def lO (f:aY) (i:Nat) (t:bz):Int:=zD f t (rk (fZ t.Name) (yS (oZ f) i t.Name))
def n6 (f:aY) (i:Nat) (a:eI):Int:=zp a (rk (j9 a.Name) (yS (ol f) i a.Name))
set_option maxHeartbeats 1000000 in
theorem y4 (f:aY) (i:Nat) (g:bn) (m:Nat):AC Tryz.prog 108 [aG i,.agg (bG g),.iptr (cf f),.iptr [.sc (.map (some m))]] [(m,ci .string (cY (oL f)))] fun c L=>c=aG (gn f i g)∧L=[(m,ci .string (cY (oL f)))]:=by
 refine aQ Tryz.func108 rfl Tryz.ntmps108 rfl fun B=>?_
 refine W07 ?_
 refine bk 12 [(0,.v),(1,.v),(2,.v),(3,.v),(4,.v),(5,.v),(6,.v),(7,.v),(9,.v),(8,.e),(10,.v),(11,.v)] none ?_ trivial rfl (by kernel_rfl) (by kernel_rfl) (by kernel_rfl) mixed (by kernel_rfl) rfl
 refine W0j ?_
 refine nd 0 (.int .i64 0) Tryz.underlying196 Tryz.underlying9 rfl rfl trivial rfl (by kernel_rfl) trivial ?_
 rw [ld]
 refine W0j ?_
 refine OO [7,8,18] KN ?_
 refine W0u ?_
 exact OK KN ⟨rfl,rfl⟩
set_option maxHeartbeats 1000000 in
theorem BB (f:aY) (i:Nat) (t:bz) (m:Nat):AC Tryz.prog 121 [aG i,.agg (bI t),.iptr (cf f),.iptr [.sc (.map (some m))]] [(m,ci .string (cY (oZ f)))] fun c L=>c=aG (lO f i t)∧L=[(m,ci .string (cY (oZ f)))]:=by
 refine aQ Tryz.func121 rfl Tryz.ntmps121 rfl fun B=>?_
 refine W07 ?_
 refine bk 12 [(0,.v),(1,.v),(2,.v),(3,.v),(4,.v),(5,.v),(6,.v),(7,.v),(9,.v),(8,.e),(10,.v),(11,.v)] none ?_ trivial rfl (by kernel_rfl) (by kernel_rfl) (by kernel_rfl) mixed (by kernel_rfl) rfl
 refine W0j ?_
 refine nd 0 (.int .i64 0) Tryz.underlying196 Tryz.underlying9 rfl rfl trivial rfl (by kernel_rfl) trivial ?_
 rw [ld]
 refine W0j ?_
 refine OO [7,8,18] KN ?_
 refine W0u ?_
 exact OK KN ⟨rfl,rfl⟩
set_option maxHeartbeats 1000000 in
theorem B7 (f:aY) (i:Nat) (a:eI) (m:Nat):AC Tryz.prog 125 [aG i,.agg (cS a),.iptr [.sc (.map (some m))]] [(m,ci .string (cY (ol f)))] fun c L=>c=aG (n6 f i a)∧L=[(m,ci .string (cY (ol f)))]:=by
 refine aQ Tryz.func125 rfl Tryz.ntmps125 rfl fun B=>?_
 refine W07 ?_
 refine bk 11 [(0,.v),(1,.v),(2,.v),(3,.v),(4,.v),(5,.v),(6,.v),(8,.v),(7,.e),(9,.v),(10,.v)] none ?_ trivial rfl (by kernel_rfl) (by kernel_rfl) (by kernel_rfl) mixed (by kernel_rfl) rfl
 refine W0j ?_
 refine nd 0 (.int .i64 0) Tryz.underlying196 Tryz.underlying9 rfl rfl trivial rfl (by kernel_rfl) trivial ?_
 rw [ld]
 refine W0j ?_
 refine OO [6,16] KN ?_
 refine W0u ?_
 exact OK KN ⟨rfl,rfl⟩
set_option maxRecDepth 8000
theorem Hp (n:Nat) (hn:n≤1000000):AC Tryz.prog 316 [.sc (.slice none 0 0),aG n] [] fun c L=>∃k,c= .vec k 1 []∧L=tok k 22 1 0:=by
 refine aQ Tryz.func316 rfl Tryz.ntmps316 rfl fun B=>?_
 refine W0m ?_
 refine ER a7 rfl rfl rfl ?_
 refine W02 ?_
 by_cases h0:n=0
 ·subst h0
  refine W0m ?_
  refine b7 (bq (t:=4) (c':= .vec none 1 []) rfl fun σ v h=>cM 1 h) (OK KN ⟨none,rfl,rfl⟩)
 ·refine aw rfl (fun h2=>?_) (fun h2=>?_)
  ·refine W01 ?_
   refine ER a7 rfl rfl rfl ?_
   repeat' (first|fail)
   refine Ki a7 rfl rfl rfl rfl ?_
   repeat' (first|refine OE a7 KN ?_)
   refine C4 a7 n rfl Tryz.underlying3 rfl rfl (by omega) (by omega) (by omega) (by omega) rfl fun b cap h3 h4=>?_
   repeat' (first|refine OE a7 KN ?_)
   refine ET a7 0 rfl rfl rfl rfl (by omega) (by omega) rfl ?_
   refine W01 ?_
   refine b7 (bq (t:=4) (c':= .vec (some (b,cap)) 1 []) rfl fun σ v h=>Is h4 h) (OK KN ⟨some (b,cap),rfl,rfl⟩)
  ·exact absurd (Ox h2) (by omega)
def s7 (l:List (List (List Int))):List (List AV):=l.map fun r=>[.imm 1 (aZ r)]
def gU (l:List (List (List Int))):Nat:=(l.map List.length).sum
theorem pX {l:List (List (List Int))} {i:Nat} {r:List (List Int)} (h:l[i]?=some r):gU (l.take (i+1))=gU (l.take i)+r.length:=by
 unfold gU
 rw [List.take_add_one,h]
 simp
theorem tS (l:List (List (List Int))) (i:Nat):gU (l.take i)≤gU l:=by
 have h:((l.take i++l.drop i).map List.length).sum=(l.map List.length).sum:=by rw [List.take_append_drop]
 rw [List.map_append,List.sum_append] at h
 unfold gU
 omega
theorem Ea (l:List (List (List Int))):l.flatten.length=gU l:=by
 unfold gU
 rw [List.length_flatten]
theorem Cq (a b:List (List Int)):aZ a++aZ b=aZ (a++b):=by unfold aZ;rw [List.map_append]
set_option maxHeartbeats 1000000 in
theorem xJ (l:List (List (List Int))) (hs:gU l≤1000000):bH Tryz.prog 262 [.imm 1 (s7 l)] (.imm 1 (aZ l.flatten)):=by
 refine aQ Tryz.func262 rfl Tryz.ntmps262 rfl fun B=>?_
 have hrl:(s7 l).length=l.length:=by simp [s7]
 refine cV 0 rfl rfl fun hlen=>?_
 rw [hrl] at hlen
 refine W03 ?_
 refine aJ [0,9,10] (α:=Nat) (fun i=>[(11,aG i),(3,aG (gU (l.take i)))]) (fun i=>i≤l.length) (fun _=>[]) (fun i=>l.length - i) 0 rfl ⟨rfl,rfl,trivial⟩ (Nat.zero_le _) (fun _ _ h=>h) fun i hi=>?_
 try dsimp only [Oq,Oo,Om,Oh]
 refine W01 ?_
 refine aw rfl (fun h=>?_) (fun h=>?_)
 ·have hil:i < l.length:=by have:=Oy h;rw [hrl] at this;omega
  obtain ⟨z,hz⟩:∃z,l[i]?=some z:=⟨_,Oz hil⟩
  have hzg:(s7 l)[i]?=some [.imm 1 (aZ z)]:=by simp [s7,hz]
  have hsz:=pX hz
  have hle:=tS l (i+1)
  have hzl:(aZ z).length=z.length:=by simp [aZ]
  repeat' (first|refine O1 ?_|refine ak ?_|refine OE a7 KN ?_|(apply aS;refine aR ?_)|(apply aV;first|refine aU a7 ?_|refine aN a7 ?_)|refine bj rfl ?_)
  exact aD (i+1) rfl ⟨by rw [Ov];rfl,by rw [hsz,Ov,hzl];rfl,trivial⟩ (by omega) (by omega) (fun _ _ h=>h)
 have hil:i=l.length:=by have:=Ox h;rw [hrl] at this;omega
 subst hil
 rw [List.take_length]
 clear h
 refine W01 ?_
 refine bh [] [] (Hp (gU l) hs) rfl rfl (Ok _) rfl fun c L1 ⟨k,hc,hL⟩=>?_
 subst hc;subst hL
 rw [List.append_nil]
 refine W03 ?_
 refine aJ [25,26] (α:=Nat×Option (Nat×Nat)) (fun x=>[(27,aG x.1),(6,.vec x.2 1 (aZ (l.take x.1).flatten))]) (fun x=>x.1≤l.length) (fun x=>tok x.2 22 1 (aZ (l.take x.1).flatten).length) (fun x=>l.length - x.1) (0,k) rfl ⟨rfl,rfl,trivial⟩ (Nat.zero_le _) (fun _ _ h=>h) ?_
 rintro ⟨i,k⟩ hi
 dsimp only at hi ⊢
 try dsimp only [Oq,Oo,Om,Oh]
 refine W01 ?_
 refine aw rfl (fun h=>?_) (fun h=>?_)
 ·have hil:i < l.length:=by have:=Oy h;rw [hrl] at this;omega
  obtain ⟨z,hz⟩:∃z,l[i]?=some z:=⟨_,Oz hil⟩
  have hzg:(s7 l)[i]?=some [.imm 1 (aZ z)]:=by simp [s7,hz]
  have hsz:=pX hz
  have hle:=tS l (i+1)
  have hzl:(aZ z).length=z.length:=by simp [aZ]
  have hfl:(aZ (l.take i).flatten).length=gU (l.take i):=by rw [cr,Ea]
  have hcat:aZ (l.take i).flatten++aZ z=aZ (l.take (i+1)).flatten:=by rw [Cq,List.take_add_one,hz];simp
  refine W08 ?_
  refine bA a7 [] rfl rfl rfl rfl (by rw [List.append_nil]) (by rw [hfl,hzl];omega) (by rw [hfl,hzl];omega) rfl fun k'=>?_
  rw [hcat,List.append_nil]
  refine W02 ?_
  exact aD (i+1,k') rfl ⟨by rw [Ov];rfl,rfl,trivial⟩ (by dsimp only;omega) (by dsimp only;omega) (fun _ _ h=>h)
 ·have hil:i=l.length:=by have:=Ox h;rw [hrl] at this;omega
  subst hil
  rw [List.take_length]
  refine W01 ?_
  exact DB rfl rfl rfl rfl
set_option maxRecDepth 8000
def kE (l:List Int):Bool:=decide (∀i,i < l.length - 1→l.getD i 0 < l.getD (i+1) 0)
theorem ln {l:List Int} {i:Nat} {z:Int} (h:l[i]?=some z):l.getD i 0=z:=by simp [h]
theorem yB (l:List Int):bH Tryz.prog 317 [.imm 1 (aL l)] (cU (kE l)):=by
 refine aQ Tryz.func317 rfl Tryz.ntmps317 rfl fun B=>?_
 refine cV 0 rfl rfl fun hlen=>?_
 have hll:=aP l
 rw [aP] at hlen
 refine W03 ?_
 refine aJ [0] (α:=Nat) (fun i=>[(3,aG (i+1:Nat))]) (fun i=>i≤l.length∧∀j,j < i→j+1 < l.length→l.getD j 0 < l.getD (j+1) 0) (fun _=>[]) (fun i=>l.length - i) 0 rfl ⟨rfl,trivial⟩ ⟨Nat.zero_le _,fun j hj=>absurd hj (Nat.not_lt_zero _)⟩ (fun _ _ h=>h) fun i ⟨hi,hall⟩=>?_
 try dsimp only [Oq,Oo,Om,Oh]
 refine W01 ?_
 refine aw rfl (fun h=>?_) (fun h=>?_)
 ·have hil:i+1 < l.length:=by have:=Oy h;rw [aP] at this;omega
  obtain ⟨y,hy⟩:∃z,l[i]?=some z:=⟨_,Oz (by omega)⟩
  obtain ⟨z,hz⟩:∃z,l[i+1]?=some z:=⟨_,Oz hil⟩
  have hyg:(aL l)[(((i+1:Nat):Int) - 1).toNat]?=some [aG y]:=by rw [show (((i+1:Nat):Int) - 1).toNat=i by omega];exact bD hy
  have hzg:=bD hz
  refine W0z ?_
  refine bk 9 [(0,.v),(1,.v),(2,.v),(3,.v),(4,.v),(5,.v),(6,.v),(7,.v),(8,.v)] none ?_ trivial rfl (by kernel_rfl) (by kernel_rfl) (by kernel_rfl) mixed (by kernel_rfl) rfl
  refine W1i ?_
  refine OO [0,3,13,18] KN ?_
  refine W0p ?_
  refine aw rfl (fun h2=>?_) (fun h2=>?_)
  ·have h2':=Oy h2
   refine W01 ?_
   refine OK KN ?_
   rw [show kE l=false from decide_eq_false (fun hh=>by have:=hh i (by omega);rw [ln hy,ln hz] at this;omega)]
  ·have h2':=Ox h2
   refine W02 ?_
   refine aD (i+1) rfl ⟨by rw [Ov (i+1) 1];rfl,trivial⟩ ⟨by omega,fun j hj hjl=>?_⟩ (by omega) (fun _ _ h=>h)
   by_cases e:j=i
   ·subst e;rw [ln hy,ln hz];omega
   ·exact hall j (by omega) hjl
 ·have hil:l.length≤i+1:=by have:=Ox h;rw [aP] at this;omega
  refine W01 ?_
  refine OK KN ?_
  rw [show kE l=true from decide_eq_true (fun j hj=>hall j (by omega) (by omega))]
instance (l:List Int):AD Tryz.prog 317 [.imm 1 (aL l)] (cU (kE l)):=⟨yB l⟩
def rC (f:aY) (l:List Int):Bool:=decide (0 < l.length) && (kE l && (m7 f (l.getD 0 0) && m7 f (l.getD (l.length - 1) 0)))
set_option maxHeartbeats 1000000 in
theorem BR (f:aY) (l:List Int):bH Tryz.prog 264 [cR f,.imm 1 (aL l)] (cU (rC f l)):=by
 refine aQ Tryz.func264 rfl Tryz.ntmps264 rfl fun B=>?_
 refine cV 1 rfl rfl fun hlen=>?_
 cases l with
 | nil=>
  refine W07 ?_
  refine bk 24 [(0,.v),(1,.v),(2,.v),(3,.v),(4,.v),(5,.v),(6,.v),(7,.v),(8,.v),(9,.v),(10,.v),(11,.v),(12,.v),(13,.v),(14,.v),(15,.v),(16,.v),(17,.v),(18,.v),(19,.v),(20,.v),(21,.v),(22,.v),(23,.v)] none ?_ trivial rfl (by kernel_rfl) (by kernel_rfl) (by kernel_rfl) mixed (by kernel_rfl) rfl
  refine W16 ?_
  refine OO [28] KN ?_
  refine W0p ?_
  exact OL NZ
 | cons y q=>
  have hll:(aL (y::q)).length=q.length+1:=by rw [aP];rfl
  rw [hll] at hlen
  obtain ⟨z,hz⟩:∃z,(y::q)[q.length]?=some z:=⟨_,Oz (by simp)⟩
  have hzg:(aL (y::q))[((((aL (y::q)).length:Nat):Int) - 1).toNat]?=some [aG z]:=by rw [show ((((aL (y::q)).length:Nat):Int) - 1).toNat=q.length by rw [hll];omega];exact bD hz
  have hyg:(aL (y::q))[(0:Int).toNat]?=some [aG y]:=rfl
  have hval:rC f (y::q)=(kE (y::q) && (m7 f y && m7 f z)):=by
   unfold rC
   rw [show (y::q).length - 1=q.length by simp,ln hz]
   simp
  rw [hval]
  have hpos:decide (0 < (((aL (y::q)).length:Nat):Int))=true:=decide_eq_true (by rw [hll];omega)
  refine W07 ?_
  refine bk 24 [(0,.v),(1,.v),(2,.v),(3,.v),(4,.v),(5,.v),(6,.v),(7,.v),(8,.v),(9,.v),(10,.v),(11,.v),(12,.v),(13,.v),(14,.v),(15,.v),(16,.v),(17,.v),(18,.v),(19,.v),(20,.v),(21,.v),(22,.v),(23,.v)] none ?_ trivial rfl (by kernel_rfl) (by kernel_rfl) (by kernel_rfl) mixed (by kernel_rfl) rfl
  refine W06 ?_
  rw [hpos]
  refine W0j ?_
  generalize kE (y::q)=b1
  cases b1
  ·refine W16 ?_
   refine OO [28] KN ?_
   refine W0p ?_
   exact OL NZ
  refine W0D ?_
  generalize m7 f y=b2
  cases b2
  ·refine W16 ?_
   refine OO [28] KN ?_
   refine W0p ?_
   exact OL NZ
  refine W19 ?_
  refine OO [28] KN ?_
  refine W0p ?_
  exact OL NZ
instance (f:aY) (l:List Int):AD Tryz.prog 264 [cR f,.imm 1 (aL l)] (cU (rC f l)):=⟨BR f l⟩
def f5 (kind:Int) (r:bJ):Bool:=if kind=1∨kind=2∨kind=5 then decide ((r.In.length:Int)≠1) else if kind=6 then decide ((r.In.length:Int)≠2∨(r.Back.length:Int) > 0∨(r.Ahead.length:Int) > 0) else decide ((r.In.length:Int)=0)
def pS (kind:Int) (r:bJ):Int:=if (r.Back.length:Int) > 6∨(r.In.length:Int) > 6∨(r.Ahead.length:Int) > 6 then 2 else ez (f5 kind r) 40
set_option maxHeartbeats 1000000 in
theorem Fy (kind:Int) (r:bJ):bH Tryz.prog 259 [aG kind,.agg (bN r)] (aG (pS kind r)):=by
 refine aQ Tryz.func259 rfl Tryz.ntmps259 rfl fun B=>?_
 unfold pS f5
 have hB:=cr r.Back
 have hI:=cr r.In
 have hA:=cr r.Ahead
 rw [←hB,←hI,←hA]
 refine W07 ?_
 refine cH [0,3] (((aZ r.Back).length:Int) > 6∨((aZ r.In).length:Int) > 6∨((aZ r.Ahead).length:Int) > 6) rfl (fun Q' K=>?_) (fun hC=>?_) (fun hC=>?_)
 ·repeat' (first|refine O1 ?_|refine OE a7 KN ?_|refine ON KN ?_|refine OP OA ?_|refine OR NZ (fun _=>?_) (fun _=>?_))
  all_goals exact K _ _ rfl rfl (by clear K;grind)
 ·rw [if_pos hC]
  refine W01 ?_
  exact OL NZ
 rw [if_neg hC]
 by_cases h1:kind=1
 ·subst h1
  repeat' (first|refine O1 ?_|refine ak ?_|refine OE a7 KN ?_|(apply bg;refine b9 ?_)|refine bT rfl ?_)
  exact OL NZ
 by_cases h2:kind=2
 ·subst h2
  refine W1c ?_
  exact OL NZ
 by_cases h5:kind=5
 ·subst h5
  refine W1c ?_
  exact OL NZ
 rw [if_neg (by omega)]
 by_cases h6:kind=6
 ·subst h6
  rw [if_pos rfl]
  refine W0S ?_
  refine da (t:=5) [] (((aZ r.In).length:Int)≠2∨((aZ r.Back).length:Int) > 0∨((aZ r.Ahead).length:Int) > 0) rfl (fun Q' K=>?_) ?_
  ·repeat' (first|refine O1 ?_|refine OE a7 KN ?_|refine ON KN ?_|refine OP OA ?_|refine OR NZ (fun _=>?_) (fun _=>?_))
   all_goals exact K _ _ rfl rfl (by clear K;grind)
  refine W0a ?_
  exact OL NZ
 rw [if_neg h6]
 refine W03 ?_
 refine aw rfl (fun h=>absurd (Oy h) h1) (fun h=>?_)
 refine W01 ?_
 refine aw rfl (fun h=>absurd (Oy h) h2) (fun h=>?_)
 refine W01 ?_
 refine aw rfl (fun h=>absurd (Oy h) h5) (fun h=>?_)
 rw [decide_eq_false h5]
 refine W01 ?_
 refine aw rfl (fun h=>absurd (Oy h) h6) (fun h=>?_)
 refine W0a ?_
 exact OL NZ
instance (kind:Int) (r:bJ):AD Tryz.prog 259 [aG kind,.agg (bN r)] (aG (pS kind r)):=⟨Fy kind r⟩
theorem Ao {kind:Int} {r:bJ} (h:pS kind r=0):r.In≠[]∧r.Back.length≤6∧r.In.length≤6∧r.Ahead.length≤6:=by
 unfold pS at h
 split at h
 ·cases h
 ·rename_i hc
  refine ⟨fun e=>?_,by omega,by omega,by omega⟩
  have hw:f5 kind r=true:=by
   unfold f5
   rw [e]
   split
   ·decide
   ·split <;> simp
  rw [hw] at h
  cases h
def qd (kind:Int) (r:bJ):Bool:=if kind=1∨kind=5 then decide ((r.Out.length:Int)=((r.In.headD []).length:Int)) else if kind=2 then decide ((r.Out.length:Int)≤6) else if kind=3 then decide ((r.Out.length:Int)=1) else decide ((r.Out.length:Int)=0)
set_option maxHeartbeats 1000000 in
theorem HP (kind:Int) (r:bJ) (hin:r.In≠[]):bH Tryz.prog 266 [aG kind,.agg (bN r)] (cU (qd kind r)):=by
 refine aQ Tryz.func266 rfl Tryz.ntmps266 rfl fun B=>?_
 obtain ⟨y,hy⟩:∃y,r.In[0]?=some y:=⟨_,Oz (List.length_pos_iff.2 hin)⟩
 have hyg:=iD hy
 have hv:qd kind r=if kind=1∨kind=5 then decide (((aL r.Out).length:Int)=((aL y).length:Int)) else if kind=2 then decide (((aL r.Out).length:Int)≤6) else if kind=3 then decide (((aL r.Out).length:Int)=1) else decide (((aL r.Out).length:Int)=0):=by
  have hd:r.In.headD []=y:=by
   cases hI:r.In with
   | nil=>exact absurd hI hin
   | cons y' q=>rw [hI] at hy;simpa using hy
  unfold qd
  rw [hd,aP,aP]
 rw [hv]
 by_cases h1:kind=1
 ·subst h1
  repeat' (first|refine O1 ?_|refine ak ?_|refine OE a7 KN ?_|refine br ?_|refine bT rfl ?_)
  refine bk 8 [(0,.v),(1,.v),(2,.v),(3,.v),(4,.v),(5,.v),(6,.v),(7,.v)] none ?_ trivial rfl (by kernel_rfl) (by kernel_rfl) (by kernel_rfl) mixed (by kernel_rfl) rfl
  refine W0l ?_
  refine OO [11,16] KN ?_
  refine W0p ?_
  exact OL NZ
 by_cases h5:kind=5
 ·subst h5
  refine W0W ?_
  refine bk 8 [(0,.v),(1,.v),(2,.v),(3,.v),(4,.v),(5,.v),(6,.v),(7,.v)] none ?_ trivial rfl (by kernel_rfl) (by kernel_rfl) (by kernel_rfl) mixed (by kernel_rfl) rfl
  refine W0l ?_
  refine OO [11,16] KN ?_
  refine W0p ?_
  exact OL NZ
 rw [if_neg (by omega)]
 by_cases h2:kind=2
 ·subst h2
  refine W0W ?_
  exact OL NZ
 rw [if_neg h2]
 by_cases h3:kind=3
 ·subst h3
  refine W0W ?_
  exact OL NZ
 rw [if_neg h3]
 refine W0C ?_
 refine aw rfl (fun h=>absurd (Oy h) h1) (fun h=>?_)
 refine W01 ?_
 refine aw rfl (fun h=>absurd (Oy h) h5) (fun h=>?_)
 rw [decide_eq_false h5]
 refine W01 ?_
 refine aw rfl (fun h=>absurd (Oy h) h2) (fun h=>?_)
 refine W01 ?_
 refine aw rfl (fun h=>absurd (Oy h) h3) (fun h=>?_)
 refine W01 ?_
 exact OL NZ
def ur (f:aY) (n:Int):Int:=match f.Lookups[n.toNat]? with | some l=>l.Kind | none=>0
def zt (f:aY) (r:bJ) (_:Nat) (c:jt):Int:=if c.At < 0∨c.At≥r.In.length then 40 else if c.Lookup < 0∨c.Lookup≥f.Lookups.length then 42 else ez (decide (ur f c.Lookup < 1∨ur f c.Lookup > 4)) 42
set_option maxHeartbeats 1000000 in
theorem DP (f:aY) (r:bJ) (i:Nat) (c:jt):bH Tryz.prog 319 [aG i,.agg (g9 c),.iptr (bN r),.iptr (cf f)] (aG (zt f r i c)):=by
 refine aQ Tryz.func319 rfl Tryz.ntmps319 rfl fun B=>?_
 unfold zt
 have hI:=cr r.In
 have hL:(f.Lookups.map bC).length=f.Lookups.length:=Ou ..
 rw [←hI]
 refine W0C ?_
 refine cH [3,5] (c.At < 0∨c.At≥((aZ r.In).length:Int)) rfl (fun Q' K=>?_) (fun hC=>?_) (fun hC=>?_)
 ·repeat' (first|refine O1 ?_|refine OE a7 KN ?_|refine ON KN ?_|refine OP OA ?_|refine OR NZ (fun _=>?_) (fun _=>?_))
  all_goals exact K _ _ rfl rfl (by clear K;grind)
 ·rw [if_pos hC]
  refine W01 ?_
  exact OL NZ
 rw [if_neg hC]
 refine W01 ?_
 refine cH [3,5] (c.Lookup < 0∨c.Lookup≥f.Lookups.length) rfl (fun Q' K=>?_) (fun hC=>?_) (fun hC=>?_)
 ·repeat' (first|refine O1 ?_|refine OE a7 KN ?_|refine ON KN ?_|refine OP OA ?_|refine OR NZ (fun _=>?_) (fun _=>?_))
  all_goals exact K _ _ rfl rfl (by clear K;grind)
 ·rw [if_pos hC]
  refine W01 ?_
  exact OL NZ
 rw [if_neg hC]
 obtain ⟨l,hl⟩:∃l,f.Lookups[c.Lookup.toNat]?=some l:=⟨_,Oz (by omega)⟩
 have hlg:=c7 (c:=bC) hl
 have hk:ur f c.Lookup=l.Kind:=by unfold ur;rw [hl]
 rw [hk]
 refine W0o ?_
 by_cases h1:l.Kind < 1
 ·rw [decide_eq_true h1,decide_eq_true (Or.inl h1)]
  refine W12 ?_
  exact OL NZ
 ·rw [decide_eq_false h1,show decide (l.Kind < 1∨l.Kind > 4)=decide (4 < l.Kind) from decide_eq_decide.2 ⟨fun h=>h.resolve_left h1,Or.inr⟩]
  refine W13 ?_
  exact OL NZ
def oy (f:aY) (kind:Int) (r:bJ):Int:=if (r.Calls.length:Int) > 6 then 2 else if (r.Calls.length:Int) > 0∧kind≠4 then 40 else (dx r.Calls (zt f r)).1
set_option maxHeartbeats 1000000 in
theorem Bi (f:aY) (kind:Int) (r:bJ):bH Tryz.prog 270 [cR f,aG kind,.agg (bN r)] (aG (oy f kind r)):=by
 refine aQ Tryz.func270 rfl Tryz.ntmps270 rfl fun B=>?_
 unfold oy
 have hL:(r.Calls.map g9).length=r.Calls.length:=Ou ..
 rw [←hL]
 refine W0C ?_
 refine aw rfl (fun h=>?_) (fun h=>?_)
 ·rw [if_pos (Oy h)]
  refine W01 ?_
  exact OL NZ
 rw [if_neg (Ox h)]
 refine W01 ?_
 refine cH [3,5] (((r.Calls.map g9).length:Int) > 0∧kind≠4) rfl (fun Q' K=>?_) (fun hC=>?_) (fun hC=>?_)
 ·repeat' (first|refine O1 ?_|refine OE a7 KN ?_|refine ON KN ?_|refine OP OA ?_|refine OR NZ (fun _=>?_) (fun _=>?_))
  all_goals exact K _ _ rfl rfl (by clear K;grind)
 ·rw [if_pos hC]
  refine W01 ?_
  exact OL NZ
 rw [if_neg hC]
 refine W01 ?_
 refine bh [] [] (Hc (u:= .fn 319 [.iptr (bN r),.iptr (cf f)]) (g:=319) rfl r.Calls _ (fun _ _=>True) [] trivial (dz (fun i x _=>DP f r i x))) rfl rfl (Ok _) rfl fun c L1 hc=>?_
 have hc:c=ct (dx r.Calls (zt f r)):=hc
 subst hc
 unfold ct
 refine W01 ?_
 exact OL NZ
instance (f:aY) (kind:Int) (r:bJ):AD Tryz.prog 270 [cR f,aG kind,.agg (bN r)] (aG (oy f kind r)):=⟨Bi f kind r⟩
end Go.Proofs.YtamjlkdanllgjaaGreatDoor
