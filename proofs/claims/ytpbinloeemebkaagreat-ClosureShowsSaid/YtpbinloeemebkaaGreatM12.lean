/-
  The program: features; the first thing of a name.
-/
import Derived.Test.YtpbinloeemebkaaGreatM10
import Derived.Test.YtpbinloeemebkaaGreatM07
namespace Go.Proofs.YtpbinloeemebkaaGreat
open Go.RowKit
attribute [local irreducible] AT bO AX AO Av Kt bo dU DA cT
open Go.MapKept
section
variable {P:Program} {r:Option Nat} {ops:Array Oper} {Q:Exit→Act→World→Prop} {nt:Nat} {D:List Deferred} {fr:c6} {B:Bs} {L:AL} {rest:List Oper} {d:Nat} {ty t:TypeId} {pos:String} {af:Array Edge} {x y z:Operand} {u:AV} {cd:Code}
theorem jl {f:FuncId} {args:Array Operand} {ts:Array TypeId} {cs caps:List AV} {v:AV} [bK P f] (hc:bM P f (cs++caps) v) (hx:bt fr x=some u) (hu:jL u=some (f,caps)) (hv:ep fr args.toList=some cs) (hn:Oper.noDefer ⟨some d,.call ⟨.value x,args,ts⟩,ty,pos,af,none⟩=true) (hd:Nat.ble nt d=false) (h:bO P r ops Q nt D rest ((d,v)::fr) B L):
  bO P r ops Q nt D (⟨some d,.call ⟨.value x,args,ts⟩,ty,pos,af,none⟩::rest) fr B L:=
 df [] L hc hx hu hv (Ho _) hn hd fun c L1 hc=>by
  have hc':c=v:=hc
  subst hc'
  exact aV (cb (List.sublist_append_right ..)) h
theorem Cr (t:Nat) {u:AV} {s:Nat} {l:List (List AV)} (hl:bY fr t=some u) (hu:hQ u=some (s,l)) (h:l.length≤9223372036854775807→bO P r ops Q nt D rest fr B L):bO P r ops Q nt D rest fr B L:=
 Cq (fun σ a w ha _=>(AA (ha.look t u hl) hu).1) h
end
def tW (t:bV) (i:Nat) (l:Int):Bool:=match i with | 0=>false | j+1=>match t.Lookups[j]? with | some b=>decide (l≤b) | none=>false
def oW (f:aL) (t:bV) (i:Nat) (l:Int):Int:=dX (decide (l < 0∨l≥f.Lookups.length) || tW t i l) 43
set_option maxHeartbeats 1000000 in
theorem ye (f:aL) (t:bV) (i:Nat) (l:Int) (hl:t.Lookups[i]?=some l) (hn:t.Lookups.length≤9223372036854775807):bM Tryz.prog 180 [aH i,aH l,.iptr (cf f),.iptr (c8 t)] (aH (oW f t i l)):=by
 refine aT Tryz.func180 rfl Tryz.ntmps180 rfl fun B=>?_
 have hil:=(Hp hl).1
 unfold oW
 cases i with
 | zero=>
  repeat' (first|refine go ?_|refine HF a1 F8 ?_)
  refine d7 (t:=7) [] (l < 0∨l≥f.Lookups.length) rfl (fun Q' K=>?_) ?_
  ·repeat' (first|refine go ?_|refine HF a1 F8 ?_|refine HO F8 ?_|refine HS HB ?_|refine cR rfl rfl rfl ?_|refine be rfl rfl rfl (fun _=>?_) (fun _=>?_))
   all_goals exact K _ _ rfl rfl (by clear K;simp_all <;> omega)
  repeat' (first|refine go ?_|refine HF a1 F8 ?_|(apply bD;refine bf ?_)|fail)
  refine HN F8 ?_
  simp [tW]
 | succ j=>
  obtain ⟨b,hb⟩:∃b,t.Lookups[j]?=some b:=⟨_,Hz (by omega)⟩
  have hbg:(aS t.Lookups)[(((j+1:Nat):Int) - 1).toNat]?=some [aH b]:=by rw [show (((j+1:Nat):Int) - 1).toNat=j by omega];exact bG hb
  have hlt:tW t (j+1) l=decide (l≤b):=by simp [tW,hb]
  have hpos:decide (0 < ((j+1:Nat):Int))=true:=decide_eq_true (by omega)
  rw [hlt]
  repeat' (first|refine go ?_|refine HF a1 F8 ?_)
  refine d7 (t:=7) [] ((l < 0∨l≥f.Lookups.length)∨l≤b) rfl (fun Q' K=>?_) ?_
  ·repeat' (first|refine go ?_|refine HF a1 F8 ?_|refine HO F8 ?_|refine HS HB ?_|refine cR rfl rfl rfl ?_|(apply aZ;refine aY ?_)|(apply aX;first|refine aU a1 ?_|refine aK a1 ?_)|refine be rfl rfl rfl (fun _=>?_) (fun _=>?_))
   all_goals exact K _ _ rfl rfl (by clear K;simp_all <;> omega)
  repeat' (first|refine go ?_|refine HF a1 F8 ?_|(apply bD;refine bf ?_)|fail)
  refine HN F8 ?_
  rw [Bool.decide_or]
def tF (f:aL) (t:bV) (name:Int):Int:=if name≠0 then name else (d5 t.Lookups (oW f t)).1
theorem tG (f:aL) (t:bV) (name:Int):bM Tryz.prog 98 [cx f,.agg (c8 t),aH name] (aH (tF f t name)):=by
 refine aT Tryz.func98 rfl Tryz.ntmps98 rfl fun B=>?_
 unfold tF
 repeat' (first|refine go ?_|refine HF a1 F8 ?_|refine bC ?_|fail)
 refine ay rfl (fun h=>?_) (fun h=>?_)
 ·rw [if_pos (Hy h)]
  repeat' (first|refine go ?_|refine HF a1 F8 ?_)
  exact HP HA
 rw [if_neg (Hx h)]
 repeat' (first|refine go ?_|refine HF a1 F8 ?_)
 refine Cr 14 rfl rfl fun hlen=>?_
 rw [aN] at hlen
 refine bb [] [] (mE (u:= .fn 180 [.iptr (cf f),.iptr (c8 t)]) (g:=180) rfl t.Lookups _ (fun _ _=>True) [] trivial (dh (fun i x hx=>ye f t i x hx (by omega)))) rfl rfl (Ho _) rfl fun c L1 hc=>?_
 have hc:c=ct (d5 t.Lookups (oW f t)):=hc
 subst hc
 unfold ct
 repeat' (first|refine go ?_|refine HF a1 F8 ?_)
 exact HP HA
instance (f:aL) (t:bV) (name:Int):AD Tryz.prog 98 [cx f,.agg (c8 t),aH name] (aH (tF f t name)):=⟨tG f t name⟩
def d4 (names:List ByteArray) (s:ByteArray):Option Nat:=names.findIdx? (fun x=>decide (x=s))
def cQ (names:List ByteArray) (v:Value):Option AV:=match v with
 | .string s=>(d4 names s).map fun (n:Nat)=>aH (n:Int)
 | _=>none
theorem jH {names:List ByteArray} {i:Nat} {s:ByteArray} (h:names[i]?=some s) (q:ByteArray):d4 (names.take (i+1)) q=match d4 (names.take i) q with | some n=>some n | none=>if s=q then some i else none:=by
 unfold d4
 have hlt:=(Hp h).1
 have hlen:(names.take i).length=i:=by rw [List.length_take];omega
 rw [List.take_add_one,h,Option.toList_some,List.findIdx?_append,hlen]
 cases List.findIdx? (fun x=>decide (x=q)) (names.take i) with
 | some n=>rfl
 | none=>
  by_cases e:s=q
  ·simp [e]
  ·simp [e]
theorem m8:cQ []=fun _=>none:=by
 funext v
 cases v <;> rfl
theorem kM {names:List ByteArray} {s:ByteArray}:(cQ names (.string s)).isSome=(d4 names s).isSome:=by
 show (Option.map (fun n:Nat=>aH (n:Int)) (d4 names s)).isSome=_
 cases d4 names s <;> rfl
theorem jI {names:List ByteArray} {i:Nat} {s:ByteArray} (h:names[i]?=some s) (hk:(d4 (names.take i) s).isSome=true):cQ (names.take (i+1))=cQ (names.take i):=by
 funext v
 cases v with
 | string q=>
  simp only [cQ]
  rw [jH h]
  cases hq:d4 (names.take i) q with
  | some n=>rfl
  | none=>
   by_cases e:s=q
   ·subst e;rw [hq] at hk;cases hk
   ·simp [e]
 | _=>rfl
theorem kL {names:List ByteArray} {i:Nat} {s:ByteArray} (h:names[i]?=some s) (hk:(d4 (names.take i) s).isSome=false):cQ (names.take (i+1)) (.string s)=some (aH i):=by
 simp only [cQ]
 rw [jH h]
 cases hq:d4 (names.take i) s with
 | some n=>rw [hq] at hk;cases hk
 | none=>simp
theorem jJ {names:List ByteArray} {i:Nat} {s:ByteArray} (h:names[i]?=some s) (q:Value) (hne:q≠ .string s):cQ (names.take (i+1)) q=cQ (names.take i) q:=by
 cases q with
 | string q=>
  have hne':s≠q:=fun e=>hne (by rw [e])
  simp only [cQ]
  rw [jH h]
  cases hq:d4 (names.take i) q with
  | some n=>rfl
  | none=>simp [hne']
 | _=>rfl
theorem qc (g:bn):bM Tryz.prog 75 [.agg (bS g)] (uL g.Name):=by
 refine aT Tryz.func75 rfl Tryz.ntmps75 rfl fun B=>?_
 repeat' (first|refine go ?_|refine HF a1 F8 ?_|refine bC ?_|fail)
 exact HP HA
theorem qd (g:bV):bM Tryz.prog 77 [.agg (c8 g)] (uL g.Name):=by
 refine aT Tryz.func77 rfl Tryz.ntmps77 rfl fun B=>?_
 repeat' (first|refine go ?_|refine HF a1 F8 ?_|refine bC ?_|fail)
 exact HP HA
theorem qe (g:eu):bM Tryz.prog 79 [.agg (cO g)] (uL g.Name):=by
 refine aT Tryz.func79 rfl Tryz.ntmps79 rfl fun B=>?_
 repeat' (first|refine go ?_|refine HF a1 F8 ?_|refine bC ?_|fail)
 exact HP HA
set_option maxHeartbeats 1000000 in
theorem Am (l:List bn):AC Tryz.prog 74 [.imm 9 (l.map bS),.sc (.func (.func 75) #[] #[])] [] fun c L=>∃m,c= .sc (.map (some m))∧L=[(m,dc .string (cQ (l.map bn.Name)))]:=by
 refine aT Tryz.func74 rfl Tryz.ntmps74 rfl fun B=>?_
 refine cF 0 rfl rfl fun hlen=>?_
 rw [Hu] at hlen
 repeat' (first|refine go ?_|refine HF a1 F8 ?_)
 refine gz .string fun m=>?_
 repeat' (first|refine go ?_|refine ak ?_|refine HF a1 F8 ?_)
 refine aR [1,5,11,12] (α:=Nat) (fun i=>[(13,aH i)]) (fun i=>i≤l.length) (fun i=>[(m,dc .string (cQ ((l.map bn.Name).take i)))]) (fun i=>l.length - i) 0 rfl ⟨rfl,trivial⟩ (Nat.zero_le _) (fun _ _ h=>by rw [List.take_zero,m8];exact h) fun i hi=>?_
 try dsimp only [Hs,Hr,Hq,Hl]
 repeat' (first|refine go ?_|refine HF a1 F8 ?_)
 refine ay rfl (fun h=>?_) (fun h=>?_)
 ·have hil:i < l.length:=by have:=Hy h;simp at this;omega
  obtain ⟨z,hz⟩:∃z,l[i]?=some z:=⟨_,Hz hil⟩
  have hzg:=bA (c:=bS) hz
  have hzn:(l.map bn.Name)[i]?=some z.Name:=by rw [List.getElem?_map,hz];rfl
  repeat' (first|refine go ?_|refine ak ?_|refine HF a1 F8 ?_|(apply aX;first|refine aU a1 ?_|refine aK a1 ?_)|(apply aQ;first|refine HH 7 a1 0 HE ?_|refine HH 7 a1 1 HE ?_|refine HH 7 a1 2 HE ?_|refine HG a1 0 HD ?_|refine HG a1 1 HD ?_|refine HG a1 2 HD ?_|refine HG a1 3 HD ?_|fail)|refine bl a1 fun _=>?_|fail)
  refine jl (cs:=[.agg (bS z)]) (caps:=[]) (qc z) rfl rfl rfl rfl rfl ?_
  repeat' (first|fail)
  refine lB 0 (.int .i64 0) Tryz.underlying164 Tryz.underlying9 rfl rfl trivial rfl (by kernel_rfl) rfl ?_
  rw [kM]
  repeat' (first|refine go ?_|refine HF a1 F8 ?_)
  refine ay rfl (fun h2=>?_) (fun h2=>?_)
  ·have h2':(d4 ((l.map bn.Name).take i) z.Name).isSome=false:=by simpa using h2
   repeat' (first|refine go ?_|refine HF a1 F8 ?_)
   refine jl (cs:=[.agg (bS z)]) (caps:=[]) (qc z) rfl rfl rfl rfl rfl ?_
   repeat' (first|refine HF a1 F8 ?_)
   refine ee 0 (cQ ((l.map bn.Name).take (i+1))) Tryz.underlying164 Tryz.underlying9 rfl rfl trivial rfl rfl (kL hzn h2') (jJ hzn) ?_
   repeat' (first|refine go ?_|refine HF a1 F8 ?_|(apply aZ;refine aY ?_)|fail)
   exact aF (i+1) rfl ⟨by rw [Hv];rfl,trivial⟩ (by omega) (by omega) (fun _ _ h=>h)
  ·have h2':(d4 ((l.map bn.Name).take i) z.Name).isSome=true:=by simpa using h2
   repeat' (first|refine go ?_|refine HF a1 F8 ?_|(apply aZ;refine aY ?_)|fail)
   exact aF (i+1) rfl ⟨by rw [Hv];rfl,trivial⟩ (by omega) (by omega) (fun _ _ h=>by rw [jI hzn h2'];exact h)
 ·have hil:i=l.length:=by have:=Hx h;simp at this;omega
  subst hil
  rw [List.take_of_length_le (by simp)]
  repeat' (first|refine go ?_|refine HF a1 F8 ?_)
  exact HN F8 ⟨_,rfl,rfl⟩
set_option maxHeartbeats 1000000 in
theorem An (l:List bV):AC Tryz.prog 76 [.imm 2 (l.map c8),.sc (.func (.func 77) #[] #[])] [] fun c L=>∃m,c= .sc (.map (some m))∧L=[(m,dc .string (cQ (l.map bV.Name)))]:=by
 refine aT Tryz.func76 rfl Tryz.ntmps76 rfl fun B=>?_
 refine cF 0 rfl rfl fun hlen=>?_
 rw [Hu] at hlen
 repeat' (first|refine go ?_|refine HF a1 F8 ?_)
 refine gz .string fun m=>?_
 repeat' (first|refine go ?_|refine ak ?_|refine HF a1 F8 ?_)
 refine aR [1,5,11,12] (α:=Nat) (fun i=>[(13,aH i)]) (fun i=>i≤l.length) (fun i=>[(m,dc .string (cQ ((l.map bV.Name).take i)))]) (fun i=>l.length - i) 0 rfl ⟨rfl,trivial⟩ (Nat.zero_le _) (fun _ _ h=>by rw [List.take_zero,m8];exact h) fun i hi=>?_
 try dsimp only [Hs,Hr,Hq,Hl]
 repeat' (first|refine go ?_|refine HF a1 F8 ?_)
 refine ay rfl (fun h=>?_) (fun h=>?_)
 ·have hil:i < l.length:=by have:=Hy h;simp at this;omega
  obtain ⟨z,hz⟩:∃z,l[i]?=some z:=⟨_,Hz hil⟩
  have hzg:=bA (c:=c8) hz
  have hzn:(l.map bV.Name)[i]?=some z.Name:=by rw [List.getElem?_map,hz];rfl
  repeat' (first|refine go ?_|refine ak ?_|refine HF a1 F8 ?_|(apply aX;first|refine aU a1 ?_|refine aK a1 ?_)|(apply aQ;first|refine HH 7 a1 0 HE ?_|refine HH 7 a1 1 HE ?_|refine HH 7 a1 2 HE ?_|refine HG a1 0 HD ?_|refine HG a1 1 HD ?_|refine HG a1 2 HD ?_|refine HG a1 3 HD ?_|fail)|refine bl a1 fun _=>?_|fail)
  refine jl (cs:=[.agg (c8 z)]) (caps:=[]) (qd z) rfl rfl rfl rfl rfl ?_
  repeat' (first|fail)
  refine lB 0 (.int .i64 0) Tryz.underlying164 Tryz.underlying9 rfl rfl trivial rfl (by kernel_rfl) rfl ?_
  rw [kM]
  repeat' (first|refine go ?_|refine HF a1 F8 ?_)
  refine ay rfl (fun h2=>?_) (fun h2=>?_)
  ·have h2':(d4 ((l.map bV.Name).take i) z.Name).isSome=false:=by simpa using h2
   repeat' (first|refine go ?_|refine HF a1 F8 ?_)
   refine jl (cs:=[.agg (c8 z)]) (caps:=[]) (qd z) rfl rfl rfl rfl rfl ?_
   repeat' (first|refine HF a1 F8 ?_)
   refine ee 0 (cQ ((l.map bV.Name).take (i+1))) Tryz.underlying164 Tryz.underlying9 rfl rfl trivial rfl rfl (kL hzn h2') (jJ hzn) ?_
   repeat' (first|refine go ?_|refine HF a1 F8 ?_|(apply aZ;refine aY ?_)|fail)
   exact aF (i+1) rfl ⟨by rw [Hv];rfl,trivial⟩ (by omega) (by omega) (fun _ _ h=>h)
  ·have h2':(d4 ((l.map bV.Name).take i) z.Name).isSome=true:=by simpa using h2
   repeat' (first|refine go ?_|refine HF a1 F8 ?_|(apply aZ;refine aY ?_)|fail)
   exact aF (i+1) rfl ⟨by rw [Hv];rfl,trivial⟩ (by omega) (by omega) (fun _ _ h=>by rw [jI hzn h2'];exact h)
 ·have hil:i=l.length:=by have:=Hx h;simp at this;omega
  subst hil
  rw [List.take_of_length_le (by simp)]
  repeat' (first|refine go ?_|refine HF a1 F8 ?_)
  exact HN F8 ⟨_,rfl,rfl⟩
set_option maxHeartbeats 1000000 in
theorem Ao (l:List eu):AC Tryz.prog 78 [.imm 4 (l.map cO),.sc (.func (.func 79) #[] #[])] [] fun c L=>∃m,c= .sc (.map (some m))∧L=[(m,dc .string (cQ (l.map eu.Name)))]:=by
 refine aT Tryz.func78 rfl Tryz.ntmps78 rfl fun B=>?_
 refine cF 0 rfl rfl fun hlen=>?_
 rw [Hu] at hlen
 repeat' (first|refine go ?_|refine HF a1 F8 ?_)
 refine gz .string fun m=>?_
 repeat' (first|refine go ?_|refine ak ?_|refine HF a1 F8 ?_)
 refine aR [1,5,11,12] (α:=Nat) (fun i=>[(13,aH i)]) (fun i=>i≤l.length) (fun i=>[(m,dc .string (cQ ((l.map eu.Name).take i)))]) (fun i=>l.length - i) 0 rfl ⟨rfl,trivial⟩ (Nat.zero_le _) (fun _ _ h=>by rw [List.take_zero,m8];exact h) fun i hi=>?_
 try dsimp only [Hs,Hr,Hq,Hl]
 repeat' (first|refine go ?_|refine HF a1 F8 ?_)
 refine ay rfl (fun h=>?_) (fun h=>?_)
 ·have hil:i < l.length:=by have:=Hy h;simp at this;omega
  obtain ⟨z,hz⟩:∃z,l[i]?=some z:=⟨_,Hz hil⟩
  have hzg:=bA (c:=cO) hz
  have hzn:(l.map eu.Name)[i]?=some z.Name:=by rw [List.getElem?_map,hz];rfl
  repeat' (first|refine go ?_|refine ak ?_|refine HF a1 F8 ?_|(apply aX;first|refine aU a1 ?_|refine aK a1 ?_)|(apply aQ;first|refine HH 7 a1 0 HE ?_|refine HH 7 a1 1 HE ?_|refine HH 7 a1 2 HE ?_|refine HG a1 0 HD ?_|refine HG a1 1 HD ?_|refine HG a1 2 HD ?_|refine HG a1 3 HD ?_|fail)|refine bl a1 fun _=>?_|fail)
  refine jl (cs:=[.agg (cO z)]) (caps:=[]) (qe z) rfl rfl rfl rfl rfl ?_
  repeat' (first|fail)
  refine lB 0 (.int .i64 0) Tryz.underlying164 Tryz.underlying9 rfl rfl trivial rfl (by kernel_rfl) rfl ?_
  rw [kM]
  repeat' (first|refine go ?_|refine HF a1 F8 ?_)
  refine ay rfl (fun h2=>?_) (fun h2=>?_)
  ·have h2':(d4 ((l.map eu.Name).take i) z.Name).isSome=false:=by simpa using h2
   repeat' (first|refine go ?_|refine HF a1 F8 ?_)
   refine jl (cs:=[.agg (cO z)]) (caps:=[]) (qe z) rfl rfl rfl rfl rfl ?_
   repeat' (first|refine HF a1 F8 ?_)
   refine ee 0 (cQ ((l.map eu.Name).take (i+1))) Tryz.underlying164 Tryz.underlying9 rfl rfl trivial rfl rfl (kL hzn h2') (jJ hzn) ?_
   repeat' (first|refine go ?_|refine HF a1 F8 ?_|(apply aZ;refine aY ?_)|fail)
   exact aF (i+1) rfl ⟨by rw [Hv];rfl,trivial⟩ (by omega) (by omega) (fun _ _ h=>h)
  ·have h2':(d4 ((l.map eu.Name).take i) z.Name).isSome=true:=by simpa using h2
   repeat' (first|refine go ?_|refine HF a1 F8 ?_|(apply aZ;refine aY ?_)|fail)
   exact aF (i+1) rfl ⟨by rw [Hv];rfl,trivial⟩ (by omega) (by omega) (fun _ _ h=>by rw [jI hzn h2'];exact h)
 ·have hil:i=l.length:=by have:=Hx h;simp at this;omega
  subst hil
  rw [List.take_of_length_le (by simp)]
  repeat' (first|refine go ?_|refine HF a1 F8 ?_)
  exact HN F8 ⟨_,rfl,rfl⟩
end Go.Proofs.YtpbinloeemebkaaGreat
namespace Go.Proofs.YtpbinloeemebkaaGreat
open Go.RowKit
attribute [local irreducible] AT bO AX AO Av Kt bo dU DA cT
theorem kK (names:List ByteArray) (s:ByteArray):(cQ names (.string s)).getD (.sc (.int .i64 0))=aH ((d4 names s).getD 0:Nat):=by
 show (Option.map (fun n:Nat=>aH (n:Int)) (d4 names s)).getD (.sc (.int .i64 0))=_
 cases d4 names s <;> rfl
def k6 (names:List ByteArray) (i:Nat) (s:ByteArray):Bool:=decide ((((d4 names s).getD 0:Nat):Int) < (i:Int))
def jM (f:aL):List ByteArray:=f.Glyphs.map bn.Name
def la (f:aL):List ByteArray:=f.Features.map bV.Name
def ir (f:aL):List ByteArray:=f.Axes.map eu.Name
def dQ (f:aL) (i:Nat) (g:bn):Int:=nR f g (kJ (ga g.Name) (k6 (jM f) i g.Name))
def iW (f:aL) (i:Nat) (t:bV):Int:=tF f t (kJ (fa t.Name) (k6 (la f) i t.Name))
def jC (f:aL) (i:Nat) (a:eu):Int:=tp a (kJ (ga a.Name) (k6 (ir f) i a.Name))
set_option maxHeartbeats 1000000 in
theorem vH (f:aL) (i:Nat) (g:bn) (m:Nat):AC Tryz.prog 84 [aH i,.agg (bS g),.iptr (cf f),.iptr [.sc (.map (some m))]] [(m,dc .string (cQ (jM f)))] fun c L=>c=aH (dQ f i g)∧L=[(m,dc .string (cQ (jM f)))]:=by
 refine aT Tryz.func84 rfl Tryz.ntmps84 rfl fun B=>?_
 repeat' (first|refine go ?_|refine HF a1 F8 ?_|refine bC ?_|fail)
 refine bj 12 [(0,.v),(1,.v),(2,.v),(3,.v),(4,.v),(5,.v),(6,.v),(7,.v),(9,.v),(8,.e),(10,.v),(11,.v)] none ?_ trivial rfl (by kernel_rfl) (by kernel_rfl) (by kernel_rfl) mixed (by kernel_rfl) rfl
 repeat' (first|refine aE ?_|refine ba a1 ?_|(apply dm;refine dP ?_)|fail)
 refine pz 0 (.int .i64 0) Tryz.underlying164 Tryz.underlying9 rfl rfl trivial rfl (by kernel_rfl) trivial ?_
 rw [kK]
 repeat' (first|refine aE ?_|refine ba a1 ?_|(apply dm;refine dP ?_)|fail)
 refine HR [7,8,18] F8 ?_
 repeat' (first|refine go ?_|refine a8 ?_|refine HF a1 F8 ?_|(apply bD;refine bf ?_)|fail)
 exact HN F8 ⟨rfl,rfl⟩
set_option maxHeartbeats 1000000 in
theorem yf (f:aL) (i:Nat) (t:bV) (m:Nat):AC Tryz.prog 97 [aH i,.agg (c8 t),.iptr (cf f),.iptr [.sc (.map (some m))]] [(m,dc .string (cQ (la f)))] fun c L=>c=aH (iW f i t)∧L=[(m,dc .string (cQ (la f)))]:=by
 refine aT Tryz.func97 rfl Tryz.ntmps97 rfl fun B=>?_
 repeat' (first|refine go ?_|refine HF a1 F8 ?_|refine bC ?_|fail)
 refine bj 12 [(0,.v),(1,.v),(2,.v),(3,.v),(4,.v),(5,.v),(6,.v),(7,.v),(9,.v),(8,.e),(10,.v),(11,.v)] none ?_ trivial rfl (by kernel_rfl) (by kernel_rfl) (by kernel_rfl) mixed (by kernel_rfl) rfl
 repeat' (first|refine aE ?_|refine ba a1 ?_|(apply dm;refine dP ?_)|fail)
 refine pz 0 (.int .i64 0) Tryz.underlying164 Tryz.underlying9 rfl rfl trivial rfl (by kernel_rfl) trivial ?_
 rw [kK]
 repeat' (first|refine aE ?_|refine ba a1 ?_|(apply dm;refine dP ?_)|fail)
 refine HR [7,8,18] F8 ?_
 repeat' (first|refine go ?_|refine a8 ?_|refine HF a1 F8 ?_|(apply bD;refine bf ?_)|fail)
 exact HN F8 ⟨rfl,rfl⟩
set_option maxHeartbeats 1000000 in
theorem xM (f:aL) (i:Nat) (a:eu) (m:Nat):AC Tryz.prog 101 [aH i,.agg (cO a),.iptr [.sc (.map (some m))]] [(m,dc .string (cQ (ir f)))] fun c L=>c=aH (jC f i a)∧L=[(m,dc .string (cQ (ir f)))]:=by
 refine aT Tryz.func101 rfl Tryz.ntmps101 rfl fun B=>?_
 repeat' (first|refine go ?_|refine HF a1 F8 ?_|refine bC ?_|fail)
 refine bj 11 [(0,.v),(1,.v),(2,.v),(3,.v),(4,.v),(5,.v),(6,.v),(8,.v),(7,.e),(9,.v),(10,.v)] none ?_ trivial rfl (by kernel_rfl) (by kernel_rfl) (by kernel_rfl) mixed (by kernel_rfl) rfl
 repeat' (first|refine aE ?_|refine ba a1 ?_|(apply dm;refine dP ?_)|fail)
 refine pz 0 (.int .i64 0) Tryz.underlying164 Tryz.underlying9 rfl rfl trivial rfl (by kernel_rfl) trivial ?_
 rw [kK]
 repeat' (first|refine aE ?_|refine ba a1 ?_|(apply dm;refine dP ?_)|fail)
 refine HR [6,16] F8 ?_
 repeat' (first|refine go ?_|refine a8 ?_|refine HF a1 F8 ?_|(apply bD;refine bf ?_)|fail)
 exact HN F8 ⟨rfl,rfl⟩
theorem CT (n:Nat) (hn:n≤1000000):AC Tryz.prog 113 [.sc (.slice none 0 0),aH n] [] fun c L=>∃k,c= .vec k 1 []∧L=tok k 29 1 0:=by
 refine aT Tryz.func113 rfl Tryz.ntmps113 rfl fun B=>?_
 repeat' (first|refine go ?_|refine HF a1 F8 ?_|refine bL rfl ?_)
 refine vZ a1 rfl rfl rfl ?_
 repeat' (first|refine go ?_|refine HF a1 F8 ?_|(apply aZ;refine aY ?_)|fail)
 by_cases h0:n=0
 ·subst h0
  repeat' (first|refine go ?_|refine HF a1 F8 ?_|refine bL rfl ?_)
  refine bk (cA (t:=4) (c':= .vec none 1 []) rfl fun σ v h=>dg 1 h) (HN F8 ⟨none,rfl,rfl⟩)
 ·refine ay rfl (fun h2=>?_) (fun h2=>?_)
  ·repeat' (first|refine go ?_|refine HF a1 F8 ?_)
   refine vZ a1 rfl rfl rfl ?_
   repeat' (first|fail)
   refine ER a1 rfl rfl rfl rfl ?_
   repeat' (first|refine HF a1 F8 ?_)
   refine yC a1 n rfl Tryz.underlying3 rfl rfl (by omega) (by omega) (by omega) (by omega) rfl fun b cap h3 h4=>?_
   repeat' (first|refine HF a1 F8 ?_)
   refine Bg a1 0 rfl rfl rfl rfl (by omega) (by omega) rfl ?_
   repeat' (first|refine go ?_|refine HF a1 F8 ?_)
   refine bk (cA (t:=4) (c':= .vec (some (b,cap)) 1 []) rfl fun σ v h=>Dw h4 h) (HN F8 ⟨some (b,cap),rfl,rfl⟩)
  ·exact absurd (Hx h2) (by omega)
def ql (l:List (List (List Int))):List (List AV):=l.map fun r=>[.imm 1 (bz r)]
def fO (l:List (List (List Int))):Nat:=(l.map List.length).sum
theorem oM {l:List (List (List Int))} {i:Nat} {r:List (List Int)} (h:l[i]?=some r):fO (l.take (i+1))=fO (l.take i)+r.length:=by
 unfold fO
 rw [List.take_add_one,h]
 simp
theorem rQ (l:List (List (List Int))) (i:Nat):fO (l.take i)≤fO l:=by
 have h:((l.take i++l.drop i).map List.length).sum=(l.map List.length).sum:=by rw [List.take_append_drop]
 rw [List.map_append,List.sum_append] at h
 unfold fO
 omega
theorem Ap (l:List (List (List Int))):l.flatten.length=fO l:=by
 unfold fO
 rw [List.length_flatten]
theorem yO (a b:List (List Int)):bz a++bz b=bz (a++b):=by unfold bz;rw [List.map_append]
set_option maxHeartbeats 1000000 in
theorem px (l:List (List (List Int))) (hs:fO l≤1000000):bM Tryz.prog 55 [.imm 1 (ql l)] (.imm 1 (bz l.flatten)):=by
 refine aT Tryz.func55 rfl Tryz.ntmps55 rfl fun B=>?_
 have hrl:(ql l).length=l.length:=by simp [ql]
 refine cF 0 rfl rfl fun hlen=>?_
 rw [hrl] at hlen
 repeat' (first|refine go ?_|refine ak ?_|refine HF a1 F8 ?_)
 refine aR [0,9,10] (α:=Nat) (fun i=>[(11,aH i),(3,aH (fO (l.take i)))]) (fun i=>i≤l.length) (fun _=>[]) (fun i=>l.length - i) 0 rfl ⟨rfl,rfl,trivial⟩ (Nat.zero_le _) (fun _ _ h=>h) fun i hi=>?_
 try dsimp only [Hs,Hr,Hq,Hl]
 repeat' (first|refine go ?_|refine HF a1 F8 ?_)
 refine ay rfl (fun h=>?_) (fun h=>?_)
 ·have hil:i < l.length:=by have:=Hy h;rw [hrl] at this;omega
  obtain ⟨z,hz⟩:∃z,l[i]?=some z:=⟨_,Hz hil⟩
  have hzg:(ql l)[i]?=some [.imm 1 (bz z)]:=by simp [ql,hz]
  have hsz:=oM hz
  have hle:=rQ l (i+1)
  have hzl:(bz z).length=z.length:=by simp [bz]
  repeat' (first|refine go ?_|refine ak ?_|refine HF a1 F8 ?_|(apply aZ;refine aY ?_)|(apply aX;first|refine aU a1 ?_|refine aK a1 ?_)|refine bL rfl ?_)
  exact aF (i+1) rfl ⟨by rw [Hv];rfl,by rw [hsz,Hv,hzl];rfl,trivial⟩ (by omega) (by omega) (fun _ _ h=>h)
 have hil:i=l.length:=by have:=Hx h;rw [hrl] at this;omega
 subst hil
 rw [List.take_length]
 clear h
 repeat' (first|refine go ?_|refine HF a1 F8 ?_)
 refine bb [] [] (CT (fO l) hs) rfl rfl (Ho _) rfl fun c L1 ⟨k,hc,hL⟩=>?_
 subst hc;subst hL
 rw [List.append_nil]
 repeat' (first|refine go ?_|refine ak ?_|refine HF a1 F8 ?_)
 refine aR [25,26] (α:=Nat×Option (Nat×Nat)) (fun x=>[(27,aH x.1),(6,.vec x.2 1 (bz (l.take x.1).flatten))]) (fun x=>x.1≤l.length) (fun x=>tok x.2 29 1 (bz (l.take x.1).flatten).length) (fun x=>l.length - x.1) (0,k) rfl ⟨rfl,rfl,trivial⟩ (Nat.zero_le _) (fun _ _ h=>h) ?_
 rintro ⟨i,k⟩ hi
 dsimp only at hi ⊢
 try dsimp only [Hs,Hr,Hq,Hl]
 repeat' (first|refine go ?_|refine HF a1 F8 ?_)
 refine ay rfl (fun h=>?_) (fun h=>?_)
 ·have hil:i < l.length:=by have:=Hy h;rw [hrl] at this;omega
  obtain ⟨z,hz⟩:∃z,l[i]?=some z:=⟨_,Hz hil⟩
  have hzg:(ql l)[i]?=some [.imm 1 (bz z)]:=by simp [ql,hz]
  have hsz:=oM hz
  have hle:=rQ l (i+1)
  have hzl:(bz z).length=z.length:=by simp [bz]
  have hfl:(bz (l.take i).flatten).length=fO (l.take i):=by rw [d3,Ap]
  have hcat:bz (l.take i).flatten++bz z=bz (l.take (i+1)).flatten:=by rw [yO,List.take_add_one,hz];simp
  repeat' (first|refine go ?_|refine ak ?_|refine HF a1 F8 ?_|(apply aX;first|refine aU a1 ?_|refine aK a1 ?_)|fail)
  refine cj a1 [] rfl rfl rfl rfl (by rw [List.append_nil]) (by rw [hfl,hzl];omega) (by rw [hfl,hzl];omega) rfl fun k'=>?_
  rw [hcat,List.append_nil]
  repeat' (first|refine go ?_|refine HF a1 F8 ?_|(apply aZ;refine aY ?_)|fail)
  exact aF (i+1,k') rfl ⟨by rw [Hv];rfl,rfl,trivial⟩ (by dsimp only;omega) (by dsimp only;omega) (fun _ _ h=>h)
 ·have hil:i=l.length:=by have:=Hx h;rw [hrl] at this;omega
  subst hil
  rw [List.take_length]
  repeat' (first|refine go ?_|refine HF a1 F8 ?_)
  exact pn rfl rfl rfl rfl
def jX (l:List Int):Bool:=decide (∀i,i < l.length - 1→l.getD i 0 < l.getD (i+1) 0)
theorem kP {l:List Int} {i:Nat} {z:Int} (h:l[i]?=some z):l.getD i 0=z:=by simp [h]
theorem wj (l:List Int):bM Tryz.prog 275 [.imm 1 (aS l)] (c9 (jX l)):=by
 refine aT Tryz.func275 rfl Tryz.ntmps275 rfl fun B=>?_
 refine cF 0 rfl rfl fun hlen=>?_
 have hll:=aN l
 rw [aN] at hlen
 repeat' (first|refine go ?_|refine ak ?_|refine HF a1 F8 ?_)
 refine aR [0] (α:=Nat) (fun i=>[(3,aH (i+1:Nat))]) (fun i=>i≤l.length∧∀j,j < i→j+1 < l.length→l.getD j 0 < l.getD (j+1) 0) (fun _=>[]) (fun i=>l.length - i) 0 rfl ⟨rfl,trivial⟩ ⟨Nat.zero_le _,fun j hj=>absurd hj (Nat.not_lt_zero _)⟩ (fun _ _ h=>h) fun i ⟨hi,hall⟩=>?_
 try dsimp only [Hs,Hr,Hq,Hl]
 repeat' (first|refine go ?_|refine HF a1 F8 ?_)
 refine ay rfl (fun h=>?_) (fun h=>?_)
 ·have hil:i+1 < l.length:=by have:=Hy h;rw [aN] at this;omega
  obtain ⟨y,hy⟩:∃z,l[i]?=some z:=⟨_,Hz (by omega)⟩
  obtain ⟨z,hz⟩:∃z,l[i+1]?=some z:=⟨_,Hz hil⟩
  have hyg:(aS l)[(((i+1:Nat):Int) - 1).toNat]?=some [aH y]:=by rw [show (((i+1:Nat):Int) - 1).toNat=i by omega];exact bG hy
  have hzg:=bG hz
  repeat' (first|refine go ?_|refine ak ?_)
  refine bj 9 [(0,.v),(1,.v),(2,.v),(3,.v),(4,.v),(5,.v),(6,.v),(7,.v),(8,.v)] none ?_ trivial rfl (by kernel_rfl) (by kernel_rfl) (by kernel_rfl) mixed (by kernel_rfl) rfl
  repeat' (first|refine aE ?_|refine ba a1 ?_|(apply dB;refine eK ?_)|(apply co;refine cJ a1 ?_)|fail)
  refine HR [0,3,13,18] F8 ?_
  repeat' (first|refine go ?_|refine a8 ?_|refine HF a1 F8 ?_)
  refine ay rfl (fun h2=>?_) (fun h2=>?_)
  ·have h2':=Hy h2
   repeat' (first|refine go ?_|refine HF a1 F8 ?_)
   refine HN F8 ?_
   rw [show jX l=false from decide_eq_false (fun hh=>by have:=hh i (by omega);rw [kP hy,kP hz] at this;omega)]
  ·have h2':=Hx h2
   repeat' (first|refine go ?_|refine HF a1 F8 ?_|(apply aZ;refine aY ?_)|fail)
   refine aF (i+1) rfl ⟨by rw [Hv (i+1) 1];rfl,trivial⟩ ⟨by omega,fun j hj hjl=>?_⟩ (by omega) (fun _ _ h=>h)
   by_cases e:j=i
   ·subst e;rw [kP hy,kP hz];omega
   ·exact hall j (by omega) hjl
 ·have hil:l.length≤i+1:=by have:=Hx h;rw [aN] at this;omega
  repeat' (first|refine go ?_|refine HF a1 F8 ?_)
  refine HN F8 ?_
  rw [show jX l=true from decide_eq_true (fun j hj=>hall j (by omega) (by omega))]
instance (l:List Int):AD Tryz.prog 275 [.imm 1 (aS l)] (c9 (jX l)):=⟨wj l⟩
def me (f:aL) (l:List Int):Bool:=decide (0 < l.length) && (jX l && (kU f (l.getD 0 0) && kU f (l.getD (l.length - 1) 0)))
set_option maxHeartbeats 1000000 in
theorem yo (f:aL) (l:List Int):bM Tryz.prog 241 [cx f,.imm 1 (aS l)] (c9 (me f l)):=by
 refine aT Tryz.func241 rfl Tryz.ntmps241 rfl fun B=>?_
 refine cF 1 rfl rfl fun hlen=>?_
 cases l with
 | nil=>
  repeat' (first|refine go ?_|refine HF a1 F8 ?_|refine bC ?_|fail)
  refine bj 24 [(0,.v),(1,.v),(2,.v),(3,.v),(4,.v),(5,.v),(6,.v),(7,.v),(8,.v),(9,.v),(10,.v),(11,.v),(12,.v),(13,.v),(14,.v),(15,.v),(16,.v),(17,.v),(18,.v),(19,.v),(20,.v),(21,.v),(22,.v),(23,.v)] none ?_ trivial rfl (by kernel_rfl) (by kernel_rfl) (by kernel_rfl) mixed (by kernel_rfl) rfl
  repeat' (first|refine aE ?_|refine ba a1 ?_|refine kl rfl rfl ?_)
  refine HR [28] F8 ?_
  repeat' (first|refine go ?_|refine a8 ?_|refine HF a1 F8 ?_)
  exact HP HA
 | cons y q=>
  have hll:(aS (y::q)).length=q.length+1:=by rw [aN];rfl
  rw [hll] at hlen
  obtain ⟨z,hz⟩:∃z,(y::q)[q.length]?=some z:=⟨_,Hz (by simp)⟩
  have hzg:(aS (y::q))[((((aS (y::q)).length:Nat):Int) - 1).toNat]?=some [aH z]:=by rw [show ((((aS (y::q)).length:Nat):Int) - 1).toNat=q.length by rw [hll];omega];exact bG hz
  have hyg:(aS (y::q))[(0:Int).toNat]?=some [aH y]:=rfl
  have hval:me f (y::q)=(jX (y::q) && (kU f y && kU f z)):=by
   unfold me
   rw [show (y::q).length - 1=q.length by simp,kP hz]
   simp
  rw [hval]
  have hpos:decide (0 < (((aS (y::q)).length:Nat):Int))=true:=decide_eq_true (by rw [hll];omega)
  repeat' (first|refine go ?_|refine HF a1 F8 ?_|refine bC ?_|fail)
  refine bj 24 [(0,.v),(1,.v),(2,.v),(3,.v),(4,.v),(5,.v),(6,.v),(7,.v),(8,.v),(9,.v),(10,.v),(11,.v),(12,.v),(13,.v),(14,.v),(15,.v),(16,.v),(17,.v),(18,.v),(19,.v),(20,.v),(21,.v),(22,.v),(23,.v)] none ?_ trivial rfl (by kernel_rfl) (by kernel_rfl) (by kernel_rfl) mixed (by kernel_rfl) rfl
  repeat' (first|refine aE ?_|refine ba a1 ?_|fail)
  rw [hpos]
  repeat' (first|refine aE ?_|refine ba a1 ?_|(apply dm;refine dP ?_)|fail)
  generalize jX (y::q)=b1
  cases b1
  ·repeat' (first|refine aE ?_|refine ba a1 ?_|refine kl rfl rfl ?_)
   refine HR [28] F8 ?_
   repeat' (first|refine go ?_|refine a8 ?_|refine HF a1 F8 ?_)
   exact HP HA
  repeat' (first|refine aE ?_|refine ba a1 ?_|(apply co;refine cJ a1 ?_)|(apply dm;refine dP ?_)|fail)
  generalize kU f y=b2
  cases b2
  ·repeat' (first|refine aE ?_|refine ba a1 ?_|refine kl rfl rfl ?_)
   refine HR [28] F8 ?_
   repeat' (first|refine go ?_|refine a8 ?_|refine HF a1 F8 ?_)
   exact HP HA
  repeat' (first|refine aE ?_|refine ba a1 ?_|(apply dB;refine eK ?_)|(apply co;refine cJ a1 ?_)|(apply dm;refine dP ?_)|fail)
  refine HR [28] F8 ?_
  repeat' (first|refine go ?_|refine a8 ?_|refine HF a1 F8 ?_)
  exact HP HA
instance (f:aL) (l:List Int):AD Tryz.prog 241 [cx f,.imm 1 (aS l)] (c9 (me f l)):=⟨yo f l⟩
def eT (kind:Int) (r:bv):Bool:=if kind=1∨kind=2∨kind=5 then decide ((r.In.length:Int)≠1) else if kind=6 then decide ((r.In.length:Int)≠2∨(r.Back.length:Int) > 0∨(r.Ahead.length:Int) > 0) else decide ((r.In.length:Int)=0)
def lR (kind:Int) (r:bv):Int:=if (r.Back.length:Int) > 6∨(r.In.length:Int) > 6∨(r.Ahead.length:Int) > 6 then 2 else dX (eT kind r) 40
set_option maxHeartbeats 1000000 in
theorem BF (kind:Int) (r:bv):bM Tryz.prog 237 [aH kind,.agg (bJ r)] (aH (lR kind r)):=by
 refine aT Tryz.func237 rfl Tryz.ntmps237 rfl fun B=>?_
 unfold lR eT
 have hB:=d3 r.Back
 have hI:=d3 r.In
 have hA:=d3 r.Ahead
 rw [←hB,←hI,←hA]
 repeat' (first|refine go ?_|refine HF a1 F8 ?_|refine bC ?_|fail)
 refine cN [0,3] (((bz r.Back).length:Int) > 6∨((bz r.In).length:Int) > 6∨((bz r.Ahead).length:Int) > 6) rfl (fun Q' K=>?_) (fun hC=>?_) (fun hC=>?_)
 ·repeat' (first|refine go ?_|refine HF a1 F8 ?_|refine HO F8 ?_|refine HS HB ?_|refine be rfl rfl rfl (fun _=>?_) (fun _=>?_))
  all_goals exact K _ _ rfl rfl (by clear K;grind)
 ·rw [if_pos hC]
  repeat' (first|refine go ?_|refine HF a1 F8 ?_)
  exact HP HA
 rw [if_neg hC]
 by_cases h1:kind=1
 ·subst h1
  repeat' (first|refine go ?_|refine ak ?_|refine HF a1 F8 ?_|(apply bD;refine bf ?_)|refine bR rfl ?_)
  exact HP HA
 by_cases h2:kind=2
 ·subst h2
  repeat' (first|refine go ?_|refine ak ?_|refine HF a1 F8 ?_|(apply bD;refine bf ?_)|refine bR rfl ?_|refine bL rfl ?_)
  exact HP HA
 by_cases h5:kind=5
 ·subst h5
  repeat' (first|refine go ?_|refine ak ?_|refine HF a1 F8 ?_|(apply bD;refine bf ?_)|refine bR rfl ?_|refine bL rfl ?_)
  exact HP HA
 rw [if_neg (by omega)]
 by_cases h6:kind=6
 ·subst h6
  rw [if_pos rfl]
  repeat' (first|refine go ?_|refine ak ?_|refine HF a1 F8 ?_|refine bR rfl ?_|refine bL rfl ?_)
  refine d7 (t:=5) [] (((bz r.In).length:Int)≠2∨((bz r.Back).length:Int) > 0∨((bz r.Ahead).length:Int) > 0) rfl (fun Q' K=>?_) ?_
  ·repeat' (first|refine go ?_|refine HF a1 F8 ?_|refine HO F8 ?_|refine HS HB ?_|refine be rfl rfl rfl (fun _=>?_) (fun _=>?_))
   all_goals exact K _ _ rfl rfl (by clear K;grind)
  repeat' (first|refine go ?_|refine HF a1 F8 ?_|(apply bD;refine bf ?_)|fail)
  exact HP HA
 rw [if_neg h6]
 repeat' (first|refine go ?_|refine ak ?_|refine HF a1 F8 ?_)
 refine ay rfl (fun h=>absurd (Hy h) h1) (fun h=>?_)
 repeat' (first|refine go ?_|refine HF a1 F8 ?_)
 refine ay rfl (fun h=>absurd (Hy h) h2) (fun h=>?_)
 repeat' (first|refine go ?_|refine HF a1 F8 ?_)
 refine ay rfl (fun h=>absurd (Hy h) h5) (fun h=>?_)
 rw [decide_eq_false h5]
 repeat' (first|refine go ?_|refine HF a1 F8 ?_)
 refine ay rfl (fun h=>absurd (Hy h) h6) (fun h=>?_)
 repeat' (first|refine go ?_|refine HF a1 F8 ?_|(apply bD;refine bf ?_)|fail)
 exact HP HA
instance (kind:Int) (r:bv):AD Tryz.prog 237 [aH kind,.agg (bJ r)] (aH (lR kind r)):=⟨BF kind r⟩
theorem xl {kind:Int} {r:bv} (h:lR kind r=0):r.In≠[]∧r.Back.length≤6∧r.In.length≤6∧r.Ahead.length≤6:=by
 unfold lR at h
 split at h
 ·cases h
 ·rename_i hc
  refine ⟨fun e=>?_,by omega,by omega,by omega⟩
  have hw:eT kind r=true:=by
   unfold eT
   rw [e]
   split
   ·decide
   ·split <;> simp
  rw [hw] at h
  cases h
def oR (kind:Int) (r:bv):Bool:=if kind=1∨kind=5 then decide ((r.Out.length:Int)=((r.In.headD []).length:Int)) else if kind=2 then decide ((r.Out.length:Int)≤6) else if kind=3 then decide ((r.Out.length:Int)=1) else decide ((r.Out.length:Int)=0)
set_option maxHeartbeats 1000000 in
theorem Da (kind:Int) (r:bv) (hin:r.In≠[]):bM Tryz.prog 243 [aH kind,.agg (bJ r)] (c9 (oR kind r)):=by
 refine aT Tryz.func243 rfl Tryz.ntmps243 rfl fun B=>?_
 obtain ⟨y,hy⟩:∃y,r.In[0]?=some y:=⟨_,Hz (List.length_pos_iff.2 hin)⟩
 have hyg:=lE hy
 have hv:oR kind r=if kind=1∨kind=5 then decide (((aS r.Out).length:Int)=((aS y).length:Int)) else if kind=2 then decide (((aS r.Out).length:Int)≤6) else if kind=3 then decide (((aS r.Out).length:Int)=1) else decide (((aS r.Out).length:Int)=0):=by
  have hd:r.In.headD []=y:=by
   cases hI:r.In with
   | nil=>exact absurd hI hin
   | cons y' q=>rw [hI] at hy;simpa using hy
  unfold oR
  rw [hd,aN,aN]
 rw [hv]
 by_cases h1:kind=1
 ·subst h1
  repeat' (first|refine go ?_|refine ak ?_|refine HF a1 F8 ?_|refine bC ?_|refine bR rfl ?_)
  refine bj 8 [(0,.v),(1,.v),(2,.v),(3,.v),(4,.v),(5,.v),(6,.v),(7,.v)] none ?_ trivial rfl (by kernel_rfl) (by kernel_rfl) (by kernel_rfl) mixed (by kernel_rfl) rfl
  repeat' (first|refine aE ?_|refine ba a1 ?_|(apply co;refine cJ a1 ?_)|fail)
  refine HR [11,16] F8 ?_
  repeat' (first|refine go ?_|refine a8 ?_|refine HF a1 F8 ?_)
  exact HP HA
 by_cases h5:kind=5
 ·subst h5
  repeat' (first|refine go ?_|refine ak ?_|refine HF a1 F8 ?_|refine bC ?_|refine bR rfl ?_|refine bL rfl ?_)
  refine bj 8 [(0,.v),(1,.v),(2,.v),(3,.v),(4,.v),(5,.v),(6,.v),(7,.v)] none ?_ trivial rfl (by kernel_rfl) (by kernel_rfl) (by kernel_rfl) mixed (by kernel_rfl) rfl
  repeat' (first|refine aE ?_|refine ba a1 ?_|(apply co;refine cJ a1 ?_)|fail)
  refine HR [11,16] F8 ?_
  repeat' (first|refine go ?_|refine a8 ?_|refine HF a1 F8 ?_)
  exact HP HA
 rw [if_neg (by omega)]
 by_cases h2:kind=2
 ·subst h2
  repeat' (first|refine go ?_|refine ak ?_|refine HF a1 F8 ?_|refine bC ?_|refine bR rfl ?_|refine bL rfl ?_)
  exact HP HA
 rw [if_neg h2]
 by_cases h3:kind=3
 ·subst h3
  repeat' (first|refine go ?_|refine ak ?_|refine HF a1 F8 ?_|refine bC ?_|refine bR rfl ?_|refine bL rfl ?_)
  exact HP HA
 rw [if_neg h3]
 repeat' (first|refine go ?_|refine ak ?_|refine HF a1 F8 ?_|refine bC ?_|fail)
 refine ay rfl (fun h=>absurd (Hy h) h1) (fun h=>?_)
 repeat' (first|refine go ?_|refine HF a1 F8 ?_)
 refine ay rfl (fun h=>absurd (Hy h) h5) (fun h=>?_)
 rw [decide_eq_false h5]
 repeat' (first|refine go ?_|refine HF a1 F8 ?_)
 refine ay rfl (fun h=>absurd (Hy h) h2) (fun h=>?_)
 repeat' (first|refine go ?_|refine HF a1 F8 ?_)
 refine ay rfl (fun h=>absurd (Hy h) h3) (fun h=>?_)
 repeat' (first|refine go ?_|refine HF a1 F8 ?_)
 exact HP HA
def pQ (f:aL) (n:Int):Int:=match f.Lookups[n.toNat]? with | some l=>l.Kind | none=>0
def tu (f:aL) (r:bv) (_:Nat) (c:gH):Int:=if c.At < 0∨c.At≥r.In.length then 40 else if c.Lookup < 0∨c.Lookup≥f.Lookups.length then 42 else dX (decide (pQ f c.Lookup < 1∨pQ f c.Lookup > 4)) 42
set_option maxHeartbeats 1000000 in
theorem A4 (f:aL) (r:bv) (i:Nat) (c:gH):bM Tryz.prog 277 [aH i,.agg (fQ c),.iptr (bJ r),.iptr (cf f)] (aH (tu f r i c)):=by
 refine aT Tryz.func277 rfl Tryz.ntmps277 rfl fun B=>?_
 unfold tu
 have hI:=d3 r.In
 have hL:(f.Lookups.map bF).length=f.Lookups.length:=Hu ..
 rw [←hI]
 repeat' (first|refine go ?_|refine ak ?_|refine HF a1 F8 ?_|refine bC ?_|fail)
 refine cN [3,5] (c.At < 0∨c.At≥((bz r.In).length:Int)) rfl (fun Q' K=>?_) (fun hC=>?_) (fun hC=>?_)
 ·repeat' (first|refine go ?_|refine HF a1 F8 ?_|refine HO F8 ?_|refine HS HB ?_|refine be rfl rfl rfl (fun _=>?_) (fun _=>?_))
  all_goals exact K _ _ rfl rfl (by clear K;grind)
 ·rw [if_pos hC]
  repeat' (first|refine go ?_|refine HF a1 F8 ?_)
  exact HP HA
 rw [if_neg hC]
 repeat' (first|refine go ?_|refine HF a1 F8 ?_)
 refine cN [3,5] (c.Lookup < 0∨c.Lookup≥f.Lookups.length) rfl (fun Q' K=>?_) (fun hC=>?_) (fun hC=>?_)
 ·repeat' (first|refine go ?_|refine HF a1 F8 ?_|refine HO F8 ?_|refine HS HB ?_|refine be rfl rfl rfl (fun _=>?_) (fun _=>?_))
  all_goals exact K _ _ rfl rfl (by clear K;grind)
 ·rw [if_pos hC]
  repeat' (first|refine go ?_|refine HF a1 F8 ?_)
  exact HP HA
 rw [if_neg hC]
 obtain ⟨l,hl⟩:∃l,f.Lookups[c.Lookup.toNat]?=some l:=⟨_,Hz (by omega)⟩
 have hlg:=bA (c:=bF) hl
 have hk:pQ f c.Lookup=l.Kind:=by unfold pQ;rw [hl]
 rw [hk]
 repeat' (first|refine go ?_|refine HF a1 F8 ?_|(apply aX;first|refine aU a1 ?_|refine aK a1 ?_)|fail)
 by_cases h1:l.Kind < 1
 ·rw [decide_eq_true h1,decide_eq_true (Or.inl h1)]
  repeat' (first|refine go ?_|refine HF a1 F8 ?_|refine HS HB ?_|(apply bD;refine bf ?_)|fail)
  exact HP HA
 ·rw [decide_eq_false h1,show decide (l.Kind < 1∨l.Kind > 4)=decide (4 < l.Kind) from decide_eq_decide.2 ⟨fun h=>h.resolve_left h1,Or.inr⟩]
  repeat' (first|refine go ?_|refine HF a1 F8 ?_|refine HO F8 ?_|(apply bD;refine bf ?_)|fail)
  exact HP HA
def kI (f:aL) (kind:Int) (r:bv):Int:=if (r.Calls.length:Int) > 6 then 2 else if (r.Calls.length:Int) > 0∧kind≠4 then 40 else (d5 r.Calls (tu f r)).1
set_option maxHeartbeats 1000000 in
theorem xT (f:aL) (kind:Int) (r:bv):bM Tryz.prog 247 [cx f,aH kind,.agg (bJ r)] (aH (kI f kind r)):=by
 refine aT Tryz.func247 rfl Tryz.ntmps247 rfl fun B=>?_
 unfold kI
 have hL:(r.Calls.map fQ).length=r.Calls.length:=Hu ..
 rw [←hL]
 repeat' (first|refine go ?_|refine ak ?_|refine HF a1 F8 ?_|refine bC ?_|fail)
 refine ay rfl (fun h=>?_) (fun h=>?_)
 ·rw [if_pos (Hy h)]
  repeat' (first|refine go ?_|refine HF a1 F8 ?_)
  exact HP HA
 rw [if_neg (Hx h)]
 repeat' (first|refine go ?_|refine HF a1 F8 ?_)
 refine cN [3,5] (((r.Calls.map fQ).length:Int) > 0∧kind≠4) rfl (fun Q' K=>?_) (fun hC=>?_) (fun hC=>?_)
 ·repeat' (first|refine go ?_|refine HF a1 F8 ?_|refine HO F8 ?_|refine HS HB ?_|refine be rfl rfl rfl (fun _=>?_) (fun _=>?_))
  all_goals exact K _ _ rfl rfl (by clear K;grind)
 ·rw [if_pos hC]
  repeat' (first|refine go ?_|refine HF a1 F8 ?_)
  exact HP HA
 rw [if_neg hC]
 repeat' (first|refine go ?_|refine HF a1 F8 ?_)
 refine bb [] [] (CR (u:= .fn 277 [.iptr (bJ r),.iptr (cf f)]) (g:=277) rfl r.Calls _ (fun _ _=>True) [] trivial (dh (fun i x _=>A4 f r i x))) rfl rfl (Ho _) rfl fun c L1 hc=>?_
 have hc:c=ct (d5 r.Calls (tu f r)):=hc
 subst hc
 unfold ct
 repeat' (first|refine go ?_|refine HF a1 F8 ?_)
 exact HP HA
instance (f:aL) (kind:Int) (r:bv):AD Tryz.prog 247 [cx f,aH kind,.agg (bJ r)] (aH (kI f kind r)):=⟨xT f kind r⟩
end Go.Proofs.YtpbinloeemebkaaGreat
