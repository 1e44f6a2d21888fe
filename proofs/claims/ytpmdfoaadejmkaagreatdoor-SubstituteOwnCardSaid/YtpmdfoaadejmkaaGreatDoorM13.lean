/-
  An engine's run: its memory; which items are seen.
-/
import Derived.Test.YtpmdfoaadejmkaaGreatDoorM06
import Derived.Test.YtpmdfoaadejmkaaGreatDoorM12
import Derived.Test.YtpmdfoaadejmkaaGreatDoorM11
import Derived.Test.YtpmdfoaadejmkaaGreatDoorM05
import Derived.Laws.Shifts
import Derived.Laws.Pointers
import Derived.Laws.BitsAllLaws
import Derived.Test.YtpmdfoaadejmkaaGreatDoorRows
import Derived.WalkKit
import Derived.ProofKit
import Derived.OpenShut
import Derived.ChangeOld
import Derived.SizedLaws
import Derived.Deep.DeepHandedRow
import Derived.Lib.LaidTab
namespace Go.Proofs.YtpmdfoaadejmkaaGreatDoor
open Go.RowKit
attribute [local irreducible] AT br AX AO Av Kt b7 dm DA cA
abbrev eO (b:Nat):AV:= .sc (.pointer (some ⟨b,0,none⟩))
abbrev K3:AV:= .sc (.pointer none)
structure gy where
 rb:Nat
 cap:Nat
 junk:List AV
def c7 (run:List aR):List AV:=(run.map bS).flatten
def ew (q:Option gy) (run:List aR):AV:=match q with
 | none=> .imm 6 []
 | some m=> .sc (.slice (some ⟨m.rb,0,none⟩) run.length m.cap)
def jF (q:Option gy) (run:List aR):AL:=match q with
 | none=>[]
 | some m=>[(m.rb,.box (c7 run++m.junk) 67)]
structure dN (q:Option gy) (run:List aR):Prop where
 emp:q=none→run=[]
 fit:∀m,q=some m→run.length≤m.cap∧m.cap≤maxLen∧m.cap * 6≤(c7 run++m.junk).length
abbrev wy (wb:Nat) (eng:AV) (q:Option gy) (run:List aR):AL:=(wb,.box [eng,ew q run] 102)::jF q run
theorem d9 (run:List aR):(c7 run).length=run.length * 6:=by
 induction run with
 | nil=>rfl
 | cons x r ih=>simp [c7] at ih ⊢;simp [bS,ih];omega
theorem mQ (x:aR) (r:List aR):c7 (x::r)=bS x++c7 r:=by simp [c7]
theorem iP (a b:List aR):c7 (a++b)=c7 a++c7 b:=by simp [c7]
theorem sN:∀{run:List aR} {i j:Nat} {x:aR} {u:AV} (junk:List AV),run[i]?=some x→(bS x)[j]?=some u→(c7 run++junk)[i * 6+j]?=some u
 | [],i,_,_,_,_,h,_=>by simp at h
 | y::r,0,j,x,u,junk,h,hj=>by
  simp at h
  subst h
  rw [mQ,List.append_assoc,Nat.zero_mul,Nat.zero_add,List.getElem?_append_left (Ln hj).1]
  exact hj
 | y::r,i+1,j,x,u,junk,h,hj=>by
  rw [mQ,List.append_assoc,List.getElem?_append_right (by simp [bS];omega)]
  have:=sN (i:=i) junk (by simpa using h) hj
  rw [show (i+1) * 6+j - (bS y).length=i * 6+j by simp [bS];omega]
  exact this
structure om where
 l:aO
 cls:List Int
 fore:List (List Int)
 back:List (List Int)
 foreE:List Nat
 backE:List Nat
abbrev jA (z:Nat):AV:= .sc (.int .u64 (z:Int))
def ek (l:List Nat):List (List AV):=l.map fun z=>[jA z]
def eY (r:b8):b8:={ r with Back:=[],Ahead:=[] }
def iA (l:aO):aO:={ l with Rules:=l.Rules.map eY }
def IW (e:om):List AV:=[.imm 1 (aQ e.cls),.imm 1 (bj e.fore),.imm 1 (bj e.back),.imm 1 (ek e.foreE),.imm 1 (ek e.backE)]
def fw (e:om):List AV:=[aI e.l.Kind,eo e.l.Ignore,.imm 6 ((iA e.l).Rules.map bV),.imm 1 (aQ e.cls),.imm 1 (bj e.fore),.imm 1 (bj e.back),.imm 1 (ek e.foreE),.imm 1 (ek e.backE),aI (f9 e.l.Rules),aI (gj e.l.Rules)]
def jK (l:List Bool):List (List AV):=l.map fun b=>[eo b]
theorem qF (l:List Bool):(jK l).length=l.length:=by simp [jK]
theorem CG {l:List Bool} {i:Nat} {b:Bool} (h:l[i]?=some b):(jK l)[i]?=some [eo b]:=by simp [jK,h]
structure n8 where
 lks:List om
 ms:List Bool
def eh (E:n8):List AV:=[.imm 10 (E.lks.map fw),.imm 1 (jK E.ms)]
theorem dN.lt {q:Option gy} {run:List aR} (h:dN q run) {i:Nat} (hi:i < run.length):∃m,q=some m:=by
 cases q with
 | none=>rw [h.emp rfl] at hi;simp at hi
 | some m=>exact ⟨m,rfl⟩
section
variable {P:Program} {tt:TT} {r:Option Nat} {ops:Array Oper} {Q:Exit→Act→World→Prop} {nt:Nat} {D:List Deferred} {fr:bT} {B:Bs} {L:AL} {rest:List Oper} {d:Nat} {ty t t':TypeId} {pos:String} {af:Array Edge} {g:Option (Nat×Bool)} {x y z:Operand} {q:Option gy} {run:List aR}
theorem Hx {dd:Option Tmp} {e sz by_:Nat} (hc:ln P t e sz by_) (hq:dN q run) (hx:bh fr x=some (ew q run)):Av P ⟨dd,.call ⟨.builtin .len,#[x],#[t]⟩,ty,pos,af,g⟩ fr (.sc (.int .i64 run.length)):=by
 cases q with
 | none=>
  rw [hq.emp rfl] at hx ⊢
  exact wI hc hx rfl
 | some m=>exact Cg hc hx
theorem mV (ok:eu P tt) {e sz by_:Nat} (ht:kr tt t=some (e,sz,by_)) (hq:dN q run) (hx:bh fr x=some (ew q run)) (hd:Nat.ble nt d=false) (h:br P r ops Q nt D rest ((d,.sc (.int .i64 run.length))::fr) B L):br P r ops Q nt D (⟨some d,.call ⟨.builtin .len,#[x],#[t]⟩,ty,pos,af,none⟩::rest) fr B L:=ci (Hx (bo ok ht).1 hq hx) hd rfl h
end
theorem pi {run:List aR} {i j:Nat} {x:aR} {u:AV} (junk:List AV) (h:run[i]?=some x) (hj:(bS x)[j]?=some u):(c7 run++junk)[0+((i:Nat):Int).toNat * 6+j]?=some u:=by
 rw [Int.toNat_natCast,Nat.zero_add]
 exact sN junk h hj
set_option maxHeartbeats 1000000 in
theorem uu (E:n8) (e:om) (wb:Nat) (m:gy) (run:List aR) (i:Nat) (x:aR) (hx:run[i]?=some x):AC Tryz.prog 186 [eO wb,.iptr (fw e),aI i] (wy wb (.iptr (eh E)) (some m) run) fun c L=>c=eo (pD E.ms e.l.Ignore x)∧L=wy wb (.iptr (eh E)) (some m) run:=by
 refine aS Tryz.func186 rfl Tryz.ntmps186 rfl fun B=>?_
 have hil:=(Ln hx).1
 have h0:=pi (j:=0) m.junk hx rfl
 have hbl:=qF E.ms
 refine W01 ?_
 refine bz 16 [(0,.v),(1,.v),(2,.v),(3,.l),(4,.v),(5,.v),(6,.v),(7,.l),(8,.v),(9,.v),(10,.v),(11,.l),(12,.v),(13,.v),(14,.v),(15,.v)] none ?_ trivial rfl (by kernel_rfl) (by kernel_rfl) (by kernel_rfl) bX (by kernel_rfl) rfl
 refine W0t ?_
 refine d8 a5 rfl rfl rfl ⟨by omega,by omega⟩ trivial ?_
 refine W0a ?_
 refine cf a5 1 rfl rfl rfl h0 trivial ?_
 refine W0t ?_
 refine LQ [1,7,23] KZ ?_
 have hs:pD E.ms e.l.Ignore x=(!e.l.Ignore || (decide (x.Glyph < 0) || (decide (x.Glyph≥E.ms.length) || !(E.ms.getD x.Glyph.toNat false)))):=by
  unfold pD H2
  by_cases h1:0≤x.Glyph
  ·by_cases h2:x.Glyph≥E.ms.length
   ·rw [List.getD_eq_getElem?_getD,List.getElem?_eq_none (by omega)];simp [h1,h2]
   ·rw [decide_eq_false h2,decide_eq_false (by omega:¬x.Glyph < 0),decide_eq_true h1];cases e.l.Ignore <;> simp
  ·simp [h1,show x.Glyph < 0 by omega]
 rw [hs]
 repeat' (first|refine a9 ?_|refine a4 ?_|refine am ?_|refine a6 ?_|refine a7 ?_|refine LG a5 KZ ?_|refine LO KZ ?_|refine LP LB ?_|refine LR LA (fun _=>?_) (fun _=>?_))
 ·rename_i h1 h2 h3
  have h4:¬((jK E.ms).length:Int)≤x.Glyph:=Ly h3
  have h5:=Ly h2
  obtain ⟨b,hb⟩:∃b,E.ms[x.Glyph.toNat]?=some b:=⟨_,Iy (by omega)⟩
  have hbg:=CG hb
  repeat' (first|refine am ?_|refine a6 ?_|refine a7 ?_|refine LG a5 KZ ?_|refine LO KZ ?_|(apply aL;first|refine aJ a5 ?_|refine aF a5 ?_)|fail)
  refine LM KZ ⟨?_,rfl⟩
  rw [h1,h2,decide_eq_false (by omega:¬x.Glyph≥E.ms.length),List.getD_eq_getElem?_getD,hb]
  rfl
 ·rename_i h1 h2 h3
  refine LM KZ ⟨?_,rfl⟩
  rw [hbl] at h3
  rw [h1,h2,show decide (x.Glyph≥E.ms.length)=true from h3]
  rfl
 ·rename_i h1 h2
  refine LM KZ ⟨?_,rfl⟩
  rw [h1,h2]
  rfl
 ·rename_i h1
  refine LM KZ ⟨?_,rfl⟩
  rw [h1]
  rfl
end Go.Proofs.YtpmdfoaadejmkaaGreatDoor
namespace Go.Proofs.YtpmdfoaadejmkaaGreatDoor
open Go.RowKit
attribute [local irreducible] AT br AX AO Av Kt b7 dm DA cA
section
variable {ms:List Bool} {ig:Bool} {run:List aR}
theorem sS {i:Nat} (h:run.length≤i):eM ms ig run i=[]:=by
 unfold eM
 rw [show run.length - i=0 by omega]
 rfl
theorem mS {i:Nat} (h:i < run.length):eM ms ig run i=if kY ms ig run i=true then i::eM ms ig run (i+1) else eM ms ig run (i+1):=by
 unfold eM
 rw [show run.length - i=(run.length - (i+1))+1 by omega,List.range'_succ,List.filter_cons]
theorem oW {i:Nat} {x:aR} (h:run[i]?=some x):kY ms ig run i=pD ms ig x:=by
 unfold kY
 rw [h]
theorem xt {i:Nat} {x:aR} (h:run[i]?=some x):eP run i=x.Glyph:=by
 unfold eP
 rw [h]
theorem Dd {i:Nat}:∀p∈eM ms ig run i,i≤p∧p < run.length∧kY ms ig run p=true:=fun p hp=>by
 unfold eM at hp
 obtain ⟨h1,h2⟩:=List.mem_filter.1 hp
 obtain ⟨h3,h4⟩:=List.mem_range'_1.1 h1
 exact ⟨h3,by omega,h2⟩
end
end Go.Proofs.YtpmdfoaadejmkaaGreatDoor
namespace Go.Proofs.YtpmdfoaadejmkaaGreatDoor
open Go.RowKit
attribute [local irreducible] AT br AX AO Av Kt b7 dm DA cA
def dt (l:List Nat):List (List AV):=aQ (l.map Int.ofNat)
theorem mo (l:List Nat):(dt l).length=l.length:=by simp [dt,aQ]
theorem B3 (l:List Nat) (i:Nat):dt l++[[aI i]]=dt (l++[i]):=by simp [dt,aQ]
def pK (run:List aR) (l:List Nat):List (List AV):=aQ (l.map (eP run))
theorem Dh (run:List aR) (l:List Nat):(pK run l).length=l.length:=by simp [pK,aQ]
theorem Dg {run:List aR} (l:List Nat) {i:Nat} {x:aR} (h:run[i]?=some x):pK run l++[[aI x.Glyph]]=pK run (l++[i]):=by simp [pK,aQ,xt h]
def fK (ms:List Bool) (ig:Bool) (run:List aR) (up:Bool) (a:Int):List Nat:=if up=true then eM ms ig run a.toNat else ng ms ig run (a+1).toNat
def ol (up:Bool):Int:=if up=true then 1 else -1
def mK (run:List aR) (up:Bool) (a:Int):Prop:= -1≤a∧(up=true→0≤a)∧(up=false→a < run.length)
theorem Bv {ms:List Bool} {ig:Bool} {run:List aR} {up:Bool} {a:Int} (h:mK run up a) (ho:¬(0≤a∧a < run.length)):fK ms ig run up a=[]:=by
 obtain ⟨h1,h2,h3⟩:=h
 unfold fK
 cases up with
 | true=>exact sS (by have:=h2 rfl;omega)
 | false=>
  have:=h3 rfl
  rw [show (a+1).toNat=0 by omega]
  rfl
theorem Es {ms:List Bool} {ig:Bool} {run:List aR} {up:Bool} {a:Int} (h0:0≤a) (h1:a < run.length):fK ms ig run up a=if kY ms ig run a.toNat=true then a.toNat::fK ms ig run up (a+ol up) else fK ms ig run up (a+ol up):=by
 unfold fK ol
 cases up with
 | true=>
  rw [if_pos rfl,if_pos rfl,if_pos rfl,mS (by omega),show (a+1).toNat=a.toNat+1 by omega]
 | false=>
  simp only [Bool.false_eq_true,if_false]
  rw [show (a+1).toNat=a.toNat+1 by omega,ng,show (a+ -1+1).toNat=a.toNat by omega]
theorem mK.next {run:List aR} {up:Bool} {a:Int} (h0:0≤a) (h1:a < run.length):mK run up (a+ol up):=by
 unfold mK ol
 cases up <;> simp <;> omega
def po (run:List aR) (up:Bool) (a:Int):Nat:=if up=true then (run.length - a).toNat else (a+1).toNat
theorem xA {run:List aR} {up:Bool} {a:Int} (h0:0≤a) (h1:a < run.length):po run up (a+ol up) < po run up a:=by
 unfold po ol
 cases up <;> simp <;> omega
set_option maxHeartbeats 4000000 in
theorem zo (E:n8) (e:om) (wb:Nat) (q:Option gy) (run:List aR) (hq:dN q run) (hr:run.length≤1000000) (up:Bool) (a:Int) (ha:mK run up a) (ha2:a≤1000000) (most:Nat):AC Tryz.prog 188 [eO wb,.iptr (fw e),aI a,aI (ol up),aI most] (wy wb (.iptr (eh E)) q run) fun c L=>c= .tup [.imm 1 (dt ((fK E.ms e.l.Ignore run up a).take most)),.imm 1 (pK run ((fK E.ms e.l.Ignore run up a).take most))]∧L=wy wb (.iptr (eh E)) q run:=by
 refine aS Tryz.func188 rfl Tryz.ntmps188 rfl fun B=>?_
 refine W04 ?_
 refine bM (bA (t:=10) (c':= .vec none 1 []) rfl fun σ v h=>cC 1 h) ?_
 refine bM (bA (t:=11) (c':= .vec none 1 []) rfl fun σ v h=>cC 1 h) ?_
 refine aN [0,1,3,4] (α:=Int×List Nat×Option (Nat×Nat)×Option (Nat×Nat)) (fun x=>[(12,aI x.1),(10,.vec x.2.2.1 1 (dt x.2.1)),(11,.vec x.2.2.2 1 (pK run x.2.1))]) (fun x=>mK run up x.1∧x.1≤1000000∧fK E.ms e.l.Ignore run up a=x.2.1++fK E.ms e.l.Ignore run up x.1∧x.2.1.length≤most∧x.2.1.length+po run up x.1≤po run up a) (fun x=>wy wb (.iptr (eh E)) q run++(tok x.2.2.1 3 1 (dt x.2.1).length++tok x.2.2.2 3 1 (pK run x.2.1).length)) (fun x=>po run up x.1) (a,[],none,none) rfl ⟨rfl,rfl,rfl,trivial⟩ ⟨ha,ha2,by simp,Nat.zero_le _,by simp⟩ (fun _ _ h=>by simpa [tok] using h) ?_
 have hlN:po run up a≤1000001:=by
  have:=ha.1
  unfold po
  have:=ha.2.1
  cases up <;> simp at this ⊢ <;> omega
 rintro ⟨k,ps,q1,q2⟩ ⟨hk,hk2,hps,hpl,hpk⟩
 dsimp only at hk hk2 hps hpl hpk ⊢
 have hnl:=mo ps
 have hgl:=Dh run ps
 try dsimp only [Lr,Lq,Lp,Li]
 refine W0k ?_
 refine ce [0,1,3,4,10,11,12] ((0≤k∧k < run.length)∧ps.length < most) rfl (fun Q' K=>?_) (fun hC=>?_) (fun hC=>?_)
 ·repeat' (first|refine a7 ?_|refine LG a5 KZ ?_|refine LO KZ ?_|refine LP LB ?_|(apply bq;first|refine LJ a5 0 LC ?_|refine LJ a5 1 LC ?_|refine LJ a5 2 LC ?_|refine LJ a5 3 LC ?_|refine LK a5 0 LC ?_|refine LK a5 1 LC ?_|refine LK a5 2 LC ?_|refine LL a5 1 LA (by assumption) rfl ?_|refine LL a5 0 LA (by assumption) rfl ?_|fail)|refine LR LA (fun _=>?_) (fun _=>?_))
  ·refine mV a5 rfl hq rfl rfl ?_
   repeat' (first|refine a7 ?_|refine LG a5 KZ ?_|refine LO KZ ?_|refine LP LB ?_|refine LR LA (fun _=>?_) (fun _=>?_))
   all_goals exact K _ _ rfl rfl (by simp_all <;> omega)
  ·exact K _ _ rfl rfl (by simp_all <;> omega)
 ·obtain ⟨⟨h0,h1⟩,h2⟩:=hC
  obtain ⟨m,rfl⟩:=hq.lt (i:=k.toNat) (by omega)
  obtain ⟨x,hx⟩:∃x,run[k.toNat]?=some x:=⟨_,Iy (by omega)⟩
  have hk0:((k.toNat:Nat):Int)=k:=Int.toNat_of_nonneg h0
  have hse:=uu E e wb m run k.toNat x hx
  rw [hk0] at hse
  have hst:=Es (ms:=E.ms) (ig:=e.l.Ignore) (up:=up) h0 h1
  rw [oW hx] at hst
  have hnx:=mK.next (up:=up) h0 h1
  have hln:=xA (up:=up) h0 h1
  have hk3:k+ol up≤1000000:=by have:=hnx.1;unfold ol;split <;> omega
  have hk4: -9223372036854775808≤k+ol up∧k+ol up≤9223372036854775807:=by have:=hnx.1;omega
  refine W0v ?_
  refine b9 (wy wb (.iptr (eh E)) (some m) run) _ hse rfl rfl (Lm _) rfl fun c L1 ⟨hc,hL⟩=>?_
  subst hc;subst hL
  refine W1y ?_
  refine ar rfl (fun hb=>?_) (fun hb=>?_)
  ·rw [hb,if_pos rfl] at hst
   repeat' (first|refine a9 ?_|refine a4 ?_|refine LG a5 KZ ?_|refine bQ a5 ?_|fail)
   refine bE a5 (wy wb (.iptr (eh E)) (some m) run++tok q2 3 1 (pK run ps).length) rfl rfl rfl rfl ?_ (by rw [hnl];simp;omega) (by rw [hnl];simp;omega) rfl fun q1'=>?_
   ·exact (List.perm_append_comm_assoc ..)
   refine aE (aH (L':=wy wb (.iptr (eh E)) (some m) run++(tok q1' 3 1 (dt ps++[[aI k]]).length++tok q2 3 1 (pK run ps).length)) (List.perm_append_comm_assoc ..)) ?_
   have hg0:=pi (j:=0) m.junk hx rfl
   rw [hk0] at hg0
   repeat' (first|refine a4 ?_|refine a6 ?_|refine a7 ?_|refine LG a5 KZ ?_|(apply bq;first|refine LJ a5 0 LC ?_|refine LJ a5 1 LC ?_|refine LJ a5 2 LC ?_|refine LJ a5 3 LC ?_|refine LK a5 0 LC ?_|refine LK a5 1 LC ?_|refine LK a5 2 LC ?_|refine LL a5 1 LA (by assumption) rfl ?_|refine LL a5 0 LA (by assumption) rfl ?_|fail)|(apply aL;first|refine aJ a5 ?_|refine aF a5 ?_)|refine bQ a5 ?_|fail)
   refine bE a5 (wy wb (.iptr (eh E)) (some m) run++tok q1' 3 1 (dt ps++[[aI k]]).length) rfl rfl rfl rfl ?_ (by rw [hgl];simp;omega) (by rw [hgl];simp;omega) rfl fun q2'=>?_
   ·rw [←List.append_assoc]
    exact List.perm_append_comm
   refine aE (aH (L':=wy wb (.iptr (eh E)) (some m) run++(tok q1' 3 1 (dt ps++[[aI k]]).length++tok q2' 3 1 (pK run ps++[[aI x.Glyph]]).length)) (List.perm_append_comm.trans (by rw [List.append_assoc]))) ?_
   refine W05 ?_
   have e1:dt ps++[[aI k]]=dt (ps++[k.toNat]):=by rw [←B3,hk0]
   have e2:=Dg ps hx
   exact aC (k+ol up,ps++[k.toNat],q1',q2') rfl ⟨rfl,by rw [←e1];rfl,by rw [←e2];rfl,trivial⟩ ⟨hnx,hk3,by rw [hps,hst];simp,by rw [List.length_append,List.length_singleton];omega,by rw [List.length_append,List.length_singleton];dsimp only;omega⟩ hln (fun _ _ h=>by dsimp only;rw [←e1,←e2];exact h)
  ·rw [hb,if_neg (by decide)] at hst
   refine W06 ?_
   exact aC (k+ol up,ps,q1,q2) rfl ⟨rfl,rfl,rfl,trivial⟩ ⟨hnx,hk3,by rw [hps,hst],hpl,by dsimp only;omega⟩ hln (fun _ _ h=>h)
 ·have hres:(fK E.ms e.l.Ignore run up a).take most=ps:=by
   by_cases h1:ps.length < most
   ·rw [hps,Bv hk (fun h=>hC ⟨h,h1⟩),List.append_nil,List.take_of_length_le (by omega)]
   ·rw [hps,List.take_append_of_le_length (by omega),List.take_of_length_le (by omega)]
  rw [hres]
  refine W02 ?_
  refine dc (L':=wy wb (.iptr (eh E)) q run) (List.sublist_append_left ..) ?_
  refine bc (bA (t:=10) (c':= .imm 1 (dt ps)) rfl fun σ v h=>VR.im h) ?_
  refine bc (bA (t:=11) (c':= .imm 1 (pK run ps)) rfl fun σ v h=>VR.im h) ?_
  exact LT LA ⟨rfl,rfl⟩
end Go.Proofs.YtpmdfoaadejmkaaGreatDoor
namespace Go.Proofs.YtpmdfoaadejmkaaGreatDoor
open Go.RowKit
section
variable {P:Program} {tt:TT} {r:Option Nat} {ops:Array Oper} {Q:Exit→Act→World→Prop} {nt:Nat} {D:List Deferred} {fr:bT} {B:Bs} {L:AL} {rest:List Oper} {d:Nat} {ty t t':TypeId} {pos:String} {af:Array Edge} {g:Option (Nat×Bool)} {x y z:Operand} {u:AV}
theorem HH {dd:Option Tmp} {k kk:IntKind} {a b:Int} (i:Nat) (hx:bh fr x=some (.sc (.int k a))) (hy:bh fr y=some (.sc (.int kk b))) (hb:b=(i:Int)):Av P ⟨dd,.binOp .shr t x y t',ty,pos,af,g⟩ fr (.sc (.int k (a / 2 ^ min i k.bits))):=by
 intro σ ρ w hρ _
 subst hb
 refine ⟨_,?_,.sc _⟩
 have h:=shift_shr_any k kk a (i:Int) (Int.natCast_nonneg i)
 simp [execOp,(hρ x _ hx).sc_inv,(hρ y _ hy).sc_inv,eqGuard,binOp,h]
theorem Hn {dd:Option Tmp} {k:IntKind} {a b:Int} (hx:bh fr x=some (.sc (.int k a))) (hy:bh fr y=some (.sc (.int k b))):Av P ⟨dd,.binOp .and t x y t',ty,pos,af,g⟩ fr (.sc (.int k (bits .and k a b))):=by
 intro σ ρ w hρ _
 refine ⟨_,?_,.sc _⟩
 simp [execOp,(hρ x _ hx).sc_inv,(hρ y _ hy).sc_inv,eqGuard,binOp,intBits_and]
theorem yn {dd:Option Tmp} {k:IntKind} {a b:Int} (hx:bh fr x=some (.sc (.int k a))) (hy:bh fr y=some (.sc (.int k b))):Av P ⟨dd,.binOp .or t x y t',ty,pos,af,g⟩ fr (.sc (.int k (bits .or k a b))):=by
 intro σ ρ w hρ _
 refine ⟨_,?_,.sc _⟩
 simp [execOp,(hρ x _ hx).sc_inv,(hρ y _ hy).sc_inv,eqGuard,binOp,intBits_or]
theorem xP (i:Nat) {k kk:IntKind} {a b:Int} (hx:bh fr x=some (.sc (.int k a))) (hy:bh fr y=some (.sc (.int kk b))) (hb:b=(i:Int)) (hd:Nat.ble nt d=false) (h:br P r ops Q nt D rest ((d,.sc (.int k (a / 2 ^ min i k.bits)))::fr) B L):
  br P r ops Q nt D (⟨some d,.binOp .shr t x y t',ty,pos,af,none⟩::rest) fr B L:=ci (HH i hx hy hb) hd rfl h
theorem oP {k:IntKind} {a b:Int} (hx:bh fr x=some (.sc (.int k a))) (hy:bh fr y=some (.sc (.int k b))) (hd:Nat.ble nt d=false) (h:br P r ops Q nt D rest ((d,.sc (.int k (bits .and k a b)))::fr) B L):
  br P r ops Q nt D (⟨some d,.binOp .and t x y t',ty,pos,af,none⟩::rest) fr B L:=ci (Hn hx hy) hd rfl h
theorem uc {k:IntKind} {a b:Int} (hx:bh fr x=some (.sc (.int k a))) (hy:bh fr y=some (.sc (.int k b))) (hd:Nat.ble nt d=false) (h:br P r ops Q nt D rest ((d,.sc (.int k (bits .or k a b)))::fr) B L):
  br P r ops Q nt D (⟨some d,.binOp .or t x y t',ty,pos,af,none⟩::rest) fr B L:=ci (yn hx hy) hd rfl h
end
end Go.Proofs.YtpmdfoaadejmkaaGreatDoor
namespace Go.Proofs.YtpmdfoaadejmkaaGreatDoor
open Go.RowKit
def Bh:AV→Option Bool
 | .iptr _=>some false
 | .sc (.pointer none)=>some true
 | .sc (.pointer (some _))=>some false
 | _=>none
theorem ta {u:AV} {b:Bool} (h:Bh u=some b) {σ:Mem} {v:Value} (hv:VR σ u v):∃p,v= .pointer p∧p.isNone=b:=by
 unfold Bh at h
 split at h
 ·cases h
  obtain ⟨b',off,h1,_⟩:=hv.iptr_inv
  exact ⟨_,h1,rfl⟩
 ·cases h
  exact ⟨none,hv.sc_inv,rfl⟩
 ·cases h
  exact ⟨_,hv.sc_inv,rfl⟩
 ·cases h
section
variable {P:Program} {fr:bT} {B:Bs} {L:AL} {d:Option Tmp} {ty t t':TypeId} {pos:String} {af:Array Edge} {g:Option (Nat×Bool)} {x y z q:Operand} {u:AV}
theorem rE {e:TypeId} (h:P.underlying t=some (.pointer e)):P.underlying t=some (.pointer (P.pointee t)):=by
 rw [show P.pointee t=e by simp [Program.pointee,h]];exact h
theorem Hu {e:TypeId} {b:Bool} (ht:P.underlying t=some (.pointer e)) (hx:bh fr x=some u) (hu:Bh u=some b) (hy:bh fr y=some (.sc (.pointer none))):Av P ⟨d,.binOp .eql t x y t',ty,pos,af,g⟩ fr (.sc (.bool b)):=fun σ ρ w hρ _=>by
 obtain ⟨p,hp,hb⟩:=ta hu (hρ x u hx)
 refine ⟨_,?_,.sc _⟩
 subst hb
 simp [execOp,hp,(hρ y _ hy).sc_inv,eqGuard,run_eql_pointer_nil w t p (rE ht)]
theorem HB {e:TypeId} {b:Bool} (ht:P.underlying t=some (.pointer e)) (hx:bh fr x=some u) (hu:Bh u=some b) (hy:bh fr y=some (.sc (.pointer none))):Av P ⟨d,.binOp .neq t x y t',ty,pos,af,g⟩ fr (.sc (.bool (!b))):=fun σ ρ w hρ _=>by
 obtain ⟨p,hp,hb⟩:=ta hu (hρ x u hx)
 refine ⟨_,?_,.sc _⟩
 subst hb
 simp [execOp,hp,(hρ y _ hy).sc_inv,eqGuard,run_neq_pointer_nil w t p (rE ht)]
theorem Hm {n e sz k b off:Nat} {qq:IntKind} {a:Int} (ht:P.underlying t=some (.array n e)) (hs:(P.info? e).map (·.size)=some sz) (hx:bh fr x=some (.sc (.pointer (some ⟨b,off,none⟩)))) (hy:bh fr y=some (.sc (.int qq a))) (ha:a=(k:Int)) (hk:k < n):Av P ⟨d,.indexAddr t x y,ty,pos,af,g⟩ fr (.sc (.pointer (some ⟨b,off+k * sz,none⟩))):=
 fun σ ρ w hρ _=>by
  subst ha
  have hyv:=(hρ y _ hy).sc_inv
  have hv:=(hρ x _ hx).sc_inv
  have hk':(k:Int) < (n:Int):=by omega
  have hso:(sizeOf e:Sem Nat).run P w= .ok sz w:=by
   cases hi:P.info? e with
   | none=>rw [hi] at hs;cases hs
   | some i=>rw [hi] at hs;simp at hs;simp [sizeOf,typeInfo,hi,hs]
  refine ⟨.pointer (some ⟨b,off+k * sz,none⟩),?_,.sc _⟩
  simp [execOp,hv,hyv,Instr.indexAt,asIntOf,run_underlying ht,hk',hso,Instr.sureAddr,Addr.add]
  by_cases hn:n≤1 <;> by_cases h0:k * sz=0 <;> simp [hn,run_underlying ht,hso,hk,h0]
theorem Fc {e sz by_:Nat} {parts:Array (Nat×Operand)} (hc:ln P t e sz by_) (hsz:0 < sz) (hp:parts=#[]):AO P ⟨d,.buildSlice t 0 parts,ty,pos,af,g⟩ fr B L (fun c L'=>∃b,c= .sc (.slice (some ⟨b,0,none⟩) 0 0)∧L'=(b,.box [] e)::L):=by
 intro σ ρ w hρ hw
 subst hp
 haveI:=hc
 have hr:=Ep (P:=P) (t:=t) (by simpa [Nat.blt_eq] using hsz) [] (by simp) (by simp [Nat.ble_eq]) w
 simp at hr
 unfold gT
 rw [show (execOp ρ ⟨d,.buildSlice t 0 #[],ty,pos,af,g⟩).run P w= .ok (.value (.slice (some ⟨w.heap.size,0,none⟩) 0 0)) (w.alloc (.cells #[] e)) by
  simp [execOp,hr]]
 exact ⟨σ,.sc _,_,Mem.le_refl _,.sc _,hw.alloc _ (.box [] e) ⟨[],rfl,cS.nil,by simp⟩,_,rfl,rfl⟩
end
section
variable {P:Program} {tt:TT} {r:Option Nat} {ops:Array Oper} {Q:Exit→Act→World→Prop} {nt:Nat} {D:List Deferred} {fr:bT} {B:Bs} {L:AL} {rest:List Oper} {d:Nat} {ty t t':TypeId} {pos:String} {af:Array Edge} {x y z:Operand} {u:AV}
theorem oQ {e:TypeId} {b:Bool} (ht:P.underlying t=some (.pointer e)) (hx:bh fr x=some u) (hu:Bh u=some b) (hy:bh fr y=some (.sc (.pointer none))) (hd:Nat.ble nt d=false) (h:br P r ops Q nt D rest ((d,.sc (.bool b))::fr) B L):br P r ops Q nt D (⟨some d,.binOp .eql t x y t',ty,pos,af,none⟩::rest) fr B L:=ci (Hu ht hx hu hy) hd rfl h
theorem rp {e:TypeId} {b:Bool} (ht:P.underlying t=some (.pointer e)) (hx:bh fr x=some u) (hu:Bh u=some b) (hy:bh fr y=some (.sc (.pointer none))) (hd:Nat.ble nt d=false) (h:br P r ops Q nt D rest ((d,.sc (.bool (!b)))::fr) B L):br P r ops Q nt D (⟨some d,.binOp .neq t x y t',ty,pos,af,none⟩::rest) fr B L:=ci (HB ht hx hu hy) hd rfl h
theorem xK (ok:eu P tt) (k:Nat) {n e sz b off:Nat} {q:IntKind} {a:Int} (ht:zT tt t=some (n,e,sz)) (hx:bh fr x=some (.sc (.pointer (some ⟨b,off,none⟩)))) (hy:bh fr y=some (.sc (.int q a))) (ha:a=(k:Int)) (hk:k < n) (hd:Nat.ble nt d=false) (h:br P r ops Q nt D rest ((d,.sc (.pointer (some ⟨b,off+k * sz,none⟩)))::fr) B L):
  br P r ops Q nt D (⟨some d,.indexAddr t x y,ty,pos,af,none⟩::rest) fr B L:=ci (Hm (iN ok ht).1 (iN ok ht).2 hx hy ha hk) hd rfl h
theorem DY (ok:eu P tt) {e sz by_:Nat} (ht:kr tt t=some (e,sz,by_)) (hd:Nat.ble nt d=false) (h:∀b,br P r ops Q nt D rest ((d,.sc (.slice (some ⟨b,0,none⟩) 0 0))::fr) B ((b,.box [] e)::L)):
  br P r ops Q nt D (⟨some d,.buildSlice t 0 #[],ty,pos,af,none⟩::rest) fr B L:=cw hd rfl (Fc (bo ok ht).1 (bo ok ht).2 rfl) fun c L' ⟨b,h1,h2⟩=>by subst h1;subst h2;exact h b
theorem Ie {k:IntKind} {a b:Int} (hx:bh fr x=some (.sc (.int k a))) (hy:bh fr y=some (.sc (.int k b))) (hd:Nat.ble nt d=false) (h:br P r ops Q nt D rest ((d,.sc (.int k (k.wrap (a * b))))::fr) B L):br P r ops Q nt D (⟨some d,.binOp .mul t x y t',ty,pos,af,none⟩::rest) fr B L:=ci (GS hx hy) hd rfl h
theorem If {k:IntKind} {a:Int} (hx:bh fr x=some (.sc (.int k a))) (hd:Nat.ble nt d=false) (h:br P r ops Q nt D rest ((d,.sc (.int k (k.wrap (0 - a))))::fr) B L):br P r ops Q nt D (⟨some d,.unOp .neg t x,ty,pos,af,none⟩::rest) fr B L:=ci (IR hx) hd rfl h
theorem uf (ok:eu P tt) {a:Int} {q q':IntKind} {ti ti':TI} (hx:bh fr x=some (.sc (.int q a))) (ht:dw tt t=some ti) (hk:ti.k= .int q) (ht':dw tt t'=some ti') (hk':ti'.k= .int q') (hd:Nat.ble nt d=false) (h:br P r ops Q nt D rest ((d,.sc (.int q' (q'.wrap a)))::fr) B L):
  br P r ops Q nt D (⟨some d,.convert t t' x,ty,pos,af,none⟩::rest) fr B L:=by
 haveI:=ok.int ht hk
 haveI:=ok.int ht' hk'
 exact ci (sv hx) hd rfl h
end
end Go.Proofs.YtpmdfoaadejmkaaGreatDoor
namespace Go.Proofs.YtpmdfoaadejmkaaGreatDoor
open Go.RowKit
attribute [local irreducible] AT br AX AO Av Kt b7 dm DA cA
abbrev IH (cls:List Int) (tab:List (List Int)) (ends:List Nat):AV:= .agg [.imm 1 (aQ cls),.imm 1 (bj tab),.imm 1 (ek ends)]
theorem kp (l:List Nat):(ek l).length=l.length:=by simp [ek]
theorem wv {l:List Nat} {i:Nat} {z:Nat} (h:l[i]?=some z):(ek l)[i]?=some [jA z]:=by simp [ek,h]
section
variable (cls:List Int) (tab:List (List Int)) (ends:List Nat)
theorem CF (s:Int):c5 Tryz.prog 301 [IH cls tab ends,aI s] (jA (jq ends s)):=by
 refine aS Tryz.func301 rfl Tryz.ntmps301 rfl fun B=>?_
 have hel:=kp ends
 refine W0b ?_
 refine ce [1,2] (s < 0∨(ends.length:Int)≤s) rfl (fun Q' K=>?_) (fun hC=>?_) (fun hC=>?_)
 ·repeat' (first|refine a7 ?_|refine LG a5 KZ ?_|refine LO KZ ?_|refine LP LB ?_|refine LR LA (fun _=>?_) (fun _=>?_))
  all_goals exact K _ _ rfl rfl (by simp_all <;> omega)
 ·refine W07 ?_
  refine LM KZ ?_
  unfold jq
  rcases hC with h | h
  ·rw [if_pos h];rfl
  ·by_cases h0:s < 0
   ·rw [if_pos h0];rfl
   ·rw [if_neg h0,List.getD_eq_getElem?_getD,List.getElem?_eq_none (by omega)];rfl
 ·obtain ⟨z,hz⟩:∃z,ends[s.toNat]?=some z:=⟨_,Iy (by omega)⟩
  have hzg:=wv hz
  repeat' (first|refine a9 ?_|refine a4 ?_|refine aj ?_|refine am ?_|refine a6 ?_|refine a7 ?_|refine LG a5 KZ ?_|(apply aL;first|refine aJ a5 ?_|refine aF a5 ?_)|fail)
  refine LM KZ ?_
  unfold jq
  rw [if_neg (fun h=>hC (.inl h)),List.getD_eq_getElem?_getD,hz]
  rfl
instance (s:Int):AD Tryz.prog 301 [IH cls tab ends,aI s] (jA (jq ends s)):=⟨CF cls tab ends s⟩
theorem E2 (s g:Int):c5 Tryz.prog 302 [IH cls tab ends,aI s,aI g] (aI (iE cls tab s g)):=by
 refine aS Tryz.func302 rfl Tryz.ntmps302 rfl fun B=>?_
 have hcl:=aX cls
 have htl:=bZ tab
 refine W0b ?_
 refine ce [1,2,3] ((s < 0∨(tab.length:Int)≤s)∨(g < 0∨(cls.length:Int)≤g)) rfl (fun Q' K=>?_) (fun hC=>?_) (fun hC=>?_)
 ·repeat' (first|refine a7 ?_|refine LG a5 KZ ?_|refine LO KZ ?_|refine LP LB ?_|refine LR LA (fun _=>?_) (fun _=>?_))
  all_goals exact K _ _ rfl rfl (by simp_all <;> omega)
 ·refine W07 ?_
  refine LM KZ ?_
  unfold iE
  by_cases h0:s < 0∨g < 0
  ·rw [if_pos h0]
  ·rw [if_neg h0]
   split
   ·rename_i h1 h2
    have:=(Ln h1).1
    have:=(Ln h2).1
    omega
   ·rfl
 ·obtain ⟨ea,hrow⟩:∃z,tab[s.toNat]?=some z:=⟨_,Iy (by omega)⟩
  obtain ⟨c,hc⟩:∃z,cls[g.toNat]?=some z:=⟨_,Iy (by omega)⟩
  have hrg:=gr hrow
  have hcg:=bW hc
  have hrl:=aX ea
  have hN:iE cls tab s g=if c < 0 then -1 else match ea[c.toNat]? with
   | some z=>if 0≤z∧z < tab.length then z else -1
   | none=> -1:=by
   unfold iE
   rw [if_neg (by omega),hrow,hc]
   rfl
  rw [hN]
  refine W27 ?_
  refine bz 11 [(0,.v),(1,.v),(2,.v),(3,.v),(4,.v),(5,.v),(6,.v),(7,.v),(8,.v),(9,.v),(10,.v)] none ?_ trivial rfl (by kernel_rfl) (by kernel_rfl) (by kernel_rfl) bX (by kernel_rfl) rfl
  refine W18 ?_
  refine LQ [3,7,39] KZ ?_
  refine W01 ?_
  refine ce [3,7,8] (c < 0∨(ea.length:Int)≤c) rfl (fun Q' K=>?_) (fun hC2=>?_) (fun hC2=>?_)
  ·repeat' (first|refine a7 ?_|refine LG a5 KZ ?_|refine LO KZ ?_|refine LP LB ?_|refine LR LA (fun _=>?_) (fun _=>?_))
   all_goals exact K _ _ rfl rfl (by simp_all <;> omega)
  ·refine W07 ?_
   refine LM KZ ?_
   by_cases h0:c < 0
   ·rw [if_pos h0]
   ·rw [if_neg h0,List.getElem?_eq_none (by omega)]
  ·obtain ⟨z,hz⟩:∃z,ea[c.toNat]?=some z:=⟨_,Iy (by omega)⟩
   have hzg:=bW hz
   rw [if_neg (fun h=>hC2 (.inl h)),hz]
   dsimp only
   refine W10 ?_
   refine ce [9] (0≤z∧z < tab.length) rfl (fun Q' K=>?_) (fun hC3=>?_) (fun hC3=>?_)
   ·repeat' (first|refine a7 ?_|refine LG a5 KZ ?_|refine LO KZ ?_|refine LP LB ?_|refine LR LA (fun _=>?_) (fun _=>?_))
    all_goals exact K _ _ rfl rfl (by simp_all <;> omega)
   ·rw [if_pos hC3]
    refine W07 ?_
    exact LN LA
   ·rw [if_neg hC3]
    refine W1m ?_
    exact LN LA
instance (s g:Int):AD Tryz.prog 302 [IH cls tab ends,aI s,aI g] (aI (iE cls tab s g)):=⟨E2 cls tab ends s g⟩
theorem lA {ends:List Nat} (h:∀z∈ends,z < 18446744073709551616) (s:Int):jq ends s < 18446744073709551616:=by
 unfold jq
 split
 ·decide
 ·rw [List.getD_eq_getElem?_getD]
  cases hz:ends[s.toNat]? with
  | none=>decide
  | some z=>exact h z (Lw hz)
theorem E7 {a b:Nat} (ha:a < 18446744073709551616) (hb:b < 18446744073709551616):a ||| b < 18446744073709551616:=Nat.or_lt_two_pow (n:=64) ha hb
theorem wf {cls:List Int} {tab:List (List Int)} {ends:List Nat} (h:∀z∈ends,z < 18446744073709551616):∀(gl:List Int) (s:Int) (told:Nat),told < 18446744073709551616→mG cls tab ends s gl told < 18446744073709551616
 | [],_,_,ht=>ht
 | g::r,s,told,ht=>by
  rw [mG]
  split
  ·exact ht
  ·exact wf h r _ _ (E7 ht (lA h _))
theorem wg (h:∀z∈ends,z < 18446744073709551616) (gl:List Int):gp cls tab ends gl < 18446744073709551616:=wf h gl 0 _ (lA h _)
theorem wh (hE:∀z∈ends,z < 18446744073709551616) (gl:List Int):c5 Tryz.prog 286 [IH cls tab ends,.imm 1 (aQ gl)] (jA (gp cls tab ends gl)):=by
 refine aS Tryz.func286 rfl Tryz.ntmps286 rfl fun B=>?_
 have hgl:=aX gl
 refine cW 1 rfl rfl fun hlen=>?_
 repeat' (first|refine a9 ?_|refine a4 ?_|refine ai ?_|refine a6 ?_|refine a7 ?_|refine LG a5 KZ ?_|refine bk ?_|(apply bw;refine bn ?_)|fail)
 refine aN [2,12,13] (α:=Nat×Int×Nat) (fun x=>[(14,aI x.1),(5,aI x.2.1),(6,jA x.2.2)]) (fun x=>x.1≤gl.length∧x.2.2 < 18446744073709551616∧mG cls tab ends x.2.1 (gl.drop x.1) x.2.2=gp cls tab ends gl) (fun _=>[]) (fun x=>gl.length - x.1) (0,0,jq ends 0) rfl ⟨rfl,rfl,rfl,trivial⟩ ⟨Nat.zero_le _,lA hE 0,rfl⟩ (fun _ _ h=>h) ?_
 rintro ⟨i,s,told⟩ ⟨hi,ht,hr⟩
 dsimp only at hi ht hr ⊢
 try dsimp only [Lr,Lq,Lp,Li]
 refine W01 ?_
 refine ar rfl (fun h=>?_) (fun h=>?_)
 ·have hil:i < gl.length:=by have:=Lz h;omega
  obtain ⟨z,hz⟩:∃z,gl[i]?=some z:=⟨_,Iy hil⟩
  have hzg:=bW hz
  have hd:gl.drop i=z::gl.drop (i+1):=by
   rw [List.drop_eq_getElem_cons hil,(Ln hz).2]
  rw [hd,mG] at hr
  clear h
  refine W1v ?_
  refine ar rfl (fun h=>?_) (fun h=>?_)
  ·have h2:iE cls tab s z= -1:=Lz h
   rw [if_pos h2] at hr
   refine W0U ?_
   refine LM KZ ?_
   rw [hr]
  ·have h2:¬iE cls tab s z= -1:=Ly h
   rw [if_neg h2] at hr
   repeat' (first|refine a4 ?_|refine aj ?_|refine a6 ?_|refine LG a5 KZ ?_|(apply bw;refine bn ?_)|fail)
   refine uc rfl rfl rfl ?_
   rw [u64_or_nat _ _ ht (lA hE _)]
   refine W05 ?_
   exact aC (i+1,iE cls tab s z,told ||| jq ends (iE cls tab s z)) rfl ⟨by rw [Lv];rfl,rfl,rfl,trivial⟩ ⟨hil,E7 ht (lA hE _),hr⟩ (by dsimp only;omega) (fun _ _ h=>h)
 ·have hil:i=gl.length:=by have:=Ly h;omega
  subst hil
  rw [List.drop_length,mG] at hr
  refine W02 ?_
  refine LM KZ ?_
  rw [hr]
end
abbrev Cb (e:om):AV:= .agg (IW e)
structure tC (e:om):Prop where
 fore:∀z∈e.foreE,z < 18446744073709551616
 back:∀z∈e.backE,z < 18446744073709551616
theorem De (e:om) (h:tC e) (gl:List Int):c5 Tryz.prog 257 [Cb e,.imm 1 (aQ gl)] (jA (gp e.cls e.fore e.foreE gl)):=by
 refine aS Tryz.func257 rfl Tryz.ntmps257 rfl fun B=>?_
 haveI:=AD.mk (wh e.cls e.fore e.foreE h.fore gl)
 refine W17 ?_
 exact LN LA
theorem CD (e:om) (h:tC e) (gl:List Int):c5 Tryz.prog 256 [Cb e,.imm 1 (aQ gl)] (jA (gp e.cls e.back e.backE gl)):=by
 refine aS Tryz.func256 rfl Tryz.ntmps256 rfl fun B=>?_
 haveI:=AD.mk (wh e.cls e.back e.backE h.back gl)
 refine W17 ?_
 exact LN LA
def l7:List Int:=[0,1,56,2,57,49,28,3,61,58,42,50,38,29,17,4,62,47,59,36,45,43,51,22,53,39,33,30,24,18,12,5,63,55,48,27,60,41,37,16,46,35,44,21,52,32,23,11,54,26,40,15,34,20,31,10,25,14,19,9,13,8,7,6]
def ya:List AV:=l7.map fun z=> .sc (.int .u8 z)
abbrev ct:Nat×AB:=(0,.box ya 364)
def KV (x:Int):Int:=bits .and .u64 x (IntKind.u64.wrap (0 - x))
def Kd (x:Int):Int:=IntKind.u64.wrap (KV x * 285870213051353865) / 2 ^ min 58 IntKind.u64.bits
def JG (x:Nat):Int:=l7.getD (Kd x).toNat 0
theorem wu:∀(n:Nat),n < 64→n≠0→0≤Kd (n:Nat)∧Kd (n:Nat) < 64:=by decide+kernel
theorem EM:∀(n:Nat),n < 64→∀(i:Nat),i < 6→n.testBit i=true→(∀(j:Nat),j < i→n.testBit j=false)→JG n=(i:Nat):=by decide+kernel
theorem EF {k:Nat} (h:k < 64):ya[0+k * 1]?=some (.sc (.int .u8 (l7.getD k 0))):=by
 have hl:l7.length=64:=rfl
 unfold ya
 rw [List.getElem?_map,Nat.zero_add,Nat.mul_one,Iy (by omega),List.getD_eq_getElem?_getD,Iy (by omega)]
 rfl
theorem Jv (x:Nat) (hx:x < 64) (h0:x≠0):AC Tryz.prog 258 [jA x] [ct] fun c L=>c=aI (JG x)∧L=[ct]:=by
 refine aS Tryz.func258 rfl Tryz.ntmps258 rfl fun B=>?_
 have hz:¬((x:Int)=0):=by omega
 obtain ⟨k,hk⟩:=Int.eq_ofNat_of_zero_le (wu x hx h0).1
 have hk64:k < 64:=by have:=(wu x hx h0).2;omega
 have hkc:=EF hk64
 refine W01 ?_
 refine ar rfl (fun h=>absurd (Lz h) hz) (fun _=>?_)
 refine W0e ?_
 refine If rfl rfl ?_
 refine oP rfl rfl rfl ?_
 refine Ie rfl rfl rfl ?_
 refine xP 58 rfl rfl rfl rfl ?_
 refine xK a5 k rfl rfl rfl hk hk64 rfl ?_
 refine LL a5 0 LA hkc rfl ?_
 refine uf a5 rfl rfl rfl rfl rfl rfl ?_
 refine W0c ?_
 refine LM KZ ⟨?_,rfl⟩
 unfold JG
 rw [hk,Int.toNat_natCast]
 have hb:∀k < 64,IntKind.i64.wrap (l7.getD k 0)=l7.getD k 0:=by decide
 rw [hb k hk64]
def tP (b:Nat):Int:=if b=0 then -1 else JG b
theorem zK (e:om) (h:tC e) (bg fg:List Int) (hb:gp e.cls e.back e.backE bg &&& gp e.cls e.fore e.foreE fg < 64):AC Tryz.prog 189 [Cb e,.imm 1 (aQ bg),.imm 1 (aQ fg)] [ct] fun c L=>c=aI (tP (gp e.cls e.back e.backE bg &&& gp e.cls e.fore e.foreE fg))∧L=[ct]:=by
 refine aS Tryz.func189 rfl Tryz.ntmps189 rfl fun B=>?_
 haveI:=AD.mk (De e h fg)
 haveI:=AD.mk (CD e h bg)
 have h1:=wg e.cls e.back e.backE h.back bg
 have h2:=wg e.cls e.fore e.foreE h.fore fg
 refine W0b ?_
 refine bz 5 [(0,.v),(1,.v),(2,.v),(3,.v),(4,.v)] none ?_ trivial rfl (by kernel_rfl) (by kernel_rfl) (by kernel_rfl) bX (by kernel_rfl) rfl
 refine W0W ?_
 refine LQ [10,11,12] KZ ?_
 repeat' (first|(apply bw;refine bn ?_)|fail)
 refine oP rfl rfl rfl ?_
 rw [u64_and_nat _ _ h1 h2]
 generalize gp e.cls e.back e.backE bg &&& gp e.cls e.fore e.foreE fg=b at hb ⊢
 refine W01 ?_
 unfold tP
 refine ar rfl (fun h=>?_) (fun h=>?_)
 ·have hb0:b=0:=by have:=Lz h;omega
  rw [if_pos hb0]
  refine W07 ?_
  exact LM KZ ⟨rfl,rfl⟩
 ·have hb0:b≠0:=by have:=Ly h;omega
  rw [if_neg hb0]
  refine W0e ?_
  refine b9 [ct] [] (Jv b hb hb0) rfl rfl (Lm _) rfl fun c L1 ⟨hc,hL⟩=>?_
  subst hc;subst hL
  refine W0c ?_
  exact LM KZ ⟨rfl,rfl⟩
end Go.Proofs.YtpmdfoaadejmkaaGreatDoor
namespace Go.Proofs.YtpmdfoaadejmkaaGreatDoor
open Go.RowKit
attribute [local irreducible] AT br AX AO Av Kt b7 dm DA cA
open Go.ChangeShapes Go.WideShapes Go.ChangeAt Go.RowKit
theorem Tryz.own:ownKnob Tryz.prog.godebug=none:=by kernel_rfl
theorem Tryz.laidOut:laidOutB Tryz.prog=true:=by kernel_rfl
theorem J4:Tryz.prog.globalNamed "math/bits.deBruijn64tab" =some 0:=by kernel_rfl
theorem Df:(Tryz.prog.globals[0]?).map (·.type)=some 364:=by kernel_rfl
theorem CK:Tryz.prog.cellsOf 364=64:=by kernel_rfl
theorem Fl:Tryz.prog.cellsOf 5=1:=by kernel_rfl
theorem Iv:(((begin Tryz.prog (fun _ _=>0) default).world.heap)[0]?).bind Obj.row?=some ((List.replicate 64 (Value.int .u8 0)).toArray,364):=by kernel_rfl
def J7:List (String×DataW Unit):=[("math/bits.deBruijn64tab",Lib.tabData .u8 l7)]
theorem EE {W:World} (hL:laidMet Tryz.prog J7 W) (hS:W.ShapedOpen Tryz.prog):W.heap[0]?=some (.cells (l7.map (Value.int .u8)).toArray 364 (0,0)):=by
 have h:Lib.TabIs Tryz.prog W "math/bits.deBruijn64tab" .u8 l7:=Lib.tabIs_of_head (rest:=[]) J4 Df Tryz.underlying364 Tryz.underlying5 Fl CK hL
 obtain ⟨cs,h1,_,_⟩:=hS.1 0 _ 364 (Lz (by kernel_rfl)) Iv
 unfold Lib.TabIs World.var? at h
 rw [J4,Option.bind_some,h1] at h
 cases h
 exact h1
def pN (W:World):Mem:=fun b off=>if b=0 then none else W.cell? ⟨b,off,none⟩
theorem GM {σ:Mem}:cS σ ya (l7.map (Value.int .u8)):=by
 unfold ya
 generalize l7=l
 induction l with
 | nil=>exact cS.nil
 | cons x l ih=>exact cS.cons (.sc _) ih
theorem wx {σ:Mem} {vs:List Value} (h:cS σ ya vs):vs=l7.map (Value.int .u8):=by
 unfold ya at h
 revert vs
 generalize l7=l
 induction l with
 | nil=>
  intro vs h
  exact List.eq_nil_of_length_eq_zero h.1.symm
 | cons x l ih=>
  intro vs h
  obtain ⟨y,u,rfl,h1,h2⟩:=cS.inv h
  rw [h1.sc_inv,ih h2]
  rfl
theorem G1 {W:World} (h:W.heap[0]?=some (.cells (l7.map (Value.int .u8)).toArray 364 (0,0))):cL ⟨W,pN W,[0]⟩ (pN W) [ct] W:=by
 have h0:0 < W.heap.size:=by
  rcases Nat.lt_or_ge 0 W.heap.size with h' | h'
  ·exact h'
  ·rw [Array.getElem?_eq_none h'] at h;cases h
 refine ⟨rfl,rfl,rfl,Nat.le_refl _,fun _ _ _=>rfl,fun p hp=>?_,fun p hp=>?_,by simp,fun b off u hu=>?_,fun p hp off _=>?_,fun _ _ _ h=>h,fun _ _ _ _=>rfl,fun b off u hb hu=>?_⟩
 ·rw [Lj hp]
  exact ⟨_,h,_,rfl,GM,fun u hu=>by
   obtain ⟨z,_,rfl⟩:=List.mem_map.1 hu
   rfl⟩
 ·rw [Lj hp]
  exact .inr (by simp)
 ·unfold pN at hu
  split at hu
  ·cases hu
  ·exact hu
 ·rw [Lj hp]
  rfl
 ·unfold pN at hu
  split at hu
  ·cases hu
  ·rename_i hb0
   rcases hb with hb | hb
   ·exact absurd (iW hu) (Nat.not_lt.2 hb)
   ·exact absurd (Lj hb) hb0
theorem BF {f:FuncId} {args:List AV} {u:Value} (h:AC Tryz.prog f args [ct] fun c L=>c= .sc u∧L=[ct]) (W:World) (hT:W.heap[0]?=some (.cells (l7.map (Value.int .u8)).toArray 364 (0,0))) (vs:List Value) (hv:cS (pN W) args vs):Calls Tryz.prog f vs.toArray W fun e W'=>∃v,e= .returned v∧Below W.heap.size W W'∧v=u:=
 (h (pN W) W vs hv (G1 hT)).mono fun e W' ⟨v,τ,c,L',he,hr,hst,hc,hL⟩=>by
  subst hc
  subst hL
  refine ⟨v,he,⟨hst.os,hst.tape,hst.output,hst.size,fun k hk=>?_⟩,hr.sc_inv⟩
  by_cases h0:k=0
  ·subst h0
   obtain ⟨o,h1,vs',h2,h3,_⟩:=hst.here ct (by simp)
   rw [h1,h2,hT,wx h3]
  ·exact hst.old k hk (by simp [h0])
end Go.Proofs.YtpmdfoaadejmkaaGreatDoor
namespace Go.Proofs.YtpmdfoaadejmkaaGreatDoor
open Go.RowKit
attribute [local irreducible] AT br AX AO Av Kt b7 dm DA cA
def H1 (q:List Nat):Nat→List aR→List aR
 | _,[]=>[]
 | k,x::r=>if k∈q then H1 q (k+1) r else x::H1 q (k+1) r
end Go.Proofs.YtpmdfoaadejmkaaGreatDoor
