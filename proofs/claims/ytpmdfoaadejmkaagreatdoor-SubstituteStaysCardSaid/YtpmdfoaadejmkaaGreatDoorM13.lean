/-
  An engine's run: its memory; which items are seen.
-/
import Derived.Test.YtpmdfoaadejmkaaGreatDoorM05
import Derived.Test.YtpmdfoaadejmkaaGreatDoorM12
import Derived.Test.YtpmdfoaadejmkaaGreatDoorM11
import Derived.Laws.Shifts
import Derived.Laws.Pointers
import Derived.Laws.BitsAllLaws
import Derived.Test.YtpmdfoaadejmkaaGreatDoorRows
import Derived.WalkKit
import Derived.ProofKit
import Derived.OpenShut
import Derived.ChangeOld
import Derived.SizedLaws
import Derived.Deep.DeepHandedRow
import Derived.Lib.LaidTab
namespace Go.Proofs.YtpmdfoaadejmkaaGreatDoor
open Go.RowKit
attribute [local irreducible] AT bv AX AO Av Kt b9 dh DA cE
abbrev fQ (b:Nat):AV:= .sc (.pointer (some ⟨b,0,none⟩))
abbrev qa:AV:= .sc (.pointer none)
structure fT where
 rb:Nat
 cap:Nat
 junk:List AV
def bY (run:List aM):List AV:=(run.map bz).flatten
def ey (q:Option fT) (run:List aM):AV:=match q with
 | none=> .imm 6 []
 | some m=> .sc (.slice (some ⟨m.rb,0,none⟩) run.length m.cap)
def nI (q:Option fT) (run:List aM):AL:=match q with
 | none=>[]
 | some m=>[(m.rb,.box (bY run++m.junk) 67)]
structure dJ (q:Option fT) (run:List aM):Prop where
 emp:q=none→run=[]
 fit:∀m,q=some m→run.length≤m.cap∧m.cap≤maxLen∧m.cap * 6≤(bY run++m.junk).length
abbrev uR (wb:Nat) (eng:AV) (q:Option fT) (run:List aM):AL:=(wb,.box [eng,ey q run] 102)::nI q run
theorem dc (run:List aM):(bY run).length=run.length * 6:=by
 induction run with
 | nil=>rfl
 | cons x r ih=>simp [bY] at ih ⊢;simp [bz,ih];omega
theorem lH (x:aM) (r:List aM):bY (x::r)=bz x++bY r:=by simp [bY]
theorem hY (a b:List aM):bY (a++b)=bY a++bY b:=by simp [bY]
theorem rm:∀{run:List aM} {i j:Nat} {x:aM} {u:AV} (junk:List AV),run[i]?=some x→(bz x)[j]?=some u→(bY run++junk)[i * 6+j]?=some u
 | [],i,_,_,_,_,h,_=>by simp at h
 | y::r,0,j,x,u,junk,h,hj=>by
  simp at h
  subst h
  rw [lH,List.append_assoc,Nat.zero_mul,Nat.zero_add,List.getElem?_append_left (Ju hj).1]
  exact hj
 | y::r,i+1,j,x,u,junk,h,hj=>by
  rw [lH,List.append_assoc,List.getElem?_append_right (by simp [bz];omega)]
  have:=rm (i:=i) junk (by simpa using h) hj
  rw [show (i+1) * 6+j - (bz y).length=i * 6+j by simp [bz];omega]
  exact this
structure oH where
 l:aN
 cls:List Int
 fore:List (List Int)
 back:List (List Int)
 foreE:List Nat
 backE:List Nat
abbrev iY (z:Nat):AV:= .sc (.int .u64 (z:Int))
def gi (l:List Nat):List (List AV):=l.map fun z=>[iY z]
def eN (r:bb):bb:={ r with Back:=[],Ahead:=[] }
def iT (l:aN):aN:={ l with Rules:=l.Rules.map eN }
def GA (e:oH):List AV:=[.imm 1 (aT e.cls),.imm 1 (b7 e.fore),.imm 1 (b7 e.back),.imm 1 (gi e.foreE),.imm 1 (gi e.backE)]
def fk (e:oH):List AV:=[aF e.l.Kind,ec e.l.Ignore,.imm 6 ((iT e.l).Rules.map bB),.imm 1 (aT e.cls),.imm 1 (b7 e.fore),.imm 1 (b7 e.back),.imm 1 (gi e.foreE),.imm 1 (gi e.backE),aF (fJ e.l.Rules),aF (i6 e.l.Rules)]
def nf (l:List Bool):List (List AV):=l.map fun b=>[ec b]
theorem tD (l:List Bool):(nf l).length=l.length:=by simp [nf]
theorem Ae {l:List Bool} {i:Nat} {b:Bool} (h:l[i]?=some b):(nf l)[i]?=some [ec b]:=by simp [nf,h]
structure oz where
 lks:List oH
 ms:List Bool
def dp (E:oz):List AV:=[.imm 10 (E.lks.map fk),.imm 1 (nf E.ms)]
theorem dJ.lt {q:Option fT} {run:List aM} (h:dJ q run) {i:Nat} (hi:i < run.length):∃m,q=some m:=by
 cases q with
 | none=>rw [h.emp rfl] at hi;simp at hi
 | some m=>exact ⟨m,rfl⟩
section
variable {P:Program} {tt:TT} {r:Option Nat} {ops:Array Oper} {Q:Exit→Act→World→Prop} {nt:Nat} {D:List Deferred} {fr:bW} {B:Bs} {L:AL} {rest:List Oper} {d:Nat} {ty t t':TypeId} {pos:String} {af:Array Edge} {g:Option (Nat×Bool)} {x y z:Operand} {q:Option fT} {run:List aM}
theorem Fc {dd:Option Tmp} {e sz by_:Nat} (hc:ka P t e sz by_) (hq:dJ q run) (hx:bc fr x=some (ey q run)):Av P ⟨dd,.call ⟨.builtin .len,#[x],#[t]⟩,ty,pos,af,g⟩ fr (.sc (.int .i64 run.length)):=by
 cases q with
 | none=>
  rw [hq.emp rfl] at hx ⊢
  exact v3 hc hx rfl
 | some m=>exact zL hc hx
theorem lM (ok:dX P tt) {e sz by_:Nat} (ht:jm tt t=some (e,sz,by_)) (hq:dJ q run) (hx:bc fr x=some (ey q run)) (hd:Nat.ble nt d=false) (h:bv P r ops Q nt D rest ((d,.sc (.int .i64 run.length))::fr) B L):bv P r ops Q nt D (⟨some d,.call ⟨.builtin .len,#[x],#[t]⟩,ty,pos,af,none⟩::rest) fr B L:=c9 (Fc (bj ok ht).1 hq hx) hd rfl h
end
theorem o0 {run:List aM} {i j:Nat} {x:aM} {u:AV} (junk:List AV) (h:run[i]?=some x) (hj:(bz x)[j]?=some u):(bY run++junk)[0+((i:Nat):Int).toNat * 6+j]?=some u:=by
 rw [Int.toNat_natCast,Nat.zero_add]
 exact rm junk h hj
set_option maxHeartbeats 1000000 in
theorem sX (E:oz) (e:oH) (wb:Nat) (m:fT) (run:List aM) (i:Nat) (x:aM) (hx:run[i]?=some x):AC Tryz.prog 186 [fQ wb,.iptr (fk e),aF i] (uR wb (.iptr (dp E)) (some m) run) fun c L=>c=ec (ot E.ms e.l.Ignore x)∧L=uR wb (.iptr (dp E)) (some m) run:=by
 refine aL Tryz.func186 rfl Tryz.ntmps186 rfl fun B=>?_
 have hil:=(Ju hx).1
 have h0:=o0 (j:=0) m.junk hx rfl
 have hbl:=tD E.ms
 repeat' (first|refine IT ?_|refine IF a5 G9 ?_)
 refine bA 16 [(0,.v),(1,.v),(2,.v),(3,.l),(4,.v),(5,.v),(6,.v),(7,.l),(8,.v),(9,.v),(10,.v),(11,.l),(12,.v),(13,.v),(14,.v),(15,.v)] none ?_ trivial rfl (by kernel_rfl) (by kernel_rfl) (by kernel_rfl) bU (by kernel_rfl) rfl
 repeat' (first|refine aD ?_|refine b8 a5 ?_|refine bZ a5 0 rfl rfl rfl rfl (by first|trivial|rfl) ?_)
 refine d9 a5 rfl rfl rfl ⟨by omega,by omega⟩ trivial ?_
 repeat' (first|refine aD ?_|refine b8 a5 ?_|fail)
 refine bZ a5 1 rfl rfl rfl h0 trivial ?_
 repeat' (first|refine aD ?_|refine b8 a5 ?_|refine bZ a5 0 rfl rfl rfl rfl (by first|trivial|rfl) ?_)
 refine IQ [1,7,23] G9 ?_
 have hs:ot E.ms e.l.Ignore x=(!e.l.Ignore || (decide (x.Glyph < 0) || (decide (x.Glyph≥E.ms.length) || !(E.ms.getD x.Glyph.toNat false)))):=by
  unfold ot EJ
  by_cases h1:0≤x.Glyph
  ·by_cases h2:x.Glyph≥E.ms.length
   ·rw [List.getD_eq_getElem?_getD,List.getElem?_eq_none (by omega)];simp [h1,h2]
   ·rw [decide_eq_false h2,decide_eq_false (by omega:¬x.Glyph < 0),decide_eq_true h1];cases e.l.Ignore <;> simp
  ·simp [h1,show x.Glyph < 0 by omega]
 rw [hs]
 repeat' (first|refine IT ?_|refine IF a5 G9 ?_|refine IM G9 ?_|refine IP IB ?_|refine IR IA (fun _=>?_) (fun _=>?_))
 ·rename_i h1 h2 h3
  have h4:¬((nf E.ms).length:Int)≤x.Glyph:=Ix h3
  have h5:=Ix h2
  obtain ⟨b,hb⟩:∃b,E.ms[x.Glyph.toNat]?=some b:=⟨_,Iz (by omega)⟩
  have hbg:=Ae hb
  repeat' (first|refine IT ?_|refine IF a5 G9 ?_|refine IM G9 ?_|(apply aS;first|refine aQ a5 ?_|refine aG a5 ?_)|fail)
  refine IL G9 ⟨?_,rfl⟩
  rw [h1,h2,decide_eq_false (by omega:¬x.Glyph≥E.ms.length),List.getD_eq_getElem?_getD,hb]
  rfl
 ·rename_i h1 h2 h3
  refine IL G9 ⟨?_,rfl⟩
  rw [hbl] at h3
  rw [h1,h2,show decide (x.Glyph≥E.ms.length)=true from h3]
  rfl
 ·rename_i h1 h2
  refine IL G9 ⟨?_,rfl⟩
  rw [h1,h2]
  rfl
 ·rename_i h1
  refine IL G9 ⟨?_,rfl⟩
  rw [h1]
  rfl
end Go.Proofs.YtpmdfoaadejmkaaGreatDoor
namespace Go.Proofs.YtpmdfoaadejmkaaGreatDoor
open Go.RowKit
attribute [local irreducible] AT bv AX AO Av Kt b9 dh DA cE
section
variable {ms:List Bool} {ig:Bool} {run:List aM}
theorem rr {i:Nat} (h:run.length≤i):dZ ms ig run i=[]:=by
 unfold dZ
 rw [show run.length - i=0 by omega]
 rfl
theorem lJ {i:Nat} (h:i < run.length):dZ ms ig run i=if jO ms ig run i=true then i::dZ ms ig run (i+1) else dZ ms ig run (i+1):=by
 unfold dZ
 rw [show run.length - i=(run.length - (i+1))+1 by omega,List.range'_succ,List.filter_cons]
theorem nJ {i:Nat} {x:aM} (h:run[i]?=some x):jO ms ig run i=ot ms ig x:=by
 unfold jO
 rw [h]
theorem vL {i:Nat} {x:aM} (h:run[i]?=some x):ee run i=x.Glyph:=by
 unfold ee
 rw [h]
theorem AZ {i:Nat}:∀p∈dZ ms ig run i,i≤p∧p < run.length∧jO ms ig run p=true:=fun p hp=>by
 unfold dZ at hp
 obtain ⟨h1,h2⟩:=List.mem_filter.1 hp
 obtain ⟨h3,h4⟩:=List.mem_range'_1.1 h1
 exact ⟨h3,by omega,h2⟩
end
end Go.Proofs.YtpmdfoaadejmkaaGreatDoor
namespace Go.Proofs.YtpmdfoaadejmkaaGreatDoor
open Go.RowKit
attribute [local irreducible] AT bv AX AO Av Kt b9 dh DA cE
def d3 (l:List Nat):List (List AV):=aT (l.map Int.ofNat)
theorem lb (l:List Nat):(d3 l).length=l.length:=by simp [d3,aT]
theorem yI (l:List Nat) (i:Nat):d3 l++[[aF i]]=d3 (l++[i]):=by simp [d3,aT]
def oB (run:List aM) (l:List Nat):List (List AV):=aT (l.map (ee run))
theorem B5 (run:List aM) (l:List Nat):(oB run l).length=l.length:=by simp [oB,aT]
theorem B4 {run:List aM} (l:List Nat) {i:Nat} {x:aM} (h:run[i]?=some x):oB run l++[[aF x.Glyph]]=oB run (l++[i]):=by simp [oB,aT,vL h]
def f8 (ms:List Bool) (ig:Bool) (run:List aM) (up:Bool) (a:Int):List Nat:=if up=true then dZ ms ig run a.toNat else m5 ms ig run (a+1).toNat
def mY (up:Bool):Int:=if up=true then 1 else -1
def ly (run:List aM) (up:Bool) (a:Int):Prop:= -1≤a∧(up=true→0≤a)∧(up=false→a < run.length)
theorem z6 {ms:List Bool} {ig:Bool} {run:List aM} {up:Bool} {a:Int} (h:ly run up a) (ho:¬(0≤a∧a < run.length)):f8 ms ig run up a=[]:=by
 obtain ⟨h1,h2,h3⟩:=h
 unfold f8
 cases up with
 | true=>exact rr (by have:=h2 rfl;omega)
 | false=>
  have:=h3 rfl
  rw [show (a+1).toNat=0 by omega]
  rfl
theorem Ce {ms:List Bool} {ig:Bool} {run:List aM} {up:Bool} {a:Int} (h0:0≤a) (h1:a < run.length):f8 ms ig run up a=if jO ms ig run a.toNat=true then a.toNat::f8 ms ig run up (a+mY up) else f8 ms ig run up (a+mY up):=by
 unfold f8 mY
 cases up with
 | true=>
  rw [if_pos rfl,if_pos rfl,if_pos rfl,lJ (by omega),show (a+1).toNat=a.toNat+1 by omega]
 | false=>
  simp only [Bool.false_eq_true,if_false]
  rw [show (a+1).toNat=a.toNat+1 by omega,m5,show (a+ -1+1).toNat=a.toNat by omega]
theorem ly.next {run:List aM} {up:Bool} {a:Int} (h0:0≤a) (h1:a < run.length):ly run up (a+mY up):=by
 unfold ly mY
 cases up <;> simp <;> omega
def o7 (run:List aM) (up:Bool) (a:Int):Nat:=if up=true then (run.length - a).toNat else (a+1).toNat
theorem vS {run:List aM} {up:Bool} {a:Int} (h0:0≤a) (h1:a < run.length):o7 run up (a+mY up) < o7 run up a:=by
 unfold o7 mY
 cases up <;> simp <;> omega
set_option maxHeartbeats 4000000 in
theorem xm (E:oz) (e:oH) (wb:Nat) (q:Option fT) (run:List aM) (hq:dJ q run) (hr:run.length≤1000000) (up:Bool) (a:Int) (ha:ly run up a) (ha2:a≤1000000) (most:Nat):AC Tryz.prog 188 [fQ wb,.iptr (fk e),aF a,aF (mY up),aF most] (uR wb (.iptr (dp E)) q run) fun c L=>c= .tup [.imm 1 (d3 ((f8 E.ms e.l.Ignore run up a).take most)),.imm 1 (oB run ((f8 E.ms e.l.Ignore run up a).take most))]∧L=uR wb (.iptr (dp E)) q run:=by
 refine aL Tryz.func188 rfl Tryz.ntmps188 rfl fun B=>?_
 repeat' (first|refine IT ?_|refine am ?_|refine IF a5 G9 ?_)
 refine bP (bS (t:=10) (c':= .vec none 1 []) rfl fun σ v h=>cL 1 h) ?_
 refine bP (bS (t:=11) (c':= .vec none 1 []) rfl fun σ v h=>cL 1 h) ?_
 refine aO [0,1,3,4] (α:=Int×List Nat×Option (Nat×Nat)×Option (Nat×Nat)) (fun x=>[(12,aF x.1),(10,.vec x.2.2.1 1 (d3 x.2.1)),(11,.vec x.2.2.2 1 (oB run x.2.1))]) (fun x=>ly run up x.1∧x.1≤1000000∧f8 E.ms e.l.Ignore run up a=x.2.1++f8 E.ms e.l.Ignore run up x.1∧x.2.1.length≤most∧x.2.1.length+o7 run up x.1≤o7 run up a) (fun x=>uR wb (.iptr (dp E)) q run++(tok x.2.2.1 3 1 (d3 x.2.1).length++tok x.2.2.2 3 1 (oB run x.2.1).length)) (fun x=>o7 run up x.1) (a,[],none,none) rfl ⟨rfl,rfl,rfl,trivial⟩ ⟨ha,ha2,by simp,Nat.zero_le _,by simp⟩ (fun _ _ h=>by simpa [tok] using h) ?_
 have hlN:o7 run up a≤1000001:=by
  have:=ha.1
  unfold o7
  have:=ha.2.1
  cases up <;> simp at this ⊢ <;> omega
 rintro ⟨k,ps,q1,q2⟩ ⟨hk,hk2,hps,hpl,hpk⟩
 dsimp only at hk hk2 hps hpl hpk ⊢
 have hnl:=lb ps
 have hgl:=B5 run ps
 try dsimp only [Jx,Jw,Jv,Jq]
 repeat' (first|refine IT ?_|refine IF a5 G9 ?_)
 refine c7 [0,1,3,4,10,11,12] ((0≤k∧k < run.length)∧ps.length < most) rfl (fun Q' K=>?_) (fun hC=>?_) (fun hC=>?_)
 ·repeat' (first|refine IT ?_|refine IF a5 G9 ?_|refine IM G9 ?_|refine IP IB ?_|(apply bw;first|refine II a5 0 IC ?_|refine II a5 1 IC ?_|refine II a5 2 IC ?_|refine II a5 3 IC ?_|refine IJ a5 0 IC ?_|refine IJ a5 1 IC ?_|refine IJ a5 2 IC ?_|refine IK a5 1 IA (by assumption) rfl ?_|refine IK a5 0 IA (by assumption) rfl ?_|fail)|refine IR IA (fun _=>?_) (fun _=>?_))
  ·refine lM a5 rfl hq rfl rfl ?_
   repeat' (first|refine IT ?_|refine IF a5 G9 ?_|refine IM G9 ?_|refine IP IB ?_|refine IR IA (fun _=>?_) (fun _=>?_))
   all_goals exact K _ _ rfl rfl (by simp_all <;> omega)
  ·exact K _ _ rfl rfl (by simp_all <;> omega)
 ·obtain ⟨⟨h0,h1⟩,h2⟩:=hC
  obtain ⟨m,rfl⟩:=hq.lt (i:=k.toNat) (by omega)
  obtain ⟨x,hx⟩:∃x,run[k.toNat]?=some x:=⟨_,Iz (by omega)⟩
  have hk0:((k.toNat:Nat):Int)=k:=Int.toNat_of_nonneg h0
  have hse:=sX E e wb m run k.toNat x hx
  rw [hk0] at hse
  have hst:=Ce (ms:=E.ms) (ig:=e.l.Ignore) (up:=up) h0 h1
  rw [nJ hx] at hst
  have hnx:=ly.next (up:=up) h0 h1
  have hln:=vS (up:=up) h0 h1
  have hk3:k+mY up≤1000000:=by have:=hnx.1;unfold mY;split <;> omega
  have hk4: -9223372036854775808≤k+mY up∧k+mY up≤9223372036854775807:=by have:=hnx.1;omega
  repeat' (first|refine IT ?_|refine am ?_|refine IF a5 G9 ?_)
  refine aX (uR wb (.iptr (dp E)) (some m) run) _ hse rfl rfl (Jt _) rfl fun c L1 ⟨hc,hL⟩=>?_
  subst hc;subst hL
  repeat' (first|refine IT ?_|fail)
  refine ar rfl (fun hb=>?_) (fun hb=>?_)
  ·rw [hb,if_pos rfl] at hst
   repeat' (first|refine IT ?_|refine IF a5 G9 ?_|refine bH a5 ?_|fail)
   refine bM a5 (uR wb (.iptr (dp E)) (some m) run++tok q2 3 1 (oB run ps).length) rfl rfl rfl rfl ?_ (by rw [hnl];simp;omega) (by rw [hnl];simp;omega) rfl fun q1'=>?_
   ·exact (List.perm_append_comm_assoc ..)
   refine aJ (aI (L':=uR wb (.iptr (dp E)) (some m) run++(tok q1' 3 1 (d3 ps++[[aF k]]).length++tok q2 3 1 (oB run ps).length)) (List.perm_append_comm_assoc ..)) ?_
   have hg0:=o0 (j:=0) m.junk hx rfl
   rw [hk0] at hg0
   repeat' (first|refine IT ?_|refine IF a5 G9 ?_|(apply bw;first|refine II a5 0 IC ?_|refine II a5 1 IC ?_|refine II a5 2 IC ?_|refine II a5 3 IC ?_|refine IJ a5 0 IC ?_|refine IJ a5 1 IC ?_|refine IJ a5 2 IC ?_|refine IK a5 1 IA (by assumption) rfl ?_|refine IK a5 0 IA (by assumption) rfl ?_|fail)|(apply aS;first|refine aQ a5 ?_|refine aG a5 ?_)|refine bH a5 ?_|fail)
   refine bM a5 (uR wb (.iptr (dp E)) (some m) run++tok q1' 3 1 (d3 ps++[[aF k]]).length) rfl rfl rfl rfl ?_ (by rw [hgl];simp;omega) (by rw [hgl];simp;omega) rfl fun q2'=>?_
   ·rw [←List.append_assoc]
    exact List.perm_append_comm
   refine aJ (aI (L':=uR wb (.iptr (dp E)) (some m) run++(tok q1' 3 1 (d3 ps++[[aF k]]).length++tok q2' 3 1 (oB run ps++[[aF x.Glyph]]).length)) (List.perm_append_comm.trans (by rw [List.append_assoc]))) ?_
   repeat' (first|refine IT ?_|refine IF a5 G9 ?_|(apply aV;refine aU ?_)|fail)
   have e1:d3 ps++[[aF k]]=d3 (ps++[k.toNat]):=by rw [←yI,hk0]
   have e2:=B4 ps hx
   exact aC (k+mY up,ps++[k.toNat],q1',q2') rfl ⟨rfl,by rw [←e1];rfl,by rw [←e2];rfl,trivial⟩ ⟨hnx,hk3,by rw [hps,hst];simp,by rw [List.length_append,List.length_singleton];omega,by rw [List.length_append,List.length_singleton];dsimp only;omega⟩ hln (fun _ _ h=>by dsimp only;rw [←e1,←e2];exact h)
  ·rw [hb,if_neg (by decide)] at hst
   repeat' (first|refine IT ?_|refine IF a5 G9 ?_|(apply aV;refine aU ?_)|fail)
   exact aC (k+mY up,ps,q1,q2) rfl ⟨rfl,rfl,rfl,trivial⟩ ⟨hnx,hk3,by rw [hps,hst],hpl,by dsimp only;omega⟩ hln (fun _ _ h=>h)
 ·have hres:(f8 E.ms e.l.Ignore run up a).take most=ps:=by
   by_cases h1:ps.length < most
   ·rw [hps,z6 hk (fun h=>hC ⟨h,h1⟩),List.append_nil,List.take_of_length_le (by omega)]
   ·rw [hps,List.take_append_of_le_length (by omega),List.take_of_length_le (by omega)]
  rw [hres]
  repeat' (first|refine IT ?_|refine IF a5 G9 ?_)
  refine eP (L':=uR wb (.iptr (dp E)) q run) (List.sublist_append_left ..) ?_
  refine bh (bS (t:=10) (c':= .imm 1 (d3 ps)) rfl fun σ v h=>VR.im h) ?_
  refine bh (bS (t:=11) (c':= .imm 1 (oB run ps)) rfl fun σ v h=>VR.im h) ?_
  exact IS IA ⟨rfl,rfl⟩
end Go.Proofs.YtpmdfoaadejmkaaGreatDoor
namespace Go.Proofs.YtpmdfoaadejmkaaGreatDoor
open Go.RowKit
section
variable {P:Program} {tt:TT} {r:Option Nat} {ops:Array Oper} {Q:Exit→Act→World→Prop} {nt:Nat} {D:List Deferred} {fr:bW} {B:Bs} {L:AL} {rest:List Oper} {d:Nat} {ty t t':TypeId} {pos:String} {af:Array Edge} {g:Option (Nat×Bool)} {x y z:Operand} {u:AV}
theorem Fm {dd:Option Tmp} {k kk:IntKind} {a b:Int} (i:Nat) (hx:bc fr x=some (.sc (.int k a))) (hy:bc fr y=some (.sc (.int kk b))) (hb:b=(i:Int)):Av P ⟨dd,.binOp .shr t x y t',ty,pos,af,g⟩ fr (.sc (.int k (a / 2 ^ min i k.bits))):=by
 intro σ ρ w hρ _
 subst hb
 refine ⟨_,?_,.sc _⟩
 have h:=shift_shr_any k kk a (i:Int) (Int.natCast_nonneg i)
 simp [execOp,(hρ x _ hx).sc_inv,(hρ y _ hy).sc_inv,eqGuard,binOp,h]
theorem F2 {dd:Option Tmp} {k:IntKind} {a b:Int} (hx:bc fr x=some (.sc (.int k a))) (hy:bc fr y=some (.sc (.int k b))):Av P ⟨dd,.binOp .and t x y t',ty,pos,af,g⟩ fr (.sc (.int k (bits .and k a b))):=by
 intro σ ρ w hρ _
 refine ⟨_,?_,.sc _⟩
 simp [execOp,(hρ x _ hx).sc_inv,(hρ y _ hy).sc_inv,eqGuard,binOp,intBits_and]
theorem wB {dd:Option Tmp} {k:IntKind} {a b:Int} (hx:bc fr x=some (.sc (.int k a))) (hy:bc fr y=some (.sc (.int k b))):Av P ⟨dd,.binOp .or t x y t',ty,pos,af,g⟩ fr (.sc (.int k (bits .or k a b))):=by
 intro σ ρ w hρ _
 refine ⟨_,?_,.sc _⟩
 simp [execOp,(hρ x _ hx).sc_inv,(hρ y _ hy).sc_inv,eqGuard,binOp,intBits_or]
theorem w6 (i:Nat) {k kk:IntKind} {a b:Int} (hx:bc fr x=some (.sc (.int k a))) (hy:bc fr y=some (.sc (.int kk b))) (hb:b=(i:Int)) (hd:Nat.ble nt d=false) (h:bv P r ops Q nt D rest ((d,.sc (.int k (a / 2 ^ min i k.bits)))::fr) B L):
  bv P r ops Q nt D (⟨some d,.binOp .shr t x y t',ty,pos,af,none⟩::rest) fr B L:=c9 (Fm i hx hy hb) hd rfl h
theorem pX {k:IntKind} {a b:Int} (hx:bc fr x=some (.sc (.int k a))) (hy:bc fr y=some (.sc (.int k b))) (hd:Nat.ble nt d=false) (h:bv P r ops Q nt D rest ((d,.sc (.int k (bits .and k a b)))::fr) B L):
  bv P r ops Q nt D (⟨some d,.binOp .and t x y t',ty,pos,af,none⟩::rest) fr B L:=c9 (F2 hx hy) hd rfl h
theorem sF {k:IntKind} {a b:Int} (hx:bc fr x=some (.sc (.int k a))) (hy:bc fr y=some (.sc (.int k b))) (hd:Nat.ble nt d=false) (h:bv P r ops Q nt D rest ((d,.sc (.int k (bits .or k a b)))::fr) B L):
  bv P r ops Q nt D (⟨some d,.binOp .or t x y t',ty,pos,af,none⟩::rest) fr B L:=c9 (wB hx hy) hd rfl h
end
end Go.Proofs.YtpmdfoaadejmkaaGreatDoor
namespace Go.Proofs.YtpmdfoaadejmkaaGreatDoor
open Go.RowKit
def yR:AV→Option Bool
 | .iptr _=>some false
 | .sc (.pointer none)=>some true
 | .sc (.pointer (some _))=>some false
 | _=>none
theorem rM {u:AV} {b:Bool} (h:yR u=some b) {σ:ci} {v:Value} (hv:VR σ u v):∃p,v= .pointer p∧p.isNone=b:=by
 unfold yR at h
 split at h
 ·cases h
  obtain ⟨b',off,h1,_⟩:=hv.iptr_inv
  exact ⟨_,h1,rfl⟩
 ·cases h
  exact ⟨none,hv.sc_inv,rfl⟩
 ·cases h
  exact ⟨_,hv.sc_inv,rfl⟩
 ·cases h
section
variable {P:Program} {fr:bW} {B:Bs} {L:AL} {d:Option Tmp} {ty t t':TypeId} {pos:String} {af:Array Edge} {g:Option (Nat×Bool)} {x y z q:Operand} {u:AV}
theorem qg {e:TypeId} (h:P.underlying t=some (.pointer e)):P.underlying t=some (.pointer (P.pointee t)):=by
 rw [show P.pointee t=e by simp [Program.pointee,h]];exact h
theorem F9 {e:TypeId} {b:Bool} (ht:P.underlying t=some (.pointer e)) (hx:bc fr x=some u) (hu:yR u=some b) (hy:bc fr y=some (.sc (.pointer none))):Av P ⟨d,.binOp .eql t x y t',ty,pos,af,g⟩ fr (.sc (.bool b)):=fun σ ρ w hρ _=>by
 obtain ⟨p,hp,hb⟩:=rM hu (hρ x u hx)
 refine ⟨_,?_,.sc _⟩
 subst hb
 simp [execOp,hp,(hρ y _ hy).sc_inv,eqGuard,run_eql_pointer_nil w t p (qg ht)]
theorem Fg {e:TypeId} {b:Bool} (ht:P.underlying t=some (.pointer e)) (hx:bc fr x=some u) (hu:yR u=some b) (hy:bc fr y=some (.sc (.pointer none))):Av P ⟨d,.binOp .neq t x y t',ty,pos,af,g⟩ fr (.sc (.bool (!b))):=fun σ ρ w hρ _=>by
 obtain ⟨p,hp,hb⟩:=rM hu (hρ x u hx)
 refine ⟨_,?_,.sc _⟩
 subst hb
 simp [execOp,hp,(hρ y _ hy).sc_inv,eqGuard,run_neq_pointer_nil w t p (qg ht)]
theorem F1 {n e sz k b off:Nat} {qq:IntKind} {a:Int} (ht:P.underlying t=some (.array n e)) (hs:(P.info? e).map (·.size)=some sz) (hx:bc fr x=some (.sc (.pointer (some ⟨b,off,none⟩)))) (hy:bc fr y=some (.sc (.int qq a))) (ha:a=(k:Int)) (hk:k < n):Av P ⟨d,.indexAddr t x y,ty,pos,af,g⟩ fr (.sc (.pointer (some ⟨b,off+k * sz,none⟩))):=
 fun σ ρ w hρ _=>by
  subst ha
  have hyv:=(hρ y _ hy).sc_inv
  have hv:=(hρ x _ hx).sc_inv
  have hk':(k:Int) < (n:Int):=by omega
  have hso:(sizeOf e:Sem Nat).run P w= .ok sz w:=by
   cases hi:P.info? e with
   | none=>rw [hi] at hs;cases hs
   | some i=>rw [hi] at hs;simp at hs;simp [sizeOf,typeInfo,hi,hs]
  refine ⟨.pointer (some ⟨b,off+k * sz,none⟩),?_,.sc _⟩
  simp [execOp,hv,hyv,Instr.indexAt,asIntOf,run_underlying ht,hk',hso,Instr.sureAddr,Addr.add]
  by_cases hn:n≤1 <;> by_cases h0:k * sz=0 <;> simp [hn,run_underlying ht,hso,hk,h0]
theorem CV {e sz by_:Nat} {parts:Array (Nat×Operand)} (hc:ka P t e sz by_) (hsz:0 < sz) (hp:parts=#[]):AO P ⟨d,.buildSlice t 0 parts,ty,pos,af,g⟩ fr B L (fun c L'=>∃b,c= .sc (.slice (some ⟨b,0,none⟩) 0 0)∧L'=(b,.box [] e)::L):=by
 intro σ ρ w hρ hw
 subst hp
 haveI:=hc
 have hr:=Cb (P:=P) (t:=t) (by simpa [Nat.blt_eq] using hsz) [] (by simp) (by simp [Nat.ble_eq]) w
 simp at hr
 unfold gV
 rw [show (execOp ρ ⟨d,.buildSlice t 0 #[],ty,pos,af,g⟩).run P w= .ok (.value (.slice (some ⟨w.heap.size,0,none⟩) 0 0)) (w.alloc (.cells #[] e)) by
  simp [execOp,hr]]
 exact ⟨σ,.sc _,_,ci.le_refl _,.sc _,hw.alloc _ (.box [] e) ⟨[],rfl,d7.nil,by simp⟩,_,rfl,rfl⟩
end
section
variable {P:Program} {tt:TT} {r:Option Nat} {ops:Array Oper} {Q:Exit→Act→World→Prop} {nt:Nat} {D:List Deferred} {fr:bW} {B:Bs} {L:AL} {rest:List Oper} {d:Nat} {ty t t':TypeId} {pos:String} {af:Array Edge} {x y z:Operand} {u:AV}
theorem nC {e:TypeId} {b:Bool} (ht:P.underlying t=some (.pointer e)) (hx:bc fr x=some u) (hu:yR u=some b) (hy:bc fr y=some (.sc (.pointer none))) (hd:Nat.ble nt d=false) (h:bv P r ops Q nt D rest ((d,.sc (.bool b))::fr) B L):bv P r ops Q nt D (⟨some d,.binOp .eql t x y t',ty,pos,af,none⟩::rest) fr B L:=c9 (F9 ht hx hu hy) hd rfl h
theorem sK {e:TypeId} {b:Bool} (ht:P.underlying t=some (.pointer e)) (hx:bc fr x=some u) (hu:yR u=some b) (hy:bc fr y=some (.sc (.pointer none))) (hd:Nat.ble nt d=false) (h:bv P r ops Q nt D rest ((d,.sc (.bool (!b)))::fr) B L):bv P r ops Q nt D (⟨some d,.binOp .neq t x y t',ty,pos,af,none⟩::rest) fr B L:=c9 (Fg ht hx hu hy) hd rfl h
theorem w3 (ok:dX P tt) (k:Nat) {n e sz b off:Nat} {q:IntKind} {a:Int} (ht:xP tt t=some (n,e,sz)) (hx:bc fr x=some (.sc (.pointer (some ⟨b,off,none⟩)))) (hy:bc fr y=some (.sc (.int q a))) (ha:a=(k:Int)) (hk:k < n) (hd:Nat.ble nt d=false) (h:bv P r ops Q nt D rest ((d,.sc (.pointer (some ⟨b,off+k * sz,none⟩)))::fr) B L):
  bv P r ops Q nt D (⟨some d,.indexAddr t x y,ty,pos,af,none⟩::rest) fr B L:=c9 (F1 (hH ok ht).1 (hH ok ht).2 hx hy ha hk) hd rfl h
theorem FS (ok:dX P tt) {e sz by_:Nat} (ht:jm tt t=some (e,sz,by_)) (hd:Nat.ble nt d=false) (h:∀b,bv P r ops Q nt D rest ((d,.sc (.slice (some ⟨b,0,none⟩) 0 0))::fr) B ((b,.box [] e)::L)):
  bv P r ops Q nt D (⟨some d,.buildSlice t 0 #[],ty,pos,af,none⟩::rest) fr B L:=cK hd rfl (CV (bj ok ht).1 (bj ok ht).2 rfl) fun c L' ⟨b,h1,h2⟩=>by subst h1;subst h2;exact h b
theorem FT {k:IntKind} {a b:Int} (hx:bc fr x=some (.sc (.int k a))) (hy:bc fr y=some (.sc (.int k b))) (hd:Nat.ble nt d=false) (h:bv P r ops Q nt D rest ((d,.sc (.int k (k.wrap (a * b))))::fr) B L):bv P r ops Q nt D (⟨some d,.binOp .mul t x y t',ty,pos,af,none⟩::rest) fr B L:=c9 (Ez hx hy) hd rfl h
theorem FU {k:IntKind} {a:Int} (hx:bc fr x=some (.sc (.int k a))) (hd:Nat.ble nt d=false) (h:bv P r ops Q nt D rest ((d,.sc (.int k (k.wrap (0 - a))))::fr) B L):bv P r ops Q nt D (⟨some d,.unOp .neg t x,ty,pos,af,none⟩::rest) fr B L:=c9 (Gv hx) hd rfl h
theorem sH (ok:dX P tt) {a:Int} {q q':IntKind} {ti ti':TI} (hx:bc fr x=some (.sc (.int q a))) (ht:d6 tt t=some ti) (hk:ti.k= .int q) (ht':d6 tt t'=some ti') (hk':ti'.k= .int q') (hd:Nat.ble nt d=false) (h:bv P r ops Q nt D rest ((d,.sc (.int q' (q'.wrap a)))::fr) B L):
  bv P r ops Q nt D (⟨some d,.convert t t' x,ty,pos,af,none⟩::rest) fr B L:=by
 haveI:=ok.int ht hk
 haveI:=ok.int ht' hk'
 exact c9 (qY hx) hd rfl h
end
end Go.Proofs.YtpmdfoaadejmkaaGreatDoor
namespace Go.Proofs.YtpmdfoaadejmkaaGreatDoor
open Go.RowKit
attribute [local irreducible] AT bv AX AO Av Kt b9 dh DA cE
abbrev Gk (cls:List Int) (tab:List (List Int)) (ends:List Nat):AV:= .agg [.imm 1 (aT cls),.imm 1 (b7 tab),.imm 1 (gi ends)]
theorem mV (l:List Nat):(gi l).length=l.length:=by simp [gi]
theorem uP {l:List Nat} {i:Nat} {z:Nat} (h:l[i]?=some z):(gi l)[i]?=some [iY z]:=by simp [gi,h]
section
variable (cls:List Int) (tab:List (List Int)) (ends:List Nat)
theorem Ad (s:Int):bN Tryz.prog 301 [Gk cls tab ends,aF s] (iY (iH ends s)):=by
 refine aL Tryz.func301 rfl Tryz.ntmps301 rfl fun B=>?_
 have hel:=mV ends
 repeat' (first|refine IT ?_|refine IF a5 G9 ?_|refine bo ?_|fail)
 refine c7 [1,2] (s < 0∨(ends.length:Int)≤s) rfl (fun Q' K=>?_) (fun hC=>?_) (fun hC=>?_)
 ·repeat' (first|refine IT ?_|refine IF a5 G9 ?_|refine IM G9 ?_|refine IP IB ?_|refine IR IA (fun _=>?_) (fun _=>?_))
  all_goals exact K _ _ rfl rfl (by simp_all <;> omega)
 ·repeat' (first|refine IT ?_|refine IF a5 G9 ?_)
  refine IL G9 ?_
  unfold iH
  rcases hC with h | h
  ·rw [if_pos h];rfl
  ·by_cases h0:s < 0
   ·rw [if_pos h0];rfl
   ·rw [if_neg h0,List.getD_eq_getElem?_getD,List.getElem?_eq_none (by omega)];rfl
 ·obtain ⟨z,hz⟩:∃z,ends[s.toNat]?=some z:=⟨_,Iz (by omega)⟩
  have hzg:=uP hz
  repeat' (first|refine IT ?_|refine IF a5 G9 ?_|(apply aS;first|refine aQ a5 ?_|refine aG a5 ?_)|fail)
  refine IL G9 ?_
  unfold iH
  rw [if_neg (fun h=>hC (.inl h)),List.getD_eq_getElem?_getD,hz]
  rfl
instance (s:Int):AD Tryz.prog 301 [Gk cls tab ends,aF s] (iY (iH ends s)):=⟨Ad cls tab ends s⟩
theorem BO (s g:Int):bN Tryz.prog 302 [Gk cls tab ends,aF s,aF g] (aF (gS cls tab s g)):=by
 refine aL Tryz.func302 rfl Tryz.ntmps302 rfl fun B=>?_
 have hcl:=b6 cls
 have htl:=cn tab
 repeat' (first|refine IT ?_|refine IF a5 G9 ?_|refine bo ?_|fail)
 refine c7 [1,2,3] ((s < 0∨(tab.length:Int)≤s)∨(g < 0∨(cls.length:Int)≤g)) rfl (fun Q' K=>?_) (fun hC=>?_) (fun hC=>?_)
 ·repeat' (first|refine IT ?_|refine IF a5 G9 ?_|refine IM G9 ?_|refine IP IB ?_|refine IR IA (fun _=>?_) (fun _=>?_))
  all_goals exact K _ _ rfl rfl (by simp_all <;> omega)
 ·repeat' (first|refine IT ?_|refine IF a5 G9 ?_)
  refine IL G9 ?_
  unfold gS
  by_cases h0:s < 0∨g < 0
  ·rw [if_pos h0]
  ·rw [if_neg h0]
   split
   ·rename_i h1 h2
    have:=(Ju h1).1
    have:=(Ju h2).1
    omega
   ·rfl
 ·obtain ⟨eH,hrow⟩:∃z,tab[s.toNat]?=some z:=⟨_,Iz (by omega)⟩
  obtain ⟨c,hc⟩:∃z,cls[g.toNat]?=some z:=⟨_,Iz (by omega)⟩
  have hrg:=gu hrow
  have hcg:=bR hc
  have hrl:=b6 eH
  have hN:gS cls tab s g=if c < 0 then -1 else match eH[c.toNat]? with
   | some z=>if 0≤z∧z < tab.length then z else -1
   | none=> -1:=by
   unfold gS
   rw [if_neg (by omega),hrow,hc]
   rfl
  rw [hN]
  repeat' (first|refine IT ?_|fail)
  refine bA 11 [(0,.v),(1,.v),(2,.v),(3,.v),(4,.v),(5,.v),(6,.v),(7,.v),(8,.v),(9,.v),(10,.v)] none ?_ trivial rfl (by kernel_rfl) (by kernel_rfl) (by kernel_rfl) bU (by kernel_rfl) rfl
  repeat' (first|refine aD ?_|refine b8 a5 ?_|(apply cB;refine cT a5 ?_)|fail)
  refine IQ [3,7,39] G9 ?_
  repeat' (first|refine IT ?_|refine a7 ?_|refine IF a5 G9 ?_)
  refine c7 [3,7,8] (c < 0∨(eH.length:Int)≤c) rfl (fun Q' K=>?_) (fun hC2=>?_) (fun hC2=>?_)
  ·repeat' (first|refine IT ?_|refine IF a5 G9 ?_|refine IM G9 ?_|refine IP IB ?_|refine IR IA (fun _=>?_) (fun _=>?_))
   all_goals exact K _ _ rfl rfl (by simp_all <;> omega)
  ·repeat' (first|refine IT ?_|refine IF a5 G9 ?_)
   refine IL G9 ?_
   by_cases h0:c < 0
   ·rw [if_pos h0]
   ·rw [if_neg h0,List.getElem?_eq_none (by omega)]
  ·obtain ⟨z,hz⟩:∃z,eH[c.toNat]?=some z:=⟨_,Iz (by omega)⟩
   have hzg:=bR hz
   rw [if_neg (fun h=>hC2 (.inl h)),hz]
   dsimp only
   repeat' (first|refine IT ?_|refine IF a5 G9 ?_|(apply aS;first|refine aQ a5 ?_|refine aG a5 ?_)|fail)
   refine c7 [9] (0≤z∧z < tab.length) rfl (fun Q' K=>?_) (fun hC3=>?_) (fun hC3=>?_)
   ·repeat' (first|refine IT ?_|refine IF a5 G9 ?_|refine IM G9 ?_|refine IP IB ?_|refine IR IA (fun _=>?_) (fun _=>?_))
    all_goals exact K _ _ rfl rfl (by simp_all <;> omega)
   ·rw [if_pos hC3]
    repeat' (first|refine IT ?_|refine IF a5 G9 ?_)
    exact IN IA
   ·rw [if_neg hC3]
    repeat' (first|refine IT ?_|refine IF a5 G9 ?_)
    exact IN IA
instance (s g:Int):AD Tryz.prog 302 [Gk cls tab ends,aF s,aF g] (aF (gS cls tab s g)):=⟨BO cls tab ends s g⟩
theorem kq {ends:List Nat} (h:∀z∈ends,z < 18446744073709551616) (s:Int):iH ends s < 18446744073709551616:=by
 unfold iH
 split
 ·decide
 ·rw [List.getD_eq_getElem?_getD]
  cases hz:ends[s.toNat]? with
  | none=>decide
  | some z=>exact h z (Iw hz)
theorem BT {a b:Nat} (ha:a < 18446744073709551616) (hb:b < 18446744073709551616):a ||| b < 18446744073709551616:=Nat.or_lt_two_pow (n:=64) ha hb
theorem uy {cls:List Int} {tab:List (List Int)} {ends:List Nat} (h:∀z∈ends,z < 18446744073709551616):∀(gl:List Int) (s:Int) (told:Nat),told < 18446744073709551616→lr cls tab ends s gl told < 18446744073709551616
 | [],_,_,ht=>ht
 | g::r,s,told,ht=>by
  rw [lr]
  split
  ·exact ht
  ·exact uy h r _ _ (BT ht (kq h _))
theorem uz (h:∀z∈ends,z < 18446744073709551616) (gl:List Int):fL cls tab ends gl < 18446744073709551616:=uy h gl 0 _ (kq h _)
theorem uA (hE:∀z∈ends,z < 18446744073709551616) (gl:List Int):bN Tryz.prog 286 [Gk cls tab ends,.imm 1 (aT gl)] (iY (fL cls tab ends gl)):=by
 refine aL Tryz.func286 rfl Tryz.ntmps286 rfl fun B=>?_
 have hgl:=b6 gl
 refine cJ 1 rfl rfl fun hlen=>?_
 repeat' (first|refine IT ?_|refine am ?_|refine IF a5 G9 ?_|refine bo ?_|(apply bk;refine bf ?_)|fail)
 refine aO [2,12,13] (α:=Nat×Int×Nat) (fun x=>[(14,aF x.1),(5,aF x.2.1),(6,iY x.2.2)]) (fun x=>x.1≤gl.length∧x.2.2 < 18446744073709551616∧lr cls tab ends x.2.1 (gl.drop x.1) x.2.2=fL cls tab ends gl) (fun _=>[]) (fun x=>gl.length - x.1) (0,0,iH ends 0) rfl ⟨rfl,rfl,rfl,trivial⟩ ⟨Nat.zero_le _,kq hE 0,rfl⟩ (fun _ _ h=>h) ?_
 rintro ⟨i,s,told⟩ ⟨hi,ht,hr⟩
 dsimp only at hi ht hr ⊢
 try dsimp only [Jx,Jw,Jv,Jq]
 repeat' (first|refine IT ?_|refine IF a5 G9 ?_)
 refine ar rfl (fun h=>?_) (fun h=>?_)
 ·have hil:i < gl.length:=by have:=Iy h;omega
  obtain ⟨z,hz⟩:∃z,gl[i]?=some z:=⟨_,Iz hil⟩
  have hzg:=bR hz
  have hd:gl.drop i=z::gl.drop (i+1):=by
   rw [List.drop_eq_getElem_cons hil,(Ju hz).2]
  rw [hd,lr] at hr
  clear h
  repeat' (first|refine IT ?_|refine am ?_|refine IF a5 G9 ?_|(apply aS;first|refine aQ a5 ?_|refine aG a5 ?_)|(apply bk;refine bf ?_)|fail)
  refine ar rfl (fun h=>?_) (fun h=>?_)
  ·have h2:gS cls tab s z= -1:=Iy h
   rw [if_pos h2] at hr
   repeat' (first|refine IT ?_|refine dP rfl ?_|refine IF a5 G9 ?_)
   refine IL G9 ?_
   rw [hr]
  ·have h2:¬gS cls tab s z= -1:=Ix h
   rw [if_neg h2] at hr
   repeat' (first|refine IT ?_|refine IF a5 G9 ?_|(apply bk;refine bf ?_)|fail)
   refine sF rfl rfl rfl ?_
   rw [u64_or_nat _ _ ht (kq hE _)]
   repeat' (first|refine IT ?_|refine IF a5 G9 ?_|(apply aV;refine aU ?_)|fail)
   exact aC (i+1,gS cls tab s z,told ||| iH ends (gS cls tab s z)) rfl ⟨by rw [Iv];rfl,rfl,rfl,trivial⟩ ⟨hil,BT ht (kq hE _),hr⟩ (by dsimp only;omega) (fun _ _ h=>h)
 ·have hil:i=gl.length:=by have:=Ix h;omega
  subst hil
  rw [List.drop_length,lr] at hr
  repeat' (first|refine IT ?_|refine IF a5 G9 ?_)
  refine IL G9 ?_
  rw [hr]
end
abbrev zF (e:oH):AV:= .agg (GA e)
structure s6 (e:oH):Prop where
 fore:∀z∈e.foreE,z < 18446744073709551616
 back:∀z∈e.backE,z < 18446744073709551616
theorem B0 (e:oH) (h:s6 e) (gl:List Int):bN Tryz.prog 257 [zF e,.imm 1 (aT gl)] (iY (fL e.cls e.fore e.foreE gl)):=by
 refine aL Tryz.func257 rfl Tryz.ntmps257 rfl fun B=>?_
 haveI:=AD.mk (uA e.cls e.fore e.foreE h.fore gl)
 repeat' (first|refine IT ?_|refine IF a5 G9 ?_|refine bo ?_|(apply bk;refine bf ?_)|fail)
 exact IN IA
theorem Aa (e:oH) (h:s6 e) (gl:List Int):bN Tryz.prog 256 [zF e,.imm 1 (aT gl)] (iY (fL e.cls e.back e.backE gl)):=by
 refine aL Tryz.func256 rfl Tryz.ntmps256 rfl fun B=>?_
 haveI:=AD.mk (uA e.cls e.back e.backE h.back gl)
 repeat' (first|refine IT ?_|refine IF a5 G9 ?_|refine bo ?_|(apply bk;refine bf ?_)|fail)
 exact IN IA
def jQ:List Int:=[0,1,56,2,57,49,28,3,61,58,42,50,38,29,17,4,62,47,59,36,45,43,51,22,53,39,33,30,24,18,12,5,63,55,48,27,60,41,37,16,46,35,44,21,52,32,23,11,54,26,40,15,34,20,31,10,25,14,19,9,13,8,7,6]
def wo:List AV:=jQ.map fun z=> .sc (.int .u8 z)
abbrev cM:Nat×AB:=(0,.box wo 364)
def Ir (x:Int):Int:=bits .and .u64 x (IntKind.u64.wrap (0 - x))
def HR (x:Int):Int:=IntKind.u64.wrap (Ir x * 285870213051353865) / 2 ^ min 58 IntKind.u64.bits
def Hm (x:Nat):Int:=jQ.getD (HR x).toNat 0
theorem uO:∀(n:Nat),n < 64→n≠0→0≤HR (n:Nat)∧HR (n:Nat) < 64:=by decide+kernel
theorem Cz:∀(n:Nat),n < 64→∀(i:Nat),i < 6→n.testBit i=true→(∀(j:Nat),j < i→n.testBit j=false)→Hm n=(i:Nat):=by decide+kernel
theorem Cu {k:Nat} (h:k < 64):wo[0+k * 1]?=some (.sc (.int .u8 (jQ.getD k 0))):=by
 have hl:jQ.length=64:=rfl
 unfold wo
 rw [List.getElem?_map,Nat.zero_add,Nat.mul_one,Iz (by omega),List.getD_eq_getElem?_getD,Iz (by omega)]
 rfl
theorem Hb (x:Nat) (hx:x < 64) (h0:x≠0):AC Tryz.prog 258 [iY x] [cM] fun c L=>c=aF (Hm x)∧L=[cM]:=by
 refine aL Tryz.func258 rfl Tryz.ntmps258 rfl fun B=>?_
 have hz:¬((x:Int)=0):=by omega
 obtain ⟨k,hk⟩:=Int.eq_ofNat_of_zero_le (uO x hx h0).1
 have hk64:k < 64:=by have:=(uO x hx h0).2;omega
 have hkc:=Cu hk64
 repeat' (first|refine IT ?_|refine IF a5 G9 ?_)
 refine ar rfl (fun h=>absurd (Iy h) hz) (fun _=>?_)
 repeat' (first|refine IT ?_|refine IF a5 G9 ?_)
 refine FU rfl rfl ?_
 refine pX rfl rfl rfl ?_
 refine FT rfl rfl rfl ?_
 refine w6 58 rfl rfl rfl rfl ?_
 refine w3 a5 k rfl rfl rfl hk hk64 rfl ?_
 refine IK a5 0 IA hkc rfl ?_
 refine sH a5 rfl rfl rfl rfl rfl rfl ?_
 repeat' (first|refine IT ?_|refine IF a5 G9 ?_)
 refine IL G9 ⟨?_,rfl⟩
 unfold Hm
 rw [hk,Int.toNat_natCast]
 have hb:∀k < 64,IntKind.i64.wrap (jQ.getD k 0)=jQ.getD k 0:=by decide
 rw [hb k hk64]
def sl (b:Nat):Int:=if b=0 then -1 else Hm b
theorem xC (e:oH) (h:s6 e) (bg fg:List Int) (hb:fL e.cls e.back e.backE bg &&& fL e.cls e.fore e.foreE fg < 64):AC Tryz.prog 189 [zF e,.imm 1 (aT bg),.imm 1 (aT fg)] [cM] fun c L=>c=aF (sl (fL e.cls e.back e.backE bg &&& fL e.cls e.fore e.foreE fg))∧L=[cM]:=by
 refine aL Tryz.func189 rfl Tryz.ntmps189 rfl fun B=>?_
 haveI:=AD.mk (B0 e h fg)
 haveI:=AD.mk (Aa e h bg)
 have h1:=uz e.cls e.back e.backE h.back bg
 have h2:=uz e.cls e.fore e.foreE h.fore fg
 repeat' (first|refine IT ?_|refine IF a5 G9 ?_|refine bo ?_|fail)
 refine bA 5 [(0,.v),(1,.v),(2,.v),(3,.v),(4,.v)] none ?_ trivial rfl (by kernel_rfl) (by kernel_rfl) (by kernel_rfl) bU (by kernel_rfl) rfl
 repeat' (first|refine aD ?_|refine b8 a5 ?_|(apply dy;refine ej ?_)|fail)
 refine IQ [10,11,12] G9 ?_
 repeat' (first|(apply bk;refine bf ?_)|fail)
 refine pX rfl rfl rfl ?_
 rw [u64_and_nat _ _ h1 h2]
 generalize fL e.cls e.back e.backE bg &&& fL e.cls e.fore e.foreE fg=b at hb ⊢
 repeat' (first|refine IT ?_|refine IF a5 G9 ?_)
 unfold sl
 refine ar rfl (fun h=>?_) (fun h=>?_)
 ·have hb0:b=0:=by have:=Iy h;omega
  rw [if_pos hb0]
  repeat' (first|refine IT ?_|refine IF a5 G9 ?_)
  exact IL G9 ⟨rfl,rfl⟩
 ·have hb0:b≠0:=by have:=Ix h;omega
  rw [if_neg hb0]
  repeat' (first|refine IT ?_|refine IF a5 G9 ?_)
  refine aX [cM] [] (Hb b hb hb0) rfl rfl (Jt _) rfl fun c L1 ⟨hc,hL⟩=>?_
  subst hc;subst hL
  repeat' (first|refine IT ?_|refine IF a5 G9 ?_)
  exact IL G9 ⟨rfl,rfl⟩
end Go.Proofs.YtpmdfoaadejmkaaGreatDoor
namespace Go.Proofs.YtpmdfoaadejmkaaGreatDoor
open Go.RowKit
attribute [local irreducible] AT bv AX AO Av Kt b9 dh DA cE
open Go.ChangeShapes Go.WideShapes Go.ChangeAt Go.RowKit
theorem Tryz.own:ownKnob Tryz.prog.godebug=none:=by kernel_rfl
theorem Tryz.laidOut:laidOutB Tryz.prog=true:=by kernel_rfl
theorem GI:Tryz.prog.globalNamed "math/bits.deBruijn64tab" =some 0:=by kernel_rfl
theorem B3:(Tryz.prog.globals[0]?).map (·.type)=some 364:=by kernel_rfl
theorem Al:Tryz.prog.cellsOf 364=64:=by kernel_rfl
theorem D6:Tryz.prog.cellsOf 5=1:=by kernel_rfl
theorem G6:(((begin Tryz.prog (fun _ _=>0) default).world.heap)[0]?).bind Obj.row?=some ((List.replicate 64 (Value.int .u8 0)).toArray,364):=by kernel_rfl
def GL:List (String×DataW Unit):=[("math/bits.deBruijn64tab",Lib.tabData .u8 jQ)]
theorem Ct {W:World} (hL:laidMet Tryz.prog GL W) (hS:W.ShapedOpen Tryz.prog):W.heap[0]?=some (.cells (jQ.map (Value.int .u8)).toArray 364 (0,0)):=by
 have h:Lib.TabIs Tryz.prog W "math/bits.deBruijn64tab" .u8 jQ:=Lib.tabIs_of_head (rest:=[]) GI B3 Tryz.underlying364 Tryz.underlying5 D6 Al hL
 obtain ⟨cs,h1,_,_⟩:=hS.1 0 _ 364 (Iy (by kernel_rfl)) G6
 unfold Lib.TabIs World.var? at h
 rw [GI,Option.bind_some,h1] at h
 cases h
 exact h1
def pU (W:World):ci:=fun b off=>if b=0 then none else W.cell? ⟨b,off,none⟩
theorem Ep {σ:ci}:d7 σ wo (jQ.map (Value.int .u8)):=by
 unfold wo
 generalize jQ=l
 induction l with
 | nil=>exact d7.nil
 | cons x l ih=>exact d7.cons (.sc _) ih
theorem uQ {σ:ci} {vs:List Value} (h:d7 σ wo vs):vs=jQ.map (Value.int .u8):=by
 unfold wo at h
 revert vs
 generalize jQ=l
 induction l with
 | nil=>
  intro vs h
  exact List.eq_nil_of_length_eq_zero h.1.symm
 | cons x l ih=>
  intro vs h
  obtain ⟨y,u,rfl,h1,h2⟩:=d7.inv h
  rw [h1.sc_inv,ih h2]
  rfl
theorem DO {W:World} (h:W.heap[0]?=some (.cells (jQ.map (Value.int .u8)).toArray 364 (0,0))):cX ⟨W,pU W,[0]⟩ (pU W) [cM] W:=by
 have h0:0 < W.heap.size:=by
  rcases Nat.lt_or_ge 0 W.heap.size with h' | h'
  ·exact h'
  ·rw [Array.getElem?_eq_none h'] at h;cases h
 refine ⟨rfl,rfl,rfl,Nat.le_refl _,fun _ _ _=>rfl,fun p hp=>?_,fun p hp=>?_,by simp,fun b off u hu=>?_,fun p hp off _=>?_,fun _ _ _ h=>h,fun _ _ _ _=>rfl⟩
 ·rw [Jr hp]
  exact ⟨_,h,_,rfl,Ep,fun u hu=>by
   obtain ⟨z,_,rfl⟩:=List.mem_map.1 hu
   rfl⟩
 ·rw [Jr hp]
  exact .inr (by simp)
 ·unfold pU at hu
  split at hu
  ·cases hu
  ·exact hu
 ·rw [Jr hp]
  rfl
theorem zi {f:FuncId} {args:List AV} {u:Value} (h:AC Tryz.prog f args [cM] fun c L=>c= .sc u∧L=[cM]) (W:World) (hT:W.heap[0]?=some (.cells (jQ.map (Value.int .u8)).toArray 364 (0,0))) (vs:List Value) (hv:d7 (pU W) args vs):Calls Tryz.prog f vs.toArray W fun e W'=>∃v,e= .returned v∧Below W.heap.size W W'∧v=u:=
 (h (pU W) W vs hv (DO hT)).mono fun e W' ⟨v,τ,c,L',he,hr,hst,hc,hL⟩=>by
  subst hc
  subst hL
  refine ⟨v,he,⟨hst.os,hst.tape,hst.output,hst.size,fun k hk=>?_⟩,hr.sc_inv⟩
  by_cases h0:k=0
  ·subst h0
   obtain ⟨o,h1,vs',h2,h3,_⟩:=hst.here cM (by simp)
   rw [h1,h2,hT,uQ h3]
  ·exact hst.old k hk (by simp [h0])
end Go.Proofs.YtpmdfoaadejmkaaGreatDoor
namespace Go.Proofs.YtpmdfoaadejmkaaGreatDoor
open Go.RowKit
attribute [local irreducible] AT bv AX AO Av Kt b9 dh DA cE
def EI (q:List Nat):Nat→List aM→List aM
 | _,[]=>[]
 | k,x::r=>if k∈q then EI q (k+1) r else x::EI q (k+1) r
end Go.Proofs.YtpmdfoaadejmkaaGreatDoor
