/-
  An engine's run: its memory; which items are seen.
-/
import Derived.Test.YtpmdfoaadejmkaaGreatDoorM05
import Derived.Test.YtpmdfoaadejmkaaGreatDoorM12
import Derived.Test.YtpmdfoaadejmkaaGreatDoorM11
import Derived.Laws.Shifts
import Derived.Laws.Pointers
import Derived.Laws.BitsAllLaws
import Derived.Test.YtpmdfoaadejmkaaGreatDoorRows
import Derived.WalkKit
import Derived.ProofKit
import Derived.OpenShut
import Derived.ChangeOld
import Derived.SizedLaws
import Derived.Deep.DeepHandedRow
import Derived.Lib.LaidTab
namespace Go.Proofs.YtpmdfoaadejmkaaGreatDoor
open Go.RowKit
attribute [local irreducible] AT bI AX AO Av Kt bi dx DA cK
abbrev g8 (b:Nat):AV:= .sc (.pointer (some ⟨b,0,none⟩))
abbrev IC:AV:= .sc (.pointer none)
structure gc where
 rb:Nat
 cap:Nat
 junk:List AV
def c9 (run:List aJ):List AV:=(run.map aY).flatten
def eW (q:Option gc) (run:List aJ):AV:=match q with
 | none=> .imm 6 []
 | some m=> .sc (.slice (some ⟨m.rb,0,none⟩) run.length m.cap)
def ot (q:Option gc) (run:List aJ):AL:=match q with
 | none=>[]
 | some m=>[(m.rb,.box (c9 run++m.junk) 67)]
structure dW (q:Option gc) (run:List aJ):Prop where
 emp:q=none→run=[]
 fit:∀m,q=some m→run.length≤m.cap∧m.cap≤maxLen∧m.cap * 6≤(c9 run++m.junk).length
abbrev vI (wb:Nat) (eng:AV) (q:Option gc) (run:List aJ):AL:=(wb,.box [eng,eW q run] 102)::ot q run
theorem dm (run:List aJ):(c9 run).length=run.length * 6:=by
 induction run with
 | nil=>rfl
 | cons x r ih=>simp [c9] at ih ⊢;simp [aY,ih];omega
theorem mo (x:aJ) (r:List aJ):c9 (x::r)=aY x++c9 r:=by simp [c9]
theorem iw (a b:List aJ):c9 (a++b)=c9 a++c9 b:=by simp [c9]
theorem sd:∀{run:List aJ} {i j:Nat} {x:aJ} {u:AV} (junk:List AV),run[i]?=some x→(aY x)[j]?=some u→(c9 run++junk)[i * 6+j]?=some u
 | [],i,_,_,_,_,h,_=>by simp at h
 | y::r,0,j,x,u,junk,h,hj=>by
  simp at h
  subst h
  rw [mo,List.append_assoc,Nat.zero_mul,Nat.zero_add,List.getElem?_append_left (Jp hj).1]
  exact hj
 | y::r,i+1,j,x,u,junk,h,hj=>by
  rw [mo,List.append_assoc,List.getElem?_append_right (by simp [aY];omega)]
  have:=sd (i:=i) junk (by simpa using h) hj
  rw [show (i+1) * 6+j - (aY y).length=i * 6+j by simp [aY];omega]
  exact this
structure po where
 l:aL
 cls:List Int
 fore:List (List Int)
 back:List (List Int)
 foreE:List Nat
 backE:List Nat
abbrev jq (z:Nat):AV:= .sc (.int .u64 (z:Int))
def gx (l:List Nat):List (List AV):=l.map fun z=>[jq z]
def eY (r:bc):bc:={ r with Back:=[],Ahead:=[] }
def jm (l:aL):aL:={ l with Rules:=l.Rules.map eY }
def Hu (e:po):List AV:=[.imm 1 (aX e.cls),.imm 1 (b9 e.fore),.imm 1 (b9 e.back),.imm 1 (gx e.foreE),.imm 1 (gx e.backE)]
def fA (e:po):List AV:=[aF e.l.Kind,dV e.l.Ignore,.imm 6 ((jm e.l).Rules.map bB),.imm 1 (aX e.cls),.imm 1 (b9 e.fore),.imm 1 (b9 e.back),.imm 1 (gx e.foreE),.imm 1 (gx e.backE),aF (fU e.l.Rules),aF (iz e.l.Rules)]
def nW (l:List Bool):List (List AV):=l.map fun b=>[dV b]
theorem uv (l:List Bool):(nW l).length=l.length:=by simp [nW]
theorem Bn {l:List Bool} {i:Nat} {b:Bool} (h:l[i]?=some b):(nW l)[i]?=some [dV b]:=by simp [nW,h]
structure pp where
 lks:List po
 ms:List Bool
def ei (E:pp):List AV:=[.imm 10 (E.lks.map fA),.imm 1 (nW E.ms)]
theorem dW.lt {q:Option gc} {run:List aJ} (h:dW q run) {i:Nat} (hi:i < run.length):∃m,q=some m:=by
 cases q with
 | none=>rw [h.emp rfl] at hi;simp at hi
 | some m=>exact ⟨m,rfl⟩
section
variable {P:Program} {tt:TT} {r:Option Nat} {ops:Array Oper} {Q:Exit→Act→World→Prop} {nt:Nat} {D:List Deferred} {fr:c7} {B:Bs} {L:AL} {rest:List Oper} {d:Nat} {ty t t':TypeId} {pos:String} {af:Array Edge} {g:Option (Nat×Bool)} {x y z:Operand} {q:Option gc} {run:List aJ}
theorem Gc {dd:Option Tmp} {e sz by_:Nat} (hc:kH P t e sz by_) (hq:dW q run) (hx:bn fr x=some (eW q run)):Av P ⟨dd,.call ⟨.builtin .len,#[x],#[t]⟩,ty,pos,af,g⟩ fr (.sc (.int .i64 run.length)):=by
 cases q with
 | none=>
  rw [hq.emp rfl] at hx ⊢
  exact vQ hc hx rfl
 | some m=>exact AS hc hx
theorem mt (ok:er P tt) {e sz by_:Nat} (ht:jK tt t=some (e,sz,by_)) (hq:dW q run) (hx:bn fr x=some (eW q run)) (hd:Nat.ble nt d=false) (h:bI P r ops Q nt D rest ((d,.sc (.int .i64 run.length))::fr) B L):bI P r ops Q nt D (⟨some d,.call ⟨.builtin .len,#[x],#[t]⟩,ty,pos,af,none⟩::rest) fr B L:=ce (Gc (br ok ht).1 hq hx) hd rfl h
end
theorem oO {run:List aJ} {i j:Nat} {x:aJ} {u:AV} (junk:List AV) (h:run[i]?=some x) (hj:(aY x)[j]?=some u):(c9 run++junk)[0+((i:Nat):Int).toNat * 6+j]?=some u:=by
 rw [Int.toNat_natCast,Nat.zero_add]
 exact sd junk h hj
set_option maxHeartbeats 1000000 in
theorem tU (E:pp) (e:po) (wb:Nat) (m:gc) (run:List aJ) (i:Nat) (x:aJ) (hx:run[i]?=some x):AC Tryz.prog 186 [g8 wb,.iptr (fA e),aF i] (vI wb (.iptr (ei E)) (some m) run) fun c L=>c=dV (jJ E.ms e.l.Ignore x)∧L=vI wb (.iptr (ei E)) (some m) run:=by
 refine aM Tryz.func186 rfl Tryz.ntmps186 rfl fun B=>?_
 have hil:=(Jp hx).1
 have h0:=oO (j:=0) m.junk hx rfl
 have hbl:=uv E.ms
 repeat' (first|refine Ji ?_|refine JF a5 H6 ?_)
 refine bw 16 [(0,.v),(1,.v),(2,.v),(3,.l),(4,.v),(5,.v),(6,.v),(7,.l),(8,.v),(9,.v),(10,.v),(11,.l),(12,.v),(13,.v),(14,.v),(15,.v)] none ?_ trivial rfl (by kernel_rfl) (by kernel_rfl) (by kernel_rfl) bR (by kernel_rfl) rfl
 repeat' (first|refine aD ?_|refine b7 a5 ?_|refine ca a5 0 rfl rfl rfl rfl (by first|trivial|rfl) ?_)
 refine dl a5 rfl rfl rfl ⟨by omega,by omega⟩ trivial ?_
 repeat' (first|refine aD ?_|refine b7 a5 ?_|fail)
 refine ca a5 1 rfl rfl rfl h0 trivial ?_
 repeat' (first|refine aD ?_|refine b7 a5 ?_|refine ca a5 0 rfl rfl rfl rfl (by first|trivial|rfl) ?_)
 refine JQ [1,7,23] H6 ?_
 have hs:jJ E.ms e.l.Ignore x=(!e.l.Ignore || (decide (x.Glyph < 0) || (decide (x.Glyph≥E.ms.length) || !(E.ms.getD x.Glyph.toNat false)))):=by
  unfold jJ oY
  by_cases h1:0≤x.Glyph
  ·by_cases h2:x.Glyph≥E.ms.length
   ·rw [List.getD_eq_getElem?_getD,List.getElem?_eq_none (by omega)];simp [h1,h2]
   ·rw [decide_eq_false h2,decide_eq_false (by omega:¬x.Glyph < 0),decide_eq_true h1];cases e.l.Ignore <;> simp
  ·simp [h1,show x.Glyph < 0 by omega]
 rw [hs]
 repeat' (first|refine Ji ?_|refine JF a5 H6 ?_|refine JN H6 ?_|refine JO JB ?_|refine JR JA (fun _=>?_) (fun _=>?_))
 ·rename_i h1 h2 h3
  have h4:¬((nW E.ms).length:Int)≤x.Glyph:=Jx h3
  have h5:=Jx h2
  obtain ⟨b,hb⟩:∃b,E.ms[x.Glyph.toNat]?=some b:=⟨_,Jz (by omega)⟩
  have hbg:=Bn hb
  repeat' (first|refine Ji ?_|refine JF a5 H6 ?_|refine JN H6 ?_|(apply aO;first|refine aN a5 ?_|refine aG a5 ?_)|fail)
  refine JL H6 ⟨?_,rfl⟩
  rw [h1,h2,decide_eq_false (by omega:¬x.Glyph≥E.ms.length),List.getD_eq_getElem?_getD,hb]
  rfl
 ·rename_i h1 h2 h3
  refine JL H6 ⟨?_,rfl⟩
  rw [hbl] at h3
  rw [h1,h2,show decide (x.Glyph≥E.ms.length)=true from h3]
  rfl
 ·rename_i h1 h2
  refine JL H6 ⟨?_,rfl⟩
  rw [h1,h2]
  rfl
 ·rename_i h1
  refine JL H6 ⟨?_,rfl⟩
  rw [h1]
  rfl
end Go.Proofs.YtpmdfoaadejmkaaGreatDoor
namespace Go.Proofs.YtpmdfoaadejmkaaGreatDoor
open Go.RowKit
attribute [local irreducible] AT bI AX AO Av Kt bi dx DA cK
section
variable {ms:List Bool} {ig:Bool} {run:List aJ}
theorem oa {i:Nat} (h:run.length≤i):cH ms ig run i=[]:=by
 unfold cH
 rw [show run.length - i=0 by omega]
 rfl
theorem iG {i:Nat} (h:i < run.length):cH ms ig run i=if eX ms ig run i=true then i::cH ms ig run (i+1) else cH ms ig run (i+1):=by
 unfold cH
 rw [show run.length - i=(run.length - (i+1))+1 by omega,List.range'_succ,List.filter_cons]
theorem jI {i:Nat} {x:aJ} (h:run[i]?=some x):eX ms ig run i=jJ ms ig x:=by
 unfold eX
 rw [h]
theorem qy {i:Nat} {x:aJ} (h:run[i]?=some x):cx run i=x.Glyph:=by
 unfold cx
 rw [h]
theorem qx {i:Nat}:∀p∈cH ms ig run i,i≤p∧p < run.length∧eX ms ig run p=true:=fun p hp=>by
 unfold cH at hp
 obtain ⟨h1,h2⟩:=List.mem_filter.1 hp
 obtain ⟨h3,h4⟩:=List.mem_range'_1.1 h1
 exact ⟨h3,by omega,h2⟩
theorem sO {i:Nat} (h:eX ms ig run i=true):i < run.length:=by
 unfold eX at h
 split at h
 ·rename_i hx
  exact (Jp hx).1
 ·cases h
end
end Go.Proofs.YtpmdfoaadejmkaaGreatDoor
namespace Go.Proofs.YtpmdfoaadejmkaaGreatDoor
open Go.RowKit
attribute [local irreducible] AT bI AX AO Av Kt bi dx DA cK
def bW (l:List Nat):List (List AV):=aX (l.map Int.ofNat)
theorem dp (l:List Nat):(bW l).length=l.length:=by simp [bW,aX]
theorem sB (l:List Nat) (i:Nat):bW l++[[aF i]]=bW (l++[i]):=by simp [bW,aX]
def pg (run:List aJ) (l:List Nat):List (List AV):=aX (l.map (cx run))
theorem BY (run:List aJ) (l:List Nat):(pg run l).length=l.length:=by simp [pg,aX]
theorem BX {run:List aJ} (l:List Nat) {i:Nat} {x:aJ} (h:run[i]?=some x):pg run l++[[aF x.Glyph]]=pg run (l++[i]):=by simp [pg,aX,qy h]
def dG (ms:List Bool) (ig:Bool) (run:List aJ) (up:Bool) (a:Int):List Nat:=if up=true then cH ms ig run a.toNat else lW ms ig run (a+1).toNat
def iW (up:Bool):Int:=if up=true then 1 else -1
def je (run:List aJ) (up:Bool) (a:Int):Prop:= -1≤a∧(up=true→0≤a)∧(up=false→a < run.length)
theorem sN {ms:List Bool} {ig:Bool} {run:List aJ} {up:Bool} {a:Int} (h:je run up a) (ho:¬(0≤a∧a < run.length)):dG ms ig run up a=[]:=by
 obtain ⟨h1,h2,h3⟩:=h
 unfold dG
 cases up with
 | true=>exact oa (by have:=h2 rfl;omega)
 | false=>
  have:=h3 rfl
  rw [show (a+1).toNat=0 by omega]
  rfl
theorem nw {ms:List Bool} {ig:Bool} {run:List aJ} {up:Bool} {a:Int} (h0:0≤a) (h1:a < run.length):dG ms ig run up a=if eX ms ig run a.toNat=true then a.toNat::dG ms ig run up (a+iW up) else dG ms ig run up (a+iW up):=by
 unfold dG iW
 cases up with
 | true=>
  rw [if_pos rfl,if_pos rfl,if_pos rfl,iG (by omega),show (a+1).toNat=a.toNat+1 by omega]
 | false=>
  simp only [Bool.false_eq_true,if_false]
  rw [show (a+1).toNat=a.toNat+1 by omega,lW,show (a+ -1+1).toNat=a.toNat by omega]
theorem je.next {run:List aJ} {up:Bool} {a:Int} (h0:0≤a) (h1:a < run.length):je run up (a+iW up):=by
 unfold je iW
 cases up <;> simp <;> omega
def n9 (run:List aJ) (up:Bool) (a:Int):Nat:=if up=true then (run.length - a).toNat else (a+1).toNat
theorem qF {run:List aJ} {up:Bool} {a:Int} (h0:0≤a) (h1:a < run.length):n9 run up (a+iW up) < n9 run up a:=by
 unfold n9 iW
 cases up <;> simp <;> omega
set_option maxHeartbeats 4000000 in
theorem yl (E:pp) (e:po) (wb:Nat) (q:Option gc) (run:List aJ) (hq:dW q run) (hr:run.length≤1000000) (up:Bool) (a:Int) (ha:je run up a) (ha2:a≤1000000) (most:Nat):AC Tryz.prog 188 [g8 wb,.iptr (fA e),aF a,aF (iW up),aF most] (vI wb (.iptr (ei E)) q run) fun c L=>c= .tup [.imm 1 (bW ((dG E.ms e.l.Ignore run up a).take most)),.imm 1 (pg run ((dG E.ms e.l.Ignore run up a).take most))]∧L=vI wb (.iptr (ei E)) q run:=by
 refine aM Tryz.func188 rfl Tryz.ntmps188 rfl fun B=>?_
 repeat' (first|refine Ji ?_|refine am ?_|refine JF a5 H6 ?_)
 refine c5 (bQ (t:=10) (c':= .vec none 1 []) rfl fun σ v h=>cS 1 h) ?_
 refine c5 (bQ (t:=11) (c':= .vec none 1 []) rfl fun σ v h=>cS 1 h) ?_
 refine aP [0,1,3,4] (α:=Int×List Nat×Option (Nat×Nat)×Option (Nat×Nat)) (fun x=>[(12,aF x.1),(10,.vec x.2.2.1 1 (bW x.2.1)),(11,.vec x.2.2.2 1 (pg run x.2.1))]) (fun x=>je run up x.1∧x.1≤1000000∧dG E.ms e.l.Ignore run up a=x.2.1++dG E.ms e.l.Ignore run up x.1∧x.2.1.length≤most∧x.2.1.length+n9 run up x.1≤n9 run up a) (fun x=>vI wb (.iptr (ei E)) q run++(tok x.2.2.1 3 1 (bW x.2.1).length++tok x.2.2.2 3 1 (pg run x.2.1).length)) (fun x=>n9 run up x.1) (a,[],none,none) rfl ⟨rfl,rfl,rfl,trivial⟩ ⟨ha,ha2,by simp,Nat.zero_le _,by simp⟩ (fun _ _ h=>by simpa [tok] using h) ?_
 have hlN:n9 run up a≤1000001:=by
  have:=ha.1
  unfold n9
  have:=ha.2.1
  cases up <;> simp at this ⊢ <;> omega
 rintro ⟨k,ps,q1,q2⟩ ⟨hk,hk2,hps,hpl,hpk⟩
 dsimp only at hk hk2 hps hpl hpk ⊢
 have hnl:=dp ps
 have hgl:=BY run ps
 try dsimp only [Js,Jr,Jq,Jl]
 repeat' (first|refine Ji ?_|refine JF a5 H6 ?_)
 refine bX [0,1,3,4,10,11,12] ((0≤k∧k < run.length)∧ps.length < most) rfl (fun Q' K=>?_) (fun hC=>?_) (fun hC=>?_)
 ·repeat' (first|refine Ji ?_|refine JF a5 H6 ?_|refine JN H6 ?_|refine JO JB ?_|(apply bE;first|refine JI a5 0 JC ?_|refine JI a5 1 JC ?_|refine JI a5 2 JC ?_|refine JI a5 3 JC ?_|refine JJ a5 0 JC ?_|refine JJ a5 1 JC ?_|refine JJ a5 2 JC ?_|refine JK a5 1 JA (by assumption) rfl ?_|refine JK a5 0 JA (by assumption) rfl ?_|fail)|refine JR JA (fun _=>?_) (fun _=>?_))
  ·refine mt a5 rfl hq rfl rfl ?_
   repeat' (first|refine Ji ?_|refine JF a5 H6 ?_|refine JN H6 ?_|refine JO JB ?_|refine JR JA (fun _=>?_) (fun _=>?_))
   all_goals exact K _ _ rfl rfl (by simp_all <;> omega)
  ·exact K _ _ rfl rfl (by simp_all <;> omega)
 ·obtain ⟨⟨h0,h1⟩,h2⟩:=hC
  obtain ⟨m,rfl⟩:=hq.lt (i:=k.toNat) (by omega)
  obtain ⟨x,hx⟩:∃x,run[k.toNat]?=some x:=⟨_,Jz (by omega)⟩
  have hk0:((k.toNat:Nat):Int)=k:=Int.toNat_of_nonneg h0
  have hse:=tU E e wb m run k.toNat x hx
  rw [hk0] at hse
  have hst:=nw (ms:=E.ms) (ig:=e.l.Ignore) (up:=up) h0 h1
  rw [jI hx] at hst
  have hnx:=je.next (up:=up) h0 h1
  have hln:=qF (up:=up) h0 h1
  have hk3:k+iW up≤1000000:=by have:=hnx.1;unfold iW;split <;> omega
  have hk4: -9223372036854775808≤k+iW up∧k+iW up≤9223372036854775807:=by have:=hnx.1;omega
  repeat' (first|refine Ji ?_|refine am ?_|refine JF a5 H6 ?_)
  refine b8 (vI wb (.iptr (ei E)) (some m) run) _ hse rfl rfl (Jo _) rfl fun c L1 ⟨hc,hL⟩=>?_
  subst hc;subst hL
  repeat' (first|refine Ji ?_|fail)
  refine ar rfl (fun hb=>?_) (fun hb=>?_)
  ·rw [hb,if_pos rfl] at hst
   repeat' (first|refine Ji ?_|refine JF a5 H6 ?_|refine bM a5 ?_|fail)
   refine bK a5 (vI wb (.iptr (ei E)) (some m) run++tok q2 3 1 (pg run ps).length) rfl rfl rfl rfl ?_ (by rw [hnl];simp;omega) (by rw [hnl];simp;omega) rfl fun q1'=>?_
   ·exact (List.perm_append_comm_assoc ..)
   refine aI (aQ (L':=vI wb (.iptr (ei E)) (some m) run++(tok q1' 3 1 (bW ps++[[aF k]]).length++tok q2 3 1 (pg run ps).length)) (List.perm_append_comm_assoc ..)) ?_
   have hg0:=oO (j:=0) m.junk hx rfl
   rw [hk0] at hg0
   repeat' (first|refine Ji ?_|refine JF a5 H6 ?_|(apply bE;first|refine JI a5 0 JC ?_|refine JI a5 1 JC ?_|refine JI a5 2 JC ?_|refine JI a5 3 JC ?_|refine JJ a5 0 JC ?_|refine JJ a5 1 JC ?_|refine JJ a5 2 JC ?_|refine JK a5 1 JA (by assumption) rfl ?_|refine JK a5 0 JA (by assumption) rfl ?_|fail)|(apply aO;first|refine aN a5 ?_|refine aG a5 ?_)|refine bM a5 ?_|fail)
   refine bK a5 (vI wb (.iptr (ei E)) (some m) run++tok q1' 3 1 (bW ps++[[aF k]]).length) rfl rfl rfl rfl ?_ (by rw [hgl];simp;omega) (by rw [hgl];simp;omega) rfl fun q2'=>?_
   ·rw [←List.append_assoc]
    exact List.perm_append_comm
   refine aI (aQ (L':=vI wb (.iptr (ei E)) (some m) run++(tok q1' 3 1 (bW ps++[[aF k]]).length++tok q2' 3 1 (pg run ps++[[aF x.Glyph]]).length)) (List.perm_append_comm.trans (by rw [List.append_assoc]))) ?_
   repeat' (first|refine Ji ?_|refine JF a5 H6 ?_|(apply aS;refine aR ?_)|fail)
   have e1:bW ps++[[aF k]]=bW (ps++[k.toNat]):=by rw [←sB,hk0]
   have e2:=BX ps hx
   exact aC (k+iW up,ps++[k.toNat],q1',q2') rfl ⟨rfl,by rw [←e1];rfl,by rw [←e2];rfl,trivial⟩ ⟨hnx,hk3,by rw [hps,hst];simp,by rw [List.length_append,List.length_singleton];omega,by rw [List.length_append,List.length_singleton];dsimp only;omega⟩ hln (fun _ _ h=>by dsimp only;rw [←e1,←e2];exact h)
  ·rw [hb,if_neg (by decide)] at hst
   repeat' (first|refine Ji ?_|refine JF a5 H6 ?_|(apply aS;refine aR ?_)|fail)
   exact aC (k+iW up,ps,q1,q2) rfl ⟨rfl,rfl,rfl,trivial⟩ ⟨hnx,hk3,by rw [hps,hst],hpl,by dsimp only;omega⟩ hln (fun _ _ h=>h)
 ·have hres:(dG E.ms e.l.Ignore run up a).take most=ps:=by
   by_cases h1:ps.length < most
   ·rw [hps,sN hk (fun h=>hC ⟨h,h1⟩),List.append_nil,List.take_of_length_le (by omega)]
   ·rw [hps,List.take_append_of_le_length (by omega),List.take_of_length_le (by omega)]
  rw [hres]
  repeat' (first|refine Ji ?_|refine JF a5 H6 ?_)
  refine dT (L':=vI wb (.iptr (ei E)) q run) (List.sublist_append_left ..) ?_
  refine bk (bQ (t:=10) (c':= .imm 1 (bW ps)) rfl fun σ v h=>VR.im h) ?_
  refine bk (bQ (t:=11) (c':= .imm 1 (pg run ps)) rfl fun σ v h=>VR.im h) ?_
  exact JP JA ⟨rfl,rfl⟩
end Go.Proofs.YtpmdfoaadejmkaaGreatDoor
namespace Go.Proofs.YtpmdfoaadejmkaaGreatDoor
open Go.RowKit
section
variable {P:Program} {tt:TT} {r:Option Nat} {ops:Array Oper} {Q:Exit→Act→World→Prop} {nt:Nat} {D:List Deferred} {fr:c7} {B:Bs} {L:AL} {rest:List Oper} {d:Nat} {ty t t':TypeId} {pos:String} {af:Array Edge} {g:Option (Nat×Bool)} {x y z:Operand} {u:AV}
theorem Gm {dd:Option Tmp} {k kk:IntKind} {a b:Int} (i:Nat) (hx:bn fr x=some (.sc (.int k a))) (hy:bn fr y=some (.sc (.int kk b))) (hb:b=(i:Int)):Av P ⟨dd,.binOp .shr t x y t',ty,pos,af,g⟩ fr (.sc (.int k (a / 2 ^ min i k.bits))):=by
 intro σ ρ w hρ _
 subst hb
 refine ⟨_,?_,.sc _⟩
 have h:=shift_shr_any k kk a (i:Int) (Int.natCast_nonneg i)
 simp [execOp,(hρ x _ hx).sc_inv,(hρ y _ hy).sc_inv,eqGuard,binOp,h]
theorem G1 {dd:Option Tmp} {k:IntKind} {a b:Int} (hx:bn fr x=some (.sc (.int k a))) (hy:bn fr y=some (.sc (.int k b))):Av P ⟨dd,.binOp .and t x y t',ty,pos,af,g⟩ fr (.sc (.int k (bits .and k a b))):=by
 intro σ ρ w hρ _
 refine ⟨_,?_,.sc _⟩
 simp [execOp,(hρ x _ hx).sc_inv,(hρ y _ hy).sc_inv,eqGuard,binOp,intBits_and]
theorem xy {dd:Option Tmp} {k:IntKind} {a b:Int} (hx:bn fr x=some (.sc (.int k a))) (hy:bn fr y=some (.sc (.int k b))):Av P ⟨dd,.binOp .or t x y t',ty,pos,af,g⟩ fr (.sc (.int k (bits .or k a b))):=by
 intro σ ρ w hρ _
 refine ⟨_,?_,.sc _⟩
 simp [execOp,(hρ x _ hx).sc_inv,(hρ y _ hy).sc_inv,eqGuard,binOp,intBits_or]
theorem wZ (i:Nat) {k kk:IntKind} {a b:Int} (hx:bn fr x=some (.sc (.int k a))) (hy:bn fr y=some (.sc (.int kk b))) (hb:b=(i:Int)) (hd:Nat.ble nt d=false) (h:bI P r ops Q nt D rest ((d,.sc (.int k (a / 2 ^ min i k.bits)))::fr) B L):
  bI P r ops Q nt D (⟨some d,.binOp .shr t x y t',ty,pos,af,none⟩::rest) fr B L:=ce (Gm i hx hy hb) hd rfl h
theorem qS {k:IntKind} {a b:Int} (hx:bn fr x=some (.sc (.int k a))) (hy:bn fr y=some (.sc (.int k b))) (hd:Nat.ble nt d=false) (h:bI P r ops Q nt D rest ((d,.sc (.int k (bits .and k a b)))::fr) B L):
  bI P r ops Q nt D (⟨some d,.binOp .and t x y t',ty,pos,af,none⟩::rest) fr B L:=ce (G1 hx hy) hd rfl h
theorem tz {k:IntKind} {a b:Int} (hx:bn fr x=some (.sc (.int k a))) (hy:bn fr y=some (.sc (.int k b))) (hd:Nat.ble nt d=false) (h:bI P r ops Q nt D rest ((d,.sc (.int k (bits .or k a b)))::fr) B L):
  bI P r ops Q nt D (⟨some d,.binOp .or t x y t',ty,pos,af,none⟩::rest) fr B L:=ce (xy hx hy) hd rfl h
end
end Go.Proofs.YtpmdfoaadejmkaaGreatDoor
namespace Go.Proofs.YtpmdfoaadejmkaaGreatDoor
open Go.RowKit
def zS:AV→Option Bool
 | .iptr _=>some false
 | .sc (.pointer none)=>some true
 | .sc (.pointer (some _))=>some false
 | _=>none
theorem sH {u:AV} {b:Bool} (h:zS u=some b) {σ:cr} {v:Value} (hv:VR σ u v):∃p,v= .pointer p∧p.isNone=b:=by
 unfold zS at h
 split at h
 ·cases h
  obtain ⟨b',off,h1,_⟩:=hv.iptr_inv
  exact ⟨_,h1,rfl⟩
 ·cases h
  exact ⟨none,hv.sc_inv,rfl⟩
 ·cases h
  exact ⟨_,hv.sc_inv,rfl⟩
 ·cases h
section
variable {P:Program} {fr:c7} {B:Bs} {L:AL} {d:Option Tmp} {ty t t':TypeId} {pos:String} {af:Array Edge} {g:Option (Nat×Bool)} {x y z q:Operand} {u:AV}
theorem r7 {e:TypeId} (h:P.underlying t=some (.pointer e)):P.underlying t=some (.pointer (P.pointee t)):=by
 rw [show P.pointee t=e by simp [Program.pointee,h]];exact h
theorem G9 {e:TypeId} {b:Bool} (ht:P.underlying t=some (.pointer e)) (hx:bn fr x=some u) (hu:zS u=some b) (hy:bn fr y=some (.sc (.pointer none))):Av P ⟨d,.binOp .eql t x y t',ty,pos,af,g⟩ fr (.sc (.bool b)):=fun σ ρ w hρ _=>by
 obtain ⟨p,hp,hb⟩:=sH hu (hρ x u hx)
 refine ⟨_,?_,.sc _⟩
 subst hb
 simp [execOp,hp,(hρ y _ hy).sc_inv,eqGuard,run_eql_pointer_nil w t p (r7 ht)]
theorem Gg {e:TypeId} {b:Bool} (ht:P.underlying t=some (.pointer e)) (hx:bn fr x=some u) (hu:zS u=some b) (hy:bn fr y=some (.sc (.pointer none))):Av P ⟨d,.binOp .neq t x y t',ty,pos,af,g⟩ fr (.sc (.bool (!b))):=fun σ ρ w hρ _=>by
 obtain ⟨p,hp,hb⟩:=sH hu (hρ x u hx)
 refine ⟨_,?_,.sc _⟩
 subst hb
 simp [execOp,hp,(hρ y _ hy).sc_inv,eqGuard,run_neq_pointer_nil w t p (r7 ht)]
theorem G0 {n e sz k b off:Nat} {qq:IntKind} {a:Int} (ht:P.underlying t=some (.array n e)) (hs:(P.info? e).map (·.size)=some sz) (hx:bn fr x=some (.sc (.pointer (some ⟨b,off,none⟩)))) (hy:bn fr y=some (.sc (.int qq a))) (ha:a=(k:Int)) (hk:k < n):Av P ⟨d,.indexAddr t x y,ty,pos,af,g⟩ fr (.sc (.pointer (some ⟨b,off+k * sz,none⟩))):=
 fun σ ρ w hρ _=>by
  subst ha
  have hyv:=(hρ y _ hy).sc_inv
  have hv:=(hρ x _ hx).sc_inv
  have hk':(k:Int) < (n:Int):=by omega
  have hso:(sizeOf e:Sem Nat).run P w= .ok sz w:=by
   cases hi:P.info? e with
   | none=>rw [hi] at hs;cases hs
   | some i=>rw [hi] at hs;simp at hs;simp [sizeOf,typeInfo,hi,hs]
  refine ⟨.pointer (some ⟨b,off+k * sz,none⟩),?_,.sc _⟩
  simp [execOp,hv,hyv,Instr.indexAt,asIntOf,run_underlying ht,hk',hso,Instr.sureAddr,Addr.add]
  by_cases hn:n≤1 <;> by_cases h0:k * sz=0 <;> simp [hn,run_underlying ht,hso,hk,h0]
theorem DN {e sz by_:Nat} {parts:Array (Nat×Operand)} (hc:kH P t e sz by_) (hsz:0 < sz) (hp:parts=#[]):AO P ⟨d,.buildSlice t 0 parts,ty,pos,af,g⟩ fr B L (fun c L'=>∃b,c= .sc (.slice (some ⟨b,0,none⟩) 0 0)∧L'=(b,.box [] e)::L):=by
 intro σ ρ w hρ hw
 subst hp
 haveI:=hc
 have hr:=D4 (P:=P) (t:=t) (by simpa [Nat.blt_eq] using hsz) [] (by simp) (by simp [Nat.ble_eq]) w
 simp at hr
 unfold ii
 rw [show (execOp ρ ⟨d,.buildSlice t 0 #[],ty,pos,af,g⟩).run P w= .ok (.value (.slice (some ⟨w.heap.size,0,none⟩) 0 0)) (w.alloc (.cells #[] e)) by
  simp [execOp,hr]]
 exact ⟨σ,.sc _,_,cr.le_refl _,.sc _,hw.alloc _ (.box [] e) ⟨[],rfl,di.nil,by simp⟩,_,rfl,rfl⟩
end
section
variable {P:Program} {tt:TT} {r:Option Nat} {ops:Array Oper} {Q:Exit→Act→World→Prop} {nt:Nat} {D:List Deferred} {fr:c7} {B:Bs} {L:AL} {rest:List Oper} {d:Nat} {ty t t':TypeId} {pos:String} {af:Array Edge} {x y z:Operand} {u:AV}
theorem qT {e:TypeId} {b:Bool} (ht:P.underlying t=some (.pointer e)) (hx:bn fr x=some u) (hu:zS u=some b) (hy:bn fr y=some (.sc (.pointer none))) (hd:Nat.ble nt d=false) (h:bI P r ops Q nt D rest ((d,.sc (.bool b))::fr) B L):bI P r ops Q nt D (⟨some d,.binOp .eql t x y t',ty,pos,af,none⟩::rest) fr B L:=ce (G9 ht hx hu hy) hd rfl h
theorem tG {e:TypeId} {b:Bool} (ht:P.underlying t=some (.pointer e)) (hx:bn fr x=some u) (hu:zS u=some b) (hy:bn fr y=some (.sc (.pointer none))) (hd:Nat.ble nt d=false) (h:bI P r ops Q nt D rest ((d,.sc (.bool (!b)))::fr) B L):bI P r ops Q nt D (⟨some d,.binOp .neq t x y t',ty,pos,af,none⟩::rest) fr B L:=ce (Gg ht hx hu hy) hd rfl h
theorem wW (ok:er P tt) (k:Nat) {n e sz b off:Nat} {q:IntKind} {a:Int} (ht:yM tt t=some (n,e,sz)) (hx:bn fr x=some (.sc (.pointer (some ⟨b,off,none⟩)))) (hy:bn fr y=some (.sc (.int q a))) (ha:a=(k:Int)) (hk:k < n) (hd:Nat.ble nt d=false) (h:bI P r ops Q nt D rest ((d,.sc (.pointer (some ⟨b,off+k * sz,none⟩)))::fr) B L):
  bI P r ops Q nt D (⟨some d,.indexAddr t x y,ty,pos,af,none⟩::rest) fr B L:=ce (G0 (iu ok ht).1 (iu ok ht).2 hx hy ha hk) hd rfl h
theorem GR (ok:er P tt) {e sz by_:Nat} (ht:jK tt t=some (e,sz,by_)) (hd:Nat.ble nt d=false) (h:∀b,bI P r ops Q nt D rest ((d,.sc (.slice (some ⟨b,0,none⟩) 0 0))::fr) B ((b,.box [] e)::L)):
  bI P r ops Q nt D (⟨some d,.buildSlice t 0 #[],ty,pos,af,none⟩::rest) fr B L:=cP hd rfl (DN (br ok ht).1 (br ok ht).2 rfl) fun c L' ⟨b,h1,h2⟩=>by subst h1;subst h2;exact h b
theorem GS {k:IntKind} {a b:Int} (hx:bn fr x=some (.sc (.int k a))) (hy:bn fr y=some (.sc (.int k b))) (hd:Nat.ble nt d=false) (h:bI P r ops Q nt D rest ((d,.sc (.int k (k.wrap (a * b))))::fr) B L):bI P r ops Q nt D (⟨some d,.binOp .mul t x y t',ty,pos,af,none⟩::rest) fr B L:=ce (Fw hx hy) hd rfl h
theorem GT {k:IntKind} {a:Int} (hx:bn fr x=some (.sc (.int k a))) (hd:Nat.ble nt d=false) (h:bI P r ops Q nt D rest ((d,.sc (.int k (k.wrap (0 - a))))::fr) B L):bI P r ops Q nt D (⟨some d,.unOp .neg t x,ty,pos,af,none⟩::rest) fr B L:=ce (Ho hx) hd rfl h
theorem tC (ok:er P tt) {a:Int} {q q':IntKind} {ti ti':TI} (hx:bn fr x=some (.sc (.int q a))) (ht:df tt t=some ti) (hk:ti.k= .int q) (ht':df tt t'=some ti') (hk':ti'.k= .int q') (hd:Nat.ble nt d=false) (h:bI P r ops Q nt D rest ((d,.sc (.int q' (q'.wrap a)))::fr) B L):
  bI P r ops Q nt D (⟨some d,.convert t t' x,ty,pos,af,none⟩::rest) fr B L:=by
 haveI:=ok.int ht hk
 haveI:=ok.int ht' hk'
 exact ce (rS hx) hd rfl h
end
end Go.Proofs.YtpmdfoaadejmkaaGreatDoor
namespace Go.Proofs.YtpmdfoaadejmkaaGreatDoor
open Go.RowKit
attribute [local irreducible] AT bI AX AO Av Kt bi dx DA cK
abbrev Hf (cls:List Int) (tab:List (List Int)) (ends:List Nat):AV:= .agg [.imm 1 (aX cls),.imm 1 (b9 tab),.imm 1 (gx ends)]
theorem nI (l:List Nat):(gx l).length=l.length:=by simp [gx]
theorem vG {l:List Nat} {i:Nat} {z:Nat} (h:l[i]?=some z):(gx l)[i]?=some [jq z]:=by simp [gx,h]
section
variable (cls:List Int) (tab:List (List Int)) (ends:List Nat)
theorem Bm (s:Int):bJ Tryz.prog 301 [Hf cls tab ends,aF s] (jq (j5 ends s)):=by
 refine aM Tryz.func301 rfl Tryz.ntmps301 rfl fun B=>?_
 have hel:=nI ends
 repeat' (first|refine Ji ?_|refine JF a5 H6 ?_|refine bf ?_|fail)
 refine bX [1,2] (s < 0∨(ends.length:Int)≤s) rfl (fun Q' K=>?_) (fun hC=>?_) (fun hC=>?_)
 ·repeat' (first|refine Ji ?_|refine JF a5 H6 ?_|refine JN H6 ?_|refine JO JB ?_|refine JR JA (fun _=>?_) (fun _=>?_))
  all_goals exact K _ _ rfl rfl (by simp_all <;> omega)
 ·repeat' (first|refine Ji ?_|refine JF a5 H6 ?_)
  refine JL H6 ?_
  unfold j5
  rcases hC with h | h
  ·rw [if_pos h];rfl
  ·by_cases h0:s < 0
   ·rw [if_pos h0];rfl
   ·rw [if_neg h0,List.getD_eq_getElem?_getD,List.getElem?_eq_none (by omega)];rfl
 ·obtain ⟨z,hz⟩:∃z,ends[s.toNat]?=some z:=⟨_,Jz (by omega)⟩
  have hzg:=vG hz
  repeat' (first|refine Ji ?_|refine JF a5 H6 ?_|(apply aO;first|refine aN a5 ?_|refine aG a5 ?_)|fail)
  refine JL H6 ?_
  unfold j5
  rw [if_neg (fun h=>hC (.inl h)),List.getD_eq_getElem?_getD,hz]
  rfl
instance (s:Int):AD Tryz.prog 301 [Hf cls tab ends,aF s] (jq (j5 ends s)):=⟨Bm cls tab ends s⟩
theorem CH (s g:Int):bJ Tryz.prog 302 [Hf cls tab ends,aF s,aF g] (aF (ia cls tab s g)):=by
 refine aM Tryz.func302 rfl Tryz.ntmps302 rfl fun B=>?_
 have hcl:=aZ cls
 have htl:=cq tab
 repeat' (first|refine Ji ?_|refine JF a5 H6 ?_|refine bf ?_|fail)
 refine bX [1,2,3] ((s < 0∨(tab.length:Int)≤s)∨(g < 0∨(cls.length:Int)≤g)) rfl (fun Q' K=>?_) (fun hC=>?_) (fun hC=>?_)
 ·repeat' (first|refine Ji ?_|refine JF a5 H6 ?_|refine JN H6 ?_|refine JO JB ?_|refine JR JA (fun _=>?_) (fun _=>?_))
  all_goals exact K _ _ rfl rfl (by simp_all <;> omega)
 ·repeat' (first|refine Ji ?_|refine JF a5 H6 ?_)
  refine JL H6 ?_
  unfold ia
  by_cases h0:s < 0∨g < 0
  ·rw [if_pos h0]
  ·rw [if_neg h0]
   split
   ·rename_i h1 h2
    have:=(Jp h1).1
    have:=(Jp h2).1
    omega
   ·rfl
 ·obtain ⟨eQ,hrow⟩:∃z,tab[s.toNat]?=some z:=⟨_,Jz (by omega)⟩
  obtain ⟨c,hc⟩:∃z,cls[g.toNat]?=some z:=⟨_,Jz (by omega)⟩
  have hrg:=gI hrow
  have hcg:=bP hc
  have hrl:=aZ eQ
  have hN:ia cls tab s g=if c < 0 then -1 else match eQ[c.toNat]? with
   | some z=>if 0≤z∧z < tab.length then z else -1
   | none=> -1:=by
   unfold ia
   rw [if_neg (by omega),hrow,hc]
   rfl
  rw [hN]
  repeat' (first|refine Ji ?_|fail)
  refine bw 11 [(0,.v),(1,.v),(2,.v),(3,.v),(4,.v),(5,.v),(6,.v),(7,.v),(8,.v),(9,.v),(10,.v)] none ?_ trivial rfl (by kernel_rfl) (by kernel_rfl) (by kernel_rfl) bR (by kernel_rfl) rfl
  repeat' (first|refine aD ?_|refine b7 a5 ?_|(apply bV;refine cn a5 ?_)|fail)
  refine JQ [3,7,39] H6 ?_
  repeat' (first|refine Ji ?_|refine a7 ?_|refine JF a5 H6 ?_)
  refine bX [3,7,8] (c < 0∨(eQ.length:Int)≤c) rfl (fun Q' K=>?_) (fun hC2=>?_) (fun hC2=>?_)
  ·repeat' (first|refine Ji ?_|refine JF a5 H6 ?_|refine JN H6 ?_|refine JO JB ?_|refine JR JA (fun _=>?_) (fun _=>?_))
   all_goals exact K _ _ rfl rfl (by simp_all <;> omega)
  ·repeat' (first|refine Ji ?_|refine JF a5 H6 ?_)
   refine JL H6 ?_
   by_cases h0:c < 0
   ·rw [if_pos h0]
   ·rw [if_neg h0,List.getElem?_eq_none (by omega)]
  ·obtain ⟨z,hz⟩:∃z,eQ[c.toNat]?=some z:=⟨_,Jz (by omega)⟩
   have hzg:=bP hz
   rw [if_neg (fun h=>hC2 (.inl h)),hz]
   dsimp only
   repeat' (first|refine Ji ?_|refine JF a5 H6 ?_|(apply aO;first|refine aN a5 ?_|refine aG a5 ?_)|fail)
   refine bX [9] (0≤z∧z < tab.length) rfl (fun Q' K=>?_) (fun hC3=>?_) (fun hC3=>?_)
   ·repeat' (first|refine Ji ?_|refine JF a5 H6 ?_|refine JN H6 ?_|refine JO JB ?_|refine JR JA (fun _=>?_) (fun _=>?_))
    all_goals exact K _ _ rfl rfl (by simp_all <;> omega)
   ·rw [if_pos hC3]
    repeat' (first|refine Ji ?_|refine JF a5 H6 ?_)
    exact JM JA
   ·rw [if_neg hC3]
    repeat' (first|refine Ji ?_|refine JF a5 H6 ?_)
    exact JM JA
instance (s g:Int):AD Tryz.prog 302 [Hf cls tab ends,aF s,aF g] (aF (ia cls tab s g)):=⟨CH cls tab ends s g⟩
theorem kR {ends:List Nat} (h:∀z∈ends,z < 18446744073709551616) (s:Int):j5 ends s < 18446744073709551616:=by
 unfold j5
 split
 ·decide
 ·rw [List.getD_eq_getElem?_getD]
  cases hz:ends[s.toNat]? with
  | none=>decide
  | some z=>exact h z (Jw hz)
theorem CK {a b:Nat} (ha:a < 18446744073709551616) (hb:b < 18446744073709551616):a ||| b < 18446744073709551616:=Nat.or_lt_two_pow (n:=64) ha hb
theorem vo {cls:List Int} {tab:List (List Int)} {ends:List Nat} (h:∀z∈ends,z < 18446744073709551616):∀(gl:List Int) (s:Int) (told:Nat),told < 18446744073709551616→m7 cls tab ends s gl told < 18446744073709551616
 | [],_,_,ht=>ht
 | g::r,s,told,ht=>by
  rw [m7]
  split
  ·exact ht
  ·exact vo h r _ _ (CK ht (kR h _))
theorem vp (h:∀z∈ends,z < 18446744073709551616) (gl:List Int):fX cls tab ends gl < 18446744073709551616:=vo h gl 0 _ (kR h _)
theorem vq (hE:∀z∈ends,z < 18446744073709551616) (gl:List Int):bJ Tryz.prog 286 [Hf cls tab ends,.imm 1 (aX gl)] (jq (fX cls tab ends gl)):=by
 refine aM Tryz.func286 rfl Tryz.ntmps286 rfl fun B=>?_
 have hgl:=aZ gl
 refine cI 1 rfl rfl fun hlen=>?_
 repeat' (first|refine Ji ?_|refine am ?_|refine JF a5 H6 ?_|refine bf ?_|(apply bz;refine bo ?_)|fail)
 refine aP [2,12,13] (α:=Nat×Int×Nat) (fun x=>[(14,aF x.1),(5,aF x.2.1),(6,jq x.2.2)]) (fun x=>x.1≤gl.length∧x.2.2 < 18446744073709551616∧m7 cls tab ends x.2.1 (gl.drop x.1) x.2.2=fX cls tab ends gl) (fun _=>[]) (fun x=>gl.length - x.1) (0,0,j5 ends 0) rfl ⟨rfl,rfl,rfl,trivial⟩ ⟨Nat.zero_le _,kR hE 0,rfl⟩ (fun _ _ h=>h) ?_
 rintro ⟨i,s,told⟩ ⟨hi,ht,hr⟩
 dsimp only at hi ht hr ⊢
 try dsimp only [Js,Jr,Jq,Jl]
 repeat' (first|refine Ji ?_|refine JF a5 H6 ?_)
 refine ar rfl (fun h=>?_) (fun h=>?_)
 ·have hil:i < gl.length:=by have:=Jy h;omega
  obtain ⟨z,hz⟩:∃z,gl[i]?=some z:=⟨_,Jz hil⟩
  have hzg:=bP hz
  have hd:gl.drop i=z::gl.drop (i+1):=by
   rw [List.drop_eq_getElem_cons hil,(Jp hz).2]
  rw [hd,m7] at hr
  clear h
  repeat' (first|refine Ji ?_|refine am ?_|refine JF a5 H6 ?_|(apply aO;first|refine aN a5 ?_|refine aG a5 ?_)|(apply bz;refine bo ?_)|fail)
  refine ar rfl (fun h=>?_) (fun h=>?_)
  ·have h2:ia cls tab s z= -1:=Jy h
   rw [if_pos h2] at hr
   repeat' (first|refine Ji ?_|refine eg rfl ?_|refine JF a5 H6 ?_)
   refine JL H6 ?_
   rw [hr]
  ·have h2:¬ia cls tab s z= -1:=Jx h
   rw [if_neg h2] at hr
   repeat' (first|refine Ji ?_|refine JF a5 H6 ?_|(apply bz;refine bo ?_)|fail)
   refine tz rfl rfl rfl ?_
   rw [u64_or_nat _ _ ht (kR hE _)]
   repeat' (first|refine Ji ?_|refine JF a5 H6 ?_|(apply aS;refine aR ?_)|fail)
   exact aC (i+1,ia cls tab s z,told ||| j5 ends (ia cls tab s z)) rfl ⟨by rw [Jv];rfl,rfl,rfl,trivial⟩ ⟨hil,CK ht (kR hE _),hr⟩ (by dsimp only;omega) (fun _ _ h=>h)
 ·have hil:i=gl.length:=by have:=Jx h;omega
  subst hil
  rw [List.drop_length,m7] at hr
  repeat' (first|refine Ji ?_|refine JF a5 H6 ?_)
  refine JL H6 ?_
  rw [hr]
end
abbrev AK (e:po):AV:= .agg (Hu e)
structure sZ (e:po):Prop where
 fore:∀z∈e.foreE,z < 18446744073709551616
 back:∀z∈e.backE,z < 18446744073709551616
theorem BU (e:po) (h:sZ e) (gl:List Int):bJ Tryz.prog 257 [AK e,.imm 1 (aX gl)] (jq (fX e.cls e.fore e.foreE gl)):=by
 refine aM Tryz.func257 rfl Tryz.ntmps257 rfl fun B=>?_
 haveI:=AD.mk (vq e.cls e.fore e.foreE h.fore gl)
 repeat' (first|refine Ji ?_|refine JF a5 H6 ?_|refine bf ?_|(apply bz;refine bo ?_)|fail)
 exact JM JA
theorem Bj (e:po) (h:sZ e) (gl:List Int):bJ Tryz.prog 256 [AK e,.imm 1 (aX gl)] (jq (fX e.cls e.back e.backE gl)):=by
 refine aM Tryz.func256 rfl Tryz.ntmps256 rfl fun B=>?_
 haveI:=AD.mk (vq e.cls e.back e.backE h.back gl)
 repeat' (first|refine Ji ?_|refine JF a5 H6 ?_|refine bf ?_|(apply bz;refine bo ?_)|fail)
 exact JM JA
def kq:List Int:=[0,1,56,2,57,49,28,3,61,58,42,50,38,29,17,4,62,47,59,36,45,43,51,22,53,39,33,30,24,18,12,5,63,55,48,27,60,41,37,16,46,35,44,21,52,32,23,11,54,26,40,15,34,20,31,10,25,14,19,9,13,8,7,6]
def xk:List AV:=kq.map fun z=> .sc (.int .u8 z)
abbrev dU:Nat×AB:=(0,.box xk 364)
def Je (x:Int):Int:=bits .and .u64 x (IntKind.u64.wrap (0 - x))
def IL (x:Int):Int:=IntKind.u64.wrap (Je x * 285870213051353865) / 2 ^ min 58 IntKind.u64.bits
def Il (x:Nat):Int:=kq.getD (IL x).toNat 0
theorem vF:∀(n:Nat),n < 64→n≠0→0≤IL (n:Nat)∧IL (n:Nat) < 64:=by decide+kernel
theorem Dm:∀(n:Nat),n < 64→∀(i:Nat),i < 6→n.testBit i=true→(∀(j:Nat),j < i→n.testBit j=false)→Il n=(i:Nat):=by decide+kernel
theorem Dh {k:Nat} (h:k < 64):xk[0+k * 1]?=some (.sc (.int .u8 (kq.getD k 0))):=by
 have hl:kq.length=64:=rfl
 unfold xk
 rw [List.getElem?_map,Nat.zero_add,Nat.mul_one,Jz (by omega),List.getD_eq_getElem?_getD,Jz (by omega)]
 rfl
theorem I9 (x:Nat) (hx:x < 64) (h0:x≠0):AC Tryz.prog 258 [jq x] [dU] fun c L=>c=aF (Il x)∧L=[dU]:=by
 refine aM Tryz.func258 rfl Tryz.ntmps258 rfl fun B=>?_
 have hz:¬((x:Int)=0):=by omega
 obtain ⟨k,hk⟩:=Int.eq_ofNat_of_zero_le (vF x hx h0).1
 have hk64:k < 64:=by have:=(vF x hx h0).2;omega
 have hkc:=Dh hk64
 repeat' (first|refine Ji ?_|refine JF a5 H6 ?_)
 refine ar rfl (fun h=>absurd (Jy h) hz) (fun _=>?_)
 repeat' (first|refine Ji ?_|refine JF a5 H6 ?_)
 refine GT rfl rfl ?_
 refine qS rfl rfl rfl ?_
 refine GS rfl rfl rfl ?_
 refine wZ 58 rfl rfl rfl rfl ?_
 refine wW a5 k rfl rfl rfl hk hk64 rfl ?_
 refine JK a5 0 JA hkc rfl ?_
 refine tC a5 rfl rfl rfl rfl rfl rfl ?_
 repeat' (first|refine Ji ?_|refine JF a5 H6 ?_)
 refine JL H6 ⟨?_,rfl⟩
 unfold Il
 rw [hk,Int.toNat_natCast]
 have hb:∀k < 64,IntKind.i64.wrap (kq.getD k 0)=kq.getD k 0:=by decide
 rw [hb k hk64]
def td (b:Nat):Int:=if b=0 then -1 else Il b
theorem yC (e:po) (h:sZ e) (bg fg:List Int) (hb:fX e.cls e.back e.backE bg &&& fX e.cls e.fore e.foreE fg < 64):AC Tryz.prog 189 [AK e,.imm 1 (aX bg),.imm 1 (aX fg)] [dU] fun c L=>c=aF (td (fX e.cls e.back e.backE bg &&& fX e.cls e.fore e.foreE fg))∧L=[dU]:=by
 refine aM Tryz.func189 rfl Tryz.ntmps189 rfl fun B=>?_
 haveI:=AD.mk (BU e h fg)
 haveI:=AD.mk (Bj e h bg)
 have h1:=vp e.cls e.back e.backE h.back bg
 have h2:=vp e.cls e.fore e.foreE h.fore fg
 repeat' (first|refine Ji ?_|refine JF a5 H6 ?_|refine bf ?_|fail)
 refine bw 5 [(0,.v),(1,.v),(2,.v),(3,.v),(4,.v)] none ?_ trivial rfl (by kernel_rfl) (by kernel_rfl) (by kernel_rfl) bR (by kernel_rfl) rfl
 repeat' (first|refine aD ?_|refine b7 a5 ?_|(apply cQ;refine dg ?_)|fail)
 refine JQ [10,11,12] H6 ?_
 repeat' (first|(apply bz;refine bo ?_)|fail)
 refine qS rfl rfl rfl ?_
 rw [u64_and_nat _ _ h1 h2]
 generalize fX e.cls e.back e.backE bg &&& fX e.cls e.fore e.foreE fg=b at hb ⊢
 repeat' (first|refine Ji ?_|refine JF a5 H6 ?_)
 unfold td
 refine ar rfl (fun h=>?_) (fun h=>?_)
 ·have hb0:b=0:=by have:=Jy h;omega
  rw [if_pos hb0]
  repeat' (first|refine Ji ?_|refine JF a5 H6 ?_)
  exact JL H6 ⟨rfl,rfl⟩
 ·have hb0:b≠0:=by have:=Jx h;omega
  rw [if_neg hb0]
  repeat' (first|refine Ji ?_|refine JF a5 H6 ?_)
  refine b8 [dU] [] (I9 b hb hb0) rfl rfl (Jo _) rfl fun c L1 ⟨hc,hL⟩=>?_
  subst hc;subst hL
  repeat' (first|refine Ji ?_|refine JF a5 H6 ?_)
  exact JL H6 ⟨rfl,rfl⟩
end Go.Proofs.YtpmdfoaadejmkaaGreatDoor
namespace Go.Proofs.YtpmdfoaadejmkaaGreatDoor
open Go.RowKit
attribute [local irreducible] AT bI AX AO Av Kt bi dx DA cK
open Go.ChangeShapes Go.WideShapes Go.ChangeAt Go.RowKit
theorem Tryz.own:ownKnob Tryz.prog.godebug=none:=by kernel_rfl
theorem Tryz.laidOut:laidOutB Tryz.prog=true:=by kernel_rfl
theorem HD:Tryz.prog.globalNamed "math/bits.deBruijn64tab" =some 0:=by kernel_rfl
theorem BW:(Tryz.prog.globals[0]?).map (·.type)=some 364:=by kernel_rfl
theorem Br:Tryz.prog.cellsOf 364=64:=by kernel_rfl
theorem DZ:Tryz.prog.cellsOf 5=1:=by kernel_rfl
theorem H3:(((begin Tryz.prog (fun _ _=>0) default).world.heap)[0]?).bind Obj.row?=some ((List.replicate 64 (Value.int .u8 0)).toArray,364):=by kernel_rfl
def HG:List (String×DataW Unit):=[("math/bits.deBruijn64tab",Lib.tabData .u8 kq)]
theorem yq {W:World} (hL:laidMet Tryz.prog HG W) (hS:W.ShapedOpen Tryz.prog):W.heap[0]?=some (.cells (kq.map (Value.int .u8)).toArray 364 (0,0)):=by
 have h:Lib.TabIs Tryz.prog W "math/bits.deBruijn64tab" .u8 kq:=Lib.tabIs_of_head (rest:=[]) HD BW Tryz.underlying364 Tryz.underlying5 DZ Br hL
 obtain ⟨cs,h1,_,_⟩:=hS.1 0 _ 364 (Jy (by kernel_rfl)) H3
 unfold Lib.TabIs World.var? at h
 rw [HD,Option.bind_some,h1] at h
 cases h
 exact h1
def qP (W:World):cr:=fun b off=>if b=0 then none else W.cell? ⟨b,off,none⟩
theorem Fj {σ:cr}:di σ xk (kq.map (Value.int .u8)):=by
 unfold xk
 generalize kq=l
 induction l with
 | nil=>exact di.nil
 | cons x l ih=>exact di.cons (.sc _) ih
theorem vH {σ:cr} {vs:List Value} (h:di σ xk vs):vs=kq.map (Value.int .u8):=by
 unfold xk at h
 revert vs
 generalize kq=l
 induction l with
 | nil=>
  intro vs h
  exact List.eq_nil_of_length_eq_zero h.1.symm
 | cons x l ih=>
  intro vs h
  obtain ⟨y,u,rfl,h1,h2⟩:=di.inv h
  rw [h1.sc_inv,ih h2]
  rfl
theorem EG {W:World} (h:W.heap[0]?=some (.cells (kq.map (Value.int .u8)).toArray 364 (0,0))):d6 ⟨W,qP W,[0]⟩ (qP W) [dU] W:=by
 have h0:0 < W.heap.size:=by
  rcases Nat.lt_or_ge 0 W.heap.size with h' | h'
  ·exact h'
  ·rw [Array.getElem?_eq_none h'] at h;cases h
 refine ⟨rfl,rfl,rfl,Nat.le_refl _,fun _ _ _=>rfl,fun p hp=>?_,fun p hp=>?_,by simp,fun b off u hu=>?_,fun p hp off _=>?_,fun _ _ _ h=>h,fun _ _ _ _=>rfl⟩
 ·rw [Jm hp]
  exact ⟨_,h,_,rfl,Fj,fun u hu=>by
   obtain ⟨z,_,rfl⟩:=List.mem_map.1 hu
   rfl⟩
 ·rw [Jm hp]
  exact .inr (by simp)
 ·unfold qP at hu
  split at hu
  ·cases hu
  ·exact hu
 ·rw [Jm hp]
  rfl
theorem Ai {f:FuncId} {args:List AV} {u:Value} (h:AC Tryz.prog f args [dU] fun c L=>c= .sc u∧L=[dU]) (W:World) (hT:W.heap[0]?=some (.cells (kq.map (Value.int .u8)).toArray 364 (0,0))) (vs:List Value) (hv:di (qP W) args vs):Calls Tryz.prog f vs.toArray W fun e W'=>∃v,e= .returned v∧Below W.heap.size W W'∧v=u:=
 (h (qP W) W vs hv (EG hT)).mono fun e W' ⟨v,τ,c,L',he,hr,hst,hc,hL⟩=>by
  subst hc
  subst hL
  refine ⟨v,he,⟨hst.os,hst.tape,hst.output,hst.size,fun k hk=>?_⟩,hr.sc_inv⟩
  by_cases h0:k=0
  ·subst h0
   obtain ⟨o,h1,vs',h2,h3,_⟩:=hst.here dU (by simp)
   rw [h1,h2,hT,vH h3]
  ·exact hst.old k hk (by simp [h0])
end Go.Proofs.YtpmdfoaadejmkaaGreatDoor
namespace Go.Proofs.YtpmdfoaadejmkaaGreatDoor
open Go.RowKit
attribute [local irreducible] AT bI AX AO Av Kt bi dx DA cK
theorem qp:∀{a b:List (List Int)} {gl:List Int},dh (a++b) gl=(dh a gl && dh b (gl.drop a.length))
 | [],b,gl=>by simp [dh]
 | _::_,b,[]=>by simp [dh]
 | s::a,b,g::gl=>by
  rw [Js,dh,qp,dh,List.length_cons,List.drop_succ_cons,Bool.and_assoc]
section
variable {ms:List Bool} {ig:Bool} {run:List aJ}
theorem l4:∀(d i k p:Nat),run.length - i≤d→(cH ms ig run i)[k]?=some p→cH ms ig run (p+1)=(cH ms ig run i).drop (k+1)
 | d,i,k,p,hd,h=>by
  by_cases hi:i < run.length
  ·have hst:=iG (ms:=ms) (ig:=ig) hi
   rw [hst] at h
   match d with
   | 0=>omega
   | d+1=>
    split at h
    ·rename_i hs
     rw [if_pos hs] at hst
     rw [hst]
     match k with
     | 0=>simp at h;subst h;simp
     | k+1=>
      rw [List.getElem?_cons_succ] at h
      rw [List.drop_succ_cons]
      exact l4 d (i+1) k p (by omega) h
    ·rename_i hs
     rw [if_neg hs] at hst
     rw [hst]
     exact l4 d (i+1) k p (by omega) h
  ·rw [oa (by omega)] at h
   simp at h
end
def dE (q:List Nat):Nat→List aJ→List aJ
 | _,[]=>[]
 | k,x::r=>if k∈q then dE q (k+1) r else x::dE q (k+1) r
theorem qB {q:List Nat} {j:Nat}:∀{r:List aJ} {k:Nat},j < k→dE (j::q) k r=dE q k r
 | [],_,_=>rfl
 | x::r,k,h=>by
  have hk:k≠j:=by omega
  rw [dE,dE,qB (by omega)]
  simp [hk]
theorem oS {q:List Nat}:∀{r:List aJ} {k p:Nat},(∀j∈q,k+p < j)→(dE q k r).eraseIdx p=dE ((k+p)::q) k r
 | [],_,_,_=>by simp [dE]
 | x::r,k,p,h=>by
  have hk:k∉q:=fun e=>by have:=h k e;omega
  match p with
  | 0=>
   rw [dE,if_neg hk,List.eraseIdx_cons_zero,dE,if_pos (by simp),Nat.add_zero,qB (by omega)]
  | p+1=>
   rw [dE,if_neg hk,List.eraseIdx_cons_succ,oS (fun j hj=>by have:=h j hj;omega),dE,if_neg,show k+1+p=k+(p+1) by omega]
   rw [List.mem_cons]
   rintro (e | e)
   ·omega
   ·exact hk e
theorem su:∀{r:List aJ} {k:Nat},dE [] k r=r
 | [],_=>rfl
 | x::r,k=>by rw [dE,if_neg (by simp),su]
theorem qg {run:List aJ}:∀{q:List Nat},q.Pairwise (· < ·)→f0 q run=dE q 0 run
  | [],_=>su.symm
  | p::q,h=>by
    obtain ⟨h1,h2⟩:=List.pairwise_cons.1 h
    rw [f0,qg h2,oS (fun j hj=>by have:=h1 j hj;omega),Nat.zero_add]
end Go.Proofs.YtpmdfoaadejmkaaGreatDoor
