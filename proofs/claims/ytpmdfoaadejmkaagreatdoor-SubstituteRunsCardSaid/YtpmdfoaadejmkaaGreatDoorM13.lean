/-
  An engine's run: its memory; which items are seen.
-/
import Derived.Test.YtpmdfoaadejmkaaGreatDoorM05
import Derived.Test.YtpmdfoaadejmkaaGreatDoorM12
import Derived.Test.YtpmdfoaadejmkaaGreatDoorM11
import Derived.Laws.Shifts
import Derived.Laws.Pointers
import Derived.Laws.BitsAllLaws
import Derived.Test.YtpmdfoaadejmkaaGreatDoorRows
import Derived.WalkKit
import Derived.ProofKit
import Derived.OpenShut
import Derived.ChangeOld
import Derived.SizedLaws
import Derived.Deep.DeepHandedRow
import Derived.Lib.LaidTab
namespace Go.Proofs.YtpmdfoaadejmkaaGreatDoor
open Go.RowKit
attribute [local irreducible] AT bK AX AO Av Kt bh dw DA cK
abbrev g9 (b:Nat):AV:= .sc (.pointer (some ⟨b,0,none⟩))
abbrev IH:AV:= .sc (.pointer none)
structure ge where
 rb:Nat
 cap:Nat
 junk:List AV
def ca (run:List aI):List AV:=(run.map aY).flatten
def eX (q:Option ge) (run:List aI):AV:=match q with
 | none=> .imm 6 []
 | some m=> .sc (.slice (some ⟨m.rb,0,none⟩) run.length m.cap)
def om (q:Option ge) (run:List aI):AL:=match q with
 | none=>[]
 | some m=>[(m.rb,.box (ca run++m.junk) 67)]
structure dV (q:Option ge) (run:List aI):Prop where
 emp:q=none→run=[]
 fit:∀m,q=some m→run.length≤m.cap∧m.cap≤maxLen∧m.cap * 6≤(ca run++m.junk).length
abbrev vJ (wb:Nat) (eng:AV) (q:Option ge) (run:List aI):AL:=(wb,.box [eng,eX q run] 102)::om q run
theorem dl (run:List aI):(ca run).length=run.length * 6:=by
 induction run with
 | nil=>rfl
 | cons x r ih=>simp [ca] at ih ⊢;simp [aY,ih];omega
theorem mj (x:aI) (r:List aI):ca (x::r)=aY x++ca r:=by simp [ca]
theorem ir (a b:List aI):ca (a++b)=ca a++ca b:=by simp [ca]
theorem sa:∀{run:List aI} {i j:Nat} {x:aI} {u:AV} (junk:List AV),run[i]?=some x→(aY x)[j]?=some u→(ca run++junk)[i * 6+j]?=some u
 | [],i,_,_,_,_,h,_=>by simp at h
 | y::r,0,j,x,u,junk,h,hj=>by
  simp at h
  subst h
  rw [mj,List.append_assoc,Nat.zero_mul,Nat.zero_add,List.getElem?_append_left (Jq hj).1]
  exact hj
 | y::r,i+1,j,x,u,junk,h,hj=>by
  rw [mj,List.append_assoc,List.getElem?_append_right (by simp [aY];omega)]
  have:=sa (i:=i) junk (by simpa using h) hj
  rw [show (i+1) * 6+j - (aY y).length=i * 6+j by simp [aY];omega]
  exact this
structure pj where
 l:aO
 cls:List Int
 fore:List (List Int)
 back:List (List Int)
 foreE:List Nat
 backE:List Nat
abbrev jp (z:Nat):AV:= .sc (.int .u64 (z:Int))
def gy (l:List Nat):List (List AV):=l.map fun z=>[jp z]
def eZ (r:bc):bc:={ r with Back:=[],Ahead:=[] }
def jk (l:aO):aO:={ l with Rules:=l.Rules.map eZ }
def Hz (e:pj):List AV:=[.imm 1 (aW e.cls),.imm 1 (b6 e.fore),.imm 1 (b6 e.back),.imm 1 (gy e.foreE),.imm 1 (gy e.backE)]
def fB (e:pj):List AV:=[aF e.l.Kind,dY e.l.Ignore,.imm 6 ((jk e.l).Rules.map bB),.imm 1 (aW e.cls),.imm 1 (b6 e.fore),.imm 1 (b6 e.back),.imm 1 (gy e.foreE),.imm 1 (gy e.backE),aF (fV e.l.Rules),aF (iw e.l.Rules)]
def nT (l:List Bool):List (List AV):=l.map fun b=>[dY b]
theorem ut (l:List Bool):(nT l).length=l.length:=by simp [nT]
theorem Bt {l:List Bool} {i:Nat} {b:Bool} (h:l[i]?=some b):(nT l)[i]?=some [dY b]:=by simp [nT,h]
structure pk where
 lks:List pj
 ms:List Bool
def ei (E:pk):List AV:=[.imm 10 (E.lks.map fB),.imm 1 (nT E.ms)]
theorem dV.lt {q:Option ge} {run:List aI} (h:dV q run) {i:Nat} (hi:i < run.length):∃m,q=some m:=by
 cases q with
 | none=>rw [h.emp rfl] at hi;simp at hi
 | some m=>exact ⟨m,rfl⟩
section
variable {P:Program} {tt:TT} {r:Option Nat} {ops:Array Oper} {Q:Exit→Act→World→Prop} {nt:Nat} {D:List Deferred} {fr:c8} {B:Bs} {L:AL} {rest:List Oper} {d:Nat} {ty t t':TypeId} {pos:String} {af:Array Edge} {g:Option (Nat×Bool)} {x y z:Operand} {q:Option ge} {run:List aI}
theorem Gh {dd:Option Tmp} {e sz by_:Nat} (hc:kG P t e sz by_) (hq:dV q run) (hx:bo fr x=some (eX q run)):Av P ⟨dd,.call ⟨.builtin .len,#[x],#[t]⟩,ty,pos,af,g⟩ fr (.sc (.int .i64 run.length)):=by
 cases q with
 | none=>
  rw [hq.emp rfl] at hx ⊢
  exact vR hc hx rfl
 | some m=>exact B2 hc hx
theorem mp (ok:er P tt) {e sz by_:Nat} (ht:jJ tt t=some (e,sz,by_)) (hq:dV q run) (hx:bo fr x=some (eX q run)) (hd:Nat.ble nt d=false) (h:bK P r ops Q nt D rest ((d,.sc (.int .i64 run.length))::fr) B L):bK P r ops Q nt D (⟨some d,.call ⟨.builtin .len,#[x],#[t]⟩,ty,pos,af,none⟩::rest) fr B L:=cf (Gh (bv ok ht).1 hq hx) hd rfl h
end
theorem oL {run:List aI} {i j:Nat} {x:aI} {u:AV} (junk:List AV) (h:run[i]?=some x) (hj:(aY x)[j]?=some u):(ca run++junk)[0+((i:Nat):Int).toNat * 6+j]?=some u:=by
 rw [Int.toNat_natCast,Nat.zero_add]
 exact sa junk h hj
set_option maxHeartbeats 1000000 in
theorem tS (E:pk) (e:pj) (wb:Nat) (m:ge) (run:List aI) (i:Nat) (x:aI) (hx:run[i]?=some x):AC Tryz.prog 186 [g9 wb,.iptr (fB e),aF i] (vJ wb (.iptr (ei E)) (some m) run) fun c L=>c=dY (jI E.ms e.l.Ignore x)∧L=vJ wb (.iptr (ei E)) (some m) run:=by
 refine aN Tryz.func186 rfl Tryz.ntmps186 rfl fun B=>?_
 have hil:=(Jq hx).1
 have h0:=oL (j:=0) m.junk hx rfl
 have hbl:=ut E.ms
 repeat' (first|refine JU ?_|refine JG a5 JA ?_)
 refine br 16 [(0,.v),(1,.v),(2,.v),(3,.l),(4,.v),(5,.v),(6,.v),(7,.l),(8,.v),(9,.v),(10,.v),(11,.l),(12,.v),(13,.v),(14,.v),(15,.v)] none ?_ trivial rfl (by kernel_rfl) (by kernel_rfl) (by kernel_rfl) bQ (by kernel_rfl) rfl
 repeat' (first|refine aD ?_|refine b8 a5 ?_|refine ce a5 0 rfl rfl rfl rfl (by first|trivial|rfl) ?_)
 refine dk a5 rfl rfl rfl ⟨by omega,by omega⟩ trivial ?_
 repeat' (first|refine aD ?_|refine b8 a5 ?_|fail)
 refine ce a5 1 rfl rfl rfl h0 trivial ?_
 repeat' (first|refine aD ?_|refine b8 a5 ?_|refine ce a5 0 rfl rfl rfl rfl (by first|trivial|rfl) ?_)
 refine JQ [1,7,23] JA ?_
 have hs:jI E.ms e.l.Ignore x=(!e.l.Ignore || (decide (x.Glyph < 0) || (decide (x.Glyph≥E.ms.length) || !(E.ms.getD x.Glyph.toNat false)))):=by
  unfold jI oV
  by_cases h1:0≤x.Glyph
  ·by_cases h2:x.Glyph≥E.ms.length
   ·rw [List.getD_eq_getElem?_getD,List.getElem?_eq_none (by omega)];simp [h1,h2]
   ·rw [decide_eq_false h2,decide_eq_false (by omega:¬x.Glyph < 0),decide_eq_true h1];cases e.l.Ignore <;> simp
  ·simp [h1,show x.Glyph < 0 by omega]
 rw [hs]
 repeat' (first|refine JU ?_|refine JG a5 JA ?_|refine JO JA ?_|refine JP JC ?_|refine JS JB (fun _=>?_) (fun _=>?_))
 ·rename_i h1 h2 h3
  have h4:¬((nT E.ms).length:Int)≤x.Glyph:=Jy h3
  have h5:=Jy h2
  obtain ⟨b,hb⟩:∃b,E.ms[x.Glyph.toNat]?=some b:=⟨_,Hb (by omega)⟩
  have hbg:=Bt hb
  repeat' (first|refine JU ?_|refine JG a5 JA ?_|refine JO JA ?_|(apply aL;first|refine aK a5 ?_|refine aG a5 ?_)|fail)
  refine JM JA ⟨?_,rfl⟩
  rw [h1,h2,decide_eq_false (by omega:¬x.Glyph≥E.ms.length),List.getD_eq_getElem?_getD,hb]
  rfl
 ·rename_i h1 h2 h3
  refine JM JA ⟨?_,rfl⟩
  rw [hbl] at h3
  rw [h1,h2,show decide (x.Glyph≥E.ms.length)=true from h3]
  rfl
 ·rename_i h1 h2
  refine JM JA ⟨?_,rfl⟩
  rw [h1,h2]
  rfl
 ·rename_i h1
  refine JM JA ⟨?_,rfl⟩
  rw [h1]
  rfl
end Go.Proofs.YtpmdfoaadejmkaaGreatDoor
namespace Go.Proofs.YtpmdfoaadejmkaaGreatDoor
open Go.RowKit
attribute [local irreducible] AT bK AX AO Av Kt bh dw DA cK
section
variable {ms:List Bool} {ig:Bool} {run:List aI}
theorem o7 {i:Nat} (h:run.length≤i):cI ms ig run i=[]:=by
 unfold cI
 rw [show run.length - i=0 by omega]
 rfl
theorem iD {i:Nat} (h:i < run.length):cI ms ig run i=if eY ms ig run i=true then i::cI ms ig run (i+1) else cI ms ig run (i+1):=by
 unfold cI
 rw [show run.length - i=(run.length - (i+1))+1 by omega,List.range'_succ,List.filter_cons]
theorem jH {i:Nat} {x:aI} (h:run[i]?=some x):eY ms ig run i=jI ms ig x:=by
 unfold eY
 rw [h]
theorem qu {i:Nat} {x:aI} (h:run[i]?=some x):cx run i=x.Glyph:=by
 unfold cx
 rw [h]
theorem qp {i:Nat}:∀p∈cI ms ig run i,i≤p∧p < run.length∧eY ms ig run p=true:=fun p hp=>by
 unfold cI at hp
 obtain ⟨h1,h2⟩:=List.mem_filter.1 hp
 obtain ⟨h3,h4⟩:=List.mem_range'_1.1 h1
 exact ⟨h3,by omega,h2⟩
theorem sM {i:Nat} (h:eY ms ig run i=true):i < run.length:=by
 unfold eY at h
 split at h
 ·rename_i hx
  exact (Jq hx).1
 ·cases h
end
end Go.Proofs.YtpmdfoaadejmkaaGreatDoor
namespace Go.Proofs.YtpmdfoaadejmkaaGreatDoor
open Go.RowKit
attribute [local irreducible] AT bK AX AO Av Kt bh dw DA cK
def bY (l:List Nat):List (List AV):=aW (l.map Int.ofNat)
theorem dm (l:List Nat):(bY l).length=l.length:=by simp [bY,aW]
theorem sy (l:List Nat) (i:Nat):bY l++[[aF i]]=bY (l++[i]):=by simp [bY,aW]
def pd (run:List aI) (l:List Nat):List (List AV):=aW (l.map (cx run))
theorem C3 (run:List aI) (l:List Nat):(pd run l).length=l.length:=by simp [pd,aW]
theorem C2 {run:List aI} (l:List Nat) {i:Nat} {x:aI} (h:run[i]?=some x):pd run l++[[aF x.Glyph]]=pd run (l++[i]):=by simp [pd,aW,qu h]
def dG (ms:List Bool) (ig:Bool) (run:List aI) (up:Bool) (a:Int):List Nat:=if up=true then cI ms ig run a.toNat else lT ms ig run (a+1).toNat
def iU (up:Bool):Int:=if up=true then 1 else -1
def jb (run:List aI) (up:Bool) (a:Int):Prop:= -1≤a∧(up=true→0≤a)∧(up=false→a < run.length)
theorem sL {ms:List Bool} {ig:Bool} {run:List aI} {up:Bool} {a:Int} (h:jb run up a) (ho:¬(0≤a∧a < run.length)):dG ms ig run up a=[]:=by
 obtain ⟨h1,h2,h3⟩:=h
 unfold dG
 cases up with
 | true=>exact o7 (by have:=h2 rfl;omega)
 | false=>
  have:=h3 rfl
  rw [show (a+1).toNat=0 by omega]
  rfl
theorem nu {ms:List Bool} {ig:Bool} {run:List aI} {up:Bool} {a:Int} (h0:0≤a) (h1:a < run.length):dG ms ig run up a=if eY ms ig run a.toNat=true then a.toNat::dG ms ig run up (a+iU up) else dG ms ig run up (a+iU up):=by
 unfold dG iU
 cases up with
 | true=>
  rw [if_pos rfl,if_pos rfl,if_pos rfl,iD (by omega),show (a+1).toNat=a.toNat+1 by omega]
 | false=>
  simp only [Bool.false_eq_true,if_false]
  rw [show (a+1).toNat=a.toNat+1 by omega,lT,show (a+ -1+1).toNat=a.toNat by omega]
theorem jb.next {run:List aI} {up:Bool} {a:Int} (h0:0≤a) (h1:a < run.length):jb run up (a+iU up):=by
 unfold jb iU
 cases up <;> simp <;> omega
def n7 (run:List aI) (up:Bool) (a:Int):Nat:=if up=true then (run.length - a).toNat else (a+1).toNat
theorem qC {run:List aI} {up:Bool} {a:Int} (h0:0≤a) (h1:a < run.length):n7 run up (a+iU up) < n7 run up a:=by
 unfold n7 iU
 cases up <;> simp <;> omega
set_option maxHeartbeats 4000000 in
theorem yq (E:pk) (e:pj) (wb:Nat) (q:Option ge) (run:List aI) (hq:dV q run) (hr:run.length≤1000000) (up:Bool) (a:Int) (ha:jb run up a) (ha2:a≤1000000) (most:Nat):AC Tryz.prog 188 [g9 wb,.iptr (fB e),aF a,aF (iU up),aF most] (vJ wb (.iptr (ei E)) q run) fun c L=>c= .tup [.imm 1 (bY ((dG E.ms e.l.Ignore run up a).take most)),.imm 1 (pd run ((dG E.ms e.l.Ignore run up a).take most))]∧L=vJ wb (.iptr (ei E)) q run:=by
 refine aN Tryz.func188 rfl Tryz.ntmps188 rfl fun B=>?_
 repeat' (first|refine JU ?_|refine am ?_|refine JG a5 JA ?_)
 refine bS (bL (t:=10) (c':= .vec none 1 []) rfl fun σ v h=>cR 1 h) ?_
 refine bS (bL (t:=11) (c':= .vec none 1 []) rfl fun σ v h=>cR 1 h) ?_
 refine aP [0,1,3,4] (α:=Int×List Nat×Option (Nat×Nat)×Option (Nat×Nat)) (fun x=>[(12,aF x.1),(10,.vec x.2.2.1 1 (bY x.2.1)),(11,.vec x.2.2.2 1 (pd run x.2.1))]) (fun x=>jb run up x.1∧x.1≤1000000∧dG E.ms e.l.Ignore run up a=x.2.1++dG E.ms e.l.Ignore run up x.1∧x.2.1.length≤most∧x.2.1.length+n7 run up x.1≤n7 run up a) (fun x=>vJ wb (.iptr (ei E)) q run++(tok x.2.2.1 3 1 (bY x.2.1).length++tok x.2.2.2 3 1 (pd run x.2.1).length)) (fun x=>n7 run up x.1) (a,[],none,none) rfl ⟨rfl,rfl,rfl,trivial⟩ ⟨ha,ha2,by simp,Nat.zero_le _,by simp⟩ (fun _ _ h=>by simpa [tok] using h) ?_
 have hlN:n7 run up a≤1000001:=by
  have:=ha.1
  unfold n7
  have:=ha.2.1
  cases up <;> simp at this ⊢ <;> omega
 rintro ⟨k,ps,q1,q2⟩ ⟨hk,hk2,hps,hpl,hpk⟩
 dsimp only at hk hk2 hps hpl hpk ⊢
 have hnl:=dm ps
 have hgl:=C3 run ps
 try dsimp only [Jt,Js,Jr,Kz]
 repeat' (first|refine JU ?_|refine JG a5 JA ?_)
 refine bX [0,1,3,4,10,11,12] ((0≤k∧k < run.length)∧ps.length < most) rfl (fun Q' K=>?_) (fun hC=>?_) (fun hC=>?_)
 ·repeat' (first|refine JU ?_|refine JG a5 JA ?_|refine JO JA ?_|refine JP JC ?_|(apply bF;first|refine JJ a5 0 JD ?_|refine JJ a5 1 JD ?_|refine JJ a5 2 JD ?_|refine JJ a5 3 JD ?_|refine JK a5 0 JD ?_|refine JK a5 1 JD ?_|refine JK a5 2 JD ?_|refine JL a5 1 JB (by assumption) rfl ?_|refine JL a5 0 JB (by assumption) rfl ?_|fail)|refine JS JB (fun _=>?_) (fun _=>?_))
  ·refine mp a5 rfl hq rfl rfl ?_
   repeat' (first|refine JU ?_|refine JG a5 JA ?_|refine JO JA ?_|refine JP JC ?_|refine JS JB (fun _=>?_) (fun _=>?_))
   all_goals exact K _ _ rfl rfl (by simp_all <;> omega)
  ·exact K _ _ rfl rfl (by simp_all <;> omega)
 ·obtain ⟨⟨h0,h1⟩,h2⟩:=hC
  obtain ⟨m,rfl⟩:=hq.lt (i:=k.toNat) (by omega)
  obtain ⟨x,hx⟩:∃x,run[k.toNat]?=some x:=⟨_,Hb (by omega)⟩
  have hk0:((k.toNat:Nat):Int)=k:=Int.toNat_of_nonneg h0
  have hse:=tS E e wb m run k.toNat x hx
  rw [hk0] at hse
  have hst:=nu (ms:=E.ms) (ig:=e.l.Ignore) (up:=up) h0 h1
  rw [jH hx] at hst
  have hnx:=jb.next (up:=up) h0 h1
  have hln:=qC (up:=up) h0 h1
  have hk3:k+iU up≤1000000:=by have:=hnx.1;unfold iU;split <;> omega
  have hk4: -9223372036854775808≤k+iU up∧k+iU up≤9223372036854775807:=by have:=hnx.1;omega
  repeat' (first|refine JU ?_|refine am ?_|refine JG a5 JA ?_)
  refine b9 (vJ wb (.iptr (ei E)) (some m) run) _ hse rfl rfl (Jp _) rfl fun c L1 ⟨hc,hL⟩=>?_
  subst hc;subst hL
  repeat' (first|refine JU ?_|fail)
  refine ar rfl (fun hb=>?_) (fun hb=>?_)
  ·rw [hb,if_pos rfl] at hst
   repeat' (first|refine JU ?_|refine JG a5 JA ?_|refine bN a5 ?_|fail)
   refine bI a5 (vJ wb (.iptr (ei E)) (some m) run++tok q2 3 1 (pd run ps).length) rfl rfl rfl rfl ?_ (by rw [hnl];simp;omega) (by rw [hnl];simp;omega) rfl fun q1'=>?_
   ·exact (List.perm_append_comm_assoc ..)
   refine aJ (aR (L':=vJ wb (.iptr (ei E)) (some m) run++(tok q1' 3 1 (bY ps++[[aF k]]).length++tok q2 3 1 (pd run ps).length)) (List.perm_append_comm_assoc ..)) ?_
   have hg0:=oL (j:=0) m.junk hx rfl
   rw [hk0] at hg0
   repeat' (first|refine JU ?_|refine JG a5 JA ?_|(apply bF;first|refine JJ a5 0 JD ?_|refine JJ a5 1 JD ?_|refine JJ a5 2 JD ?_|refine JJ a5 3 JD ?_|refine JK a5 0 JD ?_|refine JK a5 1 JD ?_|refine JK a5 2 JD ?_|refine JL a5 1 JB (by assumption) rfl ?_|refine JL a5 0 JB (by assumption) rfl ?_|fail)|(apply aL;first|refine aK a5 ?_|refine aG a5 ?_)|refine bN a5 ?_|fail)
   refine bI a5 (vJ wb (.iptr (ei E)) (some m) run++tok q1' 3 1 (bY ps++[[aF k]]).length) rfl rfl rfl rfl ?_ (by rw [hgl];simp;omega) (by rw [hgl];simp;omega) rfl fun q2'=>?_
   ·rw [←List.append_assoc]
    exact List.perm_append_comm
   refine aJ (aR (L':=vJ wb (.iptr (ei E)) (some m) run++(tok q1' 3 1 (bY ps++[[aF k]]).length++tok q2' 3 1 (pd run ps++[[aF x.Glyph]]).length)) (List.perm_append_comm.trans (by rw [List.append_assoc]))) ?_
   repeat' (first|refine JU ?_|refine JG a5 JA ?_|(apply aS;refine aQ ?_)|fail)
   have e1:bY ps++[[aF k]]=bY (ps++[k.toNat]):=by rw [←sy,hk0]
   have e2:=C2 ps hx
   exact aC (k+iU up,ps++[k.toNat],q1',q2') rfl ⟨rfl,by rw [←e1];rfl,by rw [←e2];rfl,trivial⟩ ⟨hnx,hk3,by rw [hps,hst];simp,by rw [List.length_append,List.length_singleton];omega,by rw [List.length_append,List.length_singleton];dsimp only;omega⟩ hln (fun _ _ h=>by dsimp only;rw [←e1,←e2];exact h)
  ·rw [hb,if_neg (by decide)] at hst
   repeat' (first|refine JU ?_|refine JG a5 JA ?_|(apply aS;refine aQ ?_)|fail)
   exact aC (k+iU up,ps,q1,q2) rfl ⟨rfl,rfl,rfl,trivial⟩ ⟨hnx,hk3,by rw [hps,hst],hpl,by dsimp only;omega⟩ hln (fun _ _ h=>h)
 ·have hres:(dG E.ms e.l.Ignore run up a).take most=ps:=by
   by_cases h1:ps.length < most
   ·rw [hps,sL hk (fun h=>hC ⟨h,h1⟩),List.append_nil,List.take_of_length_le (by omega)]
   ·rw [hps,List.take_append_of_le_length (by omega),List.take_of_length_le (by omega)]
  rw [hres]
  repeat' (first|refine JU ?_|refine JG a5 JA ?_)
  refine dI (L':=vJ wb (.iptr (ei E)) q run) (List.sublist_append_left ..) ?_
  refine bk (bL (t:=10) (c':= .imm 1 (bY ps)) rfl fun σ v h=>VR.im h) ?_
  refine bk (bL (t:=11) (c':= .imm 1 (pd run ps)) rfl fun σ v h=>VR.im h) ?_
  exact JR JB ⟨rfl,rfl⟩
end Go.Proofs.YtpmdfoaadejmkaaGreatDoor
namespace Go.Proofs.YtpmdfoaadejmkaaGreatDoor
open Go.RowKit
section
variable {P:Program} {tt:TT} {r:Option Nat} {ops:Array Oper} {Q:Exit→Act→World→Prop} {nt:Nat} {D:List Deferred} {fr:c8} {B:Bs} {L:AL} {rest:List Oper} {d:Nat} {ty t t':TypeId} {pos:String} {af:Array Edge} {g:Option (Nat×Bool)} {x y z:Operand} {u:AV}
theorem Gt {dd:Option Tmp} {k kk:IntKind} {a b:Int} (i:Nat) (hx:bo fr x=some (.sc (.int k a))) (hy:bo fr y=some (.sc (.int kk b))) (hb:b=(i:Int)):Av P ⟨dd,.binOp .shr t x y t',ty,pos,af,g⟩ fr (.sc (.int k (a / 2 ^ min i k.bits))):=by
 intro σ ρ w hρ _
 subst hb
 refine ⟨_,?_,.sc _⟩
 have h:=shift_shr_any k kk a (i:Int) (Int.natCast_nonneg i)
 simp [execOp,(hρ x _ hx).sc_inv,(hρ y _ hy).sc_inv,eqGuard,binOp,h]
theorem G6 {dd:Option Tmp} {k:IntKind} {a b:Int} (hx:bo fr x=some (.sc (.int k a))) (hy:bo fr y=some (.sc (.int k b))):Av P ⟨dd,.binOp .and t x y t',ty,pos,af,g⟩ fr (.sc (.int k (bits .and k a b))):=by
 intro σ ρ w hρ _
 refine ⟨_,?_,.sc _⟩
 simp [execOp,(hρ x _ hx).sc_inv,(hρ y _ hy).sc_inv,eqGuard,binOp,intBits_and]
theorem xC {dd:Option Tmp} {k:IntKind} {a b:Int} (hx:bo fr x=some (.sc (.int k a))) (hy:bo fr y=some (.sc (.int k b))):Av P ⟨dd,.binOp .or t x y t',ty,pos,af,g⟩ fr (.sc (.int k (bits .or k a b))):=by
 intro σ ρ w hρ _
 refine ⟨_,?_,.sc _⟩
 simp [execOp,(hρ x _ hx).sc_inv,(hρ y _ hy).sc_inv,eqGuard,binOp,intBits_or]
theorem x2 (i:Nat) {k kk:IntKind} {a b:Int} (hx:bo fr x=some (.sc (.int k a))) (hy:bo fr y=some (.sc (.int kk b))) (hb:b=(i:Int)) (hd:Nat.ble nt d=false) (h:bK P r ops Q nt D rest ((d,.sc (.int k (a / 2 ^ min i k.bits)))::fr) B L):
  bK P r ops Q nt D (⟨some d,.binOp .shr t x y t',ty,pos,af,none⟩::rest) fr B L:=cf (Gt i hx hy hb) hd rfl h
theorem qO {k:IntKind} {a b:Int} (hx:bo fr x=some (.sc (.int k a))) (hy:bo fr y=some (.sc (.int k b))) (hd:Nat.ble nt d=false) (h:bK P r ops Q nt D rest ((d,.sc (.int k (bits .and k a b)))::fr) B L):
  bK P r ops Q nt D (⟨some d,.binOp .and t x y t',ty,pos,af,none⟩::rest) fr B L:=cf (G6 hx hy) hd rfl h
theorem tw {k:IntKind} {a b:Int} (hx:bo fr x=some (.sc (.int k a))) (hy:bo fr y=some (.sc (.int k b))) (hd:Nat.ble nt d=false) (h:bK P r ops Q nt D rest ((d,.sc (.int k (bits .or k a b)))::fr) B L):
  bK P r ops Q nt D (⟨some d,.binOp .or t x y t',ty,pos,af,none⟩::rest) fr B L:=cf (xC hx hy) hd rfl h
end
end Go.Proofs.YtpmdfoaadejmkaaGreatDoor
namespace Go.Proofs.YtpmdfoaadejmkaaGreatDoor
open Go.RowKit
def zX:AV→Option Bool
 | .iptr _=>some false
 | .sc (.pointer none)=>some true
 | .sc (.pointer (some _))=>some false
 | _=>none
theorem sF {u:AV} {b:Bool} (h:zX u=some b) {σ:cr} {v:Value} (hv:VR σ u v):∃p,v= .pointer p∧p.isNone=b:=by
 unfold zX at h
 split at h
 ·cases h
  obtain ⟨b',off,h1,_⟩:=hv.iptr_inv
  exact ⟨_,h1,rfl⟩
 ·cases h
  exact ⟨none,hv.sc_inv,rfl⟩
 ·cases h
  exact ⟨_,hv.sc_inv,rfl⟩
 ·cases h
section
variable {P:Program} {fr:c8} {B:Bs} {L:AL} {d:Option Tmp} {ty t t':TypeId} {pos:String} {af:Array Edge} {g:Option (Nat×Bool)} {x y z q:Operand} {u:AV}
theorem qZ {e:TypeId} (h:P.underlying t=some (.pointer e)):P.underlying t=some (.pointer (P.pointee t)):=by
 rw [show P.pointee t=e by simp [Program.pointee,h]];exact h
theorem Ge {e:TypeId} {b:Bool} (ht:P.underlying t=some (.pointer e)) (hx:bo fr x=some u) (hu:zX u=some b) (hy:bo fr y=some (.sc (.pointer none))):Av P ⟨d,.binOp .eql t x y t',ty,pos,af,g⟩ fr (.sc (.bool b)):=fun σ ρ w hρ _=>by
 obtain ⟨p,hp,hb⟩:=sF hu (hρ x u hx)
 refine ⟨_,?_,.sc _⟩
 subst hb
 simp [execOp,hp,(hρ y _ hy).sc_inv,eqGuard,run_eql_pointer_nil w t p (qZ ht)]
theorem Gl {e:TypeId} {b:Bool} (ht:P.underlying t=some (.pointer e)) (hx:bo fr x=some u) (hu:zX u=some b) (hy:bo fr y=some (.sc (.pointer none))):Av P ⟨d,.binOp .neq t x y t',ty,pos,af,g⟩ fr (.sc (.bool (!b))):=fun σ ρ w hρ _=>by
 obtain ⟨p,hp,hb⟩:=sF hu (hρ x u hx)
 refine ⟨_,?_,.sc _⟩
 subst hb
 simp [execOp,hp,(hρ y _ hy).sc_inv,eqGuard,run_neq_pointer_nil w t p (qZ ht)]
theorem G5 {n e sz k b off:Nat} {qq:IntKind} {a:Int} (ht:P.underlying t=some (.array n e)) (hs:(P.info? e).map (·.size)=some sz) (hx:bo fr x=some (.sc (.pointer (some ⟨b,off,none⟩)))) (hy:bo fr y=some (.sc (.int qq a))) (ha:a=(k:Int)) (hk:k < n):Av P ⟨d,.indexAddr t x y,ty,pos,af,g⟩ fr (.sc (.pointer (some ⟨b,off+k * sz,none⟩))):=
 fun σ ρ w hρ _=>by
  subst ha
  have hyv:=(hρ y _ hy).sc_inv
  have hv:=(hρ x _ hx).sc_inv
  have hk':(k:Int) < (n:Int):=by omega
  have hso:(sizeOf e:Sem Nat).run P w= .ok sz w:=by
   cases hi:P.info? e with
   | none=>rw [hi] at hs;cases hs
   | some i=>rw [hi] at hs;simp at hs;simp [sizeOf,typeInfo,hi,hs]
  refine ⟨.pointer (some ⟨b,off+k * sz,none⟩),?_,.sc _⟩
  simp [execOp,hv,hyv,Instr.indexAt,asIntOf,run_underlying ht,hk',hso,Instr.sureAddr,Addr.add]
  by_cases hn:n≤1 <;> by_cases h0:k * sz=0 <;> simp [hn,run_underlying ht,hso,hk,h0]
theorem DT {e sz by_:Nat} {parts:Array (Nat×Operand)} (hc:kG P t e sz by_) (hsz:0 < sz) (hp:parts=#[]):AO P ⟨d,.buildSlice t 0 parts,ty,pos,af,g⟩ fr B L (fun c L'=>∃b,c= .sc (.slice (some ⟨b,0,none⟩) 0 0)∧L'=(b,.box [] e)::L):=by
 intro σ ρ w hρ hw
 subst hp
 haveI:=hc
 have hr:=D8 (P:=P) (t:=t) (by simpa [Nat.blt_eq] using hsz) [] (by simp) (by simp [Nat.ble_eq]) w
 simp at hr
 unfold ia
 rw [show (execOp ρ ⟨d,.buildSlice t 0 #[],ty,pos,af,g⟩).run P w= .ok (.value (.slice (some ⟨w.heap.size,0,none⟩) 0 0)) (w.alloc (.cells #[] e)) by
  simp [execOp,hr]]
 exact ⟨σ,.sc _,_,cr.le_refl _,.sc _,hw.alloc _ (.box [] e) ⟨[],rfl,dh.nil,by simp⟩,_,rfl,rfl⟩
end
section
variable {P:Program} {tt:TT} {r:Option Nat} {ops:Array Oper} {Q:Exit→Act→World→Prop} {nt:Nat} {D:List Deferred} {fr:c8} {B:Bs} {L:AL} {rest:List Oper} {d:Nat} {ty t t':TypeId} {pos:String} {af:Array Edge} {x y z:Operand} {u:AV}
theorem qP {e:TypeId} {b:Bool} (ht:P.underlying t=some (.pointer e)) (hx:bo fr x=some u) (hu:zX u=some b) (hy:bo fr y=some (.sc (.pointer none))) (hd:Nat.ble nt d=false) (h:bK P r ops Q nt D rest ((d,.sc (.bool b))::fr) B L):bK P r ops Q nt D (⟨some d,.binOp .eql t x y t',ty,pos,af,none⟩::rest) fr B L:=cf (Ge ht hx hu hy) hd rfl h
theorem tE {e:TypeId} {b:Bool} (ht:P.underlying t=some (.pointer e)) (hx:bo fr x=some u) (hu:zX u=some b) (hy:bo fr y=some (.sc (.pointer none))) (hd:Nat.ble nt d=false) (h:bK P r ops Q nt D rest ((d,.sc (.bool (!b)))::fr) B L):bK P r ops Q nt D (⟨some d,.binOp .neq t x y t',ty,pos,af,none⟩::rest) fr B L:=cf (Gl ht hx hu hy) hd rfl h
theorem wX (ok:er P tt) (k:Nat) {n e sz b off:Nat} {q:IntKind} {a:Int} (ht:yR tt t=some (n,e,sz)) (hx:bo fr x=some (.sc (.pointer (some ⟨b,off,none⟩)))) (hy:bo fr y=some (.sc (.int q a))) (ha:a=(k:Int)) (hk:k < n) (hd:Nat.ble nt d=false) (h:bK P r ops Q nt D rest ((d,.sc (.pointer (some ⟨b,off+k * sz,none⟩)))::fr) B L):
  bK P r ops Q nt D (⟨some d,.indexAddr t x y,ty,pos,af,none⟩::rest) fr B L:=cf (G5 (ip ok ht).1 (ip ok ht).2 hx hy ha hk) hd rfl h
theorem GW (ok:er P tt) {e sz by_:Nat} (ht:jJ tt t=some (e,sz,by_)) (hd:Nat.ble nt d=false) (h:∀b,bK P r ops Q nt D rest ((d,.sc (.slice (some ⟨b,0,none⟩) 0 0))::fr) B ((b,.box [] e)::L)):
  bK P r ops Q nt D (⟨some d,.buildSlice t 0 #[],ty,pos,af,none⟩::rest) fr B L:=cP hd rfl (DT (bv ok ht).1 (bv ok ht).2 rfl) fun c L' ⟨b,h1,h2⟩=>by subst h1;subst h2;exact h b
theorem GX {k:IntKind} {a b:Int} (hx:bo fr x=some (.sc (.int k a))) (hy:bo fr y=some (.sc (.int k b))) (hd:Nat.ble nt d=false) (h:bK P r ops Q nt D rest ((d,.sc (.int k (k.wrap (a * b))))::fr) B L):bK P r ops Q nt D (⟨some d,.binOp .mul t x y t',ty,pos,af,none⟩::rest) fr B L:=cf (FB hx hy) hd rfl h
theorem GY {k:IntKind} {a:Int} (hx:bo fr x=some (.sc (.int k a))) (hd:Nat.ble nt d=false) (h:bK P r ops Q nt D rest ((d,.sc (.int k (k.wrap (0 - a))))::fr) B L):bK P r ops Q nt D (⟨some d,.unOp .neg t x,ty,pos,af,none⟩::rest) fr B L:=cf (Ht hx) hd rfl h
theorem tz (ok:er P tt) {a:Int} {q q':IntKind} {ti ti':TI} (hx:bo fr x=some (.sc (.int q a))) (ht:df tt t=some ti) (hk:ti.k= .int q) (ht':df tt t'=some ti') (hk':ti'.k= .int q') (hd:Nat.ble nt d=false) (h:bK P r ops Q nt D rest ((d,.sc (.int q' (q'.wrap a)))::fr) B L):
  bK P r ops Q nt D (⟨some d,.convert t t' x,ty,pos,af,none⟩::rest) fr B L:=by
 haveI:=ok.int ht hk
 haveI:=ok.int ht' hk'
 exact cf (rQ hx) hd rfl h
end
end Go.Proofs.YtpmdfoaadejmkaaGreatDoor
namespace Go.Proofs.YtpmdfoaadejmkaaGreatDoor
open Go.RowKit
attribute [local irreducible] AT bK AX AO Av Kt bh dw DA cK
abbrev Hk (cls:List Int) (tab:List (List Int)) (ends:List Nat):AV:= .agg [.imm 1 (aW cls),.imm 1 (b6 tab),.imm 1 (gy ends)]
theorem nF (l:List Nat):(gy l).length=l.length:=by simp [gy]
theorem vH {l:List Nat} {i:Nat} {z:Nat} (h:l[i]?=some z):(gy l)[i]?=some [jp z]:=by simp [gy,h]
section
variable (cls:List Int) (tab:List (List Int)) (ends:List Nat)
theorem Br (s:Int):bJ Tryz.prog 301 [Hk cls tab ends,aF s] (jp (iZ ends s)):=by
 refine aN Tryz.func301 rfl Tryz.ntmps301 rfl fun B=>?_
 have hel:=nF ends
 repeat' (first|refine JU ?_|refine JG a5 JA ?_|refine bf ?_|fail)
 refine bX [1,2] (s < 0∨(ends.length:Int)≤s) rfl (fun Q' K=>?_) (fun hC=>?_) (fun hC=>?_)
 ·repeat' (first|refine JU ?_|refine JG a5 JA ?_|refine JO JA ?_|refine JP JC ?_|refine JS JB (fun _=>?_) (fun _=>?_))
  all_goals exact K _ _ rfl rfl (by simp_all <;> omega)
 ·repeat' (first|refine JU ?_|refine JG a5 JA ?_)
  refine JM JA ?_
  unfold iZ
  rcases hC with h | h
  ·rw [if_pos h];rfl
  ·by_cases h0:s < 0
   ·rw [if_pos h0];rfl
   ·rw [if_neg h0,List.getD_eq_getElem?_getD,List.getElem?_eq_none (by omega)];rfl
 ·obtain ⟨z,hz⟩:∃z,ends[s.toNat]?=some z:=⟨_,Hb (by omega)⟩
  have hzg:=vH hz
  repeat' (first|refine JU ?_|refine JG a5 JA ?_|(apply aL;first|refine aK a5 ?_|refine aG a5 ?_)|fail)
  refine JM JA ?_
  unfold iZ
  rw [if_neg (fun h=>hC (.inl h)),List.getD_eq_getElem?_getD,hz]
  rfl
instance (s:Int):AD Tryz.prog 301 [Hk cls tab ends,aF s] (jp (iZ ends s)):=⟨Br cls tab ends s⟩
theorem CM (s g:Int):bJ Tryz.prog 302 [Hk cls tab ends,aF s,aF g] (aF (i7 cls tab s g)):=by
 refine aN Tryz.func302 rfl Tryz.ntmps302 rfl fun B=>?_
 have hcl:=aZ cls
 have htl:=c6 tab
 repeat' (first|refine JU ?_|refine JG a5 JA ?_|refine bf ?_|fail)
 refine bX [1,2,3] ((s < 0∨(tab.length:Int)≤s)∨(g < 0∨(cls.length:Int)≤g)) rfl (fun Q' K=>?_) (fun hC=>?_) (fun hC=>?_)
 ·repeat' (first|refine JU ?_|refine JG a5 JA ?_|refine JO JA ?_|refine JP JC ?_|refine JS JB (fun _=>?_) (fun _=>?_))
  all_goals exact K _ _ rfl rfl (by simp_all <;> omega)
 ·repeat' (first|refine JU ?_|refine JG a5 JA ?_)
  refine JM JA ?_
  unfold i7
  by_cases h0:s < 0∨g < 0
  ·rw [if_pos h0]
  ·rw [if_neg h0]
   split
   ·rename_i h1 h2
    have:=(Jq h1).1
    have:=(Jq h2).1
    omega
   ·rfl
 ·obtain ⟨eQ,hrow⟩:∃z,tab[s.toNat]?=some z:=⟨_,Hb (by omega)⟩
  obtain ⟨c,hc⟩:∃z,cls[g.toNat]?=some z:=⟨_,Hb (by omega)⟩
  have hrg:=eR hrow
  have hcg:=bO hc
  have hrl:=aZ eQ
  have hN:i7 cls tab s g=if c < 0 then -1 else match eQ[c.toNat]? with
   | some z=>if 0≤z∧z < tab.length then z else -1
   | none=> -1:=by
   unfold i7
   rw [if_neg (by omega),hrow,hc]
   rfl
  rw [hN]
  repeat' (first|refine JU ?_|fail)
  refine br 11 [(0,.v),(1,.v),(2,.v),(3,.v),(4,.v),(5,.v),(6,.v),(7,.v),(8,.v),(9,.v),(10,.v)] none ?_ trivial rfl (by kernel_rfl) (by kernel_rfl) (by kernel_rfl) bQ (by kernel_rfl) rfl
  repeat' (first|refine aD ?_|refine b8 a5 ?_|(apply bW;refine ci a5 ?_)|fail)
  refine JQ [3,7,39] JA ?_
  repeat' (first|refine JU ?_|refine a7 ?_|refine JG a5 JA ?_)
  refine bX [3,7,8] (c < 0∨(eQ.length:Int)≤c) rfl (fun Q' K=>?_) (fun hC2=>?_) (fun hC2=>?_)
  ·repeat' (first|refine JU ?_|refine JG a5 JA ?_|refine JO JA ?_|refine JP JC ?_|refine JS JB (fun _=>?_) (fun _=>?_))
   all_goals exact K _ _ rfl rfl (by simp_all <;> omega)
  ·repeat' (first|refine JU ?_|refine JG a5 JA ?_)
   refine JM JA ?_
   by_cases h0:c < 0
   ·rw [if_pos h0]
   ·rw [if_neg h0,List.getElem?_eq_none (by omega)]
  ·obtain ⟨z,hz⟩:∃z,eQ[c.toNat]?=some z:=⟨_,Hb (by omega)⟩
   have hzg:=bO hz
   rw [if_neg (fun h=>hC2 (.inl h)),hz]
   dsimp only
   repeat' (first|refine JU ?_|refine JG a5 JA ?_|(apply aL;first|refine aK a5 ?_|refine aG a5 ?_)|fail)
   refine bX [9] (0≤z∧z < tab.length) rfl (fun Q' K=>?_) (fun hC3=>?_) (fun hC3=>?_)
   ·repeat' (first|refine JU ?_|refine JG a5 JA ?_|refine JO JA ?_|refine JP JC ?_|refine JS JB (fun _=>?_) (fun _=>?_))
    all_goals exact K _ _ rfl rfl (by simp_all <;> omega)
   ·rw [if_pos hC3]
    repeat' (first|refine JU ?_|refine JG a5 JA ?_)
    exact JN JB
   ·rw [if_neg hC3]
    repeat' (first|refine JU ?_|refine JG a5 JA ?_)
    exact JN JB
instance (s g:Int):AD Tryz.prog 302 [Hk cls tab ends,aF s,aF g] (aF (i7 cls tab s g)):=⟨CM cls tab ends s g⟩
theorem kQ {ends:List Nat} (h:∀z∈ends,z < 18446744073709551616) (s:Int):iZ ends s < 18446744073709551616:=by
 unfold iZ
 split
 ·decide
 ·rw [List.getD_eq_getElem?_getD]
  cases hz:ends[s.toNat]? with
  | none=>decide
  | some z=>exact h z (Jx hz)
theorem CO {a b:Nat} (ha:a < 18446744073709551616) (hb:b < 18446744073709551616):a ||| b < 18446744073709551616:=Nat.or_lt_two_pow (n:=64) ha hb
theorem vn {cls:List Int} {tab:List (List Int)} {ends:List Nat} (h:∀z∈ends,z < 18446744073709551616):∀(gl:List Int) (s:Int) (told:Nat),told < 18446744073709551616→m4 cls tab ends s gl told < 18446744073709551616
 | [],_,_,ht=>ht
 | g::r,s,told,ht=>by
  rw [m4]
  split
  ·exact ht
  ·exact vn h r _ _ (CO ht (kQ h _))
theorem vo (h:∀z∈ends,z < 18446744073709551616) (gl:List Int):fY cls tab ends gl < 18446744073709551616:=vn h gl 0 _ (kQ h _)
theorem vp (hE:∀z∈ends,z < 18446744073709551616) (gl:List Int):bJ Tryz.prog 286 [Hk cls tab ends,.imm 1 (aW gl)] (jp (fY cls tab ends gl)):=by
 refine aN Tryz.func286 rfl Tryz.ntmps286 rfl fun B=>?_
 have hgl:=aZ gl
 refine cB 1 rfl rfl fun hlen=>?_
 repeat' (first|refine JU ?_|refine am ?_|refine JG a5 JA ?_|refine bf ?_|(apply bw;refine bn ?_)|fail)
 refine aP [2,12,13] (α:=Nat×Int×Nat) (fun x=>[(14,aF x.1),(5,aF x.2.1),(6,jp x.2.2)]) (fun x=>x.1≤gl.length∧x.2.2 < 18446744073709551616∧m4 cls tab ends x.2.1 (gl.drop x.1) x.2.2=fY cls tab ends gl) (fun _=>[]) (fun x=>gl.length - x.1) (0,0,iZ ends 0) rfl ⟨rfl,rfl,rfl,trivial⟩ ⟨Nat.zero_le _,kQ hE 0,rfl⟩ (fun _ _ h=>h) ?_
 rintro ⟨i,s,told⟩ ⟨hi,ht,hr⟩
 dsimp only at hi ht hr ⊢
 try dsimp only [Jt,Js,Jr,Kz]
 repeat' (first|refine JU ?_|refine JG a5 JA ?_)
 refine ar rfl (fun h=>?_) (fun h=>?_)
 ·have hil:i < gl.length:=by have:=Jz h;omega
  obtain ⟨z,hz⟩:∃z,gl[i]?=some z:=⟨_,Hb hil⟩
  have hzg:=bO hz
  have hd:gl.drop i=z::gl.drop (i+1):=by
   rw [List.drop_eq_getElem_cons hil,(Jq hz).2]
  rw [hd,m4] at hr
  clear h
  repeat' (first|refine JU ?_|refine am ?_|refine JG a5 JA ?_|(apply aL;first|refine aK a5 ?_|refine aG a5 ?_)|(apply bw;refine bn ?_)|fail)
  refine ar rfl (fun h=>?_) (fun h=>?_)
  ·have h2:i7 cls tab s z= -1:=Jz h
   rw [if_pos h2] at hr
   repeat' (first|refine JU ?_|refine eg rfl ?_|refine JG a5 JA ?_)
   refine JM JA ?_
   rw [hr]
  ·have h2:¬i7 cls tab s z= -1:=Jy h
   rw [if_neg h2] at hr
   repeat' (first|refine JU ?_|refine JG a5 JA ?_|(apply bw;refine bn ?_)|fail)
   refine tw rfl rfl rfl ?_
   rw [u64_or_nat _ _ ht (kQ hE _)]
   repeat' (first|refine JU ?_|refine JG a5 JA ?_|(apply aS;refine aQ ?_)|fail)
   exact aC (i+1,i7 cls tab s z,told ||| iZ ends (i7 cls tab s z)) rfl ⟨by rw [Jw];rfl,rfl,rfl,trivial⟩ ⟨hil,CO ht (kQ hE _),hr⟩ (by dsimp only;omega) (fun _ _ h=>h)
 ·have hil:i=gl.length:=by have:=Jy h;omega
  subst hil
  rw [List.drop_length,m4] at hr
  repeat' (first|refine JU ?_|refine JG a5 JA ?_)
  refine JM JA ?_
  rw [hr]
end
abbrev AR (e:pj):AV:= .agg (Hz e)
structure sX (e:pj):Prop where
 fore:∀z∈e.foreE,z < 18446744073709551616
 back:∀z∈e.backE,z < 18446744073709551616
theorem BZ (e:pj) (h:sX e) (gl:List Int):bJ Tryz.prog 257 [AR e,.imm 1 (aW gl)] (jp (fY e.cls e.fore e.foreE gl)):=by
 refine aN Tryz.func257 rfl Tryz.ntmps257 rfl fun B=>?_
 haveI:=AD.mk (vp e.cls e.fore e.foreE h.fore gl)
 repeat' (first|refine JU ?_|refine JG a5 JA ?_|refine bf ?_|(apply bw;refine bn ?_)|fail)
 exact JN JB
theorem Bo (e:pj) (h:sX e) (gl:List Int):bJ Tryz.prog 256 [AR e,.imm 1 (aW gl)] (jp (fY e.cls e.back e.backE gl)):=by
 refine aN Tryz.func256 rfl Tryz.ntmps256 rfl fun B=>?_
 haveI:=AD.mk (vp e.cls e.back e.backE h.back gl)
 repeat' (first|refine JU ?_|refine JG a5 JA ?_|refine bf ?_|(apply bw;refine bn ?_)|fail)
 exact JN JB
def jL:List Int:=[0,1,56,2,57,49,28,3,61,58,42,50,38,29,17,4,62,47,59,36,45,43,51,22,53,39,33,30,24,18,12,5,63,55,48,27,60,41,37,16,46,35,44,21,52,32,23,11,54,26,40,15,34,20,31,10,25,14,19,9,13,8,7,6]
def xo:List AV:=jL.map fun z=> .sc (.int .u8 z)
abbrev dP:Nat×AB:=(0,.box xo 364)
def Jj (x:Int):Int:=bits .and .u64 x (IntKind.u64.wrap (0 - x))
def IR (x:Int):Int:=IntKind.u64.wrap (Jj x * 285870213051353865) / 2 ^ min 58 IntKind.u64.bits
def Ir (x:Nat):Int:=jL.getD (IR x).toNat 0
theorem vG:∀(n:Nat),n < 64→n≠0→0≤IR (n:Nat)∧IR (n:Nat) < 64:=by decide+kernel
theorem Ds:∀(n:Nat),n < 64→∀(i:Nat),i < 6→n.testBit i=true→(∀(j:Nat),j < i→n.testBit j=false)→Ir n=(i:Nat):=by decide+kernel
theorem Dn {k:Nat} (h:k < 64):xo[0+k * 1]?=some (.sc (.int .u8 (jL.getD k 0))):=by
 have hl:jL.length=64:=rfl
 unfold xo
 rw [List.getElem?_map,Nat.zero_add,Nat.mul_one,Hb (by omega),List.getD_eq_getElem?_getD,Hb (by omega)]
 rfl
theorem If (x:Nat) (hx:x < 64) (h0:x≠0):AC Tryz.prog 258 [jp x] [dP] fun c L=>c=aF (Ir x)∧L=[dP]:=by
 refine aN Tryz.func258 rfl Tryz.ntmps258 rfl fun B=>?_
 have hz:¬((x:Int)=0):=by omega
 obtain ⟨k,hk⟩:=Int.eq_ofNat_of_zero_le (vG x hx h0).1
 have hk64:k < 64:=by have:=(vG x hx h0).2;omega
 have hkc:=Dn hk64
 repeat' (first|refine JU ?_|refine JG a5 JA ?_)
 refine ar rfl (fun h=>absurd (Jz h) hz) (fun _=>?_)
 repeat' (first|refine JU ?_|refine JG a5 JA ?_)
 refine GY rfl rfl ?_
 refine qO rfl rfl rfl ?_
 refine GX rfl rfl rfl ?_
 refine x2 58 rfl rfl rfl rfl ?_
 refine wX a5 k rfl rfl rfl hk hk64 rfl ?_
 refine JL a5 0 JB hkc rfl ?_
 refine tz a5 rfl rfl rfl rfl rfl rfl ?_
 repeat' (first|refine JU ?_|refine JG a5 JA ?_)
 refine JM JA ⟨?_,rfl⟩
 unfold Ir
 rw [hk,Int.toNat_natCast]
 have hb:∀k < 64,IntKind.i64.wrap (jL.getD k 0)=jL.getD k 0:=by decide
 rw [hb k hk64]
def ta (b:Nat):Int:=if b=0 then -1 else Ir b
theorem yH (e:pj) (h:sX e) (bg fg:List Int) (hb:fY e.cls e.back e.backE bg &&& fY e.cls e.fore e.foreE fg < 64):AC Tryz.prog 189 [AR e,.imm 1 (aW bg),.imm 1 (aW fg)] [dP] fun c L=>c=aF (ta (fY e.cls e.back e.backE bg &&& fY e.cls e.fore e.foreE fg))∧L=[dP]:=by
 refine aN Tryz.func189 rfl Tryz.ntmps189 rfl fun B=>?_
 haveI:=AD.mk (BZ e h fg)
 haveI:=AD.mk (Bo e h bg)
 have h1:=vo e.cls e.back e.backE h.back bg
 have h2:=vo e.cls e.fore e.foreE h.fore fg
 repeat' (first|refine JU ?_|refine JG a5 JA ?_|refine bf ?_|fail)
 refine br 5 [(0,.v),(1,.v),(2,.v),(3,.v),(4,.v)] none ?_ trivial rfl (by kernel_rfl) (by kernel_rfl) (by kernel_rfl) bQ (by kernel_rfl) rfl
 repeat' (first|refine aD ?_|refine b8 a5 ?_|(apply cW;refine du ?_)|fail)
 refine JQ [10,11,12] JA ?_
 repeat' (first|(apply bw;refine bn ?_)|fail)
 refine qO rfl rfl rfl ?_
 rw [u64_and_nat _ _ h1 h2]
 generalize fY e.cls e.back e.backE bg &&& fY e.cls e.fore e.foreE fg=b at hb ⊢
 repeat' (first|refine JU ?_|refine JG a5 JA ?_)
 unfold ta
 refine ar rfl (fun h=>?_) (fun h=>?_)
 ·have hb0:b=0:=by have:=Jz h;omega
  rw [if_pos hb0]
  repeat' (first|refine JU ?_|refine JG a5 JA ?_)
  exact JM JA ⟨rfl,rfl⟩
 ·have hb0:b≠0:=by have:=Jy h;omega
  rw [if_neg hb0]
  repeat' (first|refine JU ?_|refine JG a5 JA ?_)
  refine b9 [dP] [] (If b hb hb0) rfl rfl (Jp _) rfl fun c L1 ⟨hc,hL⟩=>?_
  subst hc;subst hL
  repeat' (first|refine JU ?_|refine JG a5 JA ?_)
  exact JM JA ⟨rfl,rfl⟩
end Go.Proofs.YtpmdfoaadejmkaaGreatDoor
namespace Go.Proofs.YtpmdfoaadejmkaaGreatDoor
open Go.RowKit
attribute [local irreducible] AT bK AX AO Av Kt bh dw DA cK
open Go.ChangeShapes Go.WideShapes Go.ChangeAt Go.RowKit
theorem Tryz.own:ownKnob Tryz.prog.godebug=none:=by kernel_rfl
theorem Tryz.laidOut:laidOutB Tryz.prog=true:=by kernel_rfl
theorem HJ:Tryz.prog.globalNamed "math/bits.deBruijn64tab" =some 0:=by kernel_rfl
theorem C1:(Tryz.prog.globals[0]?).map (·.type)=some 364:=by kernel_rfl
theorem Bx:Tryz.prog.cellsOf 364=64:=by kernel_rfl
theorem E5:Tryz.prog.cellsOf 5=1:=by kernel_rfl
theorem H8:(((begin Tryz.prog (fun _ _=>0) default).world.heap)[0]?).bind Obj.row?=some ((List.replicate 64 (Value.int .u8 0)).toArray,364):=by kernel_rfl
def HN:List (String×DataW Unit):=[("math/bits.deBruijn64tab",Lib.tabData .u8 jL)]
theorem yx {W:World} (hL:laidMet Tryz.prog HN W) (hS:W.ShapedOpen Tryz.prog):W.heap[0]?=some (.cells (jL.map (Value.int .u8)).toArray 364 (0,0)):=by
 have h:Lib.TabIs Tryz.prog W "math/bits.deBruijn64tab" .u8 jL:=Lib.tabIs_of_head (rest:=[]) HJ C1 Tryz.underlying364 Tryz.underlying5 E5 Bx hL
 obtain ⟨cs,h1,_,_⟩:=hS.1 0 _ 364 (Jz (by kernel_rfl)) H8
 unfold Lib.TabIs World.var? at h
 rw [HJ,Option.bind_some,h1] at h
 cases h
 exact h1
def pg (W:World):cr:=fun b off=>if b=0 then none else W.cell? ⟨b,off,none⟩
theorem Fo {σ:cr}:dh σ xo (jL.map (Value.int .u8)):=by
 unfold xo
 generalize jL=l
 induction l with
 | nil=>exact dh.nil
 | cons x l ih=>exact dh.cons (.sc _) ih
theorem vI {σ:cr} {vs:List Value} (h:dh σ xo vs):vs=jL.map (Value.int .u8):=by
 unfold xo at h
 revert vs
 generalize jL=l
 induction l with
 | nil=>
  intro vs h
  exact List.eq_nil_of_length_eq_zero h.1.symm
 | cons x l ih=>
  intro vs h
  obtain ⟨y,u,rfl,h1,h2⟩:=dh.inv h
  rw [h1.sc_inv,ih h2]
  rfl
theorem EM {W:World} (h:W.heap[0]?=some (.cells (jL.map (Value.int .u8)).toArray 364 (0,0))):d7 ⟨W,pg W,[0]⟩ (pg W) [dP] W:=by
 have h0:0 < W.heap.size:=by
  rcases Nat.lt_or_ge 0 W.heap.size with h' | h'
  ·exact h'
  ·rw [Array.getElem?_eq_none h'] at h;cases h
 refine ⟨rfl,rfl,rfl,Nat.le_refl _,fun _ _ _=>rfl,fun p hp=>?_,fun p hp=>?_,by simp,fun b off u hu=>?_,fun p hp off _=>?_,fun _ _ _ h=>h,fun _ _ _ _=>rfl⟩
 ·rw [Jn hp]
  exact ⟨_,h,_,rfl,Fo,fun u hu=>by
   obtain ⟨z,_,rfl⟩:=List.mem_map.1 hu
   rfl⟩
 ·rw [Jn hp]
  exact .inr (by simp)
 ·unfold pg at hu
  split at hu
  ·cases hu
  ·exact hu
 ·rw [Jn hp]
  rfl
theorem Ap {f:FuncId} {args:List AV} {u:Value} (h:AC Tryz.prog f args [dP] fun c L=>c= .sc u∧L=[dP]) (W:World) (hT:W.heap[0]?=some (.cells (jL.map (Value.int .u8)).toArray 364 (0,0))) (vs:List Value) (hv:dh (pg W) args vs):Calls Tryz.prog f vs.toArray W fun e W'=>∃v,e= .returned v∧Below W.heap.size W W'∧v=u:=
 (h (pg W) W vs hv (EM hT)).mono fun e W' ⟨v,τ,c,L',he,hr,hst,hc,hL⟩=>by
  subst hc
  subst hL
  refine ⟨v,he,⟨hst.os,hst.tape,hst.output,hst.size,fun k hk=>?_⟩,hr.sc_inv⟩
  by_cases h0:k=0
  ·subst h0
   obtain ⟨o,h1,vs',h2,h3,_⟩:=hst.here dP (by simp)
   rw [h1,h2,hT,vI h3]
  ·exact hst.old k hk (by simp [h0])
end Go.Proofs.YtpmdfoaadejmkaaGreatDoor
namespace Go.Proofs.YtpmdfoaadejmkaaGreatDoor
open Go.RowKit
attribute [local irreducible] AT bK AX AO Av Kt bh dw DA cK
theorem qm:∀{a b:List (List Int)} {gl:List Int},dg (a++b) gl=(dg a gl && dg b (gl.drop a.length))
 | [],b,gl=>by simp [dg]
 | _::_,b,[]=>by simp [dg]
 | s::a,b,g::gl=>by
  rw [Jt,dg,qm,dg,List.length_cons,List.drop_succ_cons,Bool.and_assoc]
section
variable {ms:List Bool} {ig:Bool} {run:List aI}
theorem kZ:∀(d i k p:Nat),run.length - i≤d→(cI ms ig run i)[k]?=some p→cI ms ig run (p+1)=(cI ms ig run i).drop (k+1)
 | d,i,k,p,hd,h=>by
  by_cases hi:i < run.length
  ·have hst:=iD (ms:=ms) (ig:=ig) hi
   rw [hst] at h
   match d with
   | 0=>omega
   | d+1=>
    split at h
    ·rename_i hs
     rw [if_pos hs] at hst
     rw [hst]
     match k with
     | 0=>simp at h;subst h;simp
     | k+1=>
      rw [List.getElem?_cons_succ] at h
      rw [List.drop_succ_cons]
      exact kZ d (i+1) k p (by omega) h
    ·rename_i hs
     rw [if_neg hs] at hst
     rw [hst]
     exact kZ d (i+1) k p (by omega) h
  ·rw [o7 (by omega)] at h
   simp at h
end
def dE (q:List Nat):Nat→List aI→List aI
 | _,[]=>[]
 | k,x::r=>if k∈q then dE q (k+1) r else x::dE q (k+1) r
theorem qy {q:List Nat} {j:Nat}:∀{r:List aI} {k:Nat},j < k→dE (j::q) k r=dE q k r
 | [],_,_=>rfl
 | x::r,k,h=>by
  have hk:k≠j:=by omega
  rw [dE,dE,qy (by omega)]
  simp [hk]
theorem oP {q:List Nat}:∀{r:List aI} {k p:Nat},(∀j∈q,k+p < j)→(dE q k r).eraseIdx p=dE ((k+p)::q) k r
 | [],_,_,_=>by simp [dE]
 | x::r,k,p,h=>by
  have hk:k∉q:=fun e=>by have:=h k e;omega
  match p with
  | 0=>
   rw [dE,if_neg hk,List.eraseIdx_cons_zero,dE,if_pos (by simp),Nat.add_zero,qy (by omega)]
  | p+1=>
   rw [dE,if_neg hk,List.eraseIdx_cons_succ,oP (fun j hj=>by have:=h j hj;omega),dE,if_neg,show k+1+p=k+(p+1) by omega]
   rw [List.mem_cons]
   rintro (e | e)
   ·omega
   ·exact hk e
theorem sq:∀{r:List aI} {k:Nat},dE [] k r=r
 | [],_=>rfl
 | x::r,k=>by rw [dE,if_neg (by simp),sq]
theorem qc {run:List aI}:∀{q:List Nat},q.Pairwise (· < ·)→f3 q run=dE q 0 run
  | [],_=>sq.symm
  | p::q,h=>by
    obtain ⟨h1,h2⟩:=List.pairwise_cons.1 h
    rw [f3,qc h2,oP (fun j hj=>by have:=h1 j hj;omega),Nat.zero_add]
end Go.Proofs.YtpmdfoaadejmkaaGreatDoor
