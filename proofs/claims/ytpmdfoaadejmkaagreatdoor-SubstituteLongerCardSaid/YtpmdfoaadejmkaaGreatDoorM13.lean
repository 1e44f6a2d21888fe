/-
  Places that are seen, step by step.
-/
import Derived.Test.YtpmdfoaadejmkaaGreatDoorM05
import Derived.Test.YtpmdfoaadejmkaaGreatDoorM12
import Derived.Laws.Shifts
import Derived.Laws.Pointers
import Derived.Laws.BitsAllLaws
import Derived.Test.YtpmdfoaadejmkaaGreatDoorRows
import Derived.WalkKit
import Derived.ProofKit
import Derived.OpenShut
import Derived.ChangeOld
import Derived.SizedLaws
import Derived.Deep.DeepHandedRow
import Derived.Lib.LaidTab
namespace Go.Proofs.YtpmdfoaadejmkaaGreatDoor
open Go.RowKit
attribute [local irreducible] AT br AX AO Av Kt bb df DA cC
section
variable {ms:List Bool} {ig:Bool} {run:List aK}
theorem rf {i:Nat} (h:run.length≤i):dJ ms ig run i=[]:=by
 unfold dJ
 rw [show run.length - i=0 by omega]
 rfl
theorem lJ {i:Nat} (h:i < run.length):dJ ms ig run i=if jN ms ig run i=true then i::dJ ms ig run (i+1) else dJ ms ig run (i+1):=by
 unfold dJ
 rw [show run.length - i=(run.length - (i+1))+1 by omega,List.range'_succ,List.filter_cons]
theorem nG {i:Nat} {x:aK} (h:run[i]?=some x):jN ms ig run i=oo ms ig x:=by
 unfold jN
 rw [h]
theorem vx {i:Nat} {x:aK} (h:run[i]?=some x):ea run i=x.Glyph:=by
 unfold ea
 rw [h]
theorem Aw {i:Nat}:∀p∈dJ ms ig run i,i≤p∧p < run.length∧jN ms ig run p=true:=fun p hp=>by
 unfold dJ at hp
 obtain ⟨h1,h2⟩:=List.mem_filter.1 hp
 obtain ⟨h3,h4⟩:=List.mem_range'_1.1 h1
 exact ⟨h3,by omega,h2⟩
end
end Go.Proofs.YtpmdfoaadejmkaaGreatDoor
namespace Go.Proofs.YtpmdfoaadejmkaaGreatDoor
open Go.RowKit
attribute [local irreducible] AT br AX AO Av Kt bb df DA cC
def cZ (l:List Nat):List (List AV):=aT (l.map Int.ofNat)
theorem lb (l:List Nat):(cZ l).length=l.length:=by simp [cZ,aT]
theorem yo (l:List Nat) (i:Nat):cZ l++[[aF i]]=cZ (l++[i]):=by simp [cZ,aT]
def oy (run:List aK) (l:List Nat):List (List AV):=aT (l.map (ea run))
theorem AE (run:List aK) (l:List Nat):(oy run l).length=l.length:=by simp [oy,aT]
theorem AA {run:List aK} (l:List Nat) {i:Nat} {x:aK} (h:run[i]?=some x):oy run l++[[aF x.Glyph]]=oy run (l++[i]):=by simp [oy,aT,vx h]
def f7 (ms:List Bool) (ig:Bool) (run:List aK) (up:Bool) (a:Int):List Nat:=if up=true then dJ ms ig run a.toNat else m8 ms ig run (a+1).toNat
def mW (up:Bool):Int:=if up=true then 1 else -1
def lz (run:List aK) (up:Bool) (a:Int):Prop:= -1≤a∧(up=true→0≤a)∧(up=false→a < run.length)
theorem yO {ms:List Bool} {ig:Bool} {run:List aK} {up:Bool} {a:Int} (h:lz run up a) (ho:¬(0≤a∧a < run.length)):f7 ms ig run up a=[]:=by
 obtain ⟨h1,h2,h3⟩:=h
 unfold f7
 cases up with
 | true=>exact rf (by have:=h2 rfl;omega)
 | false=>
  have:=h3 rfl
  rw [show (a+1).toNat=0 by omega]
  rfl
theorem BR {ms:List Bool} {ig:Bool} {run:List aK} {up:Bool} {a:Int} (h0:0≤a) (h1:a < run.length):f7 ms ig run up a=if jN ms ig run a.toNat=true then a.toNat::f7 ms ig run up (a+mW up) else f7 ms ig run up (a+mW up):=by
 unfold f7 mW
 cases up with
 | true=>
  rw [if_pos rfl,if_pos rfl,if_pos rfl,lJ (by omega),show (a+1).toNat=a.toNat+1 by omega]
 | false=>
  simp only [Bool.false_eq_true,if_false]
  rw [show (a+1).toNat=a.toNat+1 by omega,m8,show (a+ -1+1).toNat=a.toNat by omega]
theorem lz.next {run:List aK} {up:Bool} {a:Int} (h0:0≤a) (h1:a < run.length):lz run up (a+mW up):=by
 unfold lz mW
 cases up <;> simp <;> omega
def o4 (run:List aK) (up:Bool) (a:Int):Nat:=if up=true then (run.length - a).toNat else (a+1).toNat
theorem vE {run:List aK} {up:Bool} {a:Int} (h0:0≤a) (h1:a < run.length):o4 run up (a+mW up) < o4 run up a:=by
 unfold o4 mW
 cases up <;> simp <;> omega
set_option maxHeartbeats 4000000 in
theorem xc (E:ow) (e:oE) (wb:Nat) (q:Option fW) (run:List aK) (hq:dI q run) (hr:run.length≤1000000) (up:Bool) (a:Int) (ha:lz run up a) (ha2:a≤1000000) (most:Nat):AC Tryz.prog 188 [fT wb,.iptr (fv e),aF a,aF (mW up),aF most] (uD wb (.iptr (dR E)) q run) fun c L=>c= .tup [.imm 1 (cZ ((f7 E.ms e.l.Ignore run up a).take most)),.imm 1 (oy run ((f7 E.ms e.l.Ignore run up a).take most))]∧L=uD wb (.iptr (dR E)) q run:=by
 refine aN Tryz.func188 rfl Tryz.ntmps188 rfl fun B=>?_
 repeat' (first|refine If ?_|refine ak ?_|refine IF a5 FN ?_)
 refine bP (bO (t:=10) (c':= .vec none 1 []) rfl fun σ v h=>cJ 1 h) ?_
 refine bP (bO (t:=11) (c':= .vec none 1 []) rfl fun σ v h=>cJ 1 h) ?_
 refine aO [0,1,3,4] (α:=Int×List Nat×Option (Nat×Nat)×Option (Nat×Nat)) (fun x=>[(12,aF x.1),(10,.vec x.2.2.1 1 (cZ x.2.1)),(11,.vec x.2.2.2 1 (oy run x.2.1))]) (fun x=>lz run up x.1∧x.1≤1000000∧f7 E.ms e.l.Ignore run up a=x.2.1++f7 E.ms e.l.Ignore run up x.1∧x.2.1.length≤most∧x.2.1.length+o4 run up x.1≤o4 run up a) (fun x=>uD wb (.iptr (dR E)) q run++(tok x.2.2.1 3 1 (cZ x.2.1).length++tok x.2.2.2 3 1 (oy run x.2.1).length)) (fun x=>o4 run up x.1) (a,[],none,none) rfl ⟨rfl,rfl,rfl,trivial⟩ ⟨ha,ha2,by simp,Nat.zero_le _,by simp⟩ (fun _ _ h=>by simpa [tok] using h) ?_
 have hlN:o4 run up a≤1000001:=by
  have:=ha.1
  unfold o4
  have:=ha.2.1
  cases up <;> simp at this ⊢ <;> omega
 rintro ⟨k,ps,q1,q2⟩ ⟨hk,hk2,hps,hpl,hpk⟩
 dsimp only at hk hk2 hps hpl hpk ⊢
 have hnl:=lb ps
 have hgl:=AE run ps
 try dsimp only [Is,Ir,Iq,Ik]
 repeat' (first|refine If ?_|refine IF a5 FN ?_)
 refine c9 [0,1,3,4,10,11,12] ((0≤k∧k < run.length)∧ps.length < most) rfl (fun Q' K=>?_) (fun hC=>?_) (fun hC=>?_)
 ·repeat' (first|refine If ?_|refine IF a5 FN ?_|refine IN FN ?_|refine IP IB ?_|(apply bw;first|refine II a5 0 IC ?_|refine II a5 1 IC ?_|refine II a5 2 IC ?_|refine II a5 3 IC ?_|refine IJ a5 0 IC ?_|refine IJ a5 1 IC ?_|refine IJ a5 2 IC ?_|refine IK a5 1 IA (by assumption) rfl ?_|refine IK a5 0 IA (by assumption) rfl ?_|fail)|refine IR IA (fun _=>?_) (fun _=>?_))
  ·refine lM a5 rfl hq rfl rfl ?_
   repeat' (first|refine If ?_|refine IF a5 FN ?_|refine IN FN ?_|refine IP IB ?_|refine IR IA (fun _=>?_) (fun _=>?_))
   all_goals exact K _ _ rfl rfl (by simp_all <;> omega)
  ·exact K _ _ rfl rfl (by simp_all <;> omega)
 ·obtain ⟨⟨h0,h1⟩,h2⟩:=hC
  obtain ⟨m,rfl⟩:=hq.lt (i:=k.toNat) (by omega)
  obtain ⟨x,hx⟩:∃x,run[k.toNat]?=some x:=⟨_,Iz (by omega)⟩
  have hk0:((k.toNat:Nat):Int)=k:=Int.toNat_of_nonneg h0
  have hse:=sL E e wb m run k.toNat x hx
  rw [hk0] at hse
  have hst:=BR (ms:=E.ms) (ig:=e.l.Ignore) (up:=up) h0 h1
  rw [nG hx] at hst
  have hnx:=lz.next (up:=up) h0 h1
  have hln:=vE (up:=up) h0 h1
  have hk3:k+mW up≤1000000:=by have:=hnx.1;unfold mW;split <;> omega
  have hk4: -9223372036854775808≤k+mW up∧k+mW up≤9223372036854775807:=by have:=hnx.1;omega
  repeat' (first|refine If ?_|refine ak ?_|refine IF a5 FN ?_)
  refine b9 (uD wb (.iptr (dR E)) (some m) run) _ hse rfl rfl (Io _) rfl fun c L1 ⟨hc,hL⟩=>?_
  subst hc;subst hL
  repeat' (first|refine If ?_|fail)
  refine aq rfl (fun hb=>?_) (fun hb=>?_)
  ·rw [hb,if_pos rfl] at hst
   repeat' (first|refine If ?_|refine IF a5 FN ?_|refine bG a5 ?_|fail)
   refine bJ a5 (uD wb (.iptr (dR E)) (some m) run++tok q2 3 1 (oy run ps).length) rfl rfl rfl rfl ?_ (by rw [hnl];simp;omega) (by rw [hnl];simp;omega) rfl fun q1'=>?_
   ·exact (List.perm_append_comm_assoc ..)
   refine aJ (aI (L':=uD wb (.iptr (dR E)) (some m) run++(tok q1' 3 1 (cZ ps++[[aF k]]).length++tok q2 3 1 (oy run ps).length)) (List.perm_append_comm_assoc ..)) ?_
   have hg0:=nX (j:=0) m.junk hx rfl
   rw [hk0] at hg0
   repeat' (first|refine If ?_|refine IF a5 FN ?_|(apply bw;first|refine II a5 0 IC ?_|refine II a5 1 IC ?_|refine II a5 2 IC ?_|refine II a5 3 IC ?_|refine IJ a5 0 IC ?_|refine IJ a5 1 IC ?_|refine IJ a5 2 IC ?_|refine IK a5 1 IA (by assumption) rfl ?_|refine IK a5 0 IA (by assumption) rfl ?_|fail)|(apply aS;first|refine aR a5 ?_|refine aH a5 ?_)|refine bG a5 ?_|fail)
   refine bJ a5 (uD wb (.iptr (dR E)) (some m) run++tok q1' 3 1 (cZ ps++[[aF k]]).length) rfl rfl rfl rfl ?_ (by rw [hgl];simp;omega) (by rw [hgl];simp;omega) rfl fun q2'=>?_
   ·rw [←List.append_assoc]
    exact List.perm_append_comm
   refine aJ (aI (L':=uD wb (.iptr (dR E)) (some m) run++(tok q1' 3 1 (cZ ps++[[aF k]]).length++tok q2' 3 1 (oy run ps++[[aF x.Glyph]]).length)) (List.perm_append_comm.trans (by rw [List.append_assoc]))) ?_
   repeat' (first|refine If ?_|refine IF a5 FN ?_|(apply aV;refine aU ?_)|fail)
   have e1:cZ ps++[[aF k]]=cZ (ps++[k.toNat]):=by rw [←yo,hk0]
   have e2:=AA ps hx
   exact aD (k+mW up,ps++[k.toNat],q1',q2') rfl ⟨rfl,by rw [←e1];rfl,by rw [←e2];rfl,trivial⟩ ⟨hnx,hk3,by rw [hps,hst];simp,by rw [List.length_append,List.length_singleton];omega,by rw [List.length_append,List.length_singleton];dsimp only;omega⟩ hln (fun _ _ h=>by dsimp only;rw [←e1,←e2];exact h)
  ·rw [hb,if_neg (by decide)] at hst
   repeat' (first|refine If ?_|refine IF a5 FN ?_|(apply aV;refine aU ?_)|fail)
   exact aD (k+mW up,ps,q1,q2) rfl ⟨rfl,rfl,rfl,trivial⟩ ⟨hnx,hk3,by rw [hps,hst],hpl,by dsimp only;omega⟩ hln (fun _ _ h=>h)
 ·have hres:(f7 E.ms e.l.Ignore run up a).take most=ps:=by
   by_cases h1:ps.length < most
   ·rw [hps,yO hk (fun h=>hC ⟨h,h1⟩),List.append_nil,List.take_of_length_le (by omega)]
   ·rw [hps,List.take_append_of_le_length (by omega),List.take_of_length_le (by omega)]
  rw [hres]
  repeat' (first|refine If ?_|refine IF a5 FN ?_)
  refine fb (L':=uD wb (.iptr (dR E)) q run) (List.sublist_append_left ..) ?_
  refine bf (bO (t:=10) (c':= .imm 1 (cZ ps)) rfl fun σ v h=>VR.im h) ?_
  refine bf (bO (t:=11) (c':= .imm 1 (oy run ps)) rfl fun σ v h=>VR.im h) ?_
  exact IS IA ⟨rfl,rfl⟩
end Go.Proofs.YtpmdfoaadejmkaaGreatDoor
namespace Go.Proofs.YtpmdfoaadejmkaaGreatDoor
open Go.RowKit
section
variable {P:Program} {tt:TT} {r:Option Nat} {ops:Array Oper} {Q:Exit→Act→World→Prop} {nt:Nat} {D:List Deferred} {fr:bW} {B:Bs} {L:AL} {rest:List Oper} {d:Nat} {ty t t':TypeId} {pos:String} {af:Array Edge} {g:Option (Nat×Bool)} {x y z:Operand} {u:AV}
theorem F0 {dd:Option Tmp} {k kk:IntKind} {a b:Int} (i:Nat) (hx:bc fr x=some (.sc (.int k a))) (hy:bc fr y=some (.sc (.int kk b))) (hb:b=(i:Int)):Av P ⟨dd,.binOp .shr t x y t',ty,pos,af,g⟩ fr (.sc (.int k (a / 2 ^ min i k.bits))):=by
 intro σ ρ w hρ _
 subst hb
 refine ⟨_,?_,.sc _⟩
 have h:=shift_shr_any k kk a (i:Int) (Int.natCast_nonneg i)
 simp [execOp,(hρ x _ hx).sc_inv,(hρ y _ hy).sc_inv,eqGuard,binOp,h]
theorem EH {dd:Option Tmp} {k:IntKind} {a b:Int} (hx:bc fr x=some (.sc (.int k a))) (hy:bc fr y=some (.sc (.int k b))):Av P ⟨dd,.binOp .and t x y t',ty,pos,af,g⟩ fr (.sc (.int k (bits .and k a b))):=by
 intro σ ρ w hρ _
 refine ⟨_,?_,.sc _⟩
 simp [execOp,(hρ x _ hx).sc_inv,(hρ y _ hy).sc_inv,eqGuard,binOp,intBits_and]
theorem wq {dd:Option Tmp} {k:IntKind} {a b:Int} (hx:bc fr x=some (.sc (.int k a))) (hy:bc fr y=some (.sc (.int k b))):Av P ⟨dd,.binOp .or t x y t',ty,pos,af,g⟩ fr (.sc (.int k (bits .or k a b))):=by
 intro σ ρ w hρ _
 refine ⟨_,?_,.sc _⟩
 simp [execOp,(hρ x _ hx).sc_inv,(hρ y _ hy).sc_inv,eqGuard,binOp,intBits_or]
theorem vS (i:Nat) {k kk:IntKind} {a b:Int} (hx:bc fr x=some (.sc (.int k a))) (hy:bc fr y=some (.sc (.int kk b))) (hb:b=(i:Int)) (hd:Nat.ble nt d=false) (h:br P r ops Q nt D rest ((d,.sc (.int k (a / 2 ^ min i k.bits)))::fr) B L):
  br P r ops Q nt D (⟨some d,.binOp .shr t x y t',ty,pos,af,none⟩::rest) fr B L:=cf (F0 i hx hy hb) hd rfl h
theorem nz {k:IntKind} {a b:Int} (hx:bc fr x=some (.sc (.int k a))) (hy:bc fr y=some (.sc (.int k b))) (hd:Nat.ble nt d=false) (h:br P r ops Q nt D rest ((d,.sc (.int k (bits .and k a b)))::fr) B L):
  br P r ops Q nt D (⟨some d,.binOp .and t x y t',ty,pos,af,none⟩::rest) fr B L:=cf (EH hx hy) hd rfl h
theorem sr {k:IntKind} {a b:Int} (hx:bc fr x=some (.sc (.int k a))) (hy:bc fr y=some (.sc (.int k b))) (hd:Nat.ble nt d=false) (h:br P r ops Q nt D rest ((d,.sc (.int k (bits .or k a b)))::fr) B L):
  br P r ops Q nt D (⟨some d,.binOp .or t x y t',ty,pos,af,none⟩::rest) fr B L:=cf (wq hx hy) hd rfl h
end
end Go.Proofs.YtpmdfoaadejmkaaGreatDoor
namespace Go.Proofs.YtpmdfoaadejmkaaGreatDoor
open Go.RowKit
def yA:AV→Option Bool
 | .iptr _=>some false
 | .sc (.pointer none)=>some true
 | .sc (.pointer (some _))=>some false
 | _=>none
theorem rB {u:AV} {b:Bool} (h:yA u=some b) {σ:cj} {v:Value} (hv:VR σ u v):∃p,v= .pointer p∧p.isNone=b:=by
 unfold yA at h
 split at h
 ·cases h
  obtain ⟨b',off,h1,_⟩:=hv.iptr_inv
  exact ⟨_,h1,rfl⟩
 ·cases h
  exact ⟨none,hv.sc_inv,rfl⟩
 ·cases h
  exact ⟨_,hv.sc_inv,rfl⟩
 ·cases h
section
variable {P:Program} {fr:bW} {B:Bs} {L:AL} {d:Option Tmp} {ty t t':TypeId} {pos:String} {af:Array Edge} {g:Option (Nat×Bool)} {x y z q:Operand} {u:AV}
theorem q8 {e:TypeId} (h:P.underlying t=some (.pointer e)):P.underlying t=some (.pointer (P.pointee t)):=by
 rw [show P.pointee t=e by simp [Program.pointee,h]];exact h
theorem EO {e:TypeId} {b:Bool} (ht:P.underlying t=some (.pointer e)) (hx:bc fr x=some u) (hu:yA u=some b) (hy:bc fr y=some (.sc (.pointer none))):Av P ⟨d,.binOp .eql t x y t',ty,pos,af,g⟩ fr (.sc (.bool b)):=fun σ ρ w hρ _=>by
 obtain ⟨p,hp,hb⟩:=rB hu (hρ x u hx)
 refine ⟨_,?_,.sc _⟩
 subst hb
 simp [execOp,hp,(hρ y _ hy).sc_inv,eqGuard,run_eql_pointer_nil w t p (q8 ht)]
theorem EU {e:TypeId} {b:Bool} (ht:P.underlying t=some (.pointer e)) (hx:bc fr x=some u) (hu:yA u=some b) (hy:bc fr y=some (.sc (.pointer none))):Av P ⟨d,.binOp .neq t x y t',ty,pos,af,g⟩ fr (.sc (.bool (!b))):=fun σ ρ w hρ _=>by
 obtain ⟨p,hp,hb⟩:=rB hu (hρ x u hx)
 refine ⟨_,?_,.sc _⟩
 subst hb
 simp [execOp,hp,(hρ y _ hy).sc_inv,eqGuard,run_neq_pointer_nil w t p (q8 ht)]
theorem EG {n e sz k b off:Nat} {qq:IntKind} {a:Int} (ht:P.underlying t=some (.array n e)) (hs:(P.info? e).map (·.size)=some sz) (hx:bc fr x=some (.sc (.pointer (some ⟨b,off,none⟩)))) (hy:bc fr y=some (.sc (.int qq a))) (ha:a=(k:Int)) (hk:k < n):Av P ⟨d,.indexAddr t x y,ty,pos,af,g⟩ fr (.sc (.pointer (some ⟨b,off+k * sz,none⟩))):=
 fun σ ρ w hρ _=>by
  subst ha
  have hyv:=(hρ y _ hy).sc_inv
  have hv:=(hρ x _ hx).sc_inv
  have hk':(k:Int) < (n:Int):=by omega
  have hso:(sizeOf e:Sem Nat).run P w= .ok sz w:=by
   cases hi:P.info? e with
   | none=>rw [hi] at hs;cases hs
   | some i=>rw [hi] at hs;simp at hs;simp [sizeOf,typeInfo,hi,hs]
  refine ⟨.pointer (some ⟨b,off+k * sz,none⟩),?_,.sc _⟩
  simp [execOp,hv,hyv,Instr.indexAt,asIntOf,run_underlying ht,hk',hso,Instr.sureAddr,Addr.add]
  by_cases hn:n≤1 <;> by_cases h0:k * sz=0 <;> simp [hn,run_underlying ht,hso,hk,h0]
theorem Cz {e sz by_:Nat} {parts:Array (Nat×Operand)} (hc:k8 P t e sz by_) (hsz:0 < sz) (hp:parts=#[]):AO P ⟨d,.buildSlice t 0 parts,ty,pos,af,g⟩ fr B L (fun c L'=>∃b,c= .sc (.slice (some ⟨b,0,none⟩) 0 0)∧L'=(b,.box [] e)::L):=by
 intro σ ρ w hρ hw
 subst hp
 haveI:=hc
 have hr:=BP (P:=P) (t:=t) (by simpa [Nat.blt_eq] using hsz) [] (by simp) (by simp [Nat.ble_eq]) w
 simp at hr
 unfold gV
 rw [show (execOp ρ ⟨d,.buildSlice t 0 #[],ty,pos,af,g⟩).run P w= .ok (.value (.slice (some ⟨w.heap.size,0,none⟩) 0 0)) (w.alloc (.cells #[] e)) by
  simp [execOp,hr]]
 exact ⟨σ,.sc _,_,cj.le_refl _,.sc _,hw.alloc _ (.box [] e) ⟨[],rfl,d6.nil,by simp⟩,_,rfl,rfl⟩
end
section
variable {P:Program} {tt:TT} {r:Option Nat} {ops:Array Oper} {Q:Exit→Act→World→Prop} {nt:Nat} {D:List Deferred} {fr:bW} {B:Bs} {L:AL} {rest:List Oper} {d:Nat} {ty t t':TypeId} {pos:String} {af:Array Edge} {x y z:Operand} {u:AV}
theorem pR {e:TypeId} {b:Bool} (ht:P.underlying t=some (.pointer e)) (hx:bc fr x=some u) (hu:yA u=some b) (hy:bc fr y=some (.sc (.pointer none))) (hd:Nat.ble nt d=false) (h:br P r ops Q nt D rest ((d,.sc (.bool b))::fr) B L):br P r ops Q nt D (⟨some d,.binOp .eql t x y t',ty,pos,af,none⟩::rest) fr B L:=cf (EO ht hx hu hy) hd rfl h
theorem sx {e:TypeId} {b:Bool} (ht:P.underlying t=some (.pointer e)) (hx:bc fr x=some u) (hu:yA u=some b) (hy:bc fr y=some (.sc (.pointer none))) (hd:Nat.ble nt d=false) (h:br P r ops Q nt D rest ((d,.sc (.bool (!b)))::fr) B L):br P r ops Q nt D (⟨some d,.binOp .neq t x y t',ty,pos,af,none⟩::rest) fr B L:=cf (EU ht hx hu hy) hd rfl h
theorem vP (ok:dY P tt) (k:Nat) {n e sz b off:Nat} {q:IntKind} {a:Int} (ht:xz tt t=some (n,e,sz)) (hx:bc fr x=some (.sc (.pointer (some ⟨b,off,none⟩)))) (hy:bc fr y=some (.sc (.int q a))) (ha:a=(k:Int)) (hk:k < n) (hd:Nat.ble nt d=false) (h:br P r ops Q nt D rest ((d,.sc (.pointer (some ⟨b,off+k * sz,none⟩)))::fr) B L):
  br P r ops Q nt D (⟨some d,.indexAddr t x y,ty,pos,af,none⟩::rest) fr B L:=cf (EG (hH ok ht).1 (hH ok ht).2 hx hy ha hk) hd rfl h
theorem Fv (ok:dY P tt) {e sz by_:Nat} (ht:jl tt t=some (e,sz,by_)) (hd:Nat.ble nt d=false) (h:∀b,br P r ops Q nt D rest ((d,.sc (.slice (some ⟨b,0,none⟩) 0 0))::fr) B ((b,.box [] e)::L)):
  br P r ops Q nt D (⟨some d,.buildSlice t 0 #[],ty,pos,af,none⟩::rest) fr B L:=cI hd rfl (Cz (bi ok ht).1 (bi ok ht).2 rfl) fun c L' ⟨b,h1,h2⟩=>by subst h1;subst h2;exact h b
theorem Fw {k:IntKind} {a b:Int} (hx:bc fr x=some (.sc (.int k a))) (hy:bc fr y=some (.sc (.int k b))) (hd:Nat.ble nt d=false) (h:br P r ops Q nt D rest ((d,.sc (.int k (k.wrap (a * b))))::fr) B L):br P r ops Q nt D (⟨some d,.binOp .mul t x y t',ty,pos,af,none⟩::rest) fr B L:=cf (Ec hx hy) hd rfl h
theorem Fx {k:IntKind} {a:Int} (hx:bc fr x=some (.sc (.int k a))) (hd:Nat.ble nt d=false) (h:br P r ops Q nt D rest ((d,.sc (.int k (k.wrap (0 - a))))::fr) B L):br P r ops Q nt D (⟨some d,.unOp .neg t x,ty,pos,af,none⟩::rest) fr B L:=cf (G7 hx) hd rfl h
theorem oQ (ok:dY P tt) {a:Int} {q q':IntKind} {ti ti':TI} (hx:bc fr x=some (.sc (.int q a))) (ht:d5 tt t=some ti) (hk:ti.k= .int q) (ht':d5 tt t'=some ti') (hk':ti'.k= .int q') (hd:Nat.ble nt d=false) (h:br P r ops Q nt D rest ((d,.sc (.int q' (q'.wrap a)))::fr) B L):
  br P r ops Q nt D (⟨some d,.convert t t' x,ty,pos,af,none⟩::rest) fr B L:=by
 haveI:=ok.int ht hk
 haveI:=ok.int ht' hk'
 exact cf (qO hx) hd rfl h
end
end Go.Proofs.YtpmdfoaadejmkaaGreatDoor
namespace Go.Proofs.YtpmdfoaadejmkaaGreatDoor
open Go.RowKit
attribute [local irreducible] AT br AX AO Av Kt bb df DA cC
abbrev FY (cls:List Int) (tab:List (List Int)) (ends:List Nat):AV:= .agg [.imm 1 (aT cls),.imm 1 (b7 tab),.imm 1 (gk ends)]
theorem mT (l:List Nat):(gk l).length=l.length:=by simp [gk]
theorem uB {l:List Nat} {i:Nat} {z:Nat} (h:l[i]?=some z):(gk l)[i]?=some [iW z]:=by simp [gk,h]
section
variable (cls:List Int) (tab:List (List Int)) (ends:List Nat)
theorem zP (s:Int):bN Tryz.prog 301 [FY cls tab ends,aF s] (iW (iE ends s)):=by
 refine aN Tryz.func301 rfl Tryz.ntmps301 rfl fun B=>?_
 have hel:=mT ends
 repeat' (first|refine If ?_|refine IF a5 FN ?_|refine bk ?_|fail)
 refine c9 [1,2] (s < 0∨(ends.length:Int)≤s) rfl (fun Q' K=>?_) (fun hC=>?_) (fun hC=>?_)
 ·repeat' (first|refine If ?_|refine IF a5 FN ?_|refine IN FN ?_|refine IP IB ?_|refine IR IA (fun _=>?_) (fun _=>?_))
  all_goals exact K _ _ rfl rfl (by simp_all <;> omega)
 ·repeat' (first|refine If ?_|refine IF a5 FN ?_)
  refine IL FN ?_
  unfold iE
  rcases hC with h | h
  ·rw [if_pos h];rfl
  ·by_cases h0:s < 0
   ·rw [if_pos h0];rfl
   ·rw [if_neg h0,List.getD_eq_getElem?_getD,List.getElem?_eq_none (by omega)];rfl
 ·obtain ⟨z,hz⟩:∃z,ends[s.toNat]?=some z:=⟨_,Iz (by omega)⟩
  have hzg:=uB hz
  repeat' (first|refine If ?_|refine IF a5 FN ?_|(apply aS;first|refine aR a5 ?_|refine aH a5 ?_)|fail)
  refine IL FN ?_
  unfold iE
  rw [if_neg (fun h=>hC (.inl h)),List.getD_eq_getElem?_getD,hz]
  rfl
instance (s:Int):AD Tryz.prog 301 [FY cls tab ends,aF s] (iW (iE ends s)):=⟨zP cls tab ends s⟩
theorem Bt (s g:Int):bN Tryz.prog 302 [FY cls tab ends,aF s,aF g] (aF (gS cls tab s g)):=by
 refine aN Tryz.func302 rfl Tryz.ntmps302 rfl fun B=>?_
 have hcl:=aZ cls
 have htl:=cq tab
 repeat' (first|refine If ?_|refine IF a5 FN ?_|refine bk ?_|fail)
 refine c9 [1,2,3] ((s < 0∨(tab.length:Int)≤s)∨(g < 0∨(cls.length:Int)≤g)) rfl (fun Q' K=>?_) (fun hC=>?_) (fun hC=>?_)
 ·repeat' (first|refine If ?_|refine IF a5 FN ?_|refine IN FN ?_|refine IP IB ?_|refine IR IA (fun _=>?_) (fun _=>?_))
  all_goals exact K _ _ rfl rfl (by simp_all <;> omega)
 ·repeat' (first|refine If ?_|refine IF a5 FN ?_)
  refine IL FN ?_
  unfold gS
  by_cases h0:s < 0∨g < 0
  ·rw [if_pos h0]
  ·rw [if_neg h0]
   split
   ·rename_i h1 h2
    have:=(Ip h1).1
    have:=(Ip h2).1
    omega
   ·rfl
 ·obtain ⟨eF,hrow⟩:∃z,tab[s.toNat]?=some z:=⟨_,Iz (by omega)⟩
  obtain ⟨c,hc⟩:∃z,cls[g.toNat]?=some z:=⟨_,Iz (by omega)⟩
  have hrg:=i3 hrow
  have hcg:=bR hc
  have hrl:=aZ eF
  have hN:gS cls tab s g=if c < 0 then -1 else match eF[c.toNat]? with
   | some z=>if 0≤z∧z < tab.length then z else -1
   | none=> -1:=by
   unfold gS
   rw [if_neg (by omega),hrow,hc]
   rfl
  rw [hN]
  repeat' (first|refine If ?_|fail)
  refine bz 11 [(0,.v),(1,.v),(2,.v),(3,.v),(4,.v),(5,.v),(6,.v),(7,.v),(8,.v),(9,.v),(10,.v)] none ?_ trivial rfl (by kernel_rfl) (by kernel_rfl) (by kernel_rfl) bT (by kernel_rfl) rfl
  repeat' (first|refine aC ?_|refine b6 a5 ?_|(apply cB;refine cS a5 ?_)|fail)
  refine IQ [3,7,39] FN ?_
  repeat' (first|refine If ?_|refine a7 ?_|refine IF a5 FN ?_)
  refine c9 [3,7,8] (c < 0∨(eF.length:Int)≤c) rfl (fun Q' K=>?_) (fun hC2=>?_) (fun hC2=>?_)
  ·repeat' (first|refine If ?_|refine IF a5 FN ?_|refine IN FN ?_|refine IP IB ?_|refine IR IA (fun _=>?_) (fun _=>?_))
   all_goals exact K _ _ rfl rfl (by simp_all <;> omega)
  ·repeat' (first|refine If ?_|refine IF a5 FN ?_)
   refine IL FN ?_
   by_cases h0:c < 0
   ·rw [if_pos h0]
   ·rw [if_neg h0,List.getElem?_eq_none (by omega)]
  ·obtain ⟨z,hz⟩:∃z,eF[c.toNat]?=some z:=⟨_,Iz (by omega)⟩
   have hzg:=bR hz
   rw [if_neg (fun h=>hC2 (.inl h)),hz]
   dsimp only
   repeat' (first|refine If ?_|refine IF a5 FN ?_|(apply aS;first|refine aR a5 ?_|refine aH a5 ?_)|fail)
   refine c9 [9] (0≤z∧z < tab.length) rfl (fun Q' K=>?_) (fun hC3=>?_) (fun hC3=>?_)
   ·repeat' (first|refine If ?_|refine IF a5 FN ?_|refine IN FN ?_|refine IP IB ?_|refine IR IA (fun _=>?_) (fun _=>?_))
    all_goals exact K _ _ rfl rfl (by simp_all <;> omega)
   ·rw [if_pos hC3]
    repeat' (first|refine If ?_|refine IF a5 FN ?_)
    exact IM IA
   ·rw [if_neg hC3]
    repeat' (first|refine If ?_|refine IF a5 FN ?_)
    exact IM IA
instance (s g:Int):AD Tryz.prog 302 [FY cls tab ends,aF s,aF g] (aF (gS cls tab s g)):=⟨Bt cls tab ends s g⟩
theorem km {ends:List Nat} (h:∀z∈ends,z < 18446744073709551616) (s:Int):iE ends s < 18446744073709551616:=by
 unfold iE
 split
 ·decide
 ·rw [List.getD_eq_getElem?_getD]
  cases hz:ends[s.toNat]? with
  | none=>decide
  | some z=>exact h z (Iw hz)
theorem Bx {a b:Nat} (ha:a < 18446744073709551616) (hb:b < 18446744073709551616):a ||| b < 18446744073709551616:=Nat.or_lt_two_pow (n:=64) ha hb
theorem uk {cls:List Int} {tab:List (List Int)} {ends:List Nat} (h:∀z∈ends,z < 18446744073709551616):∀(gl:List Int) (s:Int) (told:Nat),told < 18446744073709551616→lu cls tab ends s gl told < 18446744073709551616
 | [],_,_,ht=>ht
 | g::r,s,told,ht=>by
  rw [lu]
  split
  ·exact ht
  ·exact uk h r _ _ (Bx ht (km h _))
theorem ul (h:∀z∈ends,z < 18446744073709551616) (gl:List Int):fP cls tab ends gl < 18446744073709551616:=uk h gl 0 _ (km h _)
theorem um (hE:∀z∈ends,z < 18446744073709551616) (gl:List Int):bN Tryz.prog 286 [FY cls tab ends,.imm 1 (aT gl)] (iW (fP cls tab ends gl)):=by
 refine aN Tryz.func286 rfl Tryz.ntmps286 rfl fun B=>?_
 have hgl:=aZ gl
 refine cK 1 rfl rfl fun hlen=>?_
 repeat' (first|refine If ?_|refine ak ?_|refine IF a5 FN ?_|refine bk ?_|(apply bv;refine bn ?_)|fail)
 refine aO [2,12,13] (α:=Nat×Int×Nat) (fun x=>[(14,aF x.1),(5,aF x.2.1),(6,iW x.2.2)]) (fun x=>x.1≤gl.length∧x.2.2 < 18446744073709551616∧lu cls tab ends x.2.1 (gl.drop x.1) x.2.2=fP cls tab ends gl) (fun _=>[]) (fun x=>gl.length - x.1) (0,0,iE ends 0) rfl ⟨rfl,rfl,rfl,trivial⟩ ⟨Nat.zero_le _,km hE 0,rfl⟩ (fun _ _ h=>h) ?_
 rintro ⟨i,s,told⟩ ⟨hi,ht,hr⟩
 dsimp only at hi ht hr ⊢
 try dsimp only [Is,Ir,Iq,Ik]
 repeat' (first|refine If ?_|refine IF a5 FN ?_)
 refine aq rfl (fun h=>?_) (fun h=>?_)
 ·have hil:i < gl.length:=by have:=Iy h;omega
  obtain ⟨z,hz⟩:∃z,gl[i]?=some z:=⟨_,Iz hil⟩
  have hzg:=bR hz
  have hd:gl.drop i=z::gl.drop (i+1):=by
   rw [List.drop_eq_getElem_cons hil,(Ip hz).2]
  rw [hd,lu] at hr
  clear h
  repeat' (first|refine If ?_|refine ak ?_|refine IF a5 FN ?_|(apply aS;first|refine aR a5 ?_|refine aH a5 ?_)|(apply bv;refine bn ?_)|fail)
  refine aq rfl (fun h=>?_) (fun h=>?_)
  ·have h2:gS cls tab s z= -1:=Iy h
   rw [if_pos h2] at hr
   repeat' (first|refine If ?_|refine dP rfl ?_|refine IF a5 FN ?_)
   refine IL FN ?_
   rw [hr]
  ·have h2:¬gS cls tab s z= -1:=Ix h
   rw [if_neg h2] at hr
   repeat' (first|refine If ?_|refine IF a5 FN ?_|(apply bv;refine bn ?_)|fail)
   refine sr rfl rfl rfl ?_
   rw [u64_or_nat _ _ ht (km hE _)]
   repeat' (first|refine If ?_|refine IF a5 FN ?_|(apply aV;refine aU ?_)|fail)
   exact aD (i+1,gS cls tab s z,told ||| iE ends (gS cls tab s z)) rfl ⟨by rw [Iv];rfl,rfl,rfl,trivial⟩ ⟨hil,Bx ht (km hE _),hr⟩ (by dsimp only;omega) (fun _ _ h=>h)
 ·have hil:i=gl.length:=by have:=Ix h;omega
  subst hil
  rw [List.drop_length,lu] at hr
  repeat' (first|refine If ?_|refine IF a5 FN ?_)
  refine IL FN ?_
  rw [hr]
end
abbrev zj (e:oE):AV:= .agg (Gd e)
structure rS (e:oE):Prop where
 fore:∀z∈e.foreE,z < 18446744073709551616
 back:∀z∈e.backE,z < 18446744073709551616
theorem Ax (e:oE) (h:rS e) (gl:List Int):bN Tryz.prog 257 [zj e,.imm 1 (aT gl)] (iW (fP e.cls e.fore e.foreE gl)):=by
 refine aN Tryz.func257 rfl Tryz.ntmps257 rfl fun B=>?_
 haveI:=AD.mk (um e.cls e.fore e.foreE h.fore gl)
 repeat' (first|refine If ?_|refine IF a5 FN ?_|refine bk ?_|(apply bv;refine bn ?_)|fail)
 exact IM IA
theorem zM (e:oE) (h:rS e) (gl:List Int):bN Tryz.prog 256 [zj e,.imm 1 (aT gl)] (iW (fP e.cls e.back e.backE gl)):=by
 refine aN Tryz.func256 rfl Tryz.ntmps256 rfl fun B=>?_
 haveI:=AD.mk (um e.cls e.back e.backE h.back gl)
 repeat' (first|refine If ?_|refine IF a5 FN ?_|refine bk ?_|(apply bv;refine bn ?_)|fail)
 exact IM IA
def jO:List Int:=[0,1,56,2,57,49,28,3,61,58,42,50,38,29,17,4,62,47,59,36,45,43,51,22,53,39,33,30,24,18,12,5,63,55,48,27,60,41,37,16,46,35,44,21,52,32,23,11,54,26,40,15,34,20,31,10,25,14,19,9,13,8,7,6]
def we:List AV:=jO.map fun z=> .sc (.int .u8 z)
abbrev dv:Nat×AB:=(0,.box we 364)
def Ia (x:Int):Int:=bits .and .u64 x (IntKind.u64.wrap (0 - x))
def Hw (x:Int):Int:=IntKind.u64.wrap (Ia x * 285870213051353865) / 2 ^ min 58 IntKind.u64.bits
def H1 (x:Nat):Int:=jO.getD (Hw x).toNat 0
theorem uA:∀(n:Nat),n < 64→n≠0→0≤Hw (n:Nat)∧Hw (n:Nat) < 64:=by decide+kernel
theorem Ca:∀(n:Nat),n < 64→∀(i:Nat),i < 6→n.testBit i=true→(∀(j:Nat),j < i→n.testBit j=false)→H1 n=(i:Nat):=by decide+kernel
theorem C5 {k:Nat} (h:k < 64):we[0+k * 1]?=some (.sc (.int .u8 (jO.getD k 0))):=by
 have hl:jO.length=64:=rfl
 unfold we
 rw [List.getElem?_map,Nat.zero_add,Nat.mul_one,Iz (by omega),List.getD_eq_getElem?_getD,Iz (by omega)]
 rfl
theorem GQ (x:Nat) (hx:x < 64) (h0:x≠0):AC Tryz.prog 258 [iW x] [dv] fun c L=>c=aF (H1 x)∧L=[dv]:=by
 refine aN Tryz.func258 rfl Tryz.ntmps258 rfl fun B=>?_
 have hz:¬((x:Int)=0):=by omega
 obtain ⟨k,hk⟩:=Int.eq_ofNat_of_zero_le (uA x hx h0).1
 have hk64:k < 64:=by have:=(uA x hx h0).2;omega
 have hkc:=C5 hk64
 repeat' (first|refine If ?_|refine IF a5 FN ?_)
 refine aq rfl (fun h=>absurd (Iy h) hz) (fun _=>?_)
 repeat' (first|refine If ?_|refine IF a5 FN ?_)
 refine Fx rfl rfl ?_
 refine nz rfl rfl rfl ?_
 refine Fw rfl rfl rfl ?_
 refine vS 58 rfl rfl rfl rfl ?_
 refine vP a5 k rfl rfl rfl hk hk64 rfl ?_
 refine IK a5 0 IA hkc rfl ?_
 refine oQ a5 rfl rfl rfl rfl rfl rfl ?_
 repeat' (first|refine If ?_|refine IF a5 FN ?_)
 refine IL FN ⟨?_,rfl⟩
 unfold H1
 rw [hk,Int.toNat_natCast]
 have hb:∀k < 64,IntKind.i64.wrap (jO.getD k 0)=jO.getD k 0:=by decide
 rw [hb k hk64]
def s6 (b:Nat):Int:=if b=0 then -1 else H1 b
theorem xo (e:oE) (h:rS e) (bg fg:List Int) (hb:fP e.cls e.back e.backE bg &&& fP e.cls e.fore e.foreE fg < 64):AC Tryz.prog 189 [zj e,.imm 1 (aT bg),.imm 1 (aT fg)] [dv] fun c L=>c=aF (s6 (fP e.cls e.back e.backE bg &&& fP e.cls e.fore e.foreE fg))∧L=[dv]:=by
 refine aN Tryz.func189 rfl Tryz.ntmps189 rfl fun B=>?_
 haveI:=AD.mk (Ax e h fg)
 haveI:=AD.mk (zM e h bg)
 have h1:=ul e.cls e.back e.backE h.back bg
 have h2:=ul e.cls e.fore e.foreE h.fore fg
 repeat' (first|refine If ?_|refine IF a5 FN ?_|refine bk ?_|fail)
 refine bz 5 [(0,.v),(1,.v),(2,.v),(3,.v),(4,.v)] none ?_ trivial rfl (by kernel_rfl) (by kernel_rfl) (by kernel_rfl) bT (by kernel_rfl) rfl
 repeat' (first|refine aC ?_|refine b6 a5 ?_|(apply dy;refine eh ?_)|fail)
 refine IQ [10,11,12] FN ?_
 repeat' (first|(apply bv;refine bn ?_)|fail)
 refine nz rfl rfl rfl ?_
 rw [u64_and_nat _ _ h1 h2]
 generalize fP e.cls e.back e.backE bg &&& fP e.cls e.fore e.foreE fg=b at hb ⊢
 repeat' (first|refine If ?_|refine IF a5 FN ?_)
 unfold s6
 refine aq rfl (fun h=>?_) (fun h=>?_)
 ·have hb0:b=0:=by have:=Iy h;omega
  rw [if_pos hb0]
  repeat' (first|refine If ?_|refine IF a5 FN ?_)
  exact IL FN ⟨rfl,rfl⟩
 ·have hb0:b≠0:=by have:=Ix h;omega
  rw [if_neg hb0]
  repeat' (first|refine If ?_|refine IF a5 FN ?_)
  refine b9 [dv] [] (GQ b hb hb0) rfl rfl (Io _) rfl fun c L1 ⟨hc,hL⟩=>?_
  subst hc;subst hL
  repeat' (first|refine If ?_|refine IF a5 FN ?_)
  exact IL FN ⟨rfl,rfl⟩
end Go.Proofs.YtpmdfoaadejmkaaGreatDoor
namespace Go.Proofs.YtpmdfoaadejmkaaGreatDoor
open Go.RowKit
attribute [local irreducible] AT br AX AO Av Kt bb df DA cC
open Go.ChangeShapes Go.WideShapes Go.ChangeAt Go.RowKit
theorem Tryz.own:ownKnob Tryz.prog.godebug=none:=by kernel_rfl
theorem Tryz.laidOut:laidOutB Tryz.prog=true:=by kernel_rfl
theorem Gl:Tryz.prog.globalNamed "math/bits.deBruijn64tab" =some 0:=by kernel_rfl
theorem Az:(Tryz.prog.globals[0]?).map (·.type)=some 364:=by kernel_rfl
theorem zU:Tryz.prog.cellsOf 364=64:=by kernel_rfl
theorem CJ:Tryz.prog.cellsOf 5=1:=by kernel_rfl
theorem FJ:(((begin Tryz.prog (fun _ _=>0) default).world.heap)[0]?).bind Obj.row?=some ((List.replicate 64 (Value.int .u8 0)).toArray,364):=by kernel_rfl
def Gp:List (String×DataW Unit):=[("math/bits.deBruijn64tab",Lib.tabData .u8 jO)]
theorem C4 {W:World} (hL:laidMet Tryz.prog Gp W) (hS:W.ShapedOpen Tryz.prog):W.heap[0]?=some (.cells (jO.map (Value.int .u8)).toArray 364 (0,0)):=by
 have h:Lib.TabIs Tryz.prog W "math/bits.deBruijn64tab" .u8 jO:=Lib.tabIs_of_head (rest:=[]) Gl Az Tryz.underlying364 Tryz.underlying5 CJ zU hL
 obtain ⟨cs,h1,_,_⟩:=hS.1 0 _ 364 (Iy (by kernel_rfl)) FJ
 unfold Lib.TabIs World.var? at h
 rw [Gl,Option.bind_some,h1] at h
 cases h
 exact h1
def pO (W:World):cj:=fun b off=>if b=0 then none else W.cell? ⟨b,off,none⟩
theorem E3 {σ:cj}:d6 σ we (jO.map (Value.int .u8)):=by
 unfold we
 generalize jO=l
 induction l with
 | nil=>exact d6.nil
 | cons x l ih=>exact d6.cons (.sc _) ih
theorem uC {σ:cj} {vs:List Value} (h:d6 σ we vs):vs=jO.map (Value.int .u8):=by
 unfold we at h
 revert vs
 generalize jO=l
 induction l with
 | nil=>
  intro vs h
  exact List.eq_nil_of_length_eq_zero h.1.symm
 | cons x l ih=>
  intro vs h
  obtain ⟨y,u,rfl,h1,h2⟩:=d6.inv h
  rw [h1.sc_inv,ih h2]
  rfl
theorem Do {W:World} (h:W.heap[0]?=some (.cells (jO.map (Value.int .u8)).toArray 364 (0,0))):cW ⟨W,pO W,[0]⟩ (pO W) [dv] W:=by
 have h0:0 < W.heap.size:=by
  rcases Nat.lt_or_ge 0 W.heap.size with h' | h'
  ·exact h'
  ·rw [Array.getElem?_eq_none h'] at h;cases h
 refine ⟨rfl,rfl,rfl,Nat.le_refl _,fun _ _ _=>rfl,fun p hp=>?_,fun p hp=>?_,by simp,fun b off u hu=>?_,fun p hp off _=>?_,fun _ _ _ h=>h,fun _ _ _ _=>rfl⟩
 ·rw [Il hp]
  exact ⟨_,h,_,rfl,E3,fun u hu=>by
   obtain ⟨z,_,rfl⟩:=List.mem_map.1 hu
   rfl⟩
 ·rw [Il hp]
  exact .inr (by simp)
 ·unfold pO at hu
  split at hu
  ·cases hu
  ·exact hu
 ·rw [Il hp]
  rfl
theorem GR {n:Int} (h:(Lit.int .u8 n).wf=true):0≤n∧n≤255:=by
 unfold Lit.wf at h
 rw [Bool.and_eq_true] at h
 have h1:IntKind.min .u8≤n:=Iy h.1
 have h2:n≤IntKind.max .u8:=Iy h.2
 have e1:IntKind.min .u8=0:=by decide
 have e2:IntKind.max .u8=255:=by decide
 omega
theorem yW {f:FuncId} {args:List AV} {u:Value} (h:AC Tryz.prog f args [dv] fun c L=>c= .sc u∧L=[dv]) (W:World) (hT:W.heap[0]?=some (.cells (jO.map (Value.int .u8)).toArray 364 (0,0))) (vs:List Value) (hv:d6 (pO W) args vs):Calls Tryz.prog f vs.toArray W fun e W'=>∃v,e= .returned v∧Below W.heap.size W W'∧v=u:=
 (h (pO W) W vs hv (Do hT)).mono fun e W' ⟨v,τ,c,L',he,hr,hst,hc,hL⟩=>by
  subst hc
  subst hL
  refine ⟨v,he,⟨hst.os,hst.tape,hst.output,hst.size,fun k hk=>?_⟩,hr.sc_inv⟩
  by_cases h0:k=0
  ·subst h0
   obtain ⟨o,h1,vs',h2,h3,_⟩:=hst.here dv (by simp)
   rw [h1,h2,hT,uC h3]
  ·exact hst.old k hk (by simp [h0])
end Go.Proofs.YtpmdfoaadejmkaaGreatDoor
namespace Go.Proofs.YtpmdfoaadejmkaaGreatDoor
open Go.RowKit
attribute [local irreducible] AT br AX AO Av Kt bb df DA cC
def Em (q:List Nat):Nat→List aK→List aK
 | _,[]=>[]
 | k,x::r=>if k∈q then Em q (k+1) r else x::Em q (k+1) r
section
variable {α:Type} [BEq α] [LawfulBEq α]
def dN (t:List α) (z:α):List α:=if t.contains z=true then t else t++[z]
theorem fD {t:List α} {z:α} (h:z∈t):dN t z=t:=if_pos (List.contains_iff_mem.2 h)
theorem gi {t:List α} {z:α} (h:z∉t):dN t z=t++[z]:=if_neg fun e=>h (List.contains_iff_mem.1 e)
theorem kQ (t:List α) (z:α):z∈dN t z:=by
 by_cases h:z∈t
 ·rw [fD h];exact h
 ·rw [gi h];simp
theorem uw {t:List α} {x:α} (z:α) (h:x∈t):x∈dN t z:=by
 by_cases hz:z∈t
 ·rw [fD hz];exact h
 ·rw [gi hz];simp [h]
theorem qn {t:List α} {x:α} (z:α) (h:x∈t):(dN t z).idxOf x=t.idxOf x:=by
 by_cases hz:z∈t
 ·rw [fD hz]
 ·rw [gi hz,List.idxOf_append,if_pos h]
theorem mO {t:List α} {z:α} (h:z∉t):(dN t z).idxOf z=t.length:=by
 rw [gi h,List.idxOf_append,if_neg h,List.idxOf_cons_self,Nat.zero_add]
theorem DW {t:List α} {z:α}:(dN t z)[(dN t z).idxOf z]?=some z:=by
 have h:=List.idxOf_lt_length_of_mem (kQ t z)
 rw [Iz h,List.getElem_idxOf]
theorem mN {t:List α} {x:α} {i:Nat} (z:α) (h:t[i]?=some x):(dN t z)[i]?=some x:=by
 by_cases hz:z∈t
 ·rw [fD hz];exact h
 ·rw [gi hz,List.getElem?_append_left (Ip h).1];exact h
theorem lS {t:List α} (z:α) (h:t.Nodup):(dN t z).Nodup:=by
 by_cases hz:z∈t
 ·rw [fD hz];exact h
 ·rw [gi hz,List.nodup_append]
  exact ⟨h,by simp,fun a ha b hb=>by rw [List.mem_singleton] at hb;subst hb;exact fun e=>hz (e▸ha)⟩
theorem qo (t:List α) (z:α):t.length≤(dN t z).length∧(dN t z).length≤t.length+1:=by
 by_cases hz:z∈t
 ·rw [fD hz];omega
 ·rw [gi hz,List.length_append,List.length_singleton];omega
theorem wN {t:List α} {x y:α} (hx:x∈t) (hy:y∈t) (h:t.idxOf x=t.idxOf y):x=y:=by
 have h1:=List.getElem_idxOf (List.idxOf_lt_length_of_mem hx)
 have h2:=List.getElem_idxOf (List.idxOf_lt_length_of_mem hy)
 rw [←h1,←h2]
 congr 1
end
def io (k:Int) (st:List Int×List Int) (g:Int):List Int×List Int:=
 (st.1.set g.toNat (k+((dN st.2 (st.1.getD g.toNat 0)).idxOf (st.1.getD g.toNat 0):Nat)),dN st.2 (st.1.getD g.toNat 0))
def jK (st:List Int×Int) (s:List Int):List Int×Int:=((s.foldl (io st.2) (st.1,[])).1,st.2+(s.foldl (io st.2) (st.1,[])).2.length)
def mC (n:Nat) (sets:List (List Int)):List Int×Int:=sets.foldl jK (List.replicate n 0,1)
structure oG (c0:List Int) (k:Int) (p:List Int) (st:List Int×List Int):Prop where
 len:st.1.length=c0.length
 nodup:st.2.Nodup
 few:st.2.length≤p.length
 at_:∀(i:Nat) z,c0[i]?=some z→((i:Int)∈p∧z∈st.2∧st.1[i]?=some (k+(st.2.idxOf z:Nat)))∨((i:Int)∉p∧st.1[i]?=some z)
theorem sm {c0:List Int} {k:Int} {p:List Int} {st:List Int×List Int} (h:oG c0 k p st) {g:Int} (h0:0≤g) (hl:g < c0.length) (hn:g∉p):oG c0 k (p++[g]) (io k st g):=by
 obtain ⟨z,hz⟩:∃z,c0[g.toNat]?=some z:=⟨_,Iz (by omega)⟩
 have hg0:((g.toNat:Nat):Int)=g:=Int.toNat_of_nonneg h0
 have hzs:st.1[g.toNat]?=some z:=by
  rcases h.at_ g.toNat z hz with ⟨h1,_⟩ | ⟨_,h2⟩
  ·rw [hg0] at h1;exact absurd h1 hn
  ·exact h2
 have hzd:st.1.getD g.toNat 0=z:=by rw [List.getD_eq_getElem?_getD,hzs];rfl
 unfold io
 rw [hzd]
 refine ⟨by rw [List.length_set];exact h.len,lS _ h.nodup,?_,fun i y hy=>?_⟩
 ·have:=h.few
  rw [List.length_append,List.length_singleton]
  have h2:=(qo st.2 z).2
  dsimp only
  omega
 ·by_cases hi:i=g.toNat
  ·subst hi
   rw [hz] at hy
   cases hy
   refine Or.inl ⟨by rw [hg0];simp,kQ _ _,?_⟩
   dsimp only
   rw [List.getElem?_set_self (by rw [h.len];omega)]
  ·have hne:g.toNat≠i:=fun e=>hi e.symm
   have hne2:(i:Int)≠g:=fun e=>hi (by omega)
   dsimp only
   rw [List.getElem?_set_ne hne]
   rcases h.at_ i y hy with ⟨h1,h2,h3⟩ | ⟨h1,h2⟩
   ·exact Or.inl ⟨List.mem_append_left _ h1,uw _ h2,by rw [h3,qn _ h2]⟩
   ·exact Or.inr ⟨by simp [h1,hne2],h2⟩
theorem oa {c0:List Int} {k:Int}:∀{s p:List Int} {st:List Int×List Int},oG c0 k p st→(∀g∈s,0≤g∧g < c0.length)→(p++s).Nodup→oG c0 k (p++s) (s.foldl (io k) st)
 | [],p,st,h,_,_=>by rw [List.append_nil];exact h
 | g::s,p,st,h,hd,hn=>by
  have hg:=hd g (by simp)
  have hgp:g∉p:=fun hp=>by
   rw [List.nodup_append] at hn
   exact hn.2.2 g hp g (by simp) rfl
  have:=oa (s:=s) (sm h hg.1 hg.2 hgp) (fun x hx=>hd x (by simp [hx])) (by rw [List.append_assoc];exact hn)
  rw [List.append_assoc] at this
  exact this
structure lZ (n:Nat) (done:List (List Int)) (st:List Int×Int):Prop where
 len:st.1.length=n
 dom:∀z∈st.1,0≤z∧z < st.2
 pos:0≤st.2
 apart:∀s∈done,∀(i j:Nat) z,st.1[i]?=some z→st.1[j]?=some z→((i:Int)∈s↔(j:Int)∈s)
theorem sF {n:Nat} {done:List (List Int)} {st:List Int×Int} (h:lZ n done st) {s:List Int} (hd:∀g∈s,0≤g∧g < (n:Int)) (hn:s.Nodup):lZ n (done++[s]) (jK st s):=by
 have hm:=oa (c0:=st.1) (k:=st.2) (s:=s) (p:=[]) (st:=(st.1,[])) ⟨rfl,by simp,by simp,fun i z hz=>Or.inr ⟨by simp,hz⟩⟩ (fun g hg=>by rw [h.len];exact hd g hg) (by simpa using hn)
 rw [Ir] at hm
 unfold jK
 generalize s.foldl (io st.2) (st.1,[])=r at hm
 have hp:=h.pos
 have get:∀{i:Nat} {z:Int},r.1[i]?=some z→∃y,st.1[i]?=some y∧(0≤y∧y < st.2)∧(((i:Int)∈s∧y∈r.2∧z=st.2+(r.2.idxOf y:Nat))∨((i:Int)∉s∧z=y)):=by
  intro i z hz
  have hi:=(Ip hz).1
  rw [hm.len] at hi
  obtain ⟨y,hy⟩:∃y,st.1[i]?=some y:=⟨_,Iz hi⟩
  refine ⟨y,hy,h.dom y (Iw hy),?_⟩
  rcases hm.at_ i y hy with ⟨h1,h2,h3⟩ | ⟨h1,h2⟩
  ·rw [hz] at h3
   cases h3
   exact Or.inl ⟨h1,h2,rfl⟩
  ·rw [hz] at h2
   cases h2
   exact Or.inr ⟨h1,rfl⟩
 refine ⟨by rw [←h.len];exact hm.len,fun z hz=>?_,by dsimp only;omega,fun t ht i j z hi hj=>?_⟩
 ·obtain ⟨i,hi⟩:=List.mem_iff_getElem?.1 hz
  obtain ⟨y,_,⟨h1,h2⟩,h3⟩:=get hi
  dsimp only
  rcases h3 with ⟨_,h4,h5⟩ | ⟨_,h5⟩
  ·have:=List.idxOf_lt_length_of_mem h4
   omega
  ·omega
 ·obtain ⟨y,hy,hy0,hy1⟩:=get hi
  obtain ⟨x,hx,hx0,hx1⟩:=get hj
  have hxy:x=y∧((i:Int)∈s↔(j:Int)∈s):=by
   rcases hy1 with ⟨a1,a2,a3⟩ | ⟨a1,a2⟩ <;> rcases hx1 with ⟨b1,b2,b3⟩ | ⟨b1,b2⟩
   ·exact ⟨wN b2 a2 (by omega),by simp [a1,b1]⟩
   ·omega
   ·omega
   ·exact ⟨by omega,by simp [a1,b1]⟩
  rw [List.mem_append,List.mem_singleton] at ht
  rcases ht with ht | rfl
  ·exact h.apart t ht i j y hy (hxy.1▸hx)
  ·exact hxy.2
theorem of {n:Nat}:∀{sets done:List (List Int)} {st:List Int×Int},lZ n done st→(∀s∈sets,(∀g∈s,0≤g∧g < (n:Int))∧s.Nodup)→lZ n (done++sets) (sets.foldl jK st)
 | [],done,st,h,_=>by rw [List.append_nil];exact h
 | s::sets,done,st,h,hd=>by
  have:=of (sets:=sets) (sF h (hd s (by simp)).1 (hd s (by simp)).2) fun x hx=>hd x (by simp [hx])
  rw [List.append_assoc] at this
  exact this
theorem lO {n:Nat} {sets:List (List Int)} (h:∀s∈sets,(∀g∈s,0≤g∧g < (n:Int))∧s.Nodup):lZ n sets (mC n sets):=by
 have:=of (sets:=sets) (done:=[]) (st:=(List.replicate n 0,1)) ⟨by simp,fun z hz=>by rw [(List.mem_replicate.1 hz).2];omega,by dsimp only;omega,fun s hs=>by cases hs⟩ h
 rwa [Ir] at this
def iB (l:List Int):List Int:=l.foldl dN []
theorem jj (l:List Int) (z:Int):iB (l++[z])=dN (iB l) z:=by simp [iB]
theorem mQ {P:List Int→Prop} (h0:P []) (h:∀l z,P l→P (l++[z])) (l:List Int):P l:=by
 have:∀(n:Nat) (l:List Int),l.length=n→P l:=by
  intro n
  induction n with
  | zero=>intro l hl;rw [List.length_eq_zero_iff.1 hl];exact h0
  | succ n ih=>
   intro l hl
   have hne:l≠[]:=fun e=>by rw [e] at hl;simp at hl
   rw [←List.dropLast_concat_getLast hne]
   exact h _ _ (ih _ (by rw [List.length_dropLast];omega))
 exact this _ l rfl
theorem mP (l:List Int):∀z∈l,z∈iB l:=by
 refine mQ (P:=fun l=>∀z∈l,z∈iB l) (fun z hz=>by cases hz) (fun l y ih z hz=>?_) l
 rw [jj]
 rw [List.mem_append,List.mem_singleton] at hz
 rcases hz with hz | rfl
 ·exact uw _ (ih z hz)
 ·exact kQ _ _
theorem wd (l:List Int):(iB l).Nodup:=by
 refine mQ (P:=fun l=>(iB l).Nodup) (by simp [iB]) (fun l y ih=>?_) l
 rw [jj]
 exact lS _ ih
theorem C1 (l:List Int):(iB l).length≤l.length:=by
 refine mQ (P:=fun l=>(iB l).length≤l.length) (by simp [iB]) (fun l y ih=>?_) l
 rw [jj,List.length_append,List.length_singleton]
 have:=(qo (iB l) y).2
 omega
def gj (l:List Int):List Int:=l.map fun z=>((iB l).idxOf z:Nat)
theorem wj (l:List Int) (z:Int):gj (l++[z])=gj l++[(((dN (iB l) z).idxOf z:Nat):Int)]:=by
 unfold gj
 rw [jj,List.map_append]
 congr 1
 refine List.map_congr_left fun y hy=>?_
 rw [qn _ (mP l y hy)]
theorem gA (l:List Int):(gj l).length=l.length:=by simp [gj]
def dH (n:Nat) (sets:List (List Int)):List Int:=gj (mC n sets).1
def gn (l:List Int):Int:=l.foldl (fun m z=>max m (z+1)) 0
theorem pL:∀{l:List Int} {m:Int},m≤l.foldl (fun m z=>max m (z+1)) m∧∀z∈l,z < l.foldl (fun m z=>max m (z+1)) m
 | [],m=>⟨Int.le_refl _,fun z hz=>by cases hz⟩
 | a::l,m=>by
  obtain ⟨h1,h2⟩:=pL (l:=l) (m:=max m (a+1))
  rw [List.foldl_cons]
  refine ⟨by omega,fun z hz=>?_⟩
  rw [List.mem_cons] at hz
  rcases hz with rfl | hz
  ·omega
  ·exact h2 z hz
theorem rr:∀{l:List Int} {m k:Int},m≤k→(∀z∈l,z < k)→l.foldl (fun m z=>max m (z+1)) m≤k
 | [],_,_,h,_=>h
 | a::l,m,k,h,hl=>by
  rw [List.foldl_cons]
  exact rr (by have:=hl a (by simp);omega) fun z hz=>hl z (by simp [hz])
theorem rz (n:Nat) (sets:List (List Int)) (h:∀s∈sets,(∀g∈s,0≤g∧g < (n:Int))∧s.Nodup):(dH n sets).length=n:=by
 unfold dH
 rw [gA]
 exact (lO h).len
theorem ry (n:Nat) (sets:List (List Int)) (h:∀s∈sets,(∀g∈s,0≤g∧g < (n:Int))∧s.Nodup):∀z∈dH n sets,0≤z∧z < n:=by
 intro z hz
 have hl:=(lO h).len
 unfold dH gj at hz
 obtain ⟨y,hy,rfl⟩:=List.mem_map.1 hz
 have h1:=List.idxOf_lt_length_of_mem (mP _ y hy)
 have h2:=C1 (mC n sets).1
 omega
theorem ug (n:Nat) (sets:List (List Int)) (h:∀s∈sets,(∀g∈s,0≤g∧g < (n:Int))∧s.Nodup):sZ n (gn (dH n sets)).toNat (dH n sets) sets:=by
 refine ⟨rz n sets h,fun z hz=>?_,fun s hs i j z hi hj=>?_⟩
 ·have h1:=(ry n sets h z hz).1
  have h2:=(pL (l:=dH n sets) (m:=0)).2 z hz
  unfold gn
  omega
 ·unfold dH gj at hi hj
  rw [List.getElem?_map,Option.map_eq_some_iff] at hi hj
  obtain ⟨x,hx,hx1⟩:=hi
  obtain ⟨y,hy,hy1⟩:=hj
  have hxy:x=y:=wN (mP _ x (Iw hx)) (mP _ y (Iw hy)) (by omega)
  subst hxy
  exact (lO h).apart s hs i j x hx hy
end Go.Proofs.YtpmdfoaadejmkaaGreatDoor
