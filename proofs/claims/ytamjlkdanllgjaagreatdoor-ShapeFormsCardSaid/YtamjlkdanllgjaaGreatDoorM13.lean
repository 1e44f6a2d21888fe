/-
  An engine's places that are seen.
-/
import Derived.Test.YtamjlkdanllgjaaGreatDoorM12
import Derived.Test.YtamjlkdanllgjaaGreatDoorM05
import Derived.Laws.Shifts
import Derived.Laws.Pointers
import Derived.Laws.BitsAllLaws
import Derived.Test.YtamjlkdanllgjaaGreatDoorRows
import Derived.WalkKit
import Derived.ProofKit
import Derived.OpenShut
import Derived.ChangeOld
import Derived.SizedLaws
import Derived.Deep.DeepHandedRow
import Derived.Lib.LaidTab
namespace Go.Proofs.YtamjlkdanllgjaaGreatDoor
open Go.RowKit
attribute [local irreducible] AT bz AX AO Av Kt aZ cY DA cu
set_option maxRecDepth 8000
def df (l:List Nat):List (List AV):=aT (l.map Int.ofNat)
theorem kH (l:List Nat):(df l).length=l.length:=by simp [df,aT]
theorem z8 (l:List Nat) (i:Nat):df l++[[aF i]]=df (l++[i]):=by simp [df,aT]
def ow (run:List aM) (l:List Nat):List (List AV):=aT (l.map (fj run))
theorem BA (run:List aM) (l:List Nat):(ow run l).length=l.length:=by simp [ow,aT]
theorem Bz {run:List aM} (l:List Nat) {i:Nat} {x:aM} (h:run[i]?=some x):ow run l++[[aF x.Glyph]]=ow run (l++[i]):=by simp [ow,aT,vR h]
def gZ (ms:List Bool) (ig:Bool) (run:List aM) (up:Bool) (a:Int):List Nat:=if up=true then dU ms ig run a.toNat else lP ms ig run (a+1).toNat
def mK (up:Bool):Int:=if up=true then 1 else -1
def la (run:List aM) (up:Bool) (a:Int):Prop:= -1≤a∧(up=true→0≤a)∧(up=false→a < run.length)
theorem zA {ms:List Bool} {ig:Bool} {run:List aM} {up:Bool} {a:Int} (h:la run up a) (ho:¬(0≤a∧a < run.length)):gZ ms ig run up a=[]:=by
 obtain ⟨h1,h2,h3⟩:=h
 unfold gZ
 cases up with
 | true=>exact rj (by have:=h2 rfl;omega)
 | false=>
  have:=h3 rfl
  rw [show (a+1).toNat=0 by omega]
  rfl
theorem CP {ms:List Bool} {ig:Bool} {run:List aM} {up:Bool} {a:Int} (h0:0≤a) (h1:a < run.length):gZ ms ig run up a=if jn ms ig run a.toNat=true then a.toNat::gZ ms ig run up (a+mK up) else gZ ms ig run up (a+mK up):=by
 unfold gZ mK
 cases up with
 | true=>
  rw [if_pos rfl,if_pos rfl,if_pos rfl,jb (by omega),show (a+1).toNat=a.toNat+1 by omega]
 | false=>
  simp only [Bool.false_eq_true,if_false]
  rw [show (a+1).toNat=a.toNat+1 by omega,lP,show (a+ -1+1).toNat=a.toNat by omega]
theorem la.next {run:List aM} {up:Bool} {a:Int} (h0:0≤a) (h1:a < run.length):la run up (a+mK up):=by
 unfold la mK
 cases up <;> simp <;> omega
def nY (run:List aM) (up:Bool) (a:Int):Nat:=if up=true then (run.length - a).toNat else (a+1).toNat
theorem vY {run:List aM} {up:Bool} {a:Int} (h0:0≤a) (h1:a < run.length):nY run up (a+mK up) < nY run up a:=by
 unfold nY mK
 cases up <;> simp <;> omega
set_option maxHeartbeats 4000000 in
theorem xN (E:ot) (e:oB) (wb:Nat) (q:Option f0) (run:List aM) (hq:cS q run) (hr:run.length≤1000000) (up:Bool) (a:Int) (ha:la run up a) (ha2:a≤1000000) (most:Nat):AC Tryz.prog 324 [eZ wb,.iptr (f4 e),aF a,aF (mK up),aF most] (uY wb (.iptr (dZ E)) q run) fun c L=>c= .tup [.imm 1 (df ((gZ E.ms e.l.Ignore run up a).take most)),.imm 1 (ow run ((gZ E.ms e.l.Ignore run up a).take most))]∧L=uY wb (.iptr (dZ E)) q run:=by
 refine aI Tryz.func324 rfl Tryz.ntmps324 rfl fun B=>?_
 repeat' (first|refine ae ?_|refine a6 ?_|refine ar ?_|refine a8 ?_|refine aa ?_|refine LR a7 LL ?_)
 refine cm (bE (t:=10) (c':= .vec none 1 []) rfl fun σ v h=>eh 1 h) ?_
 refine cm (bE (t:=11) (c':= .vec none 1 []) rfl fun σ v h=>eh 1 h) ?_
 refine aN [0,1,3,4] (α:=Int×List Nat×Option (Nat×Nat)×Option (Nat×Nat)) (fun x=>[(12,aF x.1),(10,.vec x.2.2.1 1 (df x.2.1)),(11,.vec x.2.2.2 1 (ow run x.2.1))]) (fun x=>la run up x.1∧x.1≤1000000∧gZ E.ms e.l.Ignore run up a=x.2.1++gZ E.ms e.l.Ignore run up x.1∧x.2.1.length≤most∧x.2.1.length+nY run up x.1≤nY run up a) (fun x=>uY wb (.iptr (dZ E)) q run++(tok x.2.2.1 3 1 (df x.2.1).length++tok x.2.2.2 3 1 (ow run x.2.1).length)) (fun x=>nY run up x.1) (a,[],none,none) rfl ⟨rfl,rfl,rfl,trivial⟩ ⟨ha,ha2,by simp,Nat.zero_le _,by simp⟩ (fun _ _ h=>by simpa [tok] using h) ?_
 have hlN:nY run up a≤1000001:=by
  have:=ha.1
  unfold nY
  have:=ha.2.1
  cases up <;> simp at this ⊢ <;> omega
 rintro ⟨k,ps,q1,q2⟩ ⟨hk,hk2,hps,hpl,hpk⟩
 dsimp only at hk hk2 hps hpl hpk ⊢
 have hnl:=kH ps
 have hgl:=BA run ps
 try dsimp only [Mt,Ms,Mr,Mn]
 repeat' (first|refine ae ?_|refine a6 ?_|refine LR a7 LL ?_)
 refine bN [0,1,3,4,10,11,12] ((0≤k∧k < run.length)∧ps.length < most) rfl (fun Q' K=>?_) (fun hC=>?_) (fun hC=>?_)
 ·repeat' (first|refine aa ?_|refine LR a7 LL ?_|refine MB LL ?_|refine MC LN ?_|(apply bL;first|refine LV a7 0 LO ?_|refine LV a7 1 LO ?_|refine LV a7 2 LO ?_|refine LV a7 3 LO ?_|refine LW a7 0 LO ?_|refine LW a7 1 LO ?_|refine LW a7 2 LO ?_|refine LZ a7 1 LM (by assumption) rfl ?_|refine LZ a7 0 LM (by assumption) rfl ?_|fail)|refine MD LM (fun _=>?_) (fun _=>?_))
  ·refine lr a7 rfl hq rfl rfl ?_
   repeat' (first|refine aa ?_|refine LR a7 LL ?_|refine MB LL ?_|refine MC LN ?_|refine MD LM (fun _=>?_) (fun _=>?_))
   all_goals exact K _ _ rfl rfl (by simp_all <;> omega)
  ·exact K _ _ rfl rfl (by simp_all <;> omega)
 ·obtain ⟨⟨h0,h1⟩,h2⟩:=hC
  obtain ⟨m,rfl⟩:=hq.lt (i:=k.toNat) (by omega)
  obtain ⟨x,hx⟩:∃x,run[k.toNat]?=some x:=⟨_,Ia (by omega)⟩
  have hk0:((k.toNat:Nat):Int)=k:=Int.toNat_of_nonneg h0
  have hse:=sY E e wb m run k.toNat x hx
  rw [hk0] at hse
  have hst:=CP (ms:=E.ms) (ig:=e.l.Ignore) (up:=up) h0 h1
  rw [kL hx] at hst
  have hnx:=la.next (up:=up) h0 h1
  have hln:=vY (up:=up) h0 h1
  have hk3:k+mK up≤1000000:=by have:=hnx.1;unfold mK;split <;> omega
  have hk4: -9223372036854775808≤k+mK up∧k+mK up≤9223372036854775807:=by have:=hnx.1;omega
  repeat' (first|refine ae ?_|refine a6 ?_|refine ar ?_|refine aq ?_|refine a8 ?_|refine LR a7 LL ?_)
  refine aW (uY wb (.iptr (dZ E)) (some m) run) _ hse rfl rfl (Mp _) rfl fun c L1 ⟨hc,hL⟩=>?_
  subst hc;subst hL
  repeat' (first|refine a8 ?_|refine aa ?_)
  refine aB rfl (fun hb=>?_) (fun hb=>?_)
  ·rw [hb,if_pos rfl] at hst
   repeat' (first|refine ae ?_|refine a6 ?_|refine LR a7 LL ?_|refine cA a7 ?_|fail)
   refine cr a7 (uY wb (.iptr (dZ E)) (some m) run++tok q2 3 1 (ow run ps).length) rfl rfl rfl rfl ?_ (by rw [hnl];simp;omega) (by rw [hnl];simp;omega) rfl fun q1'=>?_
   ·exact (List.perm_append_comm_assoc ..)
   refine bq (b8 (L':=uY wb (.iptr (dZ E)) (some m) run++(tok q1' 3 1 (df ps++[[aF k]]).length++tok q2 3 1 (ow run ps).length)) (List.perm_append_comm_assoc ..)) ?_
   have hg0:=m4 (j:=0) m.junk hx rfl
   rw [hk0] at hg0
   repeat' (first|refine a6 ?_|refine a8 ?_|refine aa ?_|refine LR a7 LL ?_|(apply bL;first|refine LV a7 0 LO ?_|refine LV a7 1 LO ?_|refine LV a7 2 LO ?_|refine LV a7 3 LO ?_|refine LW a7 0 LO ?_|refine LW a7 1 LO ?_|refine LW a7 2 LO ?_|refine LZ a7 1 LM (by assumption) rfl ?_|refine LZ a7 0 LM (by assumption) rfl ?_|fail)|(apply aL;first|refine aK a7 ?_|refine aH a7 ?_)|refine cA a7 ?_|fail)
   refine cr a7 (uY wb (.iptr (dZ E)) (some m) run++tok q1' 3 1 (df ps++[[aF k]]).length) rfl rfl rfl rfl ?_ (by rw [hgl];simp;omega) (by rw [hgl];simp;omega) rfl fun q2'=>?_
   ·rw [←List.append_assoc]
    exact List.perm_append_comm
   refine bq (b8 (L':=uY wb (.iptr (dZ E)) (some m) run++(tok q1' 3 1 (df ps++[[aF k]]).length++tok q2' 3 1 (ow run ps++[[aF x.Glyph]]).length)) (List.perm_append_comm.trans (by rw [List.append_assoc]))) ?_
   repeat' (first|refine a6 ?_|refine a8 ?_|refine aP ?_|refine aa ?_|refine LR a7 LL ?_|(apply aY;refine aX ?_)|fail)
   have e1:df ps++[[aF k]]=df (ps++[k.toNat]):=by rw [←z8,hk0]
   have e2:=Bz ps hx
   exact aE (k+mK up,ps++[k.toNat],q1',q2') rfl ⟨rfl,by rw [←e1];rfl,by rw [←e2];rfl,trivial⟩ ⟨hnx,hk3,by rw [hps,hst];simp,by rw [List.length_append,List.length_singleton];omega,by rw [List.length_append,List.length_singleton];dsimp only;omega⟩ hln (fun _ _ h=>by dsimp only;rw [←e1,←e2];exact h)
  ·rw [hb,if_neg (by decide)] at hst
   repeat' (first|refine a6 ?_|refine aq ?_|refine a8 ?_|refine aP ?_|refine aa ?_|refine LR a7 LL ?_|(apply aY;refine aX ?_)|fail)
   exact aE (k+mK up,ps,q1,q2) rfl ⟨rfl,rfl,rfl,trivial⟩ ⟨hnx,hk3,by rw [hps,hst],hpl,by dsimp only;omega⟩ hln (fun _ _ h=>h)
 ·have hres:(gZ E.ms e.l.Ignore run up a).take most=ps:=by
   by_cases h1:ps.length < most
   ·rw [hps,zA hk (fun h=>hC ⟨h,h1⟩),List.append_nil,List.take_of_length_le (by omega)]
   ·rw [hps,List.take_append_of_le_length (by omega),List.take_of_length_le (by omega)]
  rw [hres]
  repeat' (first|refine ae ?_|refine a6 ?_|refine am ?_|refine aO ?_|refine a8 ?_|refine av ?_|refine aC ?_|refine aA ?_|refine aa ?_|refine LR a7 LL ?_)
  refine cL (L':=uY wb (.iptr (dZ E)) q run) (List.sublist_append_left ..) ?_
  refine br (bE (t:=10) (c':= .imm 1 (df ps)) rfl fun σ v h=>VR.im h) ?_
  refine br (bE (t:=11) (c':= .imm 1 (ow run ps)) rfl fun σ v h=>VR.im h) ?_
  exact ME LM ⟨rfl,rfl⟩
end Go.Proofs.YtamjlkdanllgjaaGreatDoor
namespace Go.Proofs.YtamjlkdanllgjaaGreatDoor
open Go.RowKit
section
variable {P:Program} {tt:TT} {r:Option Nat} {ops:Array Oper} {Q:Exit→Act→World→Prop} {nt:Nat} {D:List Deferred} {fr:bP} {B:Bs} {L:AL} {rest:List Oper} {d:Nat} {ty t t':TypeId} {pos:String} {af:Array Edge} {g:Option (Nat×Bool)} {x y z:Operand} {u:AV}
theorem GK {dd:Option Tmp} {k kk:IntKind} {a b:Int} (i:Nat) (hx:bc fr x=some (.sc (.int k a))) (hy:bc fr y=some (.sc (.int kk b))) (hb:b=(i:Int)):Av P ⟨dd,.binOp .shr t x y t',ty,pos,af,g⟩ fr (.sc (.int k (a / 2 ^ min i k.bits))):=by
 intro σ ρ w hρ _
 subst hb
 refine ⟨_,?_,.sc _⟩
 have h:=shift_shr_any k kk a (i:Int) (Int.natCast_nonneg i)
 simp [execOp,(hρ x _ hx).sc_inv,(hρ y _ hy).sc_inv,eqGuard,binOp,h]
theorem Gr {dd:Option Tmp} {k:IntKind} {a b:Int} (hx:bc fr x=some (.sc (.int k a))) (hy:bc fr y=some (.sc (.int k b))):Av P ⟨dd,.binOp .and t x y t',ty,pos,af,g⟩ fr (.sc (.int k (bits .and k a b))):=by
 intro σ ρ w hρ _
 refine ⟨_,?_,.sc _⟩
 simp [execOp,(hρ x _ hx).sc_inv,(hρ y _ hy).sc_inv,eqGuard,binOp,intBits_and]
theorem wT {dd:Option Tmp} {k:IntKind} {a b:Int} (hx:bc fr x=some (.sc (.int k a))) (hy:bc fr y=some (.sc (.int k b))):Av P ⟨dd,.binOp .or t x y t',ty,pos,af,g⟩ fr (.sc (.int k (bits .or k a b))):=by
 intro σ ρ w hρ _
 refine ⟨_,?_,.sc _⟩
 simp [execOp,(hρ x _ hx).sc_inv,(hρ y _ hy).sc_inv,eqGuard,binOp,intBits_or]
theorem pS (i:Nat) {k kk:IntKind} {a b:Int} (hx:bc fr x=some (.sc (.int k a))) (hy:bc fr y=some (.sc (.int kk b))) (hb:b=(i:Int)) (hd:Nat.ble nt d=false) (h:bz P r ops Q nt D rest ((d,.sc (.int k (a / 2 ^ min i k.bits)))::fr) B L):
  bz P r ops Q nt D (⟨some d,.binOp .shr t x y t',ty,pos,af,none⟩::rest) fr B L:=c5 (GK i hx hy hb) hd rfl h
theorem lq {k:IntKind} {a b:Int} (hx:bc fr x=some (.sc (.int k a))) (hy:bc fr y=some (.sc (.int k b))) (hd:Nat.ble nt d=false) (h:bz P r ops Q nt D rest ((d,.sc (.int k (bits .and k a b)))::fr) B L):
  bz P r ops Q nt D (⟨some d,.binOp .and t x y t',ty,pos,af,none⟩::rest) fr B L:=c5 (Gr hx hy) hd rfl h
theorem sD {k:IntKind} {a b:Int} (hx:bc fr x=some (.sc (.int k a))) (hy:bc fr y=some (.sc (.int k b))) (hd:Nat.ble nt d=false) (h:bz P r ops Q nt D rest ((d,.sc (.int k (bits .or k a b)))::fr) B L):
  bz P r ops Q nt D (⟨some d,.binOp .or t x y t',ty,pos,af,none⟩::rest) fr B L:=c5 (wT hx hy) hd rfl h
end
end Go.Proofs.YtamjlkdanllgjaaGreatDoor
namespace Go.Proofs.YtamjlkdanllgjaaGreatDoor
open Go.RowKit
def zk:AV→Option Bool
 | .iptr _=>some false
 | .sc (.pointer none)=>some true
 | .sc (.pointer (some _))=>some false
 | _=>none
theorem rI {u:AV} {b:Bool} (h:zk u=some b) {σ:bW} {v:Value} (hv:VR σ u v):∃p,v= .pointer p∧p.isNone=b:=by
 unfold zk at h
 split at h
 ·cases h
  obtain ⟨b',off,h1,_⟩:=hv.iptr_inv
  exact ⟨_,h1,rfl⟩
 ·cases h
  exact ⟨none,hv.sc_inv,rfl⟩
 ·cases h
  exact ⟨_,hv.sc_inv,rfl⟩
 ·cases h
section
variable {P:Program} {fr:bP} {B:Bs} {L:AL} {d:Option Tmp} {ty t t':TypeId} {pos:String} {af:Array Edge} {g:Option (Nat×Bool)} {x y z q:Operand} {u:AV}
theorem pZ {e:TypeId} (h:P.underlying t=some (.pointer e)):P.underlying t=some (.pointer (P.pointee t)):=by
 rw [show P.pointee t=e by simp [Program.pointee,h]];exact h
theorem Gx {e:TypeId} {b:Bool} (ht:P.underlying t=some (.pointer e)) (hx:bc fr x=some u) (hu:zk u=some b) (hy:bc fr y=some (.sc (.pointer none))):Av P ⟨d,.binOp .eql t x y t',ty,pos,af,g⟩ fr (.sc (.bool b)):=fun σ ρ w hρ _=>by
 obtain ⟨p,hp,hb⟩:=rI hu (hρ x u hx)
 refine ⟨_,?_,.sc _⟩
 subst hb
 simp [execOp,hp,(hρ y _ hy).sc_inv,eqGuard,run_eql_pointer_nil w t p (pZ ht)]
theorem GE {e:TypeId} {b:Bool} (ht:P.underlying t=some (.pointer e)) (hx:bc fr x=some u) (hu:zk u=some b) (hy:bc fr y=some (.sc (.pointer none))):Av P ⟨d,.binOp .neq t x y t',ty,pos,af,g⟩ fr (.sc (.bool (!b))):=fun σ ρ w hρ _=>by
 obtain ⟨p,hp,hb⟩:=rI hu (hρ x u hx)
 refine ⟨_,?_,.sc _⟩
 subst hb
 simp [execOp,hp,(hρ y _ hy).sc_inv,eqGuard,run_neq_pointer_nil w t p (pZ ht)]
theorem Gp {n e sz k b off:Nat} {qq:IntKind} {a:Int} (ht:P.underlying t=some (.array n e)) (hs:(P.info? e).map (·.size)=some sz) (hx:bc fr x=some (.sc (.pointer (some ⟨b,off,none⟩)))) (hy:bc fr y=some (.sc (.int qq a))) (ha:a=(k:Int)) (hk:k < n):Av P ⟨d,.indexAddr t x y,ty,pos,af,g⟩ fr (.sc (.pointer (some ⟨b,off+k * sz,none⟩))):=
 fun σ ρ w hρ _=>by
  subst ha
  have hyv:=(hρ y _ hy).sc_inv
  have hv:=(hρ x _ hx).sc_inv
  have hk':(k:Int) < (n:Int):=by omega
  have hso:(sizeOf e:Sem Nat).run P w= .ok sz w:=by
   cases hi:P.info? e with
   | none=>rw [hi] at hs;cases hs
   | some i=>rw [hi] at hs;simp at hs;simp [sizeOf,typeInfo,hi,hs]
  refine ⟨.pointer (some ⟨b,off+k * sz,none⟩),?_,.sc _⟩
  simp [execOp,hv,hyv,Instr.indexAt,asIntOf,run_underlying ht,hk',hso,Instr.sureAddr,Addr.add]
  by_cases hn:n≤1 <;> by_cases h0:k * sz=0 <;> simp [hn,run_underlying ht,hso,hk,h0]
theorem DN {e sz by_:Nat} {parts:Array (Nat×Operand)} (hc:jE P t e sz by_) (hsz:0 < sz) (hp:parts=#[]):AO P ⟨d,.buildSlice t 0 parts,ty,pos,af,g⟩ fr B L (fun c L'=>∃b,c= .sc (.slice (some ⟨b,0,none⟩) 0 0)∧L'=(b,.box [] e)::L):=by
 intro σ ρ w hρ hw
 subst hp
 haveI:=hc
 have hr:=CM (P:=P) (t:=t) (by simpa [Nat.blt_eq] using hsz) [] (by simp) (by simp [Nat.ble_eq]) w
 simp at hr
 unfold gn
 rw [show (execOp ρ ⟨d,.buildSlice t 0 #[],ty,pos,af,g⟩).run P w= .ok (.value (.slice (some ⟨w.heap.size,0,none⟩) 0 0)) (w.alloc (.cells #[] e)) by
  simp [execOp,hr]]
 exact ⟨σ,.sc _,_,bW.le_refl _,.sc _,hw.alloc _ (.box [] e) ⟨[],rfl,cR.nil,by simp⟩,_,rfl,rfl⟩
end
section
variable {P:Program} {tt:TT} {r:Option Nat} {ops:Array Oper} {Q:Exit→Act→World→Prop} {nt:Nat} {D:List Deferred} {fr:bP} {B:Bs} {L:AL} {rest:List Oper} {d:Nat} {ty t t':TypeId} {pos:String} {af:Array Edge} {x y z:Operand} {u:AV}
theorem wc {e:TypeId} {b:Bool} (ht:P.underlying t=some (.pointer e)) (hx:bc fr x=some u) (hu:zk u=some b) (hy:bc fr y=some (.sc (.pointer none))) (hd:Nat.ble nt d=false) (h:bz P r ops Q nt D rest ((d,.sc (.bool b))::fr) B L):bz P r ops Q nt D (⟨some d,.binOp .eql t x y t',ty,pos,af,none⟩::rest) fr B L:=c5 (Gx ht hx hu hy) hd rfl h
theorem sH {e:TypeId} {b:Bool} (ht:P.underlying t=some (.pointer e)) (hx:bc fr x=some u) (hu:zk u=some b) (hy:bc fr y=some (.sc (.pointer none))) (hd:Nat.ble nt d=false) (h:bz P r ops Q nt D rest ((d,.sc (.bool (!b)))::fr) B L):bz P r ops Q nt D (⟨some d,.binOp .neq t x y t',ty,pos,af,none⟩::rest) fr B L:=c5 (GE ht hx hu hy) hd rfl h
theorem sC (ok:dG P tt) (k:Nat) {n e sz b off:Nat} {q:IntKind} {a:Int} (ht:tH tt t=some (n,e,sz)) (hx:bc fr x=some (.sc (.pointer (some ⟨b,off,none⟩)))) (hy:bc fr y=some (.sc (.int q a))) (ha:a=(k:Int)) (hk:k < n) (hd:Nat.ble nt d=false) (h:bz P r ops Q nt D rest ((d,.sc (.pointer (some ⟨b,off+k * sz,none⟩)))::fr) B L):
  bz P r ops Q nt D (⟨some d,.indexAddr t x y,ty,pos,af,none⟩::rest) fr B L:=c5 (Gp (g7 ok ht).1 (g7 ok ht).2 hx hy ha hk) hd rfl h
theorem Hw (ok:dG P tt) {e sz by_:Nat} (ht:iS tt t=some (e,sz,by_)) (hd:Nat.ble nt d=false) (h:∀b,bz P r ops Q nt D rest ((d,.sc (.slice (some ⟨b,0,none⟩) 0 0))::fr) B ((b,.box [] e)::L)):
  bz P r ops Q nt D (⟨some d,.buildSlice t 0 #[],ty,pos,af,none⟩::rest) fr B L:=ce hd rfl (DN (bv ok ht).1 (bv ok ht).2 rfl) fun c L' ⟨b,h1,h2⟩=>by subst h1;subst h2;exact h b
theorem Hx {k:IntKind} {a b:Int} (hx:bc fr x=some (.sc (.int k a))) (hy:bc fr y=some (.sc (.int k b))) (hd:Nat.ble nt d=false) (h:bz P r ops Q nt D rest ((d,.sc (.int k (k.wrap (a * b))))::fr) B L):bz P r ops Q nt D (⟨some d,.binOp .mul t x y t',ty,pos,af,none⟩::rest) fr B L:=c5 (FO hx hy) hd rfl h
theorem Hy {k:IntKind} {a:Int} (hx:bc fr x=some (.sc (.int k a))) (hd:Nat.ble nt d=false) (h:bz P r ops Q nt D rest ((d,.sc (.int k (k.wrap (0 - a))))::fr) B L):bz P r ops Q nt D (⟨some d,.unOp .neg t x,ty,pos,af,none⟩::rest) fr B L:=c5 (Iu hx) hd rfl h
theorem kF (ok:dG P tt) {a:Int} {q q':IntKind} {ti ti':TI} (hx:bc fr x=some (.sc (.int q a))) (ht:dp tt t=some ti) (hk:ti.k= .int q) (ht':dp tt t'=some ti') (hk':ti'.k= .int q') (hd:Nat.ble nt d=false) (h:bz P r ops Q nt D rest ((d,.sc (.int q' (q'.wrap a)))::fr) B L):
  bz P r ops Q nt D (⟨some d,.convert t t' x,ty,pos,af,none⟩::rest) fr B L:=by
 haveI:=ok.int ht hk
 haveI:=ok.int ht' hk'
 exact c5 (y4 hx) hd rfl h
end
end Go.Proofs.YtamjlkdanllgjaaGreatDoor
namespace Go.Proofs.YtamjlkdanllgjaaGreatDoor
open Go.RowKit
attribute [local irreducible] AT bz AX AO Av Kt aZ cY DA cu
set_option maxRecDepth 8000
abbrev Il (cls:List Int) (tab:List (List Int)) (ends:List Nat):AV:= .agg [.imm 1 (aT cls),.imm 1 (bj tab),.imm 1 (fR ends)]
theorem mI (l:List Nat):(fR l).length=l.length:=by simp [fR]
theorem uU {l:List Nat} {i:Nat} {z:Nat} (h:l[i]?=some z):(fR l)[i]?=some [iy z]:=by simp [fR,h]
section
variable (cls:List Int) (tab:List (List Int)) (ends:List Nat)
theorem AQ (s:Int):bD Tryz.prog 367 [Il cls tab ends,aF s] (iy (i9 ends s)):=by
 refine aI Tryz.func367 rfl Tryz.ntmps367 rfl fun B=>?_
 have hel:=mI ends
 repeat' (first|refine ae ?_|refine a6 ?_|refine a8 ?_|refine aa ?_|refine LR a7 LL ?_|refine bi ?_|fail)
 refine bN [1,2] (s < 0∨(ends.length:Int)≤s) rfl (fun Q' K=>?_) (fun hC=>?_) (fun hC=>?_)
 ·repeat' (first|refine aa ?_|refine LR a7 LL ?_|refine MB LL ?_|refine MC LN ?_|refine MD LM (fun _=>?_) (fun _=>?_))
  all_goals exact K _ _ rfl rfl (by simp_all <;> omega)
 ·repeat' (first|refine ae ?_|refine a6 ?_|refine am ?_|refine a8 ?_|refine az ?_|refine aa ?_|refine LR a7 LL ?_)
  refine MA LL ?_
  unfold i9
  rcases hC with h | h
  ·rw [if_pos h];rfl
  ·by_cases h0:s < 0
   ·rw [if_pos h0];rfl
   ·rw [if_neg h0,List.getD_eq_getElem?_getD,List.getElem?_eq_none (by omega)];rfl
 ·obtain ⟨z,hz⟩:∃z,ends[s.toNat]?=some z:=⟨_,Ia (by omega)⟩
  have hzg:=uU hz
  repeat' (first|refine ae ?_|refine a6 ?_|refine aq ?_|refine am ?_|refine a8 ?_|refine aa ?_|refine LR a7 LL ?_|(apply aL;first|refine aK a7 ?_|refine aH a7 ?_)|fail)
  refine MA LL ?_
  unfold i9
  rw [if_neg (fun h=>hC (.inl h)),List.getD_eq_getElem?_getD,hz]
  rfl
instance (s:Int):AD Tryz.prog 367 [Il cls tab ends,aF s] (iy (i9 ends s)):=⟨AQ cls tab ends s⟩
theorem Ce (s g:Int):bD Tryz.prog 368 [Il cls tab ends,aF s,aF g] (aF (gE cls tab s g)):=by
 refine aI Tryz.func368 rfl Tryz.ntmps368 rfl fun B=>?_
 have hcl:=b7 cls
 have htl:=c8 tab
 repeat' (first|refine ae ?_|refine a6 ?_|refine a8 ?_|refine aa ?_|refine LR a7 LL ?_|refine bi ?_|fail)
 refine bN [1,2,3] ((s < 0∨(tab.length:Int)≤s)∨(g < 0∨(cls.length:Int)≤g)) rfl (fun Q' K=>?_) (fun hC=>?_) (fun hC=>?_)
 ·repeat' (first|refine aa ?_|refine LR a7 LL ?_|refine MB LL ?_|refine MC LN ?_|refine MD LM (fun _=>?_) (fun _=>?_))
  all_goals exact K _ _ rfl rfl (by simp_all <;> omega)
 ·repeat' (first|refine ae ?_|refine a6 ?_|refine am ?_|refine a8 ?_|refine az ?_|refine aa ?_|refine LR a7 LL ?_)
  refine MA LL ?_
  unfold gE
  by_cases h0:s < 0∨g < 0
  ·rw [if_pos h0]
  ·rw [if_neg h0]
   split
   ·rename_i h1 h2
    have:=(Mq h1).1
    have:=(Mq h2).1
    omega
   ·rfl
 ·obtain ⟨ey,hrow⟩:∃z,tab[s.toNat]?=some z:=⟨_,Ia (by omega)⟩
  obtain ⟨c,hc⟩:∃z,cls[g.toNat]?=some z:=⟨_,Ia (by omega)⟩
  have hrg:=gh hrow
  have hcg:=bH hc
  have hrl:=b7 ey
  have hN:gE cls tab s g=if c < 0 then -1 else match ey[c.toNat]? with
   | some z=>if 0≤z∧z < tab.length then z else -1
   | none=> -1:=by
   unfold gE
   rw [if_neg (by omega),hrow,hc]
   rfl
  rw [hN]
  repeat' (first|refine ae ?_|refine aq ?_|refine a8 ?_)
  refine bB 11 [(0,.v),(1,.v),(2,.v),(3,.v),(4,.v),(5,.v),(6,.v),(7,.v),(8,.v),(9,.v),(10,.v)] none ?_ trivial rfl (by kernel_rfl) (by kernel_rfl) (by kernel_rfl) mixed (by kernel_rfl) rfl
  repeat' (first|refine aJ ?_|refine bw a7 ?_|(apply cq;refine cQ a7 ?_)|fail)
  refine MG [3,7,39] LL ?_
  repeat' (first|refine ae ?_|refine a6 ?_|refine a8 ?_|refine aa ?_|refine LR a7 LL ?_)
  refine bN [3,7,8] (c < 0∨(ey.length:Int)≤c) rfl (fun Q' K=>?_) (fun hC2=>?_) (fun hC2=>?_)
  ·repeat' (first|refine aa ?_|refine LR a7 LL ?_|refine MB LL ?_|refine MC LN ?_|refine MD LM (fun _=>?_) (fun _=>?_))
   all_goals exact K _ _ rfl rfl (by simp_all <;> omega)
  ·repeat' (first|refine ae ?_|refine a6 ?_|refine am ?_|refine a8 ?_|refine az ?_|refine aa ?_|refine LR a7 LL ?_)
   refine MA LL ?_
   by_cases h0:c < 0
   ·rw [if_pos h0]
   ·rw [if_neg h0,List.getElem?_eq_none (by omega)]
  ·obtain ⟨z,hz⟩:∃z,ey[c.toNat]?=some z:=⟨_,Ia (by omega)⟩
   have hzg:=bH hz
   rw [if_neg (fun h=>hC2 (.inl h)),hz]
   dsimp only
   repeat' (first|refine ae ?_|refine a6 ?_|refine aq ?_|refine a8 ?_|refine aa ?_|refine LR a7 LL ?_|(apply aL;first|refine aK a7 ?_|refine aH a7 ?_)|fail)
   refine bN [9] (0≤z∧z < tab.length) rfl (fun Q' K=>?_) (fun hC3=>?_) (fun hC3=>?_)
   ·repeat' (first|refine aa ?_|refine LR a7 LL ?_|refine MB LL ?_|refine MC LN ?_|refine MD LM (fun _=>?_) (fun _=>?_))
    all_goals exact K _ _ rfl rfl (by simp_all <;> omega)
   ·rw [if_pos hC3]
    repeat' (first|refine ae ?_|refine a6 ?_|refine am ?_|refine a8 ?_|refine az ?_|refine aa ?_|refine LR a7 LL ?_)
    exact LY LM
   ·rw [if_neg hC3]
    repeat' (first|refine ae ?_|refine a6 ?_|refine aq ?_|refine am ?_|refine a8 ?_|refine aa ?_|refine LR a7 LL ?_)
    exact LY LM
instance (s g:Int):AD Tryz.prog 368 [Il cls tab ends,aF s,aF g] (aF (gE cls tab s g)):=⟨Ce cls tab ends s g⟩
theorem jO {ends:List Nat} (h:∀z∈ends,z < 18446744073709551616) (s:Int):i9 ends s < 18446744073709551616:=by
 unfold i9
 split
 ·decide
 ·rw [List.getD_eq_getElem?_getD]
  cases hz:ends[s.toNat]? with
  | none=>decide
  | some z=>exact h z (Mx hz)
theorem Cl {a b:Nat} (ha:a < 18446744073709551616) (hb:b < 18446744073709551616):a ||| b < 18446744073709551616:=Nat.or_lt_two_pow (n:=64) ha hb
theorem uy {cls:List Int} {tab:List (List Int)} {ends:List Nat} (h:∀z∈ends,z < 18446744073709551616):∀(gl:List Int) (s:Int) (told:Nat),told < 18446744073709551616→kZ cls tab ends s gl told < 18446744073709551616
 | [],_,_,ht=>ht
 | g::r,s,told,ht=>by
  rw [kZ]
  split
  ·exact ht
  ·exact uy h r _ _ (Cl ht (jO h _))
theorem uz (h:∀z∈ends,z < 18446744073709551616) (gl:List Int):fA cls tab ends gl < 18446744073709551616:=uy h gl 0 _ (jO h _)
theorem uA (hE:∀z∈ends,z < 18446744073709551616) (gl:List Int):bD Tryz.prog 365 [Il cls tab ends,.imm 1 (aT gl)] (iy (fA cls tab ends gl)):=by
 refine aI Tryz.func365 rfl Tryz.ntmps365 rfl fun B=>?_
 have hgl:=b7 gl
 refine cF 1 rfl rfl fun hlen=>?_
 repeat' (first|refine ae ?_|refine a6 ?_|refine ar ?_|refine a8 ?_|refine aa ?_|refine LR a7 LL ?_|refine bi ?_|(apply bk;refine b9 ?_)|fail)
 refine aN [2,12,13] (α:=Nat×Int×Nat) (fun x=>[(14,aF x.1),(5,aF x.2.1),(6,iy x.2.2)]) (fun x=>x.1≤gl.length∧x.2.2 < 18446744073709551616∧kZ cls tab ends x.2.1 (gl.drop x.1) x.2.2=fA cls tab ends gl) (fun _=>[]) (fun x=>gl.length - x.1) (0,0,i9 ends 0) rfl ⟨rfl,rfl,rfl,trivial⟩ ⟨Nat.zero_le _,jO hE 0,rfl⟩ (fun _ _ h=>h) ?_
 rintro ⟨i,s,told⟩ ⟨hi,ht,hr⟩
 dsimp only at hi ht hr ⊢
 try dsimp only [Mt,Ms,Mr,Mn]
 repeat' (first|refine ae ?_|refine a6 ?_|refine a8 ?_|refine aa ?_|refine LR a7 LL ?_)
 refine aB rfl (fun h=>?_) (fun h=>?_)
 ·have hil:i < gl.length:=by have:=Mz h;omega
  obtain ⟨z,hz⟩:∃z,gl[i]?=some z:=⟨_,Ia hil⟩
  have hzg:=bH hz
  have hd:gl.drop i=z::gl.drop (i+1):=by
   rw [List.drop_eq_getElem_cons hil,(Mq hz).2]
  rw [hd,kZ] at hr
  clear h
  repeat' (first|refine ae ?_|refine a6 ?_|refine ar ?_|refine aq ?_|refine a8 ?_|refine aa ?_|refine LR a7 LL ?_|(apply aL;first|refine aK a7 ?_|refine aH a7 ?_)|(apply bk;refine b9 ?_)|fail)
  refine aB rfl (fun h=>?_) (fun h=>?_)
  ·have h2:gE cls tab s z= -1:=Mz h
   rw [if_pos h2] at hr
   repeat' (first|refine ae ?_|refine a6 ?_|refine am ?_|refine aO ?_|refine a8 ?_|refine av ?_|refine aC ?_|refine dN rfl ?_|refine aA ?_|refine aa ?_|refine LR a7 LL ?_)
   refine MA LL ?_
   rw [hr]
  ·have h2:¬gE cls tab s z= -1:=My h
   rw [if_neg h2] at hr
   repeat' (first|refine a6 ?_|refine aq ?_|refine a8 ?_|refine LR a7 LL ?_|(apply bk;refine b9 ?_)|fail)
   refine sD rfl rfl rfl ?_
   rw [u64_or_nat _ _ ht (jO hE _)]
   repeat' (first|refine a6 ?_|refine a8 ?_|refine aP ?_|refine aa ?_|refine LR a7 LL ?_|(apply aY;refine aX ?_)|fail)
   exact aE (i+1,gE cls tab s z,told ||| i9 ends (gE cls tab s z)) rfl ⟨by rw [Mw];rfl,rfl,rfl,trivial⟩ ⟨hil,Cl ht (jO hE _),hr⟩ (by dsimp only;omega) (fun _ _ h=>h)
 ·have hil:i=gl.length:=by have:=My h;omega
  subst hil
  rw [List.drop_length,kZ] at hr
  repeat' (first|refine ae ?_|refine a6 ?_|refine am ?_|refine aO ?_|refine a8 ?_|refine av ?_|refine aC ?_|refine aA ?_|refine aa ?_|refine LR a7 LL ?_)
  refine MA LL ?_
  rw [hr]
end
abbrev A6 (e:oB):AV:= .agg (ID e)
structure rV (e:oB):Prop where
 fore:∀z∈e.foreE,z < 18446744073709551616
 back:∀z∈e.backE,z < 18446744073709551616
theorem Bq (e:oB) (h:rV e) (gl:List Int):bD Tryz.prog 354 [A6 e,.imm 1 (aT gl)] (iy (fA e.cls e.fore e.foreE gl)):=by
 refine aI Tryz.func354 rfl Tryz.ntmps354 rfl fun B=>?_
 haveI:=AD.mk (uA e.cls e.fore e.foreE h.fore gl)
 repeat' (first|refine ae ?_|refine a6 ?_|refine am ?_|refine a8 ?_|refine aa ?_|refine LR a7 LL ?_|refine bi ?_|(apply bk;refine b9 ?_)|fail)
 exact LY LM
theorem AI (e:oB) (h:rV e) (gl:List Int):bD Tryz.prog 353 [A6 e,.imm 1 (aT gl)] (iy (fA e.cls e.back e.backE gl)):=by
 refine aI Tryz.func353 rfl Tryz.ntmps353 rfl fun B=>?_
 haveI:=AD.mk (uA e.cls e.back e.backE h.back gl)
 repeat' (first|refine ae ?_|refine a6 ?_|refine am ?_|refine a8 ?_|refine aa ?_|refine LR a7 LL ?_|refine bi ?_|(apply bk;refine b9 ?_)|fail)
 exact LY LM
def jD:List Int:=[0,1,56,2,57,49,28,3,61,58,42,50,38,29,17,4,62,47,59,36,45,43,51,22,53,39,33,30,24,18,12,5,63,55,48,27,60,41,37,16,46,35,44,21,52,32,23,11,54,26,40,15,34,20,31,10,25,14,19,9,13,8,7,6]
def td:List AV:=jD.map fun z=> .sc (.int .u8 z)
abbrev cX:Nat×AB:=(2,.box td 481)
def LF (x:Int):Int:=bits .and .u64 x (IntKind.u64.wrap (0 - x))
def Kq (x:Int):Int:=IntKind.u64.wrap (LF x * 285870213051353865) / 2 ^ min 58 IntKind.u64.bits
def JM (x:Nat):Int:=jD.getD (Kq x).toNat 0
theorem uT:∀(n:Nat),n < 64→n≠0→0≤Kq (n:Nat)∧Kq (n:Nat) < 64:=by decide+kernel
theorem Dj:∀(n:Nat),n < 64→∀(i:Nat),i < 6→n.testBit i=true→(∀(j:Nat),j < i→n.testBit j=false)→JM n=(i:Nat):=by decide+kernel
theorem De {k:Nat} (h:k < 64):td[0+k * 1]?=some (.sc (.int .u8 (jD.getD k 0))):=by
 have hl:jD.length=64:=rfl
 unfold td
 rw [List.getElem?_map,Nat.zero_add,Nat.mul_one,Ia (by omega),List.getD_eq_getElem?_getD,Ia (by omega)]
 rfl
theorem Jy (x:Nat) (hx:x < 64) (h0:x≠0):AC Tryz.prog 355 [iy x] [cX] fun c L=>c=aF (JM x)∧L=[cX]:=by
 refine aI Tryz.func355 rfl Tryz.ntmps355 rfl fun B=>?_
 have hz:¬((x:Int)=0):=by omega
 obtain ⟨k,hk⟩:=Int.eq_ofNat_of_zero_le (uT x hx h0).1
 have hk64:k < 64:=by have:=(uT x hx h0).2;omega
 have hkc:=De hk64
 repeat' (first|refine ae ?_|refine a6 ?_|refine a8 ?_|refine aa ?_|refine LR a7 LL ?_)
 refine aB rfl (fun h=>absurd (Mz h) hz) (fun _=>?_)
 repeat' (first|refine ae ?_|refine a6 ?_|refine aq ?_|refine a8 ?_|refine LR a7 LL ?_)
 refine Hy rfl rfl ?_
 refine lq rfl rfl rfl ?_
 refine Hx rfl rfl rfl ?_
 refine pS 58 rfl rfl rfl rfl ?_
 refine sC a7 k rfl rfl rfl hk hk64 rfl ?_
 refine LZ a7 0 LM hkc rfl ?_
 refine kF a7 rfl rfl rfl rfl rfl rfl ?_
 repeat' (first|refine am ?_|refine a8 ?_|refine aa ?_|refine LR a7 LL ?_)
 refine MA LL ⟨?_,rfl⟩
 unfold JM
 rw [hk,Int.toNat_natCast]
 have hb:∀k < 64,IntKind.i64.wrap (jD.getD k 0)=jD.getD k 0:=by decide
 rw [hb k hk64]
def sf (b:Nat):Int:=if b=0 then -1 else JM b
theorem y3 (e:oB) (h:rV e) (bg fg:List Int) (hb:fA e.cls e.back e.backE bg &&& fA e.cls e.fore e.foreE fg < 64):AC Tryz.prog 325 [A6 e,.imm 1 (aT bg),.imm 1 (aT fg)] [cX] fun c L=>c=aF (sf (fA e.cls e.back e.backE bg &&& fA e.cls e.fore e.foreE fg))∧L=[cX]:=by
 refine aI Tryz.func325 rfl Tryz.ntmps325 rfl fun B=>?_
 haveI:=AD.mk (Bq e h fg)
 haveI:=AD.mk (AI e h bg)
 have h1:=uz e.cls e.back e.backE h.back bg
 have h2:=uz e.cls e.fore e.foreE h.fore fg
 repeat' (first|refine ae ?_|refine a6 ?_|refine a8 ?_|refine aa ?_|refine LR a7 LL ?_|refine bi ?_|fail)
 refine bB 5 [(0,.v),(1,.v),(2,.v),(3,.v),(4,.v)] none ?_ trivial rfl (by kernel_rfl) (by kernel_rfl) (by kernel_rfl) mixed (by kernel_rfl) rfl
 repeat' (first|refine aJ ?_|refine bw a7 ?_|(apply cM;refine dc ?_)|fail)
 refine MG [10,11,12] LL ?_
 repeat' (first|(apply bk;refine b9 ?_)|fail)
 refine lq rfl rfl rfl ?_
 rw [u64_and_nat _ _ h1 h2]
 generalize fA e.cls e.back e.backE bg &&& fA e.cls e.fore e.foreE fg=b at hb ⊢
 repeat' (first|refine ae ?_|refine a6 ?_|refine a8 ?_|refine aa ?_|refine LR a7 LL ?_)
 unfold sf
 refine aB rfl (fun h=>?_) (fun h=>?_)
 ·have hb0:b=0:=by have:=Mz h;omega
  rw [if_pos hb0]
  repeat' (first|refine ae ?_|refine a6 ?_|refine am ?_|refine a8 ?_|refine az ?_|refine aa ?_|refine LR a7 LL ?_)
  exact MA LL ⟨rfl,rfl⟩
 ·have hb0:b≠0:=by have:=My h;omega
  rw [if_neg hb0]
  repeat' (first|refine ae ?_|refine a6 ?_|refine aq ?_|refine a8 ?_|refine LR a7 LL ?_)
  refine aW [cX] [] (Jy b hb hb0) rfl rfl (Mp _) rfl fun c L1 ⟨hc,hL⟩=>?_
  subst hc;subst hL
  repeat' (first|refine am ?_|refine a8 ?_|refine aa ?_|refine LR a7 LL ?_)
  exact MA LL ⟨rfl,rfl⟩
end Go.Proofs.YtamjlkdanllgjaaGreatDoor
namespace Go.Proofs.YtamjlkdanllgjaaGreatDoor
open Go.RowKit
attribute [local irreducible] AT bz AX AO Av Kt aZ cY DA cu
set_option maxRecDepth 8000
open Go.ChangeShapes Go.WideShapes Go.ChangeAt Go.RowKit
theorem Tryz.own:ownKnob Tryz.prog.godebug=none:=by kernel_rfl
theorem Tryz.laidOut:laidOutB Tryz.prog=true:=by kernel_rfl
theorem IS:Tryz.prog.globalNamed "math/bits.deBruijn64tab" =some 2:=by kernel_rfl
theorem By:(Tryz.prog.globals[2]?).map (·.type)=some 481:=by kernel_rfl
theorem AZ:Tryz.prog.cellsOf 481=64:=by kernel_rfl
theorem E1:Tryz.prog.cellsOf 5=1:=by kernel_rfl
theorem I0:(((begin Tryz.prog (fun _ _=>0) default).world.heap)[2]?).bind Obj.row?=some ((List.replicate 64 (Value.int .u8 0)).toArray,481):=by kernel_rfl
def IX:List (String×DataW Unit):=[("math/bits.deBruijn64tab",Lib.tabData .u8 jD)]
theorem G4 {W:World} (hL:laidMet Tryz.prog IX W) (hS:W.ShapedOpen Tryz.prog):W.heap[2]?=some (.cells (jD.map (Value.int .u8)).toArray 481 (0,0)):=by
 have h:Lib.TabIs Tryz.prog W "math/bits.deBruijn64tab" .u8 jD:=Lib.tabIs_of_head (rest:=[]) IS By Tryz.underlying481 Tryz.underlying5 E1 AZ hL
 obtain ⟨cs,h1,_,_⟩:=hS.1 2 _ 481 (Mz (by kernel_rfl)) I0
 unfold Lib.TabIs World.var? at h
 rw [IS,Option.bind_some,h1] at h
 cases h
 exact h1
def qE (W:World):bW:=fun b off=>if b=2 then none else W.cell? ⟨b,off,none⟩
theorem FD {σ:bW}:cR σ td (jD.map (Value.int .u8)):=by
 unfold td
 generalize jD=l
 induction l with
 | nil=>exact cR.nil
 | cons x l ih=>exact cR.cons (.sc _) ih
theorem uX {σ:bW} {vs:List Value} (h:cR σ td vs):vs=jD.map (Value.int .u8):=by
 unfold td at h
 revert vs
 generalize jD=l
 induction l with
 | nil=>
  intro vs h
  exact List.eq_nil_of_length_eq_zero h.1.symm
 | cons x l ih=>
  intro vs h
  obtain ⟨y,u,rfl,h1,h2⟩:=cR.inv h
  rw [h1.sc_inv,ih h2]
  rfl
theorem ET {W:World} (h:W.heap[2]?=some (.cells (jD.map (Value.int .u8)).toArray 481 (0,0))):cK ⟨W,qE W,[2]⟩ (qE W) [cX] W:=by
 have h0:2 < W.heap.size:=by
  rcases Nat.lt_or_ge 2 W.heap.size with h' | h'
  ·exact h'
  ·rw [Array.getElem?_eq_none h'] at h;cases h
 refine ⟨rfl,rfl,rfl,Nat.le_refl _,fun _ _ _=>rfl,fun p hp=>?_,fun p hp=>?_,by simp,fun b off u hu=>?_,fun p hp off _=>?_,fun _ _ _ h=>h,fun _ _ _ _=>rfl⟩
 ·rw [List.mem_singleton.1 hp]
  exact ⟨_,h,_,rfl,FD,fun u hu=>by
   obtain ⟨z,_,rfl⟩:=List.mem_map.1 hu
   rfl⟩
 ·rw [List.mem_singleton.1 hp]
  exact .inr (by simp)
 ·unfold qE at hu
  split at hu
  ·cases hu
  ·exact hu
 ·rw [List.mem_singleton.1 hp]
  rfl
theorem G5 {n:Int} (h:(Lit.int .u8 n).wf=true):0≤n∧n≤255:=by
 unfold Lit.wf at h
 rw [Bool.and_eq_true] at h
 have h1:IntKind.min .u8≤n:=Mz h.1
 have h2:n≤IntKind.max .u8:=Mz h.2
 have e1:IntKind.min .u8=0:=by decide
 have e2:IntKind.max .u8=255:=by decide
 omega
theorem zL {f:FuncId} {args:List AV} {u:Value} (h:AC Tryz.prog f args [cX] fun c L=>c= .sc u∧L=[cX]) (W:World) (hT:W.heap[2]?=some (.cells (jD.map (Value.int .u8)).toArray 481 (0,0))) (vs:List Value) (hv:cR (qE W) args vs):Calls Tryz.prog f vs.toArray W fun e W'=>∃v,e= .returned v∧Below W.heap.size W W'∧v=u:=
 (h (qE W) W vs hv (ET hT)).mono fun e W' ⟨v,τ,c,L',he,hr,hst,hc,hL⟩=>by
  subst hc
  subst hL
  refine ⟨v,he,⟨hst.os,hst.tape,hst.output,hst.size,fun k hk=>?_⟩,hr.sc_inv⟩
  by_cases h0:k=2
  ·subst h0
   obtain ⟨o,h1,vs',h2,h3,_⟩:=hst.here cX (by simp)
   rw [h1,h2,hT,uX h3]
  ·exact hst.old k hk (by simp [h0])
end Go.Proofs.YtamjlkdanllgjaaGreatDoor
namespace Go.Proofs.YtamjlkdanllgjaaGreatDoor
open Go.RowKit
attribute [local irreducible] AT bz AX AO Av Kt aZ cY DA cu
set_option maxRecDepth 8000
def Fc (g o:Int):bh:=⟨[],[[g]],[],[o],[],0⟩
def zC (g o:Int):b6:=⟨1,false,[Fc g o]⟩
def Dr (forms:List Int) (g o:Int) (x:aM):aM:=if (forms=[]∨x.Form∈forms)∧x.Glyph=g then { x with Glyph:=o } else x
section
variable {ms:List Bool} {ls:List b6} {forms:List Int} {g o:Int}
theorem xO {run:List aM} {i:Nat} {x:aM} (hx:run[i]?=some x):dU ms false run i=i::dU ms false run (i+1):=by
 rw [jb (Mq hx).1,kL hx]
 rfl
theorem CW {run:List aM} {i:Nat} {x:aM} (hx:run[i]?=some x):ej ms (zC g o) run i forms=if (forms=[]∨x.Form∈forms)∧x.Glyph=g then some (Fc g o) else none:=by
 have hr:eg ms false run i (Fc g o)=decide (x.Glyph=g):=by
  unfold eg Fc
  rw [xO hx]
  simp [eB,fj,hx]
 have hb:il ms false run i forms=decide (forms=[]∨x.Form∈forms):=by
  unfold il
  rw [hx]
  cases forms <;> simp [mz]
 show (if il ms false run i forms=true then [Fc g o].find? (eg ms false run i) else none)=_
 rw [hb]
 by_cases h1:forms=[]∨x.Form∈forms
 ·by_cases h2:x.Glyph=g
  ·rw [if_pos (by simpa using h1),if_pos ⟨h1,h2⟩,List.find?_cons_of_pos (by rw [hr];simpa using h2)]
  ·rw [if_pos (by simpa using h1),if_neg (fun h=>h2 h.2),List.find?_cons_of_neg (by rw [hr];simpa using h2)]
   rfl
 ·rw [if_neg (by simpa using h1),if_neg (fun h=>h1 h.1)]
theorem zD {run:List aM} {i:Nat} {x:aM} (hx:run[i]?=some x):dm ms (zC g o) run i (Fc g o)=[i]:=by
 show (dU ms false run i).take 1=[i]
 rw [xO hx]
 rfl
theorem Ju {run:List aM} {i:Nat} {x:aM} (hx:run[i]?=some x) (hg:x.Glyph=g):iA ms ls 4 (zC g o) (Fc g o) [i] run=run.set i { x with Glyph:=o }:=by
 show eU (Fc g o) i run=_
 unfold eU
 rw [hx]
 simp [Fc,hg]
theorem CY {run:List aM} {i:Nat} {x y:aM} (hx:run[i]?=some x) (f:aM→aM) (hy:f x=y):(run.set i y).take (i+1)++((run.set i y).drop (i+1)).map f=run.take i++(run.drop i).map f:=by
 have hi:=(Mq hx).1
 have h1:(run.set i y).take (i+1)=run.take i++[y]:=by
  rw [List.take_add_one,List.getElem?_set_self hi,List.take_set_of_le (Nat.le_refl _)]
  rfl
 have h2:(run.set i y).drop (i+1)=run.drop (i+1):=by rw [List.drop_set_of_lt (by omega)]
 rw [h1,h2,List.drop_eq_getElem_cons hi,Mr,(Mq hx).2,hy,List.append_assoc]
 rfl
theorem CT {run:List aM} {i:Nat} {x:aM} (hx:run[i]?=some x):run.set i x=run:=by
 obtain ⟨h1,h2⟩:=Mq hx
 rw [←h2]
 exact List.set_getElem_self h1
theorem CX:∀(k i:Nat) (run:List aM),run.length≤i+k→tg ms ls (zC g o) forms k i run=run.take i++(run.drop i).map (Dr forms g o)
 | 0,i,run,h=>by
  rw [tg,List.take_of_length_le (by omega),List.drop_eq_nil_of_le (by omega)]
  simp
 | k+1,i,run,h=>by
  rw [tg]
  by_cases hi:i < run.length
  ·rw [if_pos hi]
   obtain ⟨x,hx⟩:∃x,run[i]?=some x:=⟨_,Ia hi⟩
   rw [CW hx]
   by_cases hc:(forms=[]∨x.Form∈forms)∧x.Glyph=g
   ·rw [if_pos hc]
    dsimp only
    rw [zD hx,Ju hx hc.2]
    have hn:rE (zC g o) i ([i].getLastD i) run (run.set i { x with Glyph:=o })=i+1:=by
     unfold rE
     rw [if_neg (by show ¬(1:Int)=4;decide),if_neg (by rintro ⟨h,_⟩;exact absurd (show (1:Int)=6 from h) (by decide)),List.length_set]
     show run.length - (run.length - 1 - i)=i+1
     omega
    rw [hn,CX k (i+1) _ (by rw [List.length_set];omega)]
    exact CY hx _ (by unfold Dr;rw [if_pos hc])
   ·rw [if_neg hc]
    dsimp only
    rw [CX k (i+1) _ (by omega)]
    have:=CY (y:=x) hx (Dr forms g o) (by unfold Dr;rw [if_neg hc])
    rwa [CT hx] at this
  ·rw [if_neg hi,List.take_of_length_le (by omega),List.drop_eq_nil_of_le (by omega)]
   simp
theorem CV {n:Int} (h0:0≤n) (hl:ls[n.toNat]?=some (zC g o)) (run:List aM):dB ms ls n run forms=run.map (Dr forms g o):=by
 unfold dB
 rw [if_neg (by omega),hl]
 show (if (1:Int) < 1∨6 < (1:Int) then run else if (1:Int)=5 then _ else tg ms ls (zC g o) forms run.length 0 run)=_
 rw [if_neg (by decide),if_neg (by decide),CX run.length 0 run (by omega)]
 rfl
end
end Go.Proofs.YtamjlkdanllgjaaGreatDoor
namespace Go.Proofs.YtamjlkdanllgjaaGreatDoor
open Go.RowKit
section
variable {P:Program} {fr:bP} {B:Bs} {L:AL} {ty t t':TypeId} {pos:String} {af:Array Edge} {g:Option (Nat×Bool)} {x y z q:Operand} {u:AV}
theorem DD {d:Option Tmp} {s e sz by_ hi:Nat} {l:List (List AV)} {k k':IntKind} {a b:Int} (hc:jE P t e sz by_) (hx:bc fr x=some u) (hu:iE u=some (s,l)) (hs:Nat.beq s sz=true) (hy:bc fr y=some (.sc (.int k a))) (hz:bc fr z=some (.sc (.int k' b))) (ha:a=(hi:Int)) (hb:b=(hi:Int)) (h:hi≤l.length):Av P ⟨d,.slice t x none (some y) (some z),ty,pos,af,g⟩ fr (.imm s (l.take hi)):=by
 intro σ ρ w hρ _
 subst ha hb
 rw [Nat.beq_eq] at hs
 subst hs
 have h1:=(hρ x u hx).im
 rw [d8 hu] at h1
 obtain ⟨A,cap,hv,hcap,_⟩:=h1.imm_inv
 rw [hv] at h1
 have hvr:=h1.cut (lo:=0) (hi:=hi) (m:=hi) (Nat.zero_le _) h (Nat.le_refl _) (by omega)
 haveI:=hc
 simp only [List.drop_zero,Nat.sub_zero,Nat.zero_mul] at hvr
 refine ⟨_,?_,hvr⟩
 have h4:hi≤cap:=by omega
 simp [execOp,hv,(hρ y _ hy).sc_inv,(hρ z _ hz).sc_inv,Instr.sliceAt,Instr.slice,Instr.sliceBounds,Instr.sliceBound,asIntOf,run_underlying hc.under,cH (t:=t),h4]
end
section
variable {P:Program} {tt:TT} {l:List Oper} {fr:bP} {fin:jz} {sk:lE} {acc:bP} {L:AL} {k:Nat} {dd:Option Tmp} {ty t:TypeId} {pos:String} {af:Array Edge} {g:Option (Nat×Bool)} {x y z:Operand} {u:AV}
theorem E7 (ok:dG P tt) (hi:Nat) {s e sz by_:Nat} {ll:List (List AV)} {q q':IntKind} {a b:Int} (ht:iS tt t=some (e,sz,by_)) (hx:bc (cE l.toArray acc fr af.toList) x=some u) (hu:iE u=some (s,ll)) (hs:Nat.beq s sz=true) (hy:bc (cE l.toArray acc fr af.toList) y=some (.sc (.int q a))) (hz:bc (cE l.toArray acc fr af.toList) z=some (.sc (.int q' b))) (ha:a=(hi:Int)) (hb:b=(hi:Int)) (h1:hi≤ll.length) (hg:jt ⟨dd,.slice t x none (some y) (some z),ty,pos,af,g⟩ acc) (h:DA P l fr fin sk ((k,.imm s (ll.take hi))::acc) L):
  cu P l fr fin k .v ⟨dd,.slice t x none (some y) (some z),ty,pos,af,g⟩ sk acc L:=fI hg (Dp (DD (bv ok ht).1 hx hu hs hy hz ha hb h1)) h
end
end Go.Proofs.YtamjlkdanllgjaaGreatDoor
