/-
  Pointers and nil; places in a table that is a block; an empty row that is written; numbers that may go over.
-/
import Derived.Test.YtamjlkdanllgjaaGreatDoorM11
import Derived.Laws.Pointers
import Derived.Laws.BitsAllLaws
import Derived.Test.YtamjlkdanllgjaaGreatDoorRows
import Derived.WalkKit
import Derived.ProofKit
import Derived.OpenShut
import Derived.ChangeOld
import Derived.SizedLaws
import Derived.Deep.DeepHandedRow
import Derived.Lib.LaidTab
import Derived.Test.YtamjlkdanllgjaaGreatDoorM05
import Derived.Test.YtamjlkdanllgjaaGreatDoorM04
import Derived.Test.YtamjlkdanllgjaaGreatDoorM07
import Derived.Laws.CopyRow
import Derived.Scope
import Derived.Test.YtamjlkdanllgjaaGreatDoorM06
import Derived.Test.YtamjlkdanllgjaaGreatDoorM10
namespace Go.Proofs.YtamjlkdanllgjaaGreatDoor
open Go.RowKit
def KM:AV→Option Bool
 | .iptr _=>some false
 | .sc (.pointer none)=>some true
 | .sc (.pointer (some _))=>some false
 | _=>none
section
variable {P:Program} {fr:bY} {B:Bs} {L:AL} {d:Option Tmp} {ty t t':TypeId} {pos:String} {af:Array Edge} {g:Option (Nat×Bool)} {x y z q:Operand} {u:AV}
theorem GX {n e sz k b off:Nat} {qq:IntKind} {a:Int} (ht:P.underlying t=some (.array n e)) (hs:(P.info? e).map (·.size)=some sz) (hx:br fr x=some (.sc (.pointer (some ⟨b,off,none⟩)))) (hy:br fr y=some (.sc (.int qq a))) (ha:a=(k:Int)) (hk:k < n):Av P ⟨d,.indexAddr t x y,ty,pos,af,g⟩ fr (.sc (.pointer (some ⟨b,off+k * sz,none⟩))):=
 fun σ ρ w hρ _=>by
  subst ha
  have hyv:=(hρ y _ hy).sc_inv
  have hv:=(hρ x _ hx).sc_inv
  have hk':(k:Int) < (n:Int):=by omega
  have hso:(sizeOf e:Sem Nat).run P w= .ok sz w:=by
   cases hi:P.info? e with
   | none=>rw [hi] at hs;cases hs
   | some i=>rw [hi] at hs;simp at hs;simp [sizeOf,typeInfo,hi,hs]
  refine ⟨.pointer (some ⟨b,off+k * sz,none⟩),?_,.sc _⟩
  simp [execOp,hv,hyv,Instr.indexAt,asIntOf,run_underlying ht,hk',hso,Instr.sureAddr,Addr.add]
  by_cases hn:n≤1 <;> by_cases h0:k * sz=0 <;> simp [hn,run_underlying ht,hso,hk,h0]
theorem Ep {e sz by_:Nat} {parts:Array (Nat×Operand)} (hc:lQ P t e sz by_) (hsz:0 < sz) (hp:parts=#[]):AO P ⟨d,.buildSlice t 0 parts,ty,pos,af,g⟩ fr B L (fun c L'=>∃b,c= .sc (.slice (some ⟨b,0,none⟩) 0 0)∧L'=(b,.box [] e)::L):=by
 intro σ ρ w hρ hw
 subst hp
 haveI:=hc
 have hr:=Dz (P:=P) (t:=t) (by simpa [Nat.blt_eq] using hsz) [] (by simp) (by simp [Nat.ble_eq]) w
 simp at hr
 unfold gX
 rw [show (execOp ρ ⟨d,.buildSlice t 0 #[],ty,pos,af,g⟩).run P w= .ok (.value (.slice (some ⟨w.heap.size,0,none⟩) 0 0)) (w.alloc (.cells #[] e)) by
  simp [execOp,hr]]
 exact ⟨σ,.sc _,_,cf.le_refl _,.sc _,hw.alloc _ (.box [] e) ⟨[],rfl,cT.nil,by simp⟩,_,rfl,rfl⟩
end
section
variable {P:Program} {tt:TT} {r:Option Nat} {ops:Array Oper} {Q:Exit→Act→World→Prop} {nt:Nat} {D:List Deferred} {fr:bY} {B:Bs} {L:AL} {rest:List Oper} {d:Nat} {ty t t':TypeId} {pos:String} {af:Array Edge} {x y z:Operand} {u:AV}
theorem x5 (ok:ej P tt) (k:Nat) {n e sz b off:Nat} {q:IntKind} {a:Int} (ht:uy tt t=some (n,e,sz)) (hx:br fr x=some (.sc (.pointer (some ⟨b,off,none⟩)))) (hy:br fr y=some (.sc (.int q a))) (ha:a=(k:Int)) (hk:k < n) (hd:Nat.ble nt d=false) (h:bB P r ops Q nt D rest ((d,.sc (.pointer (some ⟨b,off+k * sz,none⟩)))::fr) B L):
  bB P r ops Q nt D (⟨some d,.indexAddr t x y,ty,pos,af,none⟩::rest) fr B L:=cU (GX (gA ok ht).1 (gA ok ht).2 hx hy ha hk) hd rfl h
theorem CX (ok:ej P tt) {e sz by_:Nat} (ht:kz tt t=some (e,sz,by_)) (hd:Nat.ble nt d=false) (h:∀b,bB P r ops Q nt D rest ((d,.sc (.slice (some ⟨b,0,none⟩) 0 0))::fr) B ((b,.box [] e)::L)):
  bB P r ops Q nt D (⟨some d,.buildSlice t 0 #[],ty,pos,af,none⟩::rest) fr B L:=cj hd rfl (Ep (bC ok ht).1 (bC ok ht).2 rfl) fun c L' ⟨b,h1,h2⟩=>by subst h1;subst h2;exact h b
theorem mR (ok:ej P tt) {a:Int} {q q':IntKind} {ti ti':TI} (hx:br fr x=some (.sc (.int q a))) (ht:dq tt t=some ti) (hk:ti.k= .int q) (ht':dq tt t'=some ti') (hk':ti'.k= .int q') (hd:Nat.ble nt d=false) (h:bB P r ops Q nt D rest ((d,.sc (.int q' (q'.wrap a)))::fr) B L):
  bB P r ops Q nt D (⟨some d,.convert t t' x,ty,pos,af,none⟩::rest) fr B L:=by
 haveI:=ok.int ht hk
 haveI:=ok.int ht' hk'
 exact cU (rX hx) hd rfl h
end
end Go.Proofs.YtamjlkdanllgjaaGreatDoor
namespace Go.Proofs.YtamjlkdanllgjaaGreatDoor
open Go.RowKit
attribute [local irreducible] AT bB AX AO Av Kt ba dt DA cz
set_option maxRecDepth 8000
abbrev KZ (cls:List Int) (tab:List (List Int)) (ends:List Nat):AV:= .agg [.imm 1 (aO cls),.imm 1 (aZ tab),.imm 1 (gu ends)]
theorem rz (l:List Nat):(gu l).length=l.length:=by simp [gu]
theorem E3 {l:List Nat} {i:Nat} {z:Nat} (h:l[i]?=some z):(gu l)[i]?=some [lc z]:=by simp [gu,h]
section
variable (cls:List Int) (tab:List (List Int)) (ends:List Nat)
theorem J7 {a b:Nat} (ha:a < 18446744073709551616) (hb:b < 18446744073709551616):a ||| b < 18446744073709551616:=Nat.or_lt_two_pow (n:=64) ha hb
end
abbrev Kj (e:B8):AV:= .agg (IC e)
structure GK (e:B8):Prop where
 fore:∀z∈e.foreE,z < 18446744073709551616
 back:∀z∈e.backE,z < 18446744073709551616
def mg:List Int:=[0,1,56,2,57,49,28,3,61,58,42,50,38,29,17,4,62,47,59,36,45,43,51,22,53,39,33,30,24,18,12,5,63,55,48,27,60,41,37,16,46,35,44,21,52,32,23,11,54,26,40,15,34,20,31,10,25,14,19,9,13,8,7,6]
def DX:List AV:=mg.map fun z=> .sc (.int .u8 z)
abbrev vU:Nat×AB:=(2,.box DX 481)
def KR (x:Int):Int:=bits .and .u64 x (IntKind.u64.wrap (0 - x))
def KU (x:Int):Int:=IntKind.u64.wrap (KR x * 285870213051353865) / 2 ^ min 58 IntKind.u64.bits
def KV (x:Nat):Int:=mg.getD (KU x).toNat 0
def JT (b:Nat):Int:=if b=0 then -1 else KV b
end Go.Proofs.YtamjlkdanllgjaaGreatDoor
namespace Go.Proofs.YtamjlkdanllgjaaGreatDoor
open Go.RowKit
attribute [local irreducible] AT bB AX AO Av Kt ba dt DA cz
set_option maxRecDepth 8000
open Go.ChangeShapes Go.WideShapes Go.ChangeAt Go.RowKit
theorem Tryz.own:ownKnob Tryz.prog.godebug=none:=by kernel_rfl
theorem Tryz.laidOut:laidOutB Tryz.prog=true:=by kernel_rfl
theorem IK:Tryz.prog.globalNamed "math/bits.deBruijn64tab" =some 2:=by kernel_rfl
theorem Cl:(Tryz.prog.globals[2]?).map (·.type)=some 481:=by kernel_rfl
theorem BY:Tryz.prog.cellsOf 481=64:=by kernel_rfl
theorem EB:Tryz.prog.cellsOf 5=1:=by kernel_rfl
theorem I6:(((begin Tryz.prog (fun _ _=>0) default).world.heap)[2]?).bind Obj.row?=some ((List.replicate 64 (Value.int .u8 0)).toArray,481):=by kernel_rfl
def IP:List (String×DataW Unit):=[("math/bits.deBruijn64tab",Lib.tabData .u8 mg)]
theorem GG {W:World} (hL:laidMet Tryz.prog IP W) (hS:W.ShapedOpen Tryz.prog):W.heap[2]?=some (.cells (mg.map (Value.int .u8)).toArray 481 (0,0)):=by
 have h:Lib.TabIs Tryz.prog W "math/bits.deBruijn64tab" .u8 mg:=Lib.tabIs_of_head (rest:=[]) IK Cl Tryz.underlying481 Tryz.underlying5 EB BY hL
 obtain ⟨cs,h1,_,_⟩:=hS.1 2 _ 481 (Ly (by kernel_rfl)) I6
 unfold Lib.TabIs World.var? at h
 rw [IK,Option.bind_some,h1] at h
 cases h
 exact h1
def nT (W:World):cf:=fun b off=>if b=2 then none else W.cell? ⟨b,off,none⟩
theorem G6 {σ:cf}:cT σ DX (mg.map (Value.int .u8)):=by
 unfold DX
 generalize mg=l
 induction l with
 | nil=>exact cT.nil
 | cons x l ih=>exact cT.cons (.sc _) ih
theorem w1 {σ:cf} {vs:List Value} (h:cT σ DX vs):vs=mg.map (Value.int .u8):=by
 unfold DX at h
 revert vs
 generalize mg=l
 induction l with
 | nil=>
  intro vs h
  exact List.eq_nil_of_length_eq_zero h.1.symm
 | cons x l ih=>
  intro vs h
  obtain ⟨y,u,rfl,h1,h2⟩:=cT.inv h
  rw [h1.sc_inv,ih h2]
  rfl
theorem Fl {W:World} (h:W.heap[2]?=some (.cells (mg.map (Value.int .u8)).toArray 481 (0,0))):cZ ⟨W,nT W,[2]⟩ (nT W) [vU] W:=by
 have h0:2 < W.heap.size:=by
  rcases Nat.lt_or_ge 2 W.heap.size with h' | h'
  ·exact h'
  ·rw [Array.getElem?_eq_none h'] at h;cases h
 refine ⟨rfl,rfl,rfl,Nat.le_refl _,fun _ _ _=>rfl,fun p hp=>?_,fun p hp=>?_,by simp,fun b off u hu=>?_,fun p hp off _=>?_,fun _ _ _ h=>h,fun _ _ _ _=>rfl⟩
 ·rw [Li hp]
  exact ⟨_,h,_,rfl,G6,fun u hu=>by
   obtain ⟨z,_,rfl⟩:=List.mem_map.1 hu
   rfl⟩
 ·rw [Li hp]
  exact .inr (by simp)
 ·unfold nT at hu
  split at hu
  ·cases hu
  ·exact hu
 ·rw [Li hp]
  rfl
theorem AW {f:FuncId} {args:List AV} {u:Value} (h:AC Tryz.prog f args [vU] fun c L=>c= .sc u∧L=[vU]) (W:World) (hT:W.heap[2]?=some (.cells (mg.map (Value.int .u8)).toArray 481 (0,0))) (vs:List Value) (hv:cT (nT W) args vs):Calls Tryz.prog f vs.toArray W fun e W'=>∃v,e= .returned v∧Below W.heap.size W W'∧v=u:=
 (h (nT W) W vs hv (Fl hT)).mono fun e W' ⟨v,τ,c,L',he,hr,hst,hc,hL⟩=>by
  subst hc
  subst hL
  refine ⟨v,he,⟨hst.os,hst.tape,hst.output,hst.size,fun k hk=>?_⟩,hr.sc_inv⟩
  by_cases h0:k=2
  ·subst h0
   obtain ⟨o,h1,vs',h2,h3,_⟩:=hst.here vU (by simp)
   rw [h1,h2,hT,w1 h3]
  ·exact hst.old k hk (by simp [h0])
end Go.Proofs.YtamjlkdanllgjaaGreatDoor
namespace Go.Proofs.YtamjlkdanllgjaaGreatDoor
open Go.RowKit
end Go.Proofs.YtamjlkdanllgjaaGreatDoor
namespace Go.Proofs.YtamjlkdanllgjaaGreatDoor
open Go.RowKit
section
variable {P:Program} {r:Option Nat} {Q:Exit→Act→World→Prop} {nt:Nat} {D:List Deferred} {fr:bY} {B:Bs} {L:AL}
theorem te {α:Type} {A C:Code} (ks:List Nat) (fr1:α→bY) (L1:α→AL) (φ:α→Prop) (hA:∀Q',(∀x fr',φ x→fE fr' ks=some (fr1 x)→AX P .normal Q' nt D fr' B (L1 x))→AT P r A Q' nt D fr B L) (hB:∀x,φ x→AT P r C Q nt D (fr1 x) B (L1 x)):AT P r A (Kt P r C Q) nt D fr B L:=
 hA _ fun x _ hx h=>a8 (pj ks h (hB x hx))
end
end Go.Proofs.YtamjlkdanllgjaaGreatDoor
namespace Go.Proofs.YtamjlkdanllgjaaGreatDoor
open Go.RowKit
theorem mN {q:Nat×Nat×AV} {L:AL} (i:Nat) {cs:List AV} {e:TypeId} (hL:L[i]?=some (q.1,.box cs e)) (hc:cs[q.2.1]?=some q.2.2):f8 [.cell q] L:=fun p hp=>by
 rw [List.mem_singleton] at hp
 subst hp
 exact ⟨cs,e,Lv hL,hc⟩
section
variable {P:Program} {fr:bY} {B:Bs} {L:AL} {ty t t':TypeId} {pos:String} {af:Array Edge} {g:Option (Nat×Bool)} {x y:Operand}
theorem BC (i:Nat) {dd:Option Tmp} {e e' sz by_ b off n c m:Nat} {cs es:List AV} (hc:lQ P t e sz by_) (hx:br fr x=some (.sc (.slice (some ⟨b,off,none⟩) n c))) (hy:Bk fr B L y sz m es) (hL:L[i]?=some (b,.box cs e')) (hfit:off+min m n * sz≤cs.length):
  AO P ⟨dd,.call ⟨.builtin .copy,#[x,y],#[t,t']⟩,ty,pos,af,g⟩ fr B L (fun r L'=>r=aH ((min m n:Nat):Int)∧L'=fJ L i (.box (cs.take off++es.take (min m n * sz)++cs.drop (off+min m n * sz)) e')):=by
 intro σ ρ w hρ hw
 obtain ⟨A,c2,ys,hA,hyr,hy1,hyl,hyc⟩:=hy σ ρ w hρ hw
 have hxv:=(hρ x _ hx).sc_inv
 haveI:=hc
 obtain ⟨inf,zz,hi,hsz,_,_,_⟩:=hc.info
 obtain ⟨vs,hb,hvs,h1⟩:=hw.boxCell hL
 have hl:=hvs.1
 have hmin:Nat.min m n=min m n:=rfl
 generalize hk:min m n=k at *
 have hlen:(ys.take (k * sz)).length=k * sz:=by
  rw [List.length_take,hyl]
  have:k≤m:=by omega
  have:=Nat.mul_le_mul_right sz this
  omega
 have hstore:=run_storeCells_at P b off e' (ys.take (k * sz)) 0 vs.toArray w hb (by rw [hlen];simp;omega) (fun v hv=>hy1 v (List.mem_of_mem_take hv))
 unfold gX
 rw [show (execOp ρ ⟨dd,.call ⟨.builtin .copy,#[x,y],#[t,t']⟩,ty,pos,af,g⟩).run P w= .ok (.value (.int .i64 k)) (w.setRow b (vs.toArray.toList.take off++ys.take (k * sz)++vs.toArray.toList.drop (off+(ys.take (k * sz)).length)).toArray) by
  by_cases hk0:k=0
  ·subst hk0
   simp only [Nat.zero_mul,List.take_zero,List.append_nil,List.length_nil,Nat.add_zero,List.take_append_drop] at hstore ⊢
   have h0:(Builtin.firstCells inf.size 0 (.slice A m c2)).run P w= .ok #[] w:=by
    cases A with
    | none=>rfl
    | some a=>
     have:=run_loadCells_list (P:=P) w a [] (by simp)
     simpa [Builtin.firstCells] using this
   simp [execOp,resolve,hxv,hA,invoke,builtin,Builtin.copy_,run_underlying hc.under,Builtin.lenOf,sizeOf,typeInfo,hi,hmin,h0,storeCells,goInt]
   exact (setRow_self w b vs.toArray e' (0,0) hb).symm
  ·have hm0:0 < m:=by omega
   obtain ⟨b2,off2,rfl,hcell⟩:=hyc hm0
   have hld:=run_loadCells_list (P:=P) w ⟨b2,off2,none⟩ (ys.take (k * sz)) (fun j v hj=>hcell j v (by
    have hjl:=(Lm hj).1
    rw [List.length_take] at hjl
    rw [List.getElem?_take_of_lt (by omega)] at hj
    exact hj))
   rw [hlen] at hld
   simp only [Nat.add_zero] at hstore
   simp [execOp,resolve,hxv,hA,invoke,builtin,Builtin.copy_,run_underlying hc.under,Builtin.lenOf,Builtin.firstCells,sizeOf,typeInfo,hi,hsz,hmin,hld,hstore,goInt]]
 rw [hlen]
 refine ⟨σ,.sc _,_,cf.le_refl _,.sc _,hw.putAt (a':= .box (cs.take off++es.take (k * sz)++cs.drop (off+k * sz)) e') hL (fun _=>trivial) ⟨rfl,rfl,rfl,by simp,fun k _ hk=>setRow_other w b k _ (fun e=>hk (by simp [e]))⟩ (setRow_heap w b _ _ e' _ hb) ⟨_,rfl,ei (ei (gt hvs _) (gt hyr _)) (l8 hvs _),fun u hu=>?_⟩,rfl,rfl⟩
 rcases Lj hu with hu | hu
 ·rcases Lj hu with hu | hu
  ·exact h1 _ (List.mem_of_mem_take hu)
  ·exact hy1 _ (List.mem_of_mem_take hu)
 ·exact h1 _ (List.mem_of_mem_drop hu)
end
section
variable {P:Program} {tt:TT} {r:Option Nat} {ops:Array Oper} {Q:Exit→Act→World→Prop} {nt:Nat} {D:List Deferred} {fr:bY} {B:Bs} {L:AL} {rest:List Oper} {d:Nat} {ty t t':TypeId} {pos:String} {af:Array Edge} {x y:Operand}
theorem jY (ok:ej P tt) (i:Nat) {e e' sz by_ b off n c m:Nat} {cs es:List AV} (ht:kz tt t=some (e,sz,by_)) (hx:br fr x=some (.sc (.slice (some ⟨b,off,none⟩) n c))) (hy:Bk fr B L y sz m es) (hL:L[i]?=some (b,.box cs e')) (hfit:off+min m n * sz≤cs.length) (hd:Nat.ble nt d=false)
  (h:bB P r ops Q nt D rest ((d,aH ((min m n:Nat):Int))::fr) B (fJ L i (.box (cs.take off++es.take (min m n * sz)++cs.drop (off+min m n * sz)) e'))):
  bB P r ops Q nt D (⟨some d,.call ⟨.builtin .copy,#[x,y],#[t,t']⟩,ty,pos,af,none⟩::rest) fr B L:=
 cj hd rfl (BC i (bC ok ht).1 hx hy hL hfit) fun c L' ⟨h1,h2⟩=>by subst h1;subst h2;exact h
end
end Go.Proofs.YtamjlkdanllgjaaGreatDoor
namespace Go.Proofs.YtamjlkdanllgjaaGreatDoor
open Go.RowKit
end Go.Proofs.YtamjlkdanllgjaaGreatDoor
namespace Go.Proofs.YtamjlkdanllgjaaGreatDoor
open Go.RowKit
section
variable {nt:Nat} {fr:bY} {B:Bs} {L:AL} {D:List Deferred}
theorem cW {t b e sz n cap:Nat} {cs:List AV} {l:List (List AV)} (i:Nat) (hl:c8 fr t=some (.sc (.slice (some ⟨b,0,none⟩) n cap))) (hL:L[i]?=some (b,.box cs e)) (hc:cs.take (n * sz)=l.flatten) (hcl:n * sz≤cs.length) (hs:∀q∈l,q.length=sz) (hn:l.length=n) (hnc:n≤cap) (hm:cap≤maxLen):lR nt D B fr L ((t,.imm sz l)::fr) (L.eraseIdx i):=by
 intro σ a w ha hw0
 have hw:=hw0.perm (fy hL)
 obtain ⟨o,ho,vs,rfl,hvs,h1⟩:=hw.here _ (List.mem_cons_self ..)
 have hfree:=hw.free _ (List.mem_cons_self ..)
 have hvl:vs.length=cs.length:=hvs.1.symm
 have hst:cZ B σ ((b,.vec e cs.length 0 1)::L.eraseIdx i) w:=by
  refine ⟨hw.os,hw.tape,hw.output,hw.size,hw.old,fun p hp=>?_,fun p hp=>?_,by simpa using hw.apart,hw.froz,fun p hp off hm=>?_,hw.grow,hw.same⟩
  ·rcases List.mem_cons.1 hp with rfl | hp'
   ·exact ⟨_,ho,_,rfl,by simp [hvl],Nat.zero_le _,by unfold maxLen;omega⟩
   ·exact hw.here p (Lq _ hp')
  ·rcases List.mem_cons.1 hp with rfl | hp'
   ·exact hw.mine (b,.box cs e) (List.mem_cons_self ..)
   ·exact hw.mine p (Lq _ hp')
  ·rcases List.mem_cons.1 hp with rfl | hp'
   ·exact hfree off trivial
   ·exact hw.free p (Lq _ hp') off hm
 obtain ⟨hst',hle⟩:=hst.freezeHead (n':=1) (xs:=vs) (fun j u hj=>by rw [d4 ho];simpa using hj) (by omega) (Nat.zero_le _) (Nat.le_refl _)
 have hv:VR (σ.add b vs) (.vec (some (b,cap)) sz l) (.slice (some ⟨b,0,none⟩) n cap):=by
  have:=l7 (σ:=σ.add b vs) (b:=b) (cap:=cap) hs (by rw [←hc];exact (gt hvs _).mono hle) (fun u hu=>h1 u (List.mem_of_mem_take hu)) (by omega) hm (fun j u hj=>cf.add_at (by
   rw [List.getElem?_take] at hj
   split at hj
   ·exact hj
   ·cases hj))
  rwa [hn] at this
 refine ⟨_,?_,hst'.sublist (.cons _ (List.Sublist.refl _))⟩
 have ha':=ha.mono hle
 refine ⟨ha'.size,ha'.defers,fun t' v' hl'=>?_⟩
 rw [ci] at hl'
 by_cases e:t=t'
 ·subst e
  simp only [if_true,Option.some.injEq] at hl'
  subst hl'
  rw [(ha.look t _ hl).sc_inv]
  exact hv.im
 ·rw [if_neg e] at hl'
  exact ha'.look t' v' hl'
end
end Go.Proofs.YtamjlkdanllgjaaGreatDoor
namespace Go.Proofs.YtamjlkdanllgjaaGreatDoor
open Go.RowKit
theorem AC.sub {P:Program} {f:FuncId} {args:List AV} {L:AL} {Post Post':AV→AL→Prop} (h:AC P f args L Post) (k:∀c L',Post c L'→∃L2:AL,L2.Sublist L'∧Post' c L2):AC P f args L Post':=fun σ w vs hv hs=>(h σ w vs hv hs).mono fun _ _ ⟨v,τ,c,L',h1,h2,h3,h4⟩=>by
 obtain ⟨L2,k1,k2⟩:=k c L' h4
 exact ⟨v,τ,c,L2,h1,h2,h3.sublist k1,k2⟩
theorem bH.nil {P:Program} {f:FuncId} {args:List AV} {u:AV} (h:bH P f args u):AC P f args [] fun c L=>c=u∧L=[]:=AC.sub h fun _ _ hc=>⟨[],List.nil_sublist _,hc,rfl⟩
section
variable {P:Program} {tt:TT} {r:Option Nat} {ops:Array Oper} {Q:Exit→Act→World→Prop} {nt:Nat} {D:List Deferred} {fr:bY} {B:Bs} {L:AL} {rest:List Oper}
variable {d:Nat} {ty t:TypeId} {pos:String} {af:Array Edge} {x y:Operand} {u:AV}
theorem Dj {xs:List Int} {q:Nat} {z:Int}:eN (xs.map aH) q [aH z]=(xs.set q z).map aH:=by
 rw [gm]
 rw [List.map_set]
theorem Fn (ok:ej P tt) (i q:Nat) {b p:Nat} {xs:List Int} {e:TypeId} {z:Int} (ht:FE tt t=true) (hx:br fr x=some (.sc (.pointer (some ⟨b,p,none⟩)))) (hp:p=q) (hL:L[i]?=some (b,.box (xs.map aH) e)) (hz:xs[q]?=some z) (hd:Nat.ble nt d=false) (h:bB P r ops Q nt D rest ((d,aH z)::fr) B L):
  bB P r ops Q nt D (⟨some d,.load t x,ty,pos,af,none⟩::rest) fr B L:=by
 subst hp
 exact ar ok i ht hx hL (by rw [List.getElem?_map,hz];rfl) hd h
theorem mS (ok:ej P tt) (i q:Nat) {b p:Nat} {xs:List Int} {e:TypeId} {z:Int} (ht:FX tt t=some 1) (hx:br fr x=some (.sc (.pointer (some ⟨b,p,none⟩)))) (hp:p=q) (hy:br fr y=some (aH z)) (hL:L[i]?=some (b,.box (xs.map aH) e)) (hq:q < xs.length) (h:bB P r ops Q nt D rest fr B (fJ L i (.box ((xs.set q z).map aH) e))):
  bB P r ops Q nt D (⟨none,.store t x y,ty,pos,af,none⟩::rest) fr B L:=by
 subst hp
 refine ai ok i (ys:=[aH z]) ht hx hy rfl hL rfl (Nat.ble_eq_true_of_le (by simp;omega)) ?_
 rw [Dj]
 exact h
theorem jt (ok:ej P tt) (i q:Nat) {b p:Nat} {cs:List AV} {e:TypeId} (ht:FX tt t=some 1) (hx:br fr x=some (.sc (.pointer (some ⟨b,p,none⟩)))) (hp:p=q) (hy:br fr y=some u) (hu:u.cells=some [u]) (hL:L[i]?=some (b,.box cs e)) (hq:q < cs.length) (h:bB P r ops Q nt D rest fr B (fJ L i (.box (cs.set q u) e))):
  bB P r ops Q nt D (⟨none,.store t x y,ty,pos,af,none⟩::rest) fr B L:=by
 subst hp
 refine ai ok i ht hx hy hu hL rfl (Nat.ble_eq_true_of_le hq) ?_
 rw [gm]
 exact h
theorem Bq {dd:Option Tmp} {g:Option (Nat×Bool)} {e sz by_ b off n cap lo:Nat} {k:IntKind} {a:Int} (hc:lQ P t e sz by_) (hx:br fr x=some (.sc (.slice (some ⟨b,off,none⟩) n cap))) (hy:br fr y=some (.sc (.int k a))) (ha:a=(lo:Int)) (h:lo≤n) (hn:n≤cap):Av P ⟨dd,.slice t x (some y) none none,ty,pos,af,g⟩ fr (.sc (.slice (some ⟨b,if cap=lo then off else off+lo * sz,none⟩) (n - lo) (cap - lo))):=by
 intro σ ρ w hρ _
 subst ha
 haveI:=hc
 refine ⟨_,?_,.sc _⟩
 by_cases h3:cap=lo
 ·have:n=lo:=by omega
  subst h3;subst this
  simp [execOp,(hρ x _ hx).sc_inv,(hρ y _ hy).sc_inv,Instr.sliceAt,Instr.slice,Instr.sliceBounds,Instr.sliceBound,asIntOf,run_underlying hc.under,fx (t:=t)]
 ·simp [execOp,(hρ x _ hx).sc_inv,(hρ y _ hy).sc_inv,Instr.sliceAt,Instr.slice,Instr.sliceBounds,Instr.sliceBound,asIntOf,run_underlying hc.under,fx (t:=t),h,h3,eI]
theorem vi (ok:ej P tt) (lo:Nat) {e sz by_ b off n cap:Nat} {k:IntKind} {a:Int} (ht:kz tt t=some (e,sz,by_)) (hx:br fr x=some (.sc (.slice (some ⟨b,off,none⟩) n cap))) (hy:br fr y=some (.sc (.int k a))) (ha:a=(lo:Int)) (h1:lo≤n) (hn:n≤cap) (hd:Nat.ble nt d=false) (h:bB P r ops Q nt D rest ((d,.sc (.slice (some ⟨b,if cap=lo then off else off+lo * sz,none⟩) (n - lo) (cap - lo)))::fr) B L):
  bB P r ops Q nt D (⟨some d,.slice t x (some y) none none,ty,pos,af,none⟩::rest) fr B L:=cU (Bq (bC ok ht).1 hx hy ha h1 hn) hd rfl h
theorem vl (ok:ej P tt) (n:Nat) {e sz by_:Nat} {k k':IntKind} {bb:Int} {zs:List Value} (ht:kz tt t=some (e,sz,by_)) (hz:zI tt e=some zs) (h1:zs.all (·.oneCell')=true) (hx:br fr x=some (.sc (.int k 0))) (hy:br fr y=some (.sc (.int k' bb))) (hb:bb=(n:Int)) (hby:by_ * n≤281474976710656) (h63:n≤9223372036854775807) (hd:Nat.ble nt d=false)
  (h:∀b,bB P r ops Q nt D rest ((d,.sc (.slice (some ⟨b,0,none⟩) 0 n))::fr) B ((b,.box ((List.replicate n (zs.map .sc)).flatten) e)::L)):bB P r ops Q nt D (⟨some d,.makeSlice t x y,ty,pos,af,none⟩::rest) fr B L:=by
 obtain ⟨hc,hsz⟩:=bC ok ht
 have hzz:=ew ok hz
 refine cj (R:=fun c L'=>∃b,c= .sc (.slice (some ⟨b,0,none⟩) 0 n)∧L'=(b,.box ((List.replicate n (zs.map .sc)).flatten) e)::L) hd rfl (fun σ ρ w hρ hw=>?_) fun c L' ⟨b,h1,h2⟩=>by subst h1;subst h2;exact h b
 subst hb
 have hr:=o6 (n:=0) (d:=some d) (ty:=ty) (pos:=pos) (af:=af) (g:=none) hc hzz hsz hby h63 (Nat.zero_le n) w ρ (hρ x _ hx).sc_inv (hρ y _ hy).sc_inv
 unfold gX
 rw [hr]
 have hfl:∀m,(List.replicate m (zs.map AV.sc)).flatten=((List.replicate m zs).flatten).map AV.sc:=by
  intro m
  induction m with
  | zero=>rfl
  | succ m ih=>rw [List.replicate_succ,List.replicate_succ,List.flatten_cons,List.flatten_cons,List.map_append,ih]
 refine ⟨σ,_,_,cf.le_refl _,.sc _,hw.alloc _ (.box ((List.replicate n (zs.map .sc)).flatten) e) ⟨_,rfl,?_,fun u hu=>?_⟩,_,rfl,rfl⟩
 ·rw [hfl]
  refine ⟨by simp,fun i c u hc hu=>?_⟩
  rw [List.getElem?_map,hu] at hc
  simp at hc
  subst hc
  exact .sc u
 ·obtain ⟨q,hq,hu⟩:=List.mem_flatten.1 hu
  rw [List.eq_of_mem_replicate hq] at hu
  exact List.all_eq_true.1 h1 u hu
theorem qQ (xs:List Int):xs.map aH=(aO xs).flatten:=by
 induction xs with
 | nil=>rfl
 | cons x r ih=>
  show aH x::r.map aH=_
  rw [ih]
  rfl
theorem B5 {t b e n cap:Nat} {xs:List Int} (ys:List Int) (i:Nat) (hl:c8 fr t=some (.sc (.slice (some ⟨b,0,none⟩) n cap))) (hL:L[i]?=some (b,.box (xs.map aH) e)) (hy:xs.take n=ys) (hn:n≤xs.length) (hnc:n≤cap) (hm:cap≤maxLen):lR nt D B fr L ((t,.imm 1 (aO ys))::fr) (L.eraseIdx i):=by
 subst hy
 refine cW i hl hL ?_ (by simp;omega) (fun q hq=>?_) (by rw [aW,List.length_take];omega) hnc hm
 ·rw [←qQ,Nat.mul_one,List.map_take]
 ·obtain ⟨z,_,rfl⟩:=List.mem_map.1 hq
  rfl
theorem BK {C:Code} (ks:List Nat) (fr1:bY) (L1:AL) (hA:∀Q',(∀fr',fE fr' ks=some fr1→AX P .normal Q' nt D fr' B L1)→bB P r ops Q' nt D rest fr B L) (hB:AT P r C Q nt D fr1 B L1):bB P r ops (Kt P r C Q) nt D rest fr B L:=
 hA _ fun _ h=>a8 (pj ks h hB)
theorem Ev {X C:Code} {fr1:bY} (ks:List Nat) (L1:AL) (hk:fE fr ks=some fr1) (hA:∀Q',(∀fr',fE fr' ks=some fr1→AX P .normal Q' nt D fr' B L1)→bB P r ops (Kt P r X Q') nt D rest fr B L) (hB:AT P r C Q nt D fr1 B L1):bB P r ops (Kt P r X (Kt P r C Q)) nt D rest fr B L:=
 hA _ fun _ h=>a8 (pj ks h hB)
end
section
variable {P:Program} {tt:TT} {l:List Oper} {fr:bY} {fin:lz} {sk:nq} {acc:bY} {L:AL} {k:Nat} {dd:Option Tmp} {ty t t':TypeId} {pos:String} {af:Array Edge} {g:Option (Nat×Bool)} {x y z:Operand} {u:AV}
theorem mB (ok:ej P tt) (i q:Nat) {b p:Nat} {cs:List AV} {e:TypeId} (ht:FE tt t=true) (hx:br (cL l.toArray acc fr af.toList) x=some (.sc (.pointer (some ⟨b,p,none⟩)))) (hp:p=q) (hL:L[i]?=some (b,.box cs e)) (hz:cs[q]?=some u) (hg:jb ⟨dd,.load t x,ty,pos,af,g⟩ acc) (h:DA P l fr fin sk ((k,u)::acc) L):cz P l fr fin k .l ⟨dd,.load t x,ty,pos,af,g⟩ sk acc L:=by
 subst hp
 exact cS ok i ht hx hL hz hg h
theorem C5 (ok:ej P tt) (i q:Nat) {b p:Nat} {cs:List AV} {e:TypeId} (ht:FX tt t=some 1) (hx:br (cL l.toArray acc fr af.toList) x=some (.sc (.pointer (some ⟨b,p,none⟩)))) (hp:p=q) (hy:br (cL l.toArray acc fr af.toList) y=some u) (hu:u.cells=some [u]) (hL:L[i]?=some (b,.box cs e)) (hq:q < cs.length) (hg:jb ⟨dd,.store t x y,ty,pos,af,g⟩ acc) (h:∀c,DA P l fr fin sk ((k,c)::acc) (fJ L i (.box (cs.set q u) e))):cz P l fr fin k .e ⟨dd,.store t x y,ty,pos,af,g⟩ sk acc L:=by
 subst hp
 refine uL ok i ht hx hy hu hL rfl (Nat.ble_eq_true_of_le hq) hg fun c=>?_
 rw [gm]
 exact h c
end
end Go.Proofs.YtamjlkdanllgjaaGreatDoor
namespace Go.Proofs.YtamjlkdanllgjaaGreatDoor
open Go.RowKit
attribute [local irreducible] AT bB AX AO Av Kt ba dt DA cz
set_option maxRecDepth 8000
theorem bR {l:List (List AV)} {sz:Nat} (hs:∀e∈l,e.length=sz):l.flatten.length=l.length * sz:=by
 induction l with
 | nil=>simp
 | cons x r ih=>rw [List.flatten_cons,List.length_append,ih (fun e he=>hs e (Lq _ he)),hs x (List.mem_cons_self ..),List.length_cons,Nat.add_mul,Nat.one_mul,Nat.add_comm]
theorem g8 (n:Nat) (zs:List AV):(List.replicate n zs).flatten.length=n * zs.length:=by
 rw [bR (sz:=zs.length) (fun e he=>by rw [List.eq_of_mem_replicate he]),List.length_replicate]
theorem lX {zs es:List AV} {n sz:Nat} (h2:es.length=n * sz) (h:zs.length=sz):(List.replicate n zs).flatten.take 0++es.take (min n n * sz)++(List.replicate n zs).flatten.drop (0+min n n * sz)=es:=by
 have h1:=g8 n zs
 rw [h] at h1
 rw [Nat.min_self,List.take_zero,Lo,Nat.zero_add,List.drop_of_length_le (by omega),List.append_nil,List.take_of_length_le (by omega)]
theorem Jj (l:List (List AV)) (hs:∀e∈l,e.length=2) (hl:l.length≤1000000):bH Tryz.prog 46 [.imm 2 l] (.imm 2 l):=by
 refine aP Tryz.func46 rfl Tryz.ntmps46 rfl fun B=>?_
 repeat' (first|refine ae ?_|refine a6 ?_|refine a8 ?_|refine aa ?_|refine LF a7 I9 ?_)
 refine ay rfl (fun h=>?_) (fun h=>?_)
 ·have h0:l=[]:=List.length_eq_zero_iff.1 (by have:=Ly h;omega)
  subst h0
  clear h
  repeat' (first|refine ae ?_|refine a6 ?_|refine aq ?_|refine a8 ?_|refine aC ?_|refine aa ?_|refine LF a7 I9 ?_)
  refine b6 (bA (t:=2) rfl fun σ v h=>dJ 2 h) ?_
  exact LK LA
 ·clear h
  repeat' (first|refine ae ?_|refine a6 ?_|refine au ?_|refine a8 ?_|refine LF a7 I9 ?_)
  refine ep a7 l.length rfl rfl rfl rfl rfl rfl rfl (by omega) (by omega) rfl fun b=>?_
  repeat' (first|refine ae ?_|refine a6 ?_|refine a8 ?_|refine aa ?_|refine LF a7 I9 ?_)
  refine jY a7 0 rfl rfl (fN rfl rfl) rfl (by rw [g8,Nat.min_self,Nat.zero_add];exact Nat.le_refl _) rfl ?_
  rw [lX (bR hs)]
  ·repeat' (first|refine ae ?_|refine a6 ?_|refine aq ?_|refine a8 ?_|refine aa ?_|refine LF a7 I9 ?_)
   refine b6 (cW (t:=2) (sz:=2) (l:=l) 0 rfl rfl (List.take_of_length_le (by rw [bR hs];omega)) (by rw [bR hs];omega) hs rfl (Nat.le_refl _) (by unfold maxLen;omega)) ?_
   exact LK LA
  ·rfl
theorem vG (l:List (List AV)) (hs:∀e∈l,e.length=1) (hl:l.length≤1000000):bH Tryz.prog 50 [.imm 1 l] (.imm 1 l):=by
 refine aP Tryz.func50 rfl Tryz.ntmps50 rfl fun B=>?_
 repeat' (first|refine ae ?_|refine a6 ?_|refine a8 ?_|refine aa ?_|refine LF a7 I9 ?_)
 refine ay rfl (fun h=>?_) (fun h=>?_)
 ·have h0:l=[]:=List.length_eq_zero_iff.1 (by have:=Ly h;omega)
  subst h0
  clear h
  repeat' (first|refine ae ?_|refine a6 ?_|refine aq ?_|refine a8 ?_|refine aC ?_|refine aa ?_|refine LF a7 I9 ?_)
  refine b6 (bA (t:=2) rfl fun σ v h=>dJ 1 h) ?_
  exact LK LA
 ·clear h
  repeat' (first|refine ae ?_|refine a6 ?_|refine au ?_|refine a8 ?_|refine LF a7 I9 ?_)
  refine ep a7 l.length rfl rfl rfl rfl rfl rfl rfl (by omega) (by omega) rfl fun b=>?_
  repeat' (first|refine ae ?_|refine a6 ?_|refine a8 ?_|refine aa ?_|refine LF a7 I9 ?_)
  refine jY a7 0 rfl rfl (fN rfl rfl) rfl (by rw [g8,Nat.min_self,Nat.zero_add];exact Nat.le_refl _) rfl ?_
  rw [lX (bR hs)]
  ·repeat' (first|refine ae ?_|refine a6 ?_|refine aq ?_|refine a8 ?_|refine aa ?_|refine LF a7 I9 ?_)
   refine b6 (cW (t:=2) (sz:=1) (l:=l) 0 rfl rfl (List.take_of_length_le (by rw [bR hs];omega)) (by rw [bR hs];omega) hs rfl (Nat.le_refl _) (by unfold maxLen;omega)) ?_
   exact LK LA
  ·rfl
theorem Jk (l:List (List AV)) (hs:∀e∈l,e.length=2) (hl:l.length≤1000000):bH Tryz.prog 79 [.imm 2 l] (.imm 2 l):=by
 refine aP Tryz.func79 rfl Tryz.ntmps79 rfl fun B=>?_
 repeat' (first|refine ae ?_|refine a6 ?_|refine a8 ?_|refine aa ?_|refine LF a7 I9 ?_)
 refine ay rfl (fun h=>?_) (fun h=>?_)
 ·have h0:l=[]:=List.length_eq_zero_iff.1 (by have:=Ly h;omega)
  subst h0
  clear h
  repeat' (first|refine ae ?_|refine a6 ?_|refine aq ?_|refine a8 ?_|refine aC ?_|refine aa ?_|refine LF a7 I9 ?_)
  refine b6 (bA (t:=2) rfl fun σ v h=>dJ 2 h) ?_
  exact LK LA
 ·clear h
  repeat' (first|refine ae ?_|refine a6 ?_|refine au ?_|refine a8 ?_|refine LF a7 I9 ?_)
  refine ep a7 l.length rfl rfl rfl rfl rfl rfl rfl (by omega) (by omega) rfl fun b=>?_
  repeat' (first|refine ae ?_|refine a6 ?_|refine a8 ?_|refine aa ?_|refine LF a7 I9 ?_)
  refine jY a7 0 rfl rfl (fN rfl rfl) rfl (by rw [g8,Nat.min_self,Nat.zero_add];exact Nat.le_refl _) rfl ?_
  rw [lX (bR hs)]
  ·repeat' (first|refine ae ?_|refine a6 ?_|refine aq ?_|refine a8 ?_|refine aa ?_|refine LF a7 I9 ?_)
   refine b6 (cW (t:=2) (sz:=2) (l:=l) 0 rfl rfl (List.take_of_length_le (by rw [bR hs];omega)) (by rw [bR hs];omega) hs rfl (Nat.le_refl _) (by unfold maxLen;omega)) ?_
   exact LK LA
  ·rfl
theorem GB (l:List (List AV)) (hs:∀e∈l,e.length=2) (hl:l.length≤1000000):bH Tryz.prog 80 [.imm 2 l] (.imm 2 l):=by
 refine aP Tryz.func80 rfl Tryz.ntmps80 rfl fun B=>?_
 repeat' (first|refine ae ?_|refine a6 ?_|refine a8 ?_|refine aa ?_|refine LF a7 I9 ?_)
 refine ay rfl (fun h=>?_) (fun h=>?_)
 ·have h0:l=[]:=List.length_eq_zero_iff.1 (by have:=Ly h;omega)
  subst h0
  clear h
  repeat' (first|refine ae ?_|refine a6 ?_|refine aq ?_|refine a8 ?_|refine aC ?_|refine aa ?_|refine LF a7 I9 ?_)
  refine b6 (bA (t:=2) rfl fun σ v h=>dJ 2 h) ?_
  exact LK LA
 ·clear h
  repeat' (first|refine ae ?_|refine a6 ?_|refine au ?_|refine a8 ?_|refine LF a7 I9 ?_)
  refine ep a7 l.length rfl rfl rfl rfl rfl rfl rfl (by omega) (by omega) rfl fun b=>?_
  repeat' (first|refine ae ?_|refine a6 ?_|refine a8 ?_|refine aa ?_|refine LF a7 I9 ?_)
  refine jY a7 0 rfl rfl (fN rfl rfl) rfl (by rw [g8,Nat.min_self,Nat.zero_add];exact Nat.le_refl _) rfl ?_
  rw [lX (bR hs)]
  ·repeat' (first|refine ae ?_|refine a6 ?_|refine aq ?_|refine a8 ?_|refine aa ?_|refine LF a7 I9 ?_)
   refine b6 (cW (t:=2) (sz:=2) (l:=l) 0 rfl rfl (List.take_of_length_le (by rw [bR hs];omega)) (by rw [bR hs];omega) hs rfl (Nat.le_refl _) (by unfold maxLen;omega)) ?_
   exact LK LA
  ·rfl
theorem HY (l:List (List AV)) (hs:∀e∈l,e.length=3) (hl:l.length≤1000000):bH Tryz.prog 154 [.imm 3 l] (.imm 3 l):=by
 refine aP Tryz.func154 rfl Tryz.ntmps154 rfl fun B=>?_
 repeat' (first|refine ae ?_|refine a6 ?_|refine a8 ?_|refine aa ?_|refine LF a7 I9 ?_)
 refine ay rfl (fun h=>?_) (fun h=>?_)
 ·have h0:l=[]:=List.length_eq_zero_iff.1 (by have:=Ly h;omega)
  subst h0
  clear h
  repeat' (first|refine ae ?_|refine a6 ?_|refine aq ?_|refine a8 ?_|refine aC ?_|refine aa ?_|refine LF a7 I9 ?_)
  refine b6 (bA (t:=2) rfl fun σ v h=>dJ 3 h) ?_
  exact LK LA
 ·clear h
  repeat' (first|refine ae ?_|refine a6 ?_|refine au ?_|refine a8 ?_|refine LF a7 I9 ?_)
  refine ep a7 l.length rfl rfl rfl rfl rfl rfl rfl (by omega) (by omega) rfl fun b=>?_
  repeat' (first|refine ae ?_|refine a6 ?_|refine a8 ?_|refine aa ?_|refine LF a7 I9 ?_)
  refine jY a7 0 rfl rfl (fN rfl rfl) rfl (by rw [g8,Nat.min_self,Nat.zero_add];exact Nat.le_refl _) rfl ?_
  rw [lX (bR hs)]
  ·repeat' (first|refine ae ?_|refine a6 ?_|refine aq ?_|refine a8 ?_|refine aa ?_|refine LF a7 I9 ?_)
   refine b6 (cW (t:=2) (sz:=3) (l:=l) 0 rfl rfl (List.take_of_length_le (by rw [bR hs];omega)) (by rw [bR hs];omega) hs rfl (Nat.le_refl _) (by unfold maxLen;omega)) ?_
   exact LK LA
  ·rfl
theorem HZ (l:List (List AV)) (hs:∀e∈l,e.length=3) (hl:l.length≤1000000):bH Tryz.prog 155 [.imm 3 l] (.imm 3 l):=by
 refine aP Tryz.func155 rfl Tryz.ntmps155 rfl fun B=>?_
 repeat' (first|refine ae ?_|refine a6 ?_|refine a8 ?_|refine aa ?_|refine LF a7 I9 ?_)
 refine ay rfl (fun h=>?_) (fun h=>?_)
 ·have h0:l=[]:=List.length_eq_zero_iff.1 (by have:=Ly h;omega)
  subst h0
  clear h
  repeat' (first|refine ae ?_|refine a6 ?_|refine aq ?_|refine a8 ?_|refine aC ?_|refine aa ?_|refine LF a7 I9 ?_)
  refine b6 (bA (t:=2) rfl fun σ v h=>dJ 3 h) ?_
  exact LK LA
 ·clear h
  repeat' (first|refine ae ?_|refine a6 ?_|refine au ?_|refine a8 ?_|refine LF a7 I9 ?_)
  refine ep a7 l.length rfl rfl rfl rfl rfl rfl rfl (by omega) (by omega) rfl fun b=>?_
  repeat' (first|refine ae ?_|refine a6 ?_|refine a8 ?_|refine aa ?_|refine LF a7 I9 ?_)
  refine jY a7 0 rfl rfl (fN rfl rfl) rfl (by rw [g8,Nat.min_self,Nat.zero_add];exact Nat.le_refl _) rfl ?_
  rw [lX (bR hs)]
  ·repeat' (first|refine ae ?_|refine a6 ?_|refine aq ?_|refine a8 ?_|refine aa ?_|refine LF a7 I9 ?_)
   refine b6 (cW (t:=2) (sz:=3) (l:=l) 0 rfl rfl (List.take_of_length_le (by rw [bR hs];omega)) (by rw [bR hs];omega) hs rfl (Nat.le_refl _) (by unfold maxLen;omega)) ?_
   exact LK LA
  ·rfl
theorem I0 (l:List (List AV)) (hs:∀e∈l,e.length=4) (hl:l.length≤1000000):bH Tryz.prog 156 [.imm 4 l] (.imm 4 l):=by
 refine aP Tryz.func156 rfl Tryz.ntmps156 rfl fun B=>?_
 repeat' (first|refine ae ?_|refine a6 ?_|refine a8 ?_|refine aa ?_|refine LF a7 I9 ?_)
 refine ay rfl (fun h=>?_) (fun h=>?_)
 ·have h0:l=[]:=List.length_eq_zero_iff.1 (by have:=Ly h;omega)
  subst h0
  clear h
  repeat' (first|refine ae ?_|refine a6 ?_|refine aq ?_|refine a8 ?_|refine aC ?_|refine aa ?_|refine LF a7 I9 ?_)
  refine b6 (bA (t:=2) rfl fun σ v h=>dJ 4 h) ?_
  exact LK LA
 ·clear h
  repeat' (first|refine ae ?_|refine a6 ?_|refine au ?_|refine a8 ?_|refine LF a7 I9 ?_)
  refine ep a7 l.length rfl rfl rfl rfl rfl rfl rfl (by omega) (by omega) rfl fun b=>?_
  repeat' (first|refine ae ?_|refine a6 ?_|refine a8 ?_|refine aa ?_|refine LF a7 I9 ?_)
  refine jY a7 0 rfl rfl (fN rfl rfl) rfl (by rw [g8,Nat.min_self,Nat.zero_add];exact Nat.le_refl _) rfl ?_
  rw [lX (bR hs)]
  ·repeat' (first|refine ae ?_|refine a6 ?_|refine aq ?_|refine a8 ?_|refine aa ?_|refine LF a7 I9 ?_)
   refine b6 (cW (t:=2) (sz:=4) (l:=l) 0 rfl rfl (List.take_of_length_le (by rw [bR hs];omega)) (by rw [bR hs];omega) hs rfl (Nat.le_refl _) (by unfold maxLen;omega)) ?_
   exact LK LA
  ·rfl
set_option maxRecDepth 8000
def eO {β:Type} (e:β→AV) (l:List β) (i:Nat):List AV:=(l.take i).map e++List.replicate (l.length - i) (.sc (.slice none 0 0))
theorem k6 {β:Type} (e:β→AV) (l:List β) {i:Nat} (hi:i≤l.length):(eO e l i).length=l.length:=by
 unfold eO
 rw [List.length_append,Lr,List.length_take,List.length_replicate]
 omega
theorem r5 {β:Type} (e:β→AV) {l:List β} {i:Nat} {z:β} (h:l[i]?=some z):(eO e l i).set i (e z)=eO e l (i+1):=by
 have hi:=(Lm h).1
 have hl:((l.take i).map e).length=i:=by rw [Lr,List.length_take];omega
 unfold eO
 rw [List.set_append_right _ _ (by omega),hl,Nat.sub_self,show l.length - i=(l.length - (i+1))+1 by omega,List.replicate_succ,List.set_cons_zero,List.take_add_one,h,List.map_append,List.append_assoc]
 rfl
theorem oR {β:Type} (e:β→AV) (l:List β):(List.replicate l.length ([Value.slice none 0 0].map AV.sc)).flatten=eO e l 0:=by
 unfold eO
 simp
theorem r3 {β:Type} (e:β→AV) (l:List β):eO e l l.length=(l.map fun q=>[e q]).flatten:=by
 unfold eO
 rw [List.take_length,Nat.sub_self]
 simp only [List.replicate_zero,List.append_nil]
 induction l with
 | nil=>rfl
 | cons x r ih=>rw [Ln,ih];rfl
theorem xn (l:List (List Int)) (hl:l.length≤1000000) (hr:∀q∈l,q.length≤1000000):bH Tryz.prog 78 [.imm 1 (aZ l)] (.imm 1 (aZ l)):=by
 refine aP Tryz.func78 rfl Tryz.ntmps78 rfl fun B=>?_
 have hll:(aZ l).length=l.length:=Lr ..
 repeat' (first|refine ae ?_|refine a6 ?_|refine a8 ?_|refine aa ?_|refine LF a7 I9 ?_)
 refine ep a7 l.length rfl rfl rfl rfl rfl (by rw [hll]) (by rw [hll]) (by omega) (by omega) rfl fun b=>?_
 rw [show (List.replicate l.length (List.map AV.sc _)).flatten=eO (fun q:List Int=> .imm 1 (aO q)) l 0 from oR _ _]
 repeat' (first|refine ae ?_|refine a6 ?_|refine am ?_|refine a8 ?_|refine aa ?_|refine LF a7 I9 ?_)
 refine aJ [0,3,9] (α:=Nat) (fun i=>[(10,aH i)]) (fun i=>i≤l.length) (fun i=>[(b,.box (eO (fun q:List Int=> .imm 1 (aO q)) l i) _)]) (fun i=>l.length - i) 0 rfl ⟨rfl,trivial⟩ (Nat.zero_le _) (fun _ _ h=>h) fun i hi=>?_
 try dsimp only [Lp,Lo,Ln,Lh]
 repeat' (first|refine ae ?_|refine a6 ?_|refine a8 ?_|refine aa ?_|refine LF a7 I9 ?_)
 refine ay rfl (fun h=>?_) (fun h=>?_)
 ·have hil:i < l.length:=by have:=Ly h;omega
  obtain ⟨z,hz⟩:∃z,l[i]?=some z:=⟨_,Lz hil⟩
  have hzg:(aZ l)[i]?=some [(fun q:List Int=> .imm 1 (aO q)) z]:=by show (l.map _)[i]?=_;rw [List.getElem?_map,hz];rfl
  clear h
  repeat' (first|refine ae ?_|refine a6 ?_|refine am ?_|refine au ?_|refine a8 ?_|refine aa ?_|refine LF a7 I9 ?_|(apply aU;first|refine aT a7 ?_|refine aN a7 ?_)|fail)
  refine bi (hc:=⟨vG (aO z) (fun q hq=>by obtain ⟨y,_,rfl⟩:=List.mem_map.1 hq;rfl) (by rw [aW];exact hr z (Lv hz))⟩) ?_
  repeat' (first|(apply aU;first|refine aT a7 ?_|refine aN a7 ?_)|fail)
  refine jt a7 0 i rfl rfl (by omega) rfl rfl rfl (by rw [k6 _ _ hi];exact hil) ?_
  rw [show (eO (fun q:List Int=> .imm 1 (aO q)) l i).set i _=eO (fun q:List Int=> .imm 1 (aO q)) l (i+1) from r5 (fun q:List Int=> .imm 1 (aO q)) hz]
  repeat' (first|refine a6 ?_|refine a8 ?_|refine aM ?_|refine aa ?_|refine LF a7 I9 ?_|(apply aY;refine aX ?_)|fail)
  exact aE (i+1) rfl ⟨by rw [Ls];rfl,trivial⟩ hil (by omega) (fun _ _ h=>h)
 ·have hil:i=l.length:=by have:=Lw h;omega
  subst hil
  repeat' (first|refine ae ?_|refine a6 ?_|refine aq ?_|refine aL ?_|refine a8 ?_|refine av ?_|refine aA ?_|refine aw ?_|refine aa ?_|refine LF a7 I9 ?_)
  have hfl:eO (fun q:List Int=> .imm 1 (aO q)) l l.length=(aZ l).flatten:=r3 _ _
  have hcl:=k6 (fun q:List Int=> .imm 1 (aO q)) l (Nat.le_refl _)
  refine b6 (cW (t:=2) (sz:=1) (l:=aZ l) 0 rfl rfl (by rw [Nat.mul_one,List.take_of_length_le (by omega),hfl]) (by omega) (fun q hq=>by obtain ⟨y,_,rfl⟩:=List.mem_map.1 hq;rfl) hll (Nat.le_refl _) (by unfold maxLen;omega)) ?_
  exact LK LA
theorem I1 (l:List (List eG)) (hl:l.length≤1000000) (hr:∀q∈l,q.length≤1000000):bH Tryz.prog 49 [.imm 1 (l.map cV)] (.imm 1 (l.map cV)):=by
 refine aP Tryz.func49 rfl Tryz.ntmps49 rfl fun B=>?_
 have hll:(l.map cV).length=l.length:=Lr ..
 repeat' (first|refine ae ?_|refine a6 ?_|refine a8 ?_|refine aa ?_|refine LF a7 I9 ?_)
 refine ep a7 l.length rfl rfl rfl rfl rfl (by rw [hll]) (by rw [hll]) (by omega) (by omega) rfl fun b=>?_
 rw [show (List.replicate l.length (List.map AV.sc _)).flatten=eO (fun q:List eG=> .imm 2 (q.map dO)) l 0 from oR _ _]
 repeat' (first|refine ae ?_|refine a6 ?_|refine am ?_|refine a8 ?_|refine aa ?_|refine LF a7 I9 ?_)
 refine aJ [0,3,9] (α:=Nat) (fun i=>[(10,aH i)]) (fun i=>i≤l.length) (fun i=>[(b,.box (eO (fun q:List eG=> .imm 2 (q.map dO)) l i) _)]) (fun i=>l.length - i) 0 rfl ⟨rfl,trivial⟩ (Nat.zero_le _) (fun _ _ h=>h) fun i hi=>?_
 try dsimp only [Lp,Lo,Ln,Lh]
 repeat' (first|refine ae ?_|refine a6 ?_|refine a8 ?_|refine aa ?_|refine LF a7 I9 ?_)
 refine ay rfl (fun h=>?_) (fun h=>?_)
 ·have hil:i < l.length:=by have:=Ly h;omega
  obtain ⟨z,hz⟩:∃z,l[i]?=some z:=⟨_,Lz hil⟩
  have hzg:(l.map cV)[i]?=some [(fun q:List eG=> .imm 2 (q.map dO)) z]:=by show (l.map _)[i]?=_;rw [List.getElem?_map,hz];rfl
  clear h
  repeat' (first|refine ae ?_|refine a6 ?_|refine am ?_|refine au ?_|refine a8 ?_|refine aa ?_|refine LF a7 I9 ?_|(apply aU;first|refine aT a7 ?_|refine aN a7 ?_)|fail)
  refine bi (hc:=⟨GB (z.map dO) (fun q hq=>by obtain ⟨y,_,rfl⟩:=List.mem_map.1 hq;rfl) (by rw [Lr];exact hr z (Lv hz))⟩) ?_
  repeat' (first|(apply aU;first|refine aT a7 ?_|refine aN a7 ?_)|fail)
  refine jt a7 0 i rfl rfl (by omega) rfl rfl rfl (by rw [k6 _ _ hi];exact hil) ?_
  rw [show (eO (fun q:List eG=> .imm 2 (q.map dO)) l i).set i _=eO (fun q:List eG=> .imm 2 (q.map dO)) l (i+1) from r5 (fun q:List eG=> .imm 2 (q.map dO)) hz]
  repeat' (first|refine a6 ?_|refine a8 ?_|refine aM ?_|refine aa ?_|refine LF a7 I9 ?_|(apply aY;refine aX ?_)|fail)
  exact aE (i+1) rfl ⟨by rw [Ls];rfl,trivial⟩ hil (by omega) (fun _ _ h=>h)
 ·have hil:i=l.length:=by have:=Lw h;omega
  subst hil
  repeat' (first|refine ae ?_|refine a6 ?_|refine aq ?_|refine aL ?_|refine a8 ?_|refine av ?_|refine aA ?_|refine aw ?_|refine aa ?_|refine LF a7 I9 ?_)
  have hfl:eO (fun q:List eG=> .imm 2 (q.map dO)) l l.length=(l.map cV).flatten:=r3 _ _
  have hcl:=k6 (fun q:List eG=> .imm 2 (q.map dO)) l (Nat.le_refl _)
  refine b6 (cW (t:=2) (sz:=1) (l:=l.map cV) 0 rfl rfl (by rw [Nat.mul_one,List.take_of_length_le (by omega),hfl]) (by omega) (fun q hq=>by obtain ⟨y,_,rfl⟩:=List.mem_map.1 hq;rfl) hll (Nat.le_refl _) (by unfold maxLen;omega)) ?_
  exact LK LA
end Go.Proofs.YtamjlkdanllgjaaGreatDoor
