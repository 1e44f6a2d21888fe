/-
  Pointers and nil; places in a table that is a block; an empty row that is written; numbers that may go over.
-/
import Derived.Test.YtamjlkdanllgjaaGreatDoorM11
import Derived.Laws.Pointers
import Derived.Laws.BitsAllLaws
import Derived.Test.YtamjlkdanllgjaaGreatDoorRows
import Derived.WalkKit
import Derived.ProofKit
import Derived.OpenShut
import Derived.ChangeOld
import Derived.SizedLaws
import Derived.Deep.DeepHandedRow
import Derived.Lib.LaidTab
import Derived.Test.YtamjlkdanllgjaaGreatDoorM05
import Derived.Test.YtamjlkdanllgjaaGreatDoorM04
import Derived.Test.YtamjlkdanllgjaaGreatDoorM07
import Derived.Laws.CopyRow
import Derived.Scope
import Derived.Test.YtamjlkdanllgjaaGreatDoorM06
import Derived.Test.YtamjlkdanllgjaaGreatDoorM10
namespace Go.Proofs.YtamjlkdanllgjaaGreatDoor
open Go.RowKit
def NL:AV→Option Bool
 | .iptr _=>some false
 | .sc (.pointer none)=>some true
 | .sc (.pointer (some _))=>some false
 | _=>none
section
variable {P:Program} {fr:bZ} {B:Bs} {L:AL} {d:Option Tmp} {ty t t':TypeId} {pos:String} {af:Array Edge} {g:Option (Nat×Bool)} {x y z q:Operand} {u:AV}
theorem Jr {n e sz k b off:Nat} {qq:IntKind} {a:Int} (ht:P.underlying t=some (.array n e)) (hs:(P.info? e).map (·.size)=some sz) (hx:bw fr x=some (.sc (.pointer (some ⟨b,off,none⟩)))) (hy:bw fr y=some (.sc (.int qq a))) (ha:a=(k:Int)) (hk:k < n):Av P ⟨d,.indexAddr t x y,ty,pos,af,g⟩ fr (.sc (.pointer (some ⟨b,off+k * sz,none⟩))):=
 fun σ ρ w hρ _=>by
  subst ha
  have hyv:=(hρ y _ hy).sc_inv
  have hv:=(hρ x _ hx).sc_inv
  have hk':(k:Int) < (n:Int):=by omega
  have hso:(sizeOf e:Sem Nat).run P w= .ok sz w:=by
   cases hi:P.info? e with
   | none=>rw [hi] at hs;cases hs
   | some i=>rw [hi] at hs;simp at hs;simp [sizeOf,typeInfo,hi,hs]
  refine ⟨.pointer (some ⟨b,off+k * sz,none⟩),?_,.sc _⟩
  simp [execOp,hv,hyv,Instr.indexAt,asIntOf,run_underlying ht,hk',hso,Instr.sureAddr,Addr.add]
  by_cases hn:n≤1 <;> by_cases h0:k * sz=0 <;> simp [hn,run_underlying ht,hso,hk,h0]
theorem Gw {e sz by_:Nat} {parts:Array (Nat×Operand)} (hc:m8 P t e sz by_) (hsz:0 < sz) (hp:parts=#[]):AO P ⟨d,.buildSlice t 0 parts,ty,pos,af,g⟩ fr B L (fun c L'=>∃b,c= .sc (.slice (some ⟨b,0,none⟩) 0 0)∧L'=(b,.box [] e)::L):=by
 intro σ ρ w hρ hw
 subst hp
 haveI:=hc
 have hr:=FD (P:=P) (t:=t) (by simpa [Nat.blt_eq] using hsz) [] (by simp) (by simp [Nat.ble_eq]) w
 simp at hr
 unfold i8
 rw [show (execOp ρ ⟨d,.buildSlice t 0 #[],ty,pos,af,g⟩).run P w= .ok (.value (.slice (some ⟨w.heap.size,0,none⟩) 0 0)) (w.alloc (.cells #[] e)) by
  simp [execOp,hr]]
 exact ⟨σ,.sc _,_,cm.le_refl _,.sc _,hw.alloc _ (.box [] e) ⟨[],rfl,d4.nil,by simp⟩,_,rfl,rfl⟩
end
section
variable {P:Program} {tt:TT} {r:Option Nat} {ops:Array Oper} {Q:Exit→Act→World→Prop} {nt:Nat} {D:List Deferred} {fr:bZ} {B:Bs} {L:AL} {rest:List Oper} {d:Nat} {ty t t':TypeId} {pos:String} {af:Array Edge} {x y z:Operand} {u:AV}
theorem yk (ok:eh P tt) (k:Nat) {n e sz b off:Nat} {q:IntKind} {a:Int} (ht:vD tt t=some (n,e,sz)) (hx:bw fr x=some (.sc (.pointer (some ⟨b,off,none⟩)))) (hy:bw fr y=some (.sc (.int q a))) (ha:a=(k:Int)) (hk:k < n) (hd:Nat.ble nt d=false) (h:bF P r ops Q nt D rest ((d,.sc (.pointer (some ⟨b,off+k * sz,none⟩)))::fr) B L):
  bF P r ops Q nt D (⟨some d,.indexAddr t x y,ty,pos,af,none⟩::rest) fr B L:=cz (Jr (gL ok ht).1 (gL ok ht).2 hx hy ha hk) hd rfl h
theorem Kk (ok:eh P tt) {e sz by_:Nat} (ht:jW tt t=some (e,sz,by_)) (hd:Nat.ble nt d=false) (h:∀b,bF P r ops Q nt D rest ((d,.sc (.slice (some ⟨b,0,none⟩) 0 0))::fr) B ((b,.box [] e)::L)):
  bF P r ops Q nt D (⟨some d,.buildSlice t 0 #[],ty,pos,af,none⟩::rest) fr B L:=cn hd rfl (Gw (bE ok ht).1 (bE ok ht).2 rfl) fun c L' ⟨b,h1,h2⟩=>by subst h1;subst h2;exact h b
theorem fG (ok:eh P tt) {a:Int} {q q':IntKind} {ti ti':TI} (hx:bw fr x=some (.sc (.int q a))) (ht:dC tt t=some ti) (hk:ti.k= .int q) (ht':dC tt t'=some ti') (hk':ti'.k= .int q') (hd:Nat.ble nt d=false) (h:bF P r ops Q nt D rest ((d,.sc (.int q' (q'.wrap a)))::fr) B L):
  bF P r ops Q nt D (⟨some d,.convert t t' x,ty,pos,af,none⟩::rest) fr B L:=by
 haveI:=ok.int ht hk
 haveI:=ok.int ht' hk'
 exact cz (sU hx) hd rfl h
end
end Go.Proofs.YtamjlkdanllgjaaGreatDoor
namespace Go.Proofs.YtamjlkdanllgjaaGreatDoor
open Go.RowKit
attribute [local irreducible] AT bF AX AO Av Kt b8 d9 DA cu
set_option maxRecDepth 8000
abbrev NW (cls:List Int) (tab:List (List Int)) (ends:List Nat):AV:= .agg [.imm 1 (aL cls),.imm 1 (aZ tab),.imm 1 (gE ends)]
theorem sw (l:List Nat):(gE l).length=l.length:=by simp [gE]
theorem G2 {l:List Nat} {i:Nat} {z:Nat} (h:l[i]?=some z):(gE l)[i]?=some [lM z]:=by simp [gE,h]
section
variable (cls:List Int) (tab:List (List Int)) (ends:List Nat)
theorem M2 {a b:Nat} (ha:a < 18446744073709551616) (hb:b < 18446744073709551616):a ||| b < 18446744073709551616:=Nat.or_lt_two_pow (n:=64) ha hb
end
abbrev Nk (e:CS):AV:= .agg (Lr e)
structure Jf (e:CS):Prop where
 fore:∀z∈e.foreE,z < 18446744073709551616
 back:∀z∈e.backE,z < 18446744073709551616
def lG:List Int:=[0,1,56,2,57,49,28,3,61,58,42,50,38,29,17,4,62,47,59,36,45,43,51,22,53,39,33,30,24,18,12,5,63,55,48,27,60,41,37,16,46,35,44,21,52,32,23,11,54,26,40,15,34,20,31,10,25,14,19,9,13,8,7,6]
def FW:List AV:=lG.map fun z=> .sc (.int .u8 z)
abbrev wW:Nat×AB:=(2,.box FW 481)
def NQ (x:Int):Int:=bits .and .u64 x (IntKind.u64.wrap (0 - x))
def NR (x:Int):Int:=IntKind.u64.wrap (NQ x * 285870213051353865) / 2 ^ min 58 IntKind.u64.bits
def NS (x:Nat):Int:=lG.getD (NR x).toNat 0
def MP (b:Nat):Int:=if b=0 then -1 else NS b
end Go.Proofs.YtamjlkdanllgjaaGreatDoor
namespace Go.Proofs.YtamjlkdanllgjaaGreatDoor
open Go.RowKit
attribute [local irreducible] AT bF AX AO Av Kt b8 d9 DA cu
set_option maxRecDepth 8000
open Go.ChangeShapes Go.WideShapes Go.ChangeAt Go.RowKit
theorem Tryz.own:ownKnob Tryz.prog.godebug=none:=by kernel_rfl
theorem Tryz.laidOut:laidOutB Tryz.prog=true:=by kernel_rfl
theorem LC:Tryz.prog.globalNamed "math/bits.deBruijn64tab" =some 2:=by kernel_rfl
theorem Eh:(Tryz.prog.globals[2]?).map (·.type)=some 481:=by kernel_rfl
theorem DS:Tryz.prog.cellsOf 481=64:=by kernel_rfl
theorem GH:Tryz.prog.cellsOf 5=1:=by kernel_rfl
theorem KH:(((begin Tryz.prog (fun _ _=>0) default).world.heap)[2]?).bind Obj.row?=some ((List.replicate 64 (Value.int .u8 0)).toArray,481):=by kernel_rfl
def LG:List (String×DataW Unit):=[("math/bits.deBruijn64tab",Lib.tabData .u8 lG)]
theorem AF {W:World} (hL:laidMet Tryz.prog LG W) (hS:W.ShapedOpen Tryz.prog):W.heap[2]?=some (.cells (lG.map (Value.int .u8)).toArray 481 (0,0)):=by
 have h:Lib.TabIs Tryz.prog W "math/bits.deBruijn64tab" .u8 lG:=Lib.tabIs_of_head (rest:=[]) LC Eh Tryz.underlying481 Tryz.underlying5 GH DS hL
 obtain ⟨cs,h1,_,_⟩:=hS.1 2 _ 481 (Oy (by kernel_rfl)) KH
 unfold Lib.TabIs World.var? at h
 rw [LC,Option.bind_some,h1] at h
 cases h
 exact h1
def mG (W:World):cm:=fun b off=>if b=2 then none else W.cell? ⟨b,off,none⟩
theorem Iu {σ:cm}:d4 σ FW (lG.map (Value.int .u8)):=by
 unfold FW
 generalize lG=l
 induction l with
 | nil=>exact d4.nil
 | cons x l ih=>exact d4.cons (.sc _) ih
theorem x4 {σ:cm} {vs:List Value} (h:d4 σ FW vs):vs=lG.map (Value.int .u8):=by
 unfold FW at h
 revert vs
 generalize lG=l
 induction l with
 | nil=>
  intro vs h
  exact List.eq_nil_of_length_eq_zero h.1.symm
 | cons x l ih=>
  intro vs h
  obtain ⟨y,u,rfl,h1,h2⟩:=d4.inv h
  rw [h1.sc_inv,ih h2]
  rfl
theorem HF {W:World} (h:W.heap[2]?=some (.cells (lG.map (Value.int .u8)).toArray 481 (0,0))):dg ⟨W,mG W,[2]⟩ (mG W) [wW] W:=by
 have h0:2 < W.heap.size:=by
  rcases Nat.lt_or_ge 2 W.heap.size with h' | h'
  ·exact h'
  ·rw [Array.getElem?_eq_none h'] at h;cases h
 refine ⟨rfl,rfl,rfl,Nat.le_refl _,fun _ _ _=>rfl,fun p hp=>?_,fun p hp=>?_,by simp,fun b off u hu=>?_,fun p hp off _=>?_,fun _ _ _ h=>h,fun _ _ _ _=>rfl⟩
 ·rw [Oi hp]
  exact ⟨_,h,_,rfl,Iu,fun u hu=>by
   obtain ⟨z,_,rfl⟩:=List.mem_map.1 hu
   rfl⟩
 ·rw [Oi hp]
  exact .inr (by simp)
 ·unfold mG at hu
  split at hu
  ·cases hu
  ·exact hu
 ·rw [Oi hp]
  rfl
theorem CJ {f:FuncId} {args:List AV} {u:Value} (h:AC Tryz.prog f args [wW] fun c L=>c= .sc u∧L=[wW]) (W:World) (hT:W.heap[2]?=some (.cells (lG.map (Value.int .u8)).toArray 481 (0,0))) (vs:List Value) (hv:d4 (mG W) args vs):Calls Tryz.prog f vs.toArray W fun e W'=>∃v,e= .returned v∧Below W.heap.size W W'∧v=u:=
 (h (mG W) W vs hv (HF hT)).mono fun e W' ⟨v,τ,c,L',he,hr,hst,hc,hL⟩=>by
  subst hc
  subst hL
  refine ⟨v,he,⟨hst.os,hst.tape,hst.output,hst.size,fun k hk=>?_⟩,hr.sc_inv⟩
  by_cases h0:k=2
  ·subst h0
   obtain ⟨o,h1,vs',h2,h3,_⟩:=hst.here wW (by simp)
   rw [h1,h2,hT,x4 h3]
  ·exact hst.old k hk (by simp [h0])
end Go.Proofs.YtamjlkdanllgjaaGreatDoor
namespace Go.Proofs.YtamjlkdanllgjaaGreatDoor
open Go.RowKit
section
variable {P:Program} {tt:TT} {r:Option Nat} {ops:Array Oper} {Q:Exit→Act→World→Prop} {nt:Nat} {D:List Deferred} {fr:bZ} {B:Bs} {L:AL} {rest:List Oper} {d:Nat} {ty t t':TypeId} {pos:String} {af:Array Edge} {x y z:Operand} {u:AV}
theorem A6 (ok:eh P tt) (hi:Nat) {s e sz by_:Nat} {l:List (List AV)} {k:IntKind} {a:Int} (ht:jW tt t=some (e,sz,by_)) (hx:bw fr x=some u) (hu:gZ u=some (s,l)) (hs:Nat.beq s sz=true) (hy:bw fr y=some (.sc (.int k a))) (ha:a=(hi:Int)) (h1:hi≤l.length) (hd:Nat.ble nt d=false) (h:bF P r ops Q nt D rest ((d,.imm s (l.take hi))::fr) B L):
  bF P r ops Q nt D (⟨some d,.slice t x none (some y) none,ty,pos,af,none⟩::rest) fr B L:=cz (xe (bE ok ht).1 hx (cG hu) hs hy ha h1) hd rfl h
end
section
variable {P:Program} {tt:TT} {l:List Oper} {fr:bZ} {fin:kV} {sk:mT} {acc:bZ} {L:AL} {k:Nat} {dd:Option Tmp} {ty t:TypeId} {pos:String} {af:Array Edge} {g:Option (Nat×Bool)} {x y z:Operand} {u:AV}
theorem GP (ok:eh P tt) (hi:Nat) {s e sz by_:Nat} {ll:List (List AV)} {q:IntKind} {a:Int} (ht:jW tt t=some (e,sz,by_)) (hx:bw (cO l.toArray acc fr af.toList) x=some u) (hu:gZ u=some (s,ll)) (hs:Nat.beq s sz=true) (hy:bw (cO l.toArray acc fr af.toList) y=some (.sc (.int q a))) (ha:a=(hi:Int)) (h1:hi≤ll.length) (hg:j6 ⟨dd,.slice t x none (some y) none,ty,pos,af,g⟩ acc) (h:DA P l fr fin sk ((k,.imm s (ll.take hi))::acc) L):
  cu P l fr fin k .v ⟨dd,.slice t x none (some y) none,ty,pos,af,g⟩ sk acc L:=fW hg (F7 (xe (bE ok ht).1 hx (cG hu) hs hy ha h1)) h
theorem GQ (ok:eh P tt) (lo:Nat) {s e sz by_:Nat} {ll:List (List AV)} {q:IntKind} {a:Int} (ht:jW tt t=some (e,sz,by_)) (hx:bw (cO l.toArray acc fr af.toList) x=some u) (hu:gZ u=some (s,ll)) (hs:Nat.beq s sz=true) (hy:bw (cO l.toArray acc fr af.toList) y=some (.sc (.int q a))) (ha:a=(lo:Int)) (h1:lo≤ll.length) (hg:j6 ⟨dd,.slice t x (some y) none none,ty,pos,af,g⟩ acc) (h:DA P l fr fin sk ((k,.imm s (ll.drop lo))::acc) L):
  cu P l fr fin k .v ⟨dd,.slice t x (some y) none none,ty,pos,af,g⟩ sk acc L:=fW hg (F7 (Jw (bE ok ht).1 hx (cG hu) hs hy ha h1)) h
theorem GR (ok:eh P tt) {e sz by_ n:Nat} {parts:Array (Nat×Operand)} {vs:List AV} {xs:List (List AV)} (ht:jW tt t=some (e,sz,by_)) (hv:eB (cO l.toArray acc fr af.toList) (parts.toList.map (·.2))=some vs) (hxs:ji vs=some xs) (hn:Nat.beq xs.length n=true) (hi:parts.toList.map (·.1)=List.range' 0 n) (hz:xs.all (fun q=>Nat.beq q.length sz)=true) (h24:Nat.ble (n * sz) 16777216=true) (hg:j6 ⟨dd,.buildSlice t n parts,ty,pos,af,g⟩ acc) (h:∀b,DA P l fr fin sk ((k,.vec (some (b,n)) sz xs)::acc) ((b,.vec e sz n n)::L)):
  cu P l fr fin k .e ⟨dd,.buildSlice t n parts,ty,pos,af,g⟩ sk acc L:=
 iJ hg (fun _=>xn (bE ok ht).1 (bE ok ht).2 hv hxs hn hi hz h24) fun c L' ⟨b,h1,h2⟩=>by subst h1;subst h2;exact h b
end
end Go.Proofs.YtamjlkdanllgjaaGreatDoor
namespace Go.Proofs.YtamjlkdanllgjaaGreatDoor
open Go.RowKit
section
variable {P:Program} {r:Option Nat} {Q:Exit→Act→World→Prop} {nt:Nat} {D:List Deferred} {fr:bZ} {B:Bs} {L:AL}
theorem iu {α:Type} {A C:Code} (ks:List Nat) (fr1:α→bZ) (L1:α→AL) (φ:α→Prop) (hA:∀Q',(∀x fr',φ x→fL fr' ks=some (fr1 x)→AX P .normal Q' nt D fr' B (L1 x))→AT P r A Q' nt D fr B L) (hB:∀x,φ x→AT P r C Q nt D (fr1 x) B (L1 x)):AT P r A (Kt P r C Q) nt D fr B L:=
 hA _ fun x _ hx h=>a8 (qk ks h (hB x hx))
end
end Go.Proofs.YtamjlkdanllgjaaGreatDoor
namespace Go.Proofs.YtamjlkdanllgjaaGreatDoor
open Go.RowKit
theorem nB {q:Nat×Nat×AV} {L:AL} (i:Nat) {cs:List AV} {e:TypeId} (hL:L[i]?=some (q.1,.box cs e)) (hc:cs[q.2.1]?=some q.2.2):fc [.cell q] L:=fun p hp=>by
 rw [List.mem_singleton] at hp
 subst hp
 exact ⟨cs,e,Ow hL,hc⟩
section
variable {P:Program} {fr:bZ} {B:Bs} {L:AL} {ty t t':TypeId} {pos:String} {af:Array Edge} {g:Option (Nat×Bool)} {x y:Operand}
theorem Dp (i:Nat) {dd:Option Tmp} {e e' sz by_ b off n c m:Nat} {cs es:List AV} (hc:m8 P t e sz by_) (hx:bw fr x=some (.sc (.slice (some ⟨b,off,none⟩) n c))) (hy:D5 fr B L y sz m es) (hL:L[i]?=some (b,.box cs e')) (hfit:off+min m n * sz≤cs.length):
  AO P ⟨dd,.call ⟨.builtin .copy,#[x,y],#[t,t']⟩,ty,pos,af,g⟩ fr B L (fun r L'=>r=aG ((min m n:Nat):Int)∧L'=fN L i (.box (cs.take off++es.take (min m n * sz)++cs.drop (off+min m n * sz)) e')):=by
 intro σ ρ w hρ hw
 obtain ⟨A,c2,ys,hA,hyr,hy1,hyl,hyc⟩:=hy σ ρ w hρ hw
 have hxv:=(hρ x _ hx).sc_inv
 haveI:=hc
 obtain ⟨inf,zz,hi,hsz,_,_,_⟩:=hc.info
 obtain ⟨vs,hb,hvs,h1⟩:=hw.boxCell hL
 have hl:=hvs.1
 have hmin:Nat.min m n=min m n:=rfl
 generalize hk:min m n=k at *
 have hlen:(ys.take (k * sz)).length=k * sz:=by
  rw [List.length_take,hyl]
  have:k≤m:=by omega
  have:=Nat.mul_le_mul_right sz this
  omega
 have hstore:=run_storeCells_at P b off e' (ys.take (k * sz)) 0 vs.toArray w hb (by rw [hlen];simp;omega) (fun v hv=>hy1 v (List.mem_of_mem_take hv))
 unfold i8
 rw [show (execOp ρ ⟨dd,.call ⟨.builtin .copy,#[x,y],#[t,t']⟩,ty,pos,af,g⟩).run P w= .ok (.value (.int .i64 k)) (w.setRow b (vs.toArray.toList.take off++ys.take (k * sz)++vs.toArray.toList.drop (off+(ys.take (k * sz)).length)).toArray) by
  by_cases hk0:k=0
  ·subst hk0
   simp only [Nat.zero_mul,List.take_zero,List.append_nil,List.length_nil,Nat.add_zero,List.take_append_drop] at hstore ⊢
   have h0:(Builtin.firstCells inf.size 0 (.slice A m c2)).run P w= .ok #[] w:=by
    cases A with
    | none=>rfl
    | some a=>
     have:=run_loadCells_list (P:=P) w a [] (by simp)
     simpa [Builtin.firstCells] using this
   simp [execOp,resolve,hxv,hA,invoke,builtin,Builtin.copy_,run_underlying hc.under,Builtin.lenOf,sizeOf,typeInfo,hi,hmin,h0,storeCells,goInt]
   exact (setRow_self w b vs.toArray e' (0,0) hb).symm
  ·have hm0:0 < m:=by omega
   obtain ⟨b2,off2,rfl,hcell⟩:=hyc hm0
   have hld:=run_loadCells_list (P:=P) w ⟨b2,off2,none⟩ (ys.take (k * sz)) (fun j v hj=>hcell j v (by
    have hjl:=(Ol hj).1
    rw [List.length_take] at hjl
    rw [List.getElem?_take_of_lt (by omega)] at hj
    exact hj))
   rw [hlen] at hld
   simp only [Nat.add_zero] at hstore
   simp [execOp,resolve,hxv,hA,invoke,builtin,Builtin.copy_,run_underlying hc.under,Builtin.lenOf,Builtin.firstCells,sizeOf,typeInfo,hi,hsz,hmin,hld,hstore,goInt]]
 rw [hlen]
 refine ⟨σ,.sc _,_,cm.le_refl _,.sc _,hw.putAt (a':= .box (cs.take off++es.take (k * sz)++cs.drop (off+k * sz)) e') hL (fun _=>trivial) ⟨rfl,rfl,rfl,by simp,fun k _ hk=>setRow_other w b k _ (fun e=>hk (by simp [e]))⟩ (setRow_heap w b _ _ e' _ hb) ⟨_,rfl,ey (ey (gC hvs _) (gC hyr _)) (lI hvs _),fun u hu=>?_⟩,rfl,rfl⟩
 rcases Oj hu with hu | hu
 ·rcases Oj hu with hu | hu
  ·exact h1 _ (List.mem_of_mem_take hu)
  ·exact hy1 _ (List.mem_of_mem_take hu)
 ·exact h1 _ (List.mem_of_mem_drop hu)
end
section
variable {P:Program} {tt:TT} {r:Option Nat} {ops:Array Oper} {Q:Exit→Act→World→Prop} {nt:Nat} {D:List Deferred} {fr:bZ} {B:Bs} {L:AL} {rest:List Oper} {d:Nat} {ty t t':TypeId} {pos:String} {af:Array Edge} {x y:Operand}
theorem kx (ok:eh P tt) (i:Nat) {e e' sz by_ b off n c m:Nat} {cs es:List AV} (ht:jW tt t=some (e,sz,by_)) (hx:bw fr x=some (.sc (.slice (some ⟨b,off,none⟩) n c))) (hy:D5 fr B L y sz m es) (hL:L[i]?=some (b,.box cs e')) (hfit:off+min m n * sz≤cs.length) (hd:Nat.ble nt d=false)
  (h:bF P r ops Q nt D rest ((d,aG ((min m n:Nat):Int))::fr) B (fN L i (.box (cs.take off++es.take (min m n * sz)++cs.drop (off+min m n * sz)) e'))):
  bF P r ops Q nt D (⟨some d,.call ⟨.builtin .copy,#[x,y],#[t,t']⟩,ty,pos,af,none⟩::rest) fr B L:=
 cn hd rfl (Dp i (bE ok ht).1 hx hy hL hfit) fun c L' ⟨h1,h2⟩=>by subst h1;subst h2;exact h
end
end Go.Proofs.YtamjlkdanllgjaaGreatDoor
namespace Go.Proofs.YtamjlkdanllgjaaGreatDoor
open Go.RowKit
end Go.Proofs.YtamjlkdanllgjaaGreatDoor
namespace Go.Proofs.YtamjlkdanllgjaaGreatDoor
open Go.RowKit
section
variable {nt:Nat} {fr:bZ} {B:Bs} {L:AL} {D:List Deferred}
theorem dl {t b e sz n cap:Nat} {cs:List AV} {l:List (List AV)} (i:Nat) (hl:ce fr t=some (.sc (.slice (some ⟨b,0,none⟩) n cap))) (hL:L[i]?=some (b,.box cs e)) (hc:cs.take (n * sz)=l.flatten) (hcl:n * sz≤cs.length) (hs:∀q∈l,q.length=sz) (hn:l.length=n) (hnc:n≤cap) (hm:cap≤maxLen):mq nt D B fr L ((t,.imm sz l)::fr) (L.eraseIdx i):=by
 intro σ a w ha hw0
 have hw:=hw0.perm (fC hL)
 obtain ⟨o,ho,vs,rfl,hvs,h1⟩:=hw.here _ (List.mem_cons_self ..)
 have hfree:=hw.free _ (List.mem_cons_self ..)
 have hvl:vs.length=cs.length:=hvs.1.symm
 have hst:dg B σ ((b,.vec e cs.length 0 1)::L.eraseIdx i) w:=by
  refine ⟨hw.os,hw.tape,hw.output,hw.size,hw.old,fun p hp=>?_,fun p hp=>?_,by simpa using hw.apart,hw.froz,fun p hp off hm=>?_,hw.grow,hw.same⟩
  ·rcases List.mem_cons.1 hp with rfl | hp'
   ·exact ⟨_,ho,_,rfl,by simp [hvl],Nat.zero_le _,by unfold maxLen;omega⟩
   ·exact hw.here p (Ot _ hp')
  ·rcases List.mem_cons.1 hp with rfl | hp'
   ·exact hw.mine (b,.box cs e) (List.mem_cons_self ..)
   ·exact hw.mine p (Ot _ hp')
  ·rcases List.mem_cons.1 hp with rfl | hp'
   ·exact hfree off trivial
   ·exact hw.free p (Ot _ hp') off hm
 obtain ⟨hst',hle⟩:=hst.freezeHead (n':=1) (xs:=vs) (fun j u hj=>by rw [dm ho];simpa using hj) (by omega) (Nat.zero_le _) (Nat.le_refl _)
 have hv:VR (σ.add b vs) (.vec (some (b,cap)) sz l) (.slice (some ⟨b,0,none⟩) n cap):=by
  have:=lH (σ:=σ.add b vs) (b:=b) (cap:=cap) hs (by rw [←hc];exact (gC hvs _).mono hle) (fun u hu=>h1 u (List.mem_of_mem_take hu)) (by omega) hm (fun j u hj=>cm.add_at (by
   rw [List.getElem?_take] at hj
   split at hj
   ·exact hj
   ·cases hj))
  rwa [hn] at this
 refine ⟨_,?_,hst'.sublist (.cons _ (List.Sublist.refl _))⟩
 have ha':=ha.mono hle
 refine ⟨ha'.size,ha'.defers,fun t' v' hl'=>?_⟩
 rw [ck] at hl'
 by_cases e:t=t'
 ·subst e
  simp only [if_true,Option.some.injEq] at hl'
  subst hl'
  rw [(ha.look t _ hl).sc_inv]
  exact hv.im
 ·rw [if_neg e] at hl'
  exact ha'.look t' v' hl'
end
end Go.Proofs.YtamjlkdanllgjaaGreatDoor
namespace Go.Proofs.YtamjlkdanllgjaaGreatDoor
open Go.RowKit
theorem AC.sub {P:Program} {f:FuncId} {args:List AV} {L:AL} {Post Post':AV→AL→Prop} (h:AC P f args L Post) (k:∀c L',Post c L'→∃L2:AL,L2.Sublist L'∧Post' c L2):AC P f args L Post':=fun σ w vs hv hs=>(h σ w vs hv hs).mono fun _ _ ⟨v,τ,c,L',h1,h2,h3,h4⟩=>by
 obtain ⟨L2,k1,k2⟩:=k c L' h4
 exact ⟨v,τ,c,L2,h1,h2,h3.sublist k1,k2⟩
theorem bH.nil {P:Program} {f:FuncId} {args:List AV} {u:AV} (h:bH P f args u):AC P f args [] fun c L=>c=u∧L=[]:=AC.sub h fun _ _ hc=>⟨[],List.nil_sublist _,hc,rfl⟩
section
variable {P:Program} {tt:TT} {r:Option Nat} {ops:Array Oper} {Q:Exit→Act→World→Prop} {nt:Nat} {D:List Deferred} {fr:bZ} {B:Bs} {L:AL} {rest:List Oper}
variable {d:Nat} {ty t:TypeId} {pos:String} {af:Array Edge} {x y:Operand} {u:AV}
theorem Fi {xs:List Int} {q:Nat} {z:Int}:eR (xs.map aG) q [aG z]=(xs.set q z).map aG:=by
 rw [gu]
 rw [List.map_set]
theorem HJ (ok:eh P tt) (i q:Nat) {b p:Nat} {xs:List Int} {e:TypeId} {z:Int} (ht:HZ tt t=true) (hx:bw fr x=some (.sc (.pointer (some ⟨b,p,none⟩)))) (hp:p=q) (hL:L[i]?=some (b,.box (xs.map aG) e)) (hz:xs[q]?=some z) (hd:Nat.ble nt d=false) (h:bF P r ops Q nt D rest ((d,aG z)::fr) B L):
  bF P r ops Q nt D (⟨some d,.load t x,ty,pos,af,none⟩::rest) fr B L:=by
 subst hp
 exact aA ok i ht hx hL (by rw [List.getElem?_map,hz];rfl) hd h
theorem nG (ok:eh P tt) (i q:Nat) {b p:Nat} {xs:List Int} {e:TypeId} {z:Int} (ht:Il tt t=some 1) (hx:bw fr x=some (.sc (.pointer (some ⟨b,p,none⟩)))) (hp:p=q) (hy:bw fr y=some (aG z)) (hL:L[i]?=some (b,.box (xs.map aG) e)) (hq:q < xs.length) (h:bF P r ops Q nt D rest fr B (fN L i (.box ((xs.set q z).map aG) e))):
  bF P r ops Q nt D (⟨none,.store t x y,ty,pos,af,none⟩::rest) fr B L:=by
 subst hp
 refine ai ok i (ys:=[aG z]) ht hx hy rfl hL rfl (Nat.ble_eq_true_of_le (by simp;omega)) ?_
 rw [Fi]
 exact h
theorem gt (ok:eh P tt) (i q:Nat) {b p:Nat} {cs:List AV} {e:TypeId} (ht:Il tt t=some 1) (hx:bw fr x=some (.sc (.pointer (some ⟨b,p,none⟩)))) (hp:p=q) (hy:bw fr y=some u) (hu:u.cells=some [u]) (hL:L[i]?=some (b,.box cs e)) (hq:q < cs.length) (h:bF P r ops Q nt D rest fr B (fN L i (.box (cs.set q u) e))):
  bF P r ops Q nt D (⟨none,.store t x y,ty,pos,af,none⟩::rest) fr B L:=by
 subst hp
 refine ai ok i ht hx hy hu hL rfl (Nat.ble_eq_true_of_le hq) ?_
 rw [gu]
 exact h
theorem Db {dd:Option Tmp} {g:Option (Nat×Bool)} {e sz by_ b off n cap lo:Nat} {k:IntKind} {a:Int} (hc:m8 P t e sz by_) (hx:bw fr x=some (.sc (.slice (some ⟨b,off,none⟩) n cap))) (hy:bw fr y=some (.sc (.int k a))) (ha:a=(lo:Int)) (h:lo≤n) (hn:n≤cap):Av P ⟨dd,.slice t x (some y) none none,ty,pos,af,g⟩ fr (.sc (.slice (some ⟨b,if cap=lo then off else off+lo * sz,none⟩) (n - lo) (cap - lo))):=by
 intro σ ρ w hρ _
 subst ha
 haveI:=hc
 refine ⟨_,?_,.sc _⟩
 by_cases h3:cap=lo
 ·have:n=lo:=by omega
  subst h3;subst this
  simp [execOp,(hρ x _ hx).sc_inv,(hρ y _ hy).sc_inv,Instr.sliceAt,Instr.slice,Instr.sliceBounds,Instr.sliceBound,asIntOf,run_underlying hc.under,eU (t:=t)]
 ·simp [execOp,(hρ x _ hx).sc_inv,(hρ y _ hy).sc_inv,Instr.sliceAt,Instr.slice,Instr.sliceBounds,Instr.sliceBound,asIntOf,run_underlying hc.under,eU (t:=t),h,h3,eN]
theorem wl (ok:eh P tt) (lo:Nat) {e sz by_ b off n cap:Nat} {k:IntKind} {a:Int} (ht:jW tt t=some (e,sz,by_)) (hx:bw fr x=some (.sc (.slice (some ⟨b,off,none⟩) n cap))) (hy:bw fr y=some (.sc (.int k a))) (ha:a=(lo:Int)) (h1:lo≤n) (hn:n≤cap) (hd:Nat.ble nt d=false) (h:bF P r ops Q nt D rest ((d,.sc (.slice (some ⟨b,if cap=lo then off else off+lo * sz,none⟩) (n - lo) (cap - lo)))::fr) B L):
  bF P r ops Q nt D (⟨some d,.slice t x (some y) none none,ty,pos,af,none⟩::rest) fr B L:=cz (Db (bE ok ht).1 hx hy ha h1 hn) hd rfl h
theorem wn (ok:eh P tt) (n:Nat) {e sz by_:Nat} {k k':IntKind} {bb:Int} {zs:List Value} (ht:jW tt t=some (e,sz,by_)) (hz:zI tt e=some zs) (h1:zs.all (·.oneCell')=true) (hx:bw fr x=some (.sc (.int k 0))) (hy:bw fr y=some (.sc (.int k' bb))) (hb:bb=(n:Int)) (hby:by_ * n≤281474976710656) (h63:n≤9223372036854775807) (hd:Nat.ble nt d=false)
  (h:∀b,bF P r ops Q nt D rest ((d,.sc (.slice (some ⟨b,0,none⟩) 0 n))::fr) B ((b,.box ((List.replicate n (zs.map .sc)).flatten) e)::L)):bF P r ops Q nt D (⟨some d,.makeSlice t x y,ty,pos,af,none⟩::rest) fr B L:=by
 obtain ⟨hc,hsz⟩:=bE ok ht
 have hzz:=eA ok hz
 refine cn (R:=fun c L'=>∃b,c= .sc (.slice (some ⟨b,0,none⟩) 0 n)∧L'=(b,.box ((List.replicate n (zs.map .sc)).flatten) e)::L) hd rfl (fun σ ρ w hρ hw=>?_) fun c L' ⟨b,h1,h2⟩=>by subst h1;subst h2;exact h b
 subst hb
 have hr:=oX (n:=0) (d:=some d) (ty:=ty) (pos:=pos) (af:=af) (g:=none) hc hzz hsz hby h63 (Nat.zero_le n) w ρ (hρ x _ hx).sc_inv (hρ y _ hy).sc_inv
 unfold i8
 rw [hr]
 have hfl:∀m,(List.replicate m (zs.map AV.sc)).flatten=((List.replicate m zs).flatten).map AV.sc:=by
  intro m
  induction m with
  | zero=>rfl
  | succ m ih=>rw [List.replicate_succ,List.replicate_succ,List.flatten_cons,List.flatten_cons,List.map_append,ih]
 refine ⟨σ,_,_,cm.le_refl _,.sc _,hw.alloc _ (.box ((List.replicate n (zs.map .sc)).flatten) e) ⟨_,rfl,?_,fun u hu=>?_⟩,_,rfl,rfl⟩
 ·rw [hfl]
  refine ⟨by simp,fun i c u hc hu=>?_⟩
  rw [List.getElem?_map,hu] at hc
  simp at hc
  subst hc
  exact .sc u
 ·obtain ⟨q,hq,hu⟩:=List.mem_flatten.1 hu
  rw [List.eq_of_mem_replicate hq] at hu
  exact List.all_eq_true.1 h1 u hu
theorem rM (xs:List Int):xs.map aG=(aL xs).flatten:=by
 induction xs with
 | nil=>rfl
 | cons x r ih=>
  show aG x::r.map aG=_
  rw [ih]
  rfl
theorem CP {t b e n cap:Nat} {xs:List Int} (ys:List Int) (i:Nat) (hl:ce fr t=some (.sc (.slice (some ⟨b,0,none⟩) n cap))) (hL:L[i]?=some (b,.box (xs.map aG) e)) (hy:xs.take n=ys) (hn:n≤xs.length) (hnc:n≤cap) (hm:cap≤maxLen):mq nt D B fr L ((t,.imm 1 (aL ys))::fr) (L.eraseIdx i):=by
 subst hy
 refine dl i hl hL ?_ (by simp;omega) (fun q hq=>?_) (by rw [aP,List.length_take];omega) hnc hm
 ·rw [←rM,Nat.mul_one,List.map_take]
 ·obtain ⟨z,_,rfl⟩:=List.mem_map.1 hq
  rfl
theorem Dy {C:Code} (ks:List Nat) (fr1:bZ) (L1:AL) (hA:∀Q',(∀fr',fL fr' ks=some fr1→AX P .normal Q' nt D fr' B L1)→bF P r ops Q' nt D rest fr B L) (hB:AT P r C Q nt D fr1 B L1):bF P r ops (Kt P r C Q) nt D rest fr B L:=
 hA _ fun _ h=>a8 (qk ks h hB)
theorem GB {X C:Code} {fr1:bZ} (ks:List Nat) (L1:AL) (hk:fL fr ks=some fr1) (hA:∀Q',(∀fr',fL fr' ks=some fr1→AX P .normal Q' nt D fr' B L1)→bF P r ops (Kt P r X Q') nt D rest fr B L) (hB:AT P r C Q nt D fr1 B L1):bF P r ops (Kt P r X (Kt P r C Q)) nt D rest fr B L:=
 hA _ fun _ h=>a8 (qk ks h hB)
end
section
variable {P:Program} {tt:TT} {l:List Oper} {fr:bZ} {fin:kV} {sk:mT} {acc:bZ} {L:AL} {k:Nat} {dd:Option Tmp} {ty t t':TypeId} {pos:String} {af:Array Edge} {g:Option (Nat×Bool)} {x y z:Operand} {u:AV}
theorem eu (ok:eh P tt) (i q:Nat) {b p:Nat} {cs:List AV} {e:TypeId} (ht:HZ tt t=true) (hx:bw (cO l.toArray acc fr af.toList) x=some (.sc (.pointer (some ⟨b,p,none⟩)))) (hp:p=q) (hL:L[i]?=some (b,.box cs e)) (hz:cs[q]?=some u) (hg:j6 ⟨dd,.load t x,ty,pos,af,g⟩ acc) (h:DA P l fr fin sk ((k,u)::acc) L):cu P l fr fin k .l ⟨dd,.load t x,ty,pos,af,g⟩ sk acc L:=by
 subst hp
 exact cW ok i ht hx hL hz hg h
theorem nf (ok:eh P tt) (i q:Nat) {b p:Nat} {cs:List AV} {e:TypeId} (ht:Il tt t=some 1) (hx:bw (cO l.toArray acc fr af.toList) x=some (.sc (.pointer (some ⟨b,p,none⟩)))) (hp:p=q) (hy:bw (cO l.toArray acc fr af.toList) y=some u) (hu:u.cells=some [u]) (hL:L[i]?=some (b,.box cs e)) (hq:q < cs.length) (hg:j6 ⟨dd,.store t x y,ty,pos,af,g⟩ acc) (h:∀c,DA P l fr fin sk ((k,c)::acc) (fN L i (.box (cs.set q u) e))):cu P l fr fin k .e ⟨dd,.store t x y,ty,pos,af,g⟩ sk acc L:=by
 subst hp
 refine vP ok i ht hx hy hu hL rfl (Nat.ble_eq_true_of_le hq) hg fun c=>?_
 rw [gu]
 exact h c
end
end Go.Proofs.YtamjlkdanllgjaaGreatDoor
namespace Go.Proofs.YtamjlkdanllgjaaGreatDoor
open Go.RowKit
attribute [local irreducible] AT bF AX AO Av Kt b8 d9 DA cu
set_option maxRecDepth 8000
theorem bY {l:List (List AV)} {sz:Nat} (hs:∀e∈l,e.length=sz):l.flatten.length=l.length * sz:=by
 induction l with
 | nil=>simp
 | cons x r ih=>rw [List.flatten_cons,List.length_append,ih (fun e he=>hs e (Ot _ he)),hs x (List.mem_cons_self ..),List.length_cons,Nat.add_mul,Nat.one_mul,Nat.add_comm]
theorem gg (n:Nat) (zs:List AV):(List.replicate n zs).flatten.length=n * zs.length:=by
 rw [bY (sz:=zs.length) (fun e he=>by rw [List.eq_of_mem_replicate he]),List.length_replicate]
theorem my {zs es:List AV} {n sz:Nat} (h2:es.length=n * sz) (h:zs.length=sz):(List.replicate n zs).flatten.take 0++es.take (min n n * sz)++(List.replicate n zs).flatten.drop (0+min n n * sz)=es:=by
 have h1:=gg n zs
 rw [h] at h1
 rw [Nat.min_self,List.take_zero,Oo,Nat.zero_add,List.drop_of_length_le (by omega),List.append_nil,List.take_of_length_le (by omega)]
theorem Me (l:List (List AV)) (hs:∀e∈l,e.length=2) (hl:l.length≤1000000):bH Tryz.prog 46 [.imm 2 l] (.imm 2 l):=by
 refine aQ Tryz.func46 rfl Tryz.ntmps46 rfl fun B=>?_
 refine W01 ?_
 refine aw rfl (fun h=>?_) (fun h=>?_)
 ·have h0:l=[]:=List.length_eq_zero_iff.1 (by have:=Oy h;omega)
  subst h0
  clear h
  refine W01 ?_
  refine b7 (bq (t:=2) rfl fun σ v h=>dV 2 h) ?_
  exact OL NZ
 ·clear h
  refine W01 ?_
  refine ej a7 l.length rfl rfl rfl rfl rfl rfl rfl (by omega) (by omega) rfl fun b=>?_
  refine W01 ?_
  refine kx a7 0 rfl rfl (gy rfl rfl) rfl (by rw [gg,Nat.min_self,Nat.zero_add];exact Nat.le_refl _) rfl ?_
  rw [my (bY hs)]
  ·refine W01 ?_
   refine b7 (dl (t:=2) (sz:=2) (l:=l) 0 rfl rfl (List.take_of_length_le (by rw [bY hs];omega)) (by rw [bY hs];omega) hs rfl (Nat.le_refl _) (by unfold maxLen;omega)) ?_
   exact OL NZ
  ·rfl
theorem wM (l:List (List AV)) (hs:∀e∈l,e.length=1) (hl:l.length≤1000000):bH Tryz.prog 50 [.imm 1 l] (.imm 1 l):=by
 refine aQ Tryz.func50 rfl Tryz.ntmps50 rfl fun B=>?_
 refine W01 ?_
 refine aw rfl (fun h=>?_) (fun h=>?_)
 ·have h0:l=[]:=List.length_eq_zero_iff.1 (by have:=Oy h;omega)
  subst h0
  clear h
  refine W01 ?_
  refine b7 (bq (t:=2) rfl fun σ v h=>dV 1 h) ?_
  exact OL NZ
 ·clear h
  refine W01 ?_
  refine ej a7 l.length rfl rfl rfl rfl rfl rfl rfl (by omega) (by omega) rfl fun b=>?_
  refine W01 ?_
  refine kx a7 0 rfl rfl (gy rfl rfl) rfl (by rw [gg,Nat.min_self,Nat.zero_add];exact Nat.le_refl _) rfl ?_
  rw [my (bY hs)]
  ·refine W01 ?_
   refine b7 (dl (t:=2) (sz:=1) (l:=l) 0 rfl rfl (List.take_of_length_le (by rw [bY hs];omega)) (by rw [bY hs];omega) hs rfl (Nat.le_refl _) (by unfold maxLen;omega)) ?_
   exact OL NZ
  ·rfl
theorem Mf (l:List (List AV)) (hs:∀e∈l,e.length=2) (hl:l.length≤1000000):bH Tryz.prog 79 [.imm 2 l] (.imm 2 l):=by
 refine aQ Tryz.func79 rfl Tryz.ntmps79 rfl fun B=>?_
 refine W01 ?_
 refine aw rfl (fun h=>?_) (fun h=>?_)
 ·have h0:l=[]:=List.length_eq_zero_iff.1 (by have:=Oy h;omega)
  subst h0
  clear h
  refine W01 ?_
  refine b7 (bq (t:=2) rfl fun σ v h=>dV 2 h) ?_
  exact OL NZ
 ·clear h
  refine W01 ?_
  refine ej a7 l.length rfl rfl rfl rfl rfl rfl rfl (by omega) (by omega) rfl fun b=>?_
  refine W01 ?_
  refine kx a7 0 rfl rfl (gy rfl rfl) rfl (by rw [gg,Nat.min_self,Nat.zero_add];exact Nat.le_refl _) rfl ?_
  rw [my (bY hs)]
  ·refine W01 ?_
   refine b7 (dl (t:=2) (sz:=2) (l:=l) 0 rfl rfl (List.take_of_length_le (by rw [bY hs];omega)) (by rw [bY hs];omega) hs rfl (Nat.le_refl _) (by unfold maxLen;omega)) ?_
   exact OL NZ
  ·rfl
theorem J3 (l:List (List AV)) (hs:∀e∈l,e.length=2) (hl:l.length≤1000000):bH Tryz.prog 80 [.imm 2 l] (.imm 2 l):=by
 refine aQ Tryz.func80 rfl Tryz.ntmps80 rfl fun B=>?_
 refine W01 ?_
 refine aw rfl (fun h=>?_) (fun h=>?_)
 ·have h0:l=[]:=List.length_eq_zero_iff.1 (by have:=Oy h;omega)
  subst h0
  clear h
  refine W01 ?_
  refine b7 (bq (t:=2) rfl fun σ v h=>dV 2 h) ?_
  exact OL NZ
 ·clear h
  refine W01 ?_
  refine ej a7 l.length rfl rfl rfl rfl rfl rfl rfl (by omega) (by omega) rfl fun b=>?_
  refine W01 ?_
  refine kx a7 0 rfl rfl (gy rfl rfl) rfl (by rw [gg,Nat.min_self,Nat.zero_add];exact Nat.le_refl _) rfl ?_
  rw [my (bY hs)]
  ·refine W01 ?_
   refine b7 (dl (t:=2) (sz:=2) (l:=l) 0 rfl rfl (List.take_of_length_le (by rw [bY hs];omega)) (by rw [bY hs];omega) hs rfl (Nat.le_refl _) (by unfold maxLen;omega)) ?_
   exact OL NZ
  ·rfl
theorem Kx (l:List (List AV)) (hs:∀e∈l,e.length=3) (hl:l.length≤1000000):bH Tryz.prog 154 [.imm 3 l] (.imm 3 l):=by
 refine aQ Tryz.func154 rfl Tryz.ntmps154 rfl fun B=>?_
 refine W01 ?_
 refine aw rfl (fun h=>?_) (fun h=>?_)
 ·have h0:l=[]:=List.length_eq_zero_iff.1 (by have:=Oy h;omega)
  subst h0
  clear h
  refine W01 ?_
  refine b7 (bq (t:=2) rfl fun σ v h=>dV 3 h) ?_
  exact OL NZ
 ·clear h
  refine W01 ?_
  refine ej a7 l.length rfl rfl rfl rfl rfl rfl rfl (by omega) (by omega) rfl fun b=>?_
  refine W01 ?_
  refine kx a7 0 rfl rfl (gy rfl rfl) rfl (by rw [gg,Nat.min_self,Nat.zero_add];exact Nat.le_refl _) rfl ?_
  rw [my (bY hs)]
  ·refine W01 ?_
   refine b7 (dl (t:=2) (sz:=3) (l:=l) 0 rfl rfl (List.take_of_length_le (by rw [bY hs];omega)) (by rw [bY hs];omega) hs rfl (Nat.le_refl _) (by unfold maxLen;omega)) ?_
   exact OL NZ
  ·rfl
theorem Ky (l:List (List AV)) (hs:∀e∈l,e.length=3) (hl:l.length≤1000000):bH Tryz.prog 155 [.imm 3 l] (.imm 3 l):=by
 refine aQ Tryz.func155 rfl Tryz.ntmps155 rfl fun B=>?_
 refine W01 ?_
 refine aw rfl (fun h=>?_) (fun h=>?_)
 ·have h0:l=[]:=List.length_eq_zero_iff.1 (by have:=Oy h;omega)
  subst h0
  clear h
  refine W01 ?_
  refine b7 (bq (t:=2) rfl fun σ v h=>dV 3 h) ?_
  exact OL NZ
 ·clear h
  refine W01 ?_
  refine ej a7 l.length rfl rfl rfl rfl rfl rfl rfl (by omega) (by omega) rfl fun b=>?_
  refine W01 ?_
  refine kx a7 0 rfl rfl (gy rfl rfl) rfl (by rw [gg,Nat.min_self,Nat.zero_add];exact Nat.le_refl _) rfl ?_
  rw [my (bY hs)]
  ·refine W01 ?_
   refine b7 (dl (t:=2) (sz:=3) (l:=l) 0 rfl rfl (List.take_of_length_le (by rw [bY hs];omega)) (by rw [bY hs];omega) hs rfl (Nat.le_refl _) (by unfold maxLen;omega)) ?_
   exact OL NZ
  ·rfl
theorem Kz (l:List (List AV)) (hs:∀e∈l,e.length=4) (hl:l.length≤1000000):bH Tryz.prog 156 [.imm 4 l] (.imm 4 l):=by
 refine aQ Tryz.func156 rfl Tryz.ntmps156 rfl fun B=>?_
 refine W01 ?_
 refine aw rfl (fun h=>?_) (fun h=>?_)
 ·have h0:l=[]:=List.length_eq_zero_iff.1 (by have:=Oy h;omega)
  subst h0
  clear h
  refine W01 ?_
  refine b7 (bq (t:=2) rfl fun σ v h=>dV 4 h) ?_
  exact OL NZ
 ·clear h
  refine W01 ?_
  refine ej a7 l.length rfl rfl rfl rfl rfl rfl rfl (by omega) (by omega) rfl fun b=>?_
  refine W01 ?_
  refine kx a7 0 rfl rfl (gy rfl rfl) rfl (by rw [gg,Nat.min_self,Nat.zero_add];exact Nat.le_refl _) rfl ?_
  rw [my (bY hs)]
  ·refine W01 ?_
   refine b7 (dl (t:=2) (sz:=4) (l:=l) 0 rfl rfl (List.take_of_length_le (by rw [bY hs];omega)) (by rw [bY hs];omega) hs rfl (Nat.le_refl _) (by unfold maxLen;omega)) ?_
   exact OL NZ
  ·rfl
set_option maxRecDepth 8000
def eS {β:Type} (e:β→AV) (l:List β) (i:Nat):List AV:=(l.take i).map e++List.replicate (l.length - i) (.sc (.slice none 0 0))
theorem kD {β:Type} (e:β→AV) (l:List β) {i:Nat} (hi:i≤l.length):(eS e l i).length=l.length:=by
 unfold eS
 rw [List.length_append,Ou,List.length_take,List.length_replicate]
 omega
theorem rZ {β:Type} (e:β→AV) {l:List β} {i:Nat} {z:β} (h:l[i]?=some z):(eS e l i).set i (e z)=eS e l (i+1):=by
 have hi:=(Ol h).1
 have hl:((l.take i).map e).length=i:=by rw [Ou,List.length_take];omega
 unfold eS
 rw [List.set_append_right _ _ (by omega),hl,Nat.sub_self,show l.length - i=(l.length - (i+1))+1 by omega,List.replicate_succ,List.set_cons_zero,List.take_add_one,h,List.map_append,List.append_assoc]
 rfl
theorem pQ {β:Type} (e:β→AV) (l:List β):(List.replicate l.length ([Value.slice none 0 0].map AV.sc)).flatten=eS e l 0:=by
 unfold eS
 simp
theorem rY {β:Type} (e:β→AV) (l:List β):eS e l l.length=(l.map fun q=>[e q]).flatten:=by
 unfold eS
 rw [List.take_length,Nat.sub_self]
 simp only [List.replicate_zero,List.append_nil]
 induction l with
 | nil=>rfl
 | cons x r ih=>rw [Om,ih];rfl
theorem yG (l:List (List Int)) (hl:l.length≤1000000) (hr:∀q∈l,q.length≤1000000):bH Tryz.prog 78 [.imm 1 (aZ l)] (.imm 1 (aZ l)):=by
 refine aQ Tryz.func78 rfl Tryz.ntmps78 rfl fun B=>?_
 have hll:(aZ l).length=l.length:=Ou ..
 refine W01 ?_
 refine ej a7 l.length rfl rfl rfl rfl rfl (by rw [hll]) (by rw [hll]) (by omega) (by omega) rfl fun b=>?_
 rw [show (List.replicate l.length (List.map AV.sc _)).flatten=eS (fun q:List Int=> .imm 1 (aL q)) l 0 from pQ _ _]
 refine W03 ?_
 refine aJ [0,3,9] (α:=Nat) (fun i=>[(10,aG i)]) (fun i=>i≤l.length) (fun i=>[(b,.box (eS (fun q:List Int=> .imm 1 (aL q)) l i) _)]) (fun i=>l.length - i) 0 rfl ⟨rfl,trivial⟩ (Nat.zero_le _) (fun _ _ h=>h) fun i hi=>?_
 try dsimp only [Oq,Oo,Om,Oh]
 refine W01 ?_
 refine aw rfl (fun h=>?_) (fun h=>?_)
 ·have hil:i < l.length:=by have:=Oy h;omega
  obtain ⟨z,hz⟩:∃z,l[i]?=some z:=⟨_,Oz hil⟩
  have hzg:(aZ l)[i]?=some [(fun q:List Int=> .imm 1 (aL q)) z]:=by show (l.map _)[i]?=_;rw [List.getElem?_map,hz];rfl
  clear h
  refine W08 ?_
  refine b9 (hc:=⟨wM (aL z) (fun q hq=>by obtain ⟨y,_,rfl⟩:=List.mem_map.1 hq;rfl) (by rw [aP];exact hr z (Ow hz))⟩) ?_
  refine W0i ?_
  refine gt a7 0 i rfl rfl (by omega) rfl rfl rfl (by rw [kD _ _ hi];exact hil) ?_
  rw [show (eS (fun q:List Int=> .imm 1 (aL q)) l i).set i _=eS (fun q:List Int=> .imm 1 (aL q)) l (i+1) from rZ (fun q:List Int=> .imm 1 (aL q)) hz]
  refine W02 ?_
  exact aD (i+1) rfl ⟨by rw [Ov];rfl,trivial⟩ hil (by omega) (fun _ _ h=>h)
 ·have hil:i=l.length:=by have:=Ox h;omega
  subst hil
  refine W01 ?_
  have hfl:eS (fun q:List Int=> .imm 1 (aL q)) l l.length=(aZ l).flatten:=rY _ _
  have hcl:=kD (fun q:List Int=> .imm 1 (aL q)) l (Nat.le_refl _)
  refine b7 (dl (t:=2) (sz:=1) (l:=aZ l) 0 rfl rfl (by rw [Nat.mul_one,List.take_of_length_le (by omega),hfl]) (by omega) (fun q hq=>by obtain ⟨y,_,rfl⟩:=List.mem_map.1 hq;rfl) hll (Nat.le_refl _) (by unfold maxLen;omega)) ?_
  exact OL NZ
theorem KA (l:List (List eW)) (hl:l.length≤1000000) (hr:∀q∈l,q.length≤1000000):bH Tryz.prog 49 [.imm 1 (l.map d6)] (.imm 1 (l.map d6)):=by
 refine aQ Tryz.func49 rfl Tryz.ntmps49 rfl fun B=>?_
 have hll:(l.map d6).length=l.length:=Ou ..
 refine W01 ?_
 refine ej a7 l.length rfl rfl rfl rfl rfl (by rw [hll]) (by rw [hll]) (by omega) (by omega) rfl fun b=>?_
 rw [show (List.replicate l.length (List.map AV.sc _)).flatten=eS (fun q:List eW=> .imm 2 (q.map dX)) l 0 from pQ _ _]
 refine W03 ?_
 refine aJ [0,3,9] (α:=Nat) (fun i=>[(10,aG i)]) (fun i=>i≤l.length) (fun i=>[(b,.box (eS (fun q:List eW=> .imm 2 (q.map dX)) l i) _)]) (fun i=>l.length - i) 0 rfl ⟨rfl,trivial⟩ (Nat.zero_le _) (fun _ _ h=>h) fun i hi=>?_
 try dsimp only [Oq,Oo,Om,Oh]
 refine W01 ?_
 refine aw rfl (fun h=>?_) (fun h=>?_)
 ·have hil:i < l.length:=by have:=Oy h;omega
  obtain ⟨z,hz⟩:∃z,l[i]?=some z:=⟨_,Oz hil⟩
  have hzg:(l.map d6)[i]?=some [(fun q:List eW=> .imm 2 (q.map dX)) z]:=by show (l.map _)[i]?=_;rw [List.getElem?_map,hz];rfl
  clear h
  refine W08 ?_
  refine b9 (hc:=⟨J3 (z.map dX) (fun q hq=>by obtain ⟨y,_,rfl⟩:=List.mem_map.1 hq;rfl) (by rw [Ou];exact hr z (Ow hz))⟩) ?_
  refine W0i ?_
  refine gt a7 0 i rfl rfl (by omega) rfl rfl rfl (by rw [kD _ _ hi];exact hil) ?_
  rw [show (eS (fun q:List eW=> .imm 2 (q.map dX)) l i).set i _=eS (fun q:List eW=> .imm 2 (q.map dX)) l (i+1) from rZ (fun q:List eW=> .imm 2 (q.map dX)) hz]
  refine W02 ?_
  exact aD (i+1) rfl ⟨by rw [Ov];rfl,trivial⟩ hil (by omega) (fun _ _ h=>h)
 ·have hil:i=l.length:=by have:=Ox h;omega
  subst hil
  refine W01 ?_
  have hfl:eS (fun q:List eW=> .imm 2 (q.map dX)) l l.length=(l.map d6).flatten:=rY _ _
  have hcl:=kD (fun q:List eW=> .imm 2 (q.map dX)) l (Nat.le_refl _)
  refine b7 (dl (t:=2) (sz:=1) (l:=l.map d6) 0 rfl rfl (by rw [Nat.mul_one,List.take_of_length_le (by omega),hfl]) (by omega) (fun q hq=>by obtain ⟨y,_,rfl⟩:=List.mem_map.1 hq;rfl) hll (Nat.le_refl _) (by unfold maxLen;omega)) ?_
  exact OL NZ
end Go.Proofs.YtamjlkdanllgjaaGreatDoor
