/-
  Rows that are grown ahead.
-/
import Derived.Test.YtamjlkdanllgjaaGreatDoorM06
import Derived.Lib.AppendZeros
import Derived.Test.YtamjlkdanllgjaaGreatDoorM04
import Derived.Test.YtamjlkdanllgjaaGreatDoorProg
import Derived.KernelRfl
namespace Go.Proofs.YtamjlkdanllgjaaGreatDoor
open Go.RowKit
section
variable {P:Program} {fr:bY} {B:Bs} {L:AL} {d:Option Tmp} {ty t t' tn:TypeId} {pos:String} {af:Array Edge} {g:Option (Nat×Bool)} {x y z q:Operand} {u:AV}
theorem wh {e sz by_ n:Nat} {k kn:IntKind} {a:Int} (hc:lQ P t e sz by_) (hsz:0 < sz) (hn:P.underlying tn=some (.int kn)) (hx:br fr x=some (.sc (.slice none 0 0))) (hy:br fr y=some (.sc (.int k a))) (ha:a=(n:Int)) (h0:0 < n) (h63:n≤9223372036854775807) (hby:n * by_≤281474976710656):
  AO P ⟨d,.call ⟨.builtin .append,#[x,y],#[t,tn]⟩,ty,pos,af,g⟩ fr B L (fun r L'=>∃b cap,r= .sc (.slice (some ⟨b,0,none⟩) n cap)∧n≤cap∧cap≤maxLen∧L'=(b,.vec e sz 0 cap)::L):=by
 intro σ ρ w hρ hw
 subst ha
 haveI:=hc
 obtain ⟨inf,zz,hi,rfl,rfl,hzz,hzs⟩:=hc.info
 have hr:=Lib.run_append_nil_zeros (P:=P) w t tn ty e inf zz k kn hc.under hn hi hzz n h0 hsz (by omega) hby
 unfold gX
 rw [show (execOp ρ ⟨d,.call ⟨.builtin .append,#[x,y],#[t,tn]⟩,ty,pos,af,g⟩).run P w= .ok (.value (.slice (some ⟨w.heap.size,0,none⟩) n (grownCap w n 0 e))) (w.drew.alloc (.cells (Builtin.zeroCells zz.cells n++Builtin.zeroCells zz.cells (grownCap w n 0 e - n)) e)) by
  simp [execOp,resolve,(hρ x _ hx).sc_inv,(hρ y _ hy).sc_inv,invoke,builtin,hr]]
 have hge:=grownCap_ge w n 0 e
 have hm:=grownCap_le_maxLen w n 0 e (by unfold maxLen;omega)
 refine ⟨σ,.sc _,_,cf.le_refl _,.sc _,(hw.drew _).alloc _ (.vec e inf.size 0 (grownCap w n 0 e)) ⟨_,rfl,?_,Nat.zero_le _,hm⟩,w.heap.size,_,rfl,hge,hm,rfl⟩
 rw [Array.size_append,size_zeroCells,size_zeroCells,hzs,←Nat.add_mul]
 congr 1
 omega
theorem H0 {A:Option Addr} {n c e sz by_:Nat} (hc:lQ P t e sz by_) (hx:br fr x=some (.sc (.slice A n c))):Av P ⟨d,.call ⟨.builtin .cap,#[x],#[t]⟩,ty,pos,af,g⟩ fr (.sc (.int .i64 c)):=
 ez fun ρ w hρ=>by simp [execOp,resolve,hρ _ _ hx,invoke,builtin,Builtin.cap_,run_underlying hc.under,Result.andThen,goInt]
theorem H3 {e sz by_:Nat} {k:IntKind} (hc:lQ P t e sz by_) (hx:br fr x=some (.sc (.slice none 0 0))) (hy:br fr y=some (.sc (.int k 0))):Av P ⟨d,.slice t x none (some y) none,ty,pos,af,g⟩ fr (.sc (.slice none 0 0)):=by
 intro σ ρ w hρ _
 haveI:=hc
 refine ⟨_,?_,.sc _⟩
 simp [execOp,(hρ x _ hx).sc_inv,(hρ y _ hy).sc_inv,Instr.sliceAt,Instr.slice,Instr.sliceBounds,Instr.sliceBound,asIntOf,run_underlying hc.under,fx (t:=t)]
end
section
variable {P:Program} {tt:TT} {r:Option Nat} {ops:Array Oper} {Q:Exit→Act→World→Prop} {nt:Nat} {D:List Deferred} {fr:bY} {B:Bs} {L:AL} {rest:List Oper} {d:Nat} {ty t t' tn:TypeId} {pos:String} {af:Array Edge} {x y z:Operand} {u:AV}
theorem A8 (ok:ej P tt) (n:Nat) {e sz by_:Nat} {k kn:IntKind} {a:Int} (ht:kz tt t=some (e,sz,by_)) (hn:P.underlying tn=some (.int kn)) (hx:br fr x=some (.sc (.slice none 0 0))) (hy:br fr y=some (.sc (.int k a))) (ha:a=(n:Int)) (h0:0 < n) (h63:n≤9223372036854775807) (hby:n * by_≤281474976710656) (hd:Nat.ble nt d=false)
  (h:∀b cap,n≤cap→cap≤maxLen→bB P r ops Q nt D rest ((d,.sc (.slice (some ⟨b,0,none⟩) n cap))::fr) B ((b,.vec e sz 0 cap)::L)):
  bB P r ops Q nt D (⟨some d,.call ⟨.builtin .append,#[x,y],#[t,tn]⟩,ty,pos,af,none⟩::rest) fr B L:=
 cj hd rfl (wh (bC ok ht).1 (bC ok ht).2 hn hx hy ha h0 h63 hby) fun q L' ⟨b,cap,h1,h2,h3,h4⟩=>by subst h1;subst h4;exact h b cap h2 h3
theorem CT (ok:ej P tt) {A:Option Addr} {n c e sz by_:Nat} (ht:kz tt t=some (e,sz,by_)) (hx:br fr x=some (.sc (.slice A n c))) (hd:Nat.ble nt d=false) (h:bB P r ops Q nt D rest ((d,.sc (.int .i64 c))::fr) B L):bB P r ops Q nt D (⟨some d,.call ⟨.builtin .cap,#[x],#[t]⟩,ty,pos,af,none⟩::rest) fr B L:=cU (H0 (bC ok ht).1 hx) hd rfl h
theorem HN (ok:ej P tt) {e sz by_:Nat} {k:IntKind} (ht:kz tt t=some (e,sz,by_)) (hx:br fr x=some (.sc (.slice none 0 0))) (hy:br fr y=some (.sc (.int k 0))) (hd:Nat.ble nt d=false) (h:bB P r ops Q nt D rest ((d,.sc (.slice none 0 0))::fr) B L):
  bB P r ops Q nt D (⟨some d,.slice t x none (some y) none,ty,pos,af,none⟩::rest) fr B L:=cU (H3 (bC ok ht).1 hx hy) hd rfl h
end
theorem G4 {σ:cf} {b cap sz:Nat} {v:Value} (hm:cap≤maxLen) (h:VR σ (.sc (.slice (some ⟨b,0,none⟩) 0 cap)) v):VR σ (.vec (some (b,cap)) sz []) v:=by
 rw [h.sc_inv]
 exact l7 (l:=[]) (xs:=[]) (by simp) cT.nil (by simp) (Nat.zero_le _) hm (by simp)
end Go.Proofs.YtamjlkdanllgjaaGreatDoor
namespace Go.Proofs.YtamjlkdanllgjaaGreatDoor
open Go.RowKit
theorem ak {P:Program} {f:FuncId} {fn:Func} {c:Code} (hf:P.funcs[f]?=some fn) (hname:(fn.name== "runtime.NumGoroutine")=false) (hb:fn.body=some c):∀args w,(callFunc f args).run P w= .ok (.enter f args) w:=by
 intro args w
 have hne:¬fn.name= "runtime.NumGoroutine" :=by simpa using hname
 simp [callFunc,hf,hne,hb]
theorem mixed:Tryz.prog.follows .mixedOrders=true:=by kernel_rfl
def tt:TT:=[none,
 some ⟨.other,1,[.nilFunc]⟩,
 some ⟨.int .i64,1,[.int .i64 0]⟩,
 some ⟨.int .i64,1,[.int .i64 0]⟩,
 some ⟨.bool,1,[.bool false]⟩,
 some ⟨.int .u8,1,[.int .u8 0]⟩,
 some ⟨.int .u8,1,[.int .u8 0]⟩,
 some ⟨.struct [(0,1,false),(1,1,false),(2,1,false),(3,1,false)],4,[.int .i64 0,.int .i64 0,.bool false,.int .u8 0]⟩,
 some ⟨.struct [(0,1,false),(1,1,false),(2,1,false),(3,1,false)],4,[.int .i64 0,.int .i64 0,.bool false,.int .u8 0]⟩,
 some ⟨.str,1,[.string ⟨#[]⟩]⟩,
 some ⟨.str,1,[.string ⟨#[]⟩]⟩,
 some ⟨.str,1,[.string ⟨#[]⟩]⟩,
 some ⟨.int .u64,1,[.int .u64 0]⟩,
 some ⟨.struct [(0,1,false),(1,1,false)],2,[.string ⟨#[]⟩,.int .u64 0]⟩,
 some ⟨.struct [(0,1,false),(1,1,false)],2,[.string ⟨#[]⟩,.int .u64 0]⟩,
 some ⟨.other,1,[.pointer none]⟩,
 some ⟨.other,1,[.pointer none]⟩,
 some ⟨.other,1,[.pointer none]⟩,
 some ⟨.struct [(0,1,false)],1,[.pointer none]⟩,
 some ⟨.struct [(0,1,false)],1,[.pointer none]⟩,
 some ⟨.other,1,[.nilIface]⟩,
 some ⟨.int .i32,1,[.int .i32 0]⟩,
 some ⟨.slice 3 1 8,1,[.slice none 0 0]⟩,
 some ⟨.int .u16,1,[.int .u16 0]⟩,
 some ⟨.struct [(0,1,false),(1,1,false),(2,1,false),(3,1,false)],4,[.slice none 0 0,.slice none 0 0,.slice none 0 0,.int .u16 0]⟩,
 some ⟨.struct [(0,1,false),(1,1,false),(2,1,false),(3,1,false)],4,[.slice none 0 0,.slice none 0 0,.slice none 0 0,.int .u16 0]⟩,
 some ⟨.slice 9 1 16,1,[.slice none 0 0]⟩,
 some ⟨.other,1,[.nilFunc]⟩,
 some ⟨.slice 67 9 176,1,[.slice none 0 0]⟩,
 some ⟨.slice 58 2 16,1,[.slice none 0 0]⟩,
 some ⟨.slice 76 3 40,1,[.slice none 0 0]⟩,
 some ⟨.slice 78 2 40,1,[.slice none 0 0]⟩,
 some ⟨.slice 131 4 40,1,[.slice none 0 0]⟩,
 some ⟨.slice 134 1 24,1,[.slice none 0 0]⟩,
 some ⟨.slice 65 1 24,1,[.slice none 0 0]⟩,
 some ⟨.struct [(0,1,false),(1,1,false),(2,1,false),(3,1,false),(4,1,false),(5,1,false),(6,1,false),(7,1,false),(8,1,false)],9,[.int .i64 0,.slice none 0 0,.slice none 0 0,.slice none 0 0,.slice none 0 0,.slice none 0 0,.slice none 0 0,.slice none 0 0,.slice none 0 0]⟩,
 some ⟨.struct [(0,1,false),(1,1,false),(2,1,false),(3,1,false),(4,1,false),(5,1,false),(6,1,false),(7,1,false),(8,1,false)],9,[.int .i64 0,.slice none 0 0,.slice none 0 0,.slice none 0 0,.slice none 0 0,.slice none 0 0,.slice none 0 0,.slice none 0 0,.slice none 0 0]⟩,
 some ⟨.other,1,[.nilFunc]⟩,
 some ⟨.other,1,[.nilFunc]⟩,
 some ⟨.slice 22 1 24,1,[.slice none 0 0]⟩,
 none,
 some ⟨.other,1,[.nilFunc]⟩,
 some ⟨.struct [(0,1,false),(1,1,false)],2,[.slice none 0 0,.slice none 0 0]⟩,
 some ⟨.struct [(0,1,false),(1,1,false)],2,[.slice none 0 0,.slice none 0 0]⟩,
 some ⟨.other,1,[.nilFunc]⟩,
 some ⟨.other,1,[.nilFunc]⟩,
 some ⟨.other,1,[.nilFunc]⟩,
 some ⟨.other,1,[.nilFunc]⟩,
 some ⟨.slice 56 6 48,1,[.slice none 0 0]⟩,
 some ⟨.other,1,[.nilFunc]⟩,
 some ⟨.other,1,[.nilFunc]⟩,
 some ⟨.other,1,[.nilFunc]⟩,
 some ⟨.int .i64,1,[.int .i64 0]⟩,
 none,
 some ⟨.other,1,[.nilFunc]⟩,
 some ⟨.struct [(0,1,false),(1,1,false),(2,1,false),(3,1,false),(4,1,false),(5,1,false)],6,[.int .i64 0,.int .i64 0,.int .i64 0,.int .i64 0,.int .i64 0,.int .i64 0]⟩,
 some ⟨.struct [(0,1,false),(1,1,false),(2,1,false),(3,1,false),(4,1,false),(5,1,false)],6,[.int .i64 0,.int .i64 0,.int .i64 0,.int .i64 0,.int .i64 0,.int .i64 0]⟩,
 some ⟨.struct [(0,1,false),(1,1,false)],2,[.int .i64 0,.int .i64 0]⟩,
 some ⟨.struct [(0,1,false),(1,1,false)],2,[.int .i64 0,.int .i64 0]⟩,
 some ⟨.slice 167 3 24,1,[.slice none 0 0]⟩,
 some ⟨.struct [(0,1,false),(1,1,false)],2,[.slice none 0 0,.slice none 0 0]⟩,
 some ⟨.struct [(0,1,false),(1,1,false)],2,[.slice none 0 0,.slice none 0 0]⟩,
 some ⟨.slice 176 3 24,1,[.slice none 0 0]⟩,
 some ⟨.slice 180 4 32,1,[.slice none 0 0]⟩,
 some ⟨.slice 182 4 32,1,[.slice none 0 0]⟩,
 some ⟨.slice 126 2 16,1,[.slice none 0 0]⟩,
 some ⟨.struct [(0,1,false),(1,1,false),(2,1,false),(3,2,true),(5,1,false),(6,1,false),(7,1,false),(8,1,false)],9,[.string ⟨#[]⟩,.int .i64 0,.bool false,.slice none 0 0,.slice none 0 0,.slice none 0 0,.slice none 0 0,.slice none 0 0,.slice none 0 0]⟩,
 some ⟨.struct [(0,1,false),(1,1,false),(2,1,false),(3,2,true),(5,1,false),(6,1,false),(7,1,false),(8,1,false)],9,[.string ⟨#[]⟩,.int .i64 0,.bool false,.slice none 0 0,.slice none 0 0,.slice none 0 0,.slice none 0 0,.slice none 0 0,.slice none 0 0]⟩,
 some ⟨.other,1,[.nilFunc]⟩,
 some ⟨.slice 5 1 1,1,[.slice none 0 0]⟩,
 some ⟨.arr 4 9 1,4,[.string ⟨#[]⟩,.string ⟨#[]⟩,.string ⟨#[]⟩,.string ⟨#[]⟩]⟩,
 some ⟨.slice 171 2 16,1,[.slice none 0 0]⟩,
 some ⟨.struct [(0,1,false),(1,1,false),(2,1,false),(3,1,false),(4,1,false),(5,1,false)],6,[.slice none 0 0,.slice none 0 0,.slice none 0 0,.slice none 0 0,.slice none 0 0,.int .i64 0]⟩,
 some ⟨.struct [(0,1,false),(1,1,false),(2,1,false),(3,1,false),(4,1,false),(5,1,false)],6,[.slice none 0 0,.slice none 0 0,.slice none 0 0,.slice none 0 0,.slice none 0 0,.int .i64 0]⟩,
 some ⟨.slice 73 6 128,1,[.slice none 0 0]⟩,
 some ⟨.struct [(0,1,false),(1,1,false),(2,1,false)],3,[.int .i64 0,.bool false,.slice none 0 0]⟩,
 some ⟨.struct [(0,1,false),(1,1,false),(2,1,false)],3,[.int .i64 0,.bool false,.slice none 0 0]⟩,
 some ⟨.struct [(0,1,false),(1,1,false)],2,[.string ⟨#[]⟩,.slice none 0 0]⟩,
 some ⟨.struct [(0,1,false),(1,1,false)],2,[.string ⟨#[]⟩,.slice none 0 0]⟩,
 some ⟨.arr 4 3 1,4,[.int .i64 0,.int .i64 0,.int .i64 0,.int .i64 0]⟩,
 some ⟨.other,1,[.nilFunc]⟩,
 none,
 some ⟨.other,1,[.nilFunc]⟩,
 some ⟨.other,1,[.nilFunc]⟩,
 some ⟨.other,1,[.nilFunc]⟩,
 some ⟨.other,1,[.nilFunc]⟩,
 some ⟨.other,1,[.map none]⟩,
 some ⟨.other,1,[.map none]⟩,
 some ⟨.other,1,[.nilFunc]⟩,
 some ⟨.arr 5 4 1,5,[.bool false,.bool false,.bool false,.bool false,.bool false]⟩,
 none,
 some ⟨.other,1,[.nilFunc]⟩,
 some ⟨.other,1,[.nilFunc]⟩,
 some ⟨.other,1,[.nilFunc]⟩,
 some ⟨.other,1,[.nilFunc]⟩,
 some ⟨.other,1,[.nilFunc]⟩,
 some ⟨.other,1,[.map none]⟩,
 none,
 some ⟨.other,1,[.pointer none]⟩,
 none,
 some ⟨.other,1,[.nilFunc]⟩,
 some ⟨.other,1,[.nilFunc]⟩,
 some ⟨.struct [(0,1,false),(1,1,false)],2,[.int .i64 0,.int .i64 0]⟩,
 some ⟨.struct [(0,1,false),(1,1,false)],2,[.int .i64 0,.int .i64 0]⟩,
 some ⟨.other,1,[.nilFunc]⟩,
 some ⟨.other,1,[.nilFunc]⟩,
 some ⟨.other,1,[.nilFunc]⟩,
 some ⟨.other,1,[.nilFunc]⟩,
 some ⟨.other,1,[.nilFunc]⟩,
 some ⟨.other,1,[.nilFunc]⟩,
 some ⟨.other,1,[.nilFunc]⟩,
 some ⟨.struct [(0,9,true),(9,9,true),(18,1,false)],19,[.int .i64 0,.slice none 0 0,.slice none 0 0,.slice none 0 0,.slice none 0 0,.slice none 0 0,.slice none 0 0,.slice none 0 0,.slice none 0 0,.int .i64 0,.slice none 0 0,.slice none 0 0,.slice none 0 0,.slice none 0 0,.slice none 0 0,.slice none 0 0,.slice none 0 0,.slice none 0 0,.nilFunc]⟩,
 some ⟨.struct [(0,9,true),(9,9,true),(18,1,false)],19,[.int .i64 0,.slice none 0 0,.slice none 0 0,.slice none 0 0,.slice none 0 0,.slice none 0 0,.slice none 0 0,.slice none 0 0,.slice none 0 0,.int .i64 0,.slice none 0 0,.slice none 0 0,.slice none 0 0,.slice none 0 0,.slice none 0 0,.slice none 0 0,.slice none 0 0,.slice none 0 0,.nilFunc]⟩,
 some ⟨.slice 156 2 16,1,[.slice none 0 0]⟩,
 none,
 some ⟨.other,1,[.nilFunc]⟩,
 some ⟨.other,1,[.map none]⟩,
 some ⟨.struct [(0,9,true),(9,1,false),(10,1,false)],11,[.int .i64 0,.slice none 0 0,.slice none 0 0,.slice none 0 0,.slice none 0 0,.slice none 0 0,.slice none 0 0,.slice none 0 0,.slice none 0 0,.slice none 0 0,.map none]⟩,
 some ⟨.struct [(0,9,true),(9,1,false),(10,1,false)],11,[.int .i64 0,.slice none 0 0,.slice none 0 0,.slice none 0 0,.slice none 0 0,.slice none 0 0,.slice none 0 0,.slice none 0 0,.slice none 0 0,.slice none 0 0,.map none]⟩,
 none,
 some ⟨.other,1,[.nilFunc]⟩,
 some ⟨.other,1,[.nilFunc]⟩,
 some ⟨.other,1,[.nilFunc]⟩,
 some ⟨.other,1,[.nilFunc]⟩,
 some ⟨.other,1,[.nilFunc]⟩,
 some ⟨.struct [(0,1,false),(1,1,false)],2,[.int .i64 0,.int .i64 0]⟩,
 some ⟨.struct [(0,1,false),(1,1,false)],2,[.int .i64 0,.int .i64 0]⟩,
 some ⟨.other,1,[.pointer none]⟩,
 some ⟨.struct [(0,1,false),(1,1,false),(2,9,true),(11,1,false)],12,[.slice none 0 0,.int .i64 0,.int .i64 0,.slice none 0 0,.slice none 0 0,.slice none 0 0,.slice none 0 0,.slice none 0 0,.slice none 0 0,.slice none 0 0,.slice none 0 0,.int .i64 0]⟩,
 some ⟨.struct [(0,1,false),(1,1,false),(2,9,true),(11,1,false)],12,[.slice none 0 0,.int .i64 0,.int .i64 0,.slice none 0 0,.slice none 0 0,.slice none 0 0,.slice none 0 0,.slice none 0 0,.slice none 0 0,.slice none 0 0,.slice none 0 0,.int .i64 0]⟩,
 some ⟨.struct [(0,1,false),(1,1,false),(2,1,false),(3,1,false)],4,[.string ⟨#[]⟩,.int .i64 0,.int .i64 0,.int .i64 0]⟩,
 some ⟨.struct [(0,1,false),(1,1,false),(2,1,false),(3,1,false)],4,[.string ⟨#[]⟩,.int .i64 0,.int .i64 0,.int .i64 0]⟩,
 some ⟨.slice 136 3 24,1,[.slice none 0 0]⟩,
 some ⟨.struct [(0,1,false)],1,[.slice none 0 0]⟩,
 some ⟨.struct [(0,1,false)],1,[.slice none 0 0]⟩,
 some ⟨.struct [(0,1,false),(1,1,false),(2,1,false)],3,[.int .i64 0,.int .i64 0,.int .i64 0]⟩,
 some ⟨.struct [(0,1,false),(1,1,false),(2,1,false)],3,[.int .i64 0,.int .i64 0,.int .i64 0]⟩,
 some ⟨.other,1,[.nilFunc]⟩,
 some ⟨.other,1,[.nilFunc]⟩,
 some ⟨.other,1,[.nilFunc]⟩,
 some ⟨.other,1,[.nilFunc]⟩,
 some ⟨.int .u64,1,[.int .u64 0]⟩,
 some ⟨.other,1,[.nilFunc]⟩,
 some ⟨.other,1,[.nilFunc]⟩,
 none,
 some ⟨.other,1,[.nilFunc]⟩,
 some ⟨.other,1,[.pointer none]⟩,
 none,
 some ⟨.other,1,[.nilFunc]⟩,
 some ⟨.other,1,[.nilFunc]⟩,
 some ⟨.other,1,[.nilFunc]⟩,
 some ⟨.other,1,[.nilFunc]⟩,
 some ⟨.other,1,[.nilFunc]⟩,
 some ⟨.other,1,[.nilFunc]⟩,
 some ⟨.other,1,[.nilFunc]⟩,
 some ⟨.struct [(0,1,false),(1,1,false)],2,[.int .i64 0,.int .i64 0]⟩,
 some ⟨.struct [(0,1,false),(1,1,false)],2,[.int .i64 0,.int .i64 0]⟩,
 some ⟨.other,1,[.nilFunc]⟩,
 some ⟨.other,1,[.nilFunc]⟩,
 some ⟨.other,1,[.map none]⟩,
 some ⟨.other,1,[.nilFunc]⟩,
 some ⟨.struct [(0,2,true),(2,2,true)],4,[.int .i64 0,.int .i64 0,.int .i64 0,.int .i64 0]⟩,
 some ⟨.struct [(0,2,true),(2,2,true)],4,[.int .i64 0,.int .i64 0,.int .i64 0,.int .i64 0]⟩,
 some ⟨.other,1,[.nilFunc]⟩,
 some ⟨.other,1,[.nilFunc]⟩,
 some ⟨.other,1,[.pointer none]⟩,
 some ⟨.struct [(0,1,false),(1,1,false),(2,1,false)],3,[.int .i64 0,.int .i64 0,.bool false]⟩,
 some ⟨.struct [(0,1,false),(1,1,false),(2,1,false)],3,[.int .i64 0,.int .i64 0,.bool false]⟩,
 some ⟨.other,1,[.nilFunc]⟩,
 some ⟨.other,1,[.nilFunc]⟩,
 some ⟨.struct [(0,1,false),(1,1,false)],2,[.int .i64 0,.int .i64 0]⟩,
 some ⟨.struct [(0,1,false),(1,1,false)],2,[.int .i64 0,.int .i64 0]⟩,
 some ⟨.other,1,[.nilFunc]⟩,
 some ⟨.other,1,[.nilFunc]⟩,
 some ⟨.other,1,[.nilFunc]⟩,
 some ⟨.struct [(0,1,false),(1,1,false),(2,1,false)],3,[.int .i64 0,.int .i64 0,.int .i64 0]⟩,
 some ⟨.struct [(0,1,false),(1,1,false),(2,1,false)],3,[.int .i64 0,.int .i64 0,.int .i64 0]⟩,
 some ⟨.arr 2 3 1,2,[.int .i64 0,.int .i64 0]⟩,
 some ⟨.slice 177 2 16,1,[.slice none 0 0]⟩,
 some ⟨.struct [(0,1,false),(1,1,false),(2,1,false),(3,1,false)],4,[.int .i64 0,.int .i64 0,.int .i64 0,.int .i64 0]⟩,
 some ⟨.struct [(0,1,false),(1,1,false),(2,1,false),(3,1,false)],4,[.int .i64 0,.int .i64 0,.int .i64 0,.int .i64 0]⟩,
 some ⟨.struct [(0,1,false),(1,1,false),(2,1,false),(3,1,false)],4,[.int .i64 0,.int .i64 0,.int .i64 0,.int .i64 0]⟩,
 some ⟨.struct [(0,1,false),(1,1,false),(2,1,false),(3,1,false)],4,[.int .i64 0,.int .i64 0,.int .i64 0,.int .i64 0]⟩,
 some ⟨.other,1,[.nilFunc]⟩,
 some ⟨.other,1,[.nilFunc]⟩,
 some ⟨.int .i64,1,[.int .i64 0]⟩,
 none,
 some ⟨.other,1,[.nilFunc]⟩,
 some ⟨.other,1,[.nilFunc]⟩,
 some ⟨.other,1,[.nilFunc]⟩,
 some ⟨.other,1,[.nilFunc]⟩,
 some ⟨.other,1,[.nilFunc]⟩,
 some ⟨.int .u32,1,[.int .u32 0]⟩,
 some ⟨.other,1,[.nilFunc]⟩,
 some ⟨.int .u64,1,[.int .u64 0]⟩,
 some ⟨.other,1,[.nilFunc]⟩,
 some ⟨.other,1,[.map none]⟩,
 some ⟨.other,1,[.nilFunc]⟩,
 some ⟨.other,1,[.nilFunc]⟩,
 some ⟨.other,1,[.nilFunc]⟩,
 some ⟨.other,1,[.nilFunc]⟩,
 some ⟨.other,1,[.nilFunc]⟩,
 some ⟨.other,1,[.nilFunc]⟩,
 some ⟨.other,1,[.nilFunc]⟩,
 some ⟨.other,1,[.nilFunc]⟩,
 some ⟨.other,1,[.nilFunc]⟩,
 some ⟨.other,1,[.nilFunc]⟩,
 some ⟨.other,1,[.nilFunc]⟩,
 some ⟨.other,1,[.nilFunc]⟩,
 some ⟨.other,1,[.nilFunc]⟩,
 some ⟨.other,1,[.nilFunc]⟩,
 some ⟨.other,1,[.nilFunc]⟩,
 some ⟨.other,1,[.nilFunc]⟩,
 some ⟨.other,1,[.nilFunc]⟩,
 some ⟨.other,1,[.nilFunc]⟩,
 some ⟨.other,1,[.nilFunc]⟩,
 some ⟨.other,1,[.nilFunc]⟩,
 some ⟨.other,1,[.nilFunc]⟩,
 some ⟨.other,1,[.nilFunc]⟩,
 some ⟨.other,1,[.nilFunc]⟩,
 some ⟨.other,1,[.nilFunc]⟩,
 some ⟨.other,1,[.nilFunc]⟩,
 some ⟨.other,1,[.nilFunc]⟩,
 some ⟨.other,1,[.nilFunc]⟩,
 some ⟨.other,1,[.nilFunc]⟩,
 some ⟨.other,1,[.nilFunc]⟩,
 some ⟨.other,1,[.nilFunc]⟩,
 some ⟨.other,1,[.nilFunc]⟩,
 some ⟨.other,1,[.nilFunc]⟩,
 some ⟨.other,1,[.nilFunc]⟩,
 some ⟨.other,1,[.nilFunc]⟩,
 some ⟨.other,1,[.nilFunc]⟩,
 some ⟨.other,1,[.nilFunc]⟩,
 some ⟨.other,1,[.nilFunc]⟩,
 some ⟨.slice 243 10 176,1,[.slice none 0 0]⟩,
 some ⟨.slice 4 1 1,1,[.slice none 0 0]⟩,
 some ⟨.struct [(0,1,false),(1,1,false)],2,[.slice none 0 0,.slice none 0 0]⟩,
 some ⟨.struct [(0,1,false),(1,1,false)],2,[.slice none 0 0,.slice none 0 0]⟩,
 some ⟨.other,1,[.nilFunc]⟩,
 some ⟨.slice 194 1 8,1,[.slice none 0 0]⟩,
 some ⟨.struct [(0,1,false),(1,1,false),(2,1,false),(3,1,false),(4,1,false)],5,[.slice none 0 0,.slice none 0 0,.slice none 0 0,.slice none 0 0,.slice none 0 0]⟩,
 some ⟨.struct [(0,1,false),(1,1,false),(2,1,false),(3,1,false),(4,1,false)],5,[.slice none 0 0,.slice none 0 0,.slice none 0 0,.slice none 0 0,.slice none 0 0]⟩,
 some ⟨.struct [(0,3,true),(3,5,true),(8,1,false),(9,1,false)],10,[.int .i64 0,.bool false,.slice none 0 0,.slice none 0 0,.slice none 0 0,.slice none 0 0,.slice none 0 0,.slice none 0 0,.int .i64 0,.int .i64 0]⟩,
 some ⟨.struct [(0,3,true),(3,5,true),(8,1,false),(9,1,false)],10,[.int .i64 0,.bool false,.slice none 0 0,.slice none 0 0,.slice none 0 0,.slice none 0 0,.slice none 0 0,.slice none 0 0,.int .i64 0,.int .i64 0]⟩,
 some ⟨.other,1,[.nilFunc]⟩,
 none,
 some ⟨.other,1,[.nilFunc]⟩,
 some ⟨.other,1,[.nilFunc]⟩,
 some ⟨.other,1,[.nilFunc]⟩,
 some ⟨.other,1,[.pointer none]⟩,
 some ⟨.other,1,[.nilFunc]⟩,
 some ⟨.struct [(0,9,true),(9,3,true),(12,1,false),(13,1,false)],14,[.int .i64 0,.slice none 0 0,.slice none 0 0,.slice none 0 0,.slice none 0 0,.slice none 0 0,.slice none 0 0,.slice none 0 0,.slice none 0 0,.int .i64 0,.bool false,.slice none 0 0,.int .i64 0,.slice none 0 0]⟩,
 some ⟨.struct [(0,9,true),(9,3,true),(12,1,false),(13,1,false)],14,[.int .i64 0,.slice none 0 0,.slice none 0 0,.slice none 0 0,.slice none 0 0,.slice none 0 0,.slice none 0 0,.slice none 0 0,.slice none 0 0,.int .i64 0,.bool false,.slice none 0 0,.int .i64 0,.slice none 0 0]⟩,
 some ⟨.other,1,[.nilFunc]⟩,
 some ⟨.other,1,[.nilFunc]⟩,
 some ⟨.other,1,[.pointer none]⟩,
 some ⟨.other,1,[.map none]⟩,
 some ⟨.struct [(0,9,true),(9,1,false),(10,1,false)],11,[.int .i64 0,.slice none 0 0,.slice none 0 0,.slice none 0 0,.slice none 0 0,.slice none 0 0,.slice none 0 0,.slice none 0 0,.slice none 0 0,.slice none 0 0,.map none]⟩,
 some ⟨.struct [(0,9,true),(9,1,false),(10,1,false)],11,[.int .i64 0,.slice none 0 0,.slice none 0 0,.slice none 0 0,.slice none 0 0,.slice none 0 0,.slice none 0 0,.slice none 0 0,.slice none 0 0,.slice none 0 0,.map none]⟩,
 some ⟨.other,1,[.nilFunc]⟩,
 none,
 some ⟨.other,1,[.nilFunc]⟩,
 none,
 some ⟨.other,1,[.nilFunc]⟩,
 some ⟨.other,1,[.nilFunc]⟩,
 some ⟨.other,1,[.nilFunc]⟩,
 some ⟨.other,1,[.nilFunc]⟩,
 some ⟨.other,1,[.nilFunc]⟩,
 some ⟨.other,1,[.nilFunc]⟩,
 none,
 some ⟨.other,1,[.nilFunc]⟩,
 some ⟨.other,1,[.nilFunc]⟩,
 some ⟨.arr 2 194 1,2,[.int .u64 0,.int .u64 0]⟩,
 some ⟨.arr 2 194 1,2,[.int .u64 0,.int .u64 0]⟩,
 some ⟨.struct [(0,2,true),(2,1,false)],3,[.int .u64 0,.int .u64 0,.bool false]⟩,
 some ⟨.struct [(0,2,true),(2,1,false)],3,[.int .u64 0,.int .u64 0,.bool false]⟩,
 some ⟨.other,1,[.nilFunc]⟩,
 none,
 some ⟨.other,1,[.nilFunc]⟩,
 some ⟨.other,1,[.nilFunc]⟩,
 some ⟨.other,1,[.nilFunc]⟩,
 some ⟨.other,1,[.nilFunc]⟩,
 some ⟨.int .u64,1,[.int .u64 0]⟩,
 some ⟨.other,1,[.nilFunc]⟩,
 some ⟨.other,1,[.nilFunc]⟩,
 some ⟨.other,1,[.nilFunc]⟩,
 some ⟨.other,1,[.pointer none]⟩,
 some ⟨.other,1,[.nilFunc]⟩,
 some ⟨.slice 206 1 8,1,[.slice none 0 0]⟩,
 some ⟨.other,1,[.nilFunc]⟩,
 some ⟨.other,1,[.nilFunc]⟩,
 some ⟨.other,1,[.nilFunc]⟩,
 some ⟨.other,1,[.nilFunc]⟩,
 some ⟨.other,1,[.nilFunc]⟩,
 some ⟨.other,1,[.nilFunc]⟩,
 some ⟨.other,1,[.nilFunc]⟩,
 some ⟨.other,1,[.nilFunc]⟩,
 some ⟨.other,1,[.nilFunc]⟩,
 some ⟨.other,1,[.nilFunc]⟩,
 some ⟨.other,1,[.nilFunc]⟩,
 some ⟨.other,1,[.nilFunc]⟩,
 some ⟨.other,1,[.nilFunc]⟩,
 some ⟨.other,1,[.nilFunc]⟩,
 some ⟨.other,1,[.nilFunc]⟩,
 none,
 some ⟨.other,1,[.nilFunc]⟩,
 some ⟨.other,1,[.nilFunc]⟩,
 some ⟨.other,1,[.nilFunc]⟩,
 some ⟨.other,1,[.nilFunc]⟩,
 some ⟨.other,1,[.nilFunc]⟩,
 some ⟨.other,1,[.nilFunc]⟩,
 some ⟨.other,1,[.nilFunc]⟩,
 some ⟨.other,1,[.nilFunc]⟩,
 some ⟨.other,1,[.nilFunc]⟩,
 some ⟨.other,1,[.nilFunc]⟩,
 some ⟨.other,1,[.nilFunc]⟩,
 some ⟨.other,1,[.nilFunc]⟩,
 some ⟨.other,1,[.nilFunc]⟩,
 some ⟨.other,1,[.nilFunc]⟩,
 some ⟨.other,1,[.nilFunc]⟩,
 some ⟨.other,1,[.nilFunc]⟩,
 some ⟨.struct [(0,1,false),(1,1,false)],2,[.slice none 0 0,.slice none 0 0]⟩,
 some ⟨.struct [(0,1,false),(1,1,false)],2,[.slice none 0 0,.slice none 0 0]⟩,
 none,
 some ⟨.other,1,[.nilFunc]⟩,
 some ⟨.other,1,[.nilFunc]⟩,
 some ⟨.other,1,[.pointer none]⟩,
 some ⟨.struct [(0,1,false),(1,1,false)],2,[.pointer none,.slice none 0 0]⟩,
 some ⟨.struct [(0,1,false),(1,1,false)],2,[.pointer none,.slice none 0 0]⟩,
 some ⟨.other,1,[.nilFunc]⟩,
 some ⟨.other,1,[.pointer none]⟩,
 some ⟨.other,1,[.nilFunc]⟩,
 some ⟨.other,1,[.map none]⟩,
 some ⟨.other,1,[.nilFunc]⟩,
 some ⟨.other,1,[.nilFunc]⟩,
 some ⟨.other,1,[.nilFunc]⟩,
 some ⟨.other,1,[.nilFunc]⟩,
 some ⟨.other,1,[.pointer none]⟩,
 some ⟨.other,1,[.nilFunc]⟩,
 none,
 some ⟨.other,1,[.nilFunc]⟩,
 some ⟨.other,1,[.nilFunc]⟩,
 some ⟨.other,1,[.nilFunc]⟩,
 some ⟨.other,1,[.nilFunc]⟩,
 some ⟨.other,1,[.nilFunc]⟩,
 some ⟨.other,1,[.nilFunc]⟩,
 some ⟨.other,1,[.nilFunc]⟩,
 some ⟨.other,1,[.nilFunc]⟩,
 none,
 some ⟨.other,1,[.nilFunc]⟩,
 some ⟨.other,1,[.pointer none]⟩,
 none,
 some ⟨.other,1,[.nilFunc]⟩,
 some ⟨.other,1,[.nilFunc]⟩,
 some ⟨.other,1,[.nilFunc]⟩,
 some ⟨.other,1,[.nilFunc]⟩,
 some ⟨.other,1,[.nilFunc]⟩,
 some ⟨.other,1,[.nilFunc]⟩,
 some ⟨.other,1,[.nilFunc]⟩,
 some ⟨.other,1,[.map none]⟩,
 some ⟨.struct [(0,1,false),(1,1,false)],2,[.int .i64 0,.int .i64 0]⟩,
 some ⟨.struct [(0,1,false),(1,1,false)],2,[.int .i64 0,.int .i64 0]⟩,
 some ⟨.other,1,[.nilFunc]⟩,
 some ⟨.struct [(0,1,false),(1,1,false)],2,[.int .i64 0,.int .i64 0]⟩,
 some ⟨.struct [(0,1,false),(1,1,false)],2,[.int .i64 0,.int .i64 0]⟩,
 some ⟨.other,1,[.nilFunc]⟩,
 some ⟨.other,1,[.nilFunc]⟩,
 some ⟨.other,1,[.nilFunc]⟩,
 some ⟨.other,1,[.nilFunc]⟩,
 some ⟨.other,1,[.nilFunc]⟩,
 some ⟨.other,1,[.nilFunc]⟩,
 some ⟨.other,1,[.nilFunc]⟩,
 some ⟨.other,1,[.nilFunc]⟩,
 some ⟨.other,1,[.nilFunc]⟩,
 some ⟨.other,1,[.pointer none]⟩,
 some ⟨.slice 377 2 16,1,[.slice none 0 0]⟩,
 some ⟨.struct [(0,1,false),(1,1,false)],2,[.int .i64 0,.int .u64 0]⟩,
 some ⟨.struct [(0,1,false),(1,1,false)],2,[.int .i64 0,.int .u64 0]⟩,
 some ⟨.other,1,[.nilFunc]⟩,
 some ⟨.other,1,[.nilFunc]⟩,
 some ⟨.other,1,[.nilFunc]⟩,
 some ⟨.slice 39 1 24,1,[.slice none 0 0]⟩,
 some ⟨.slice 444 2 32,1,[.slice none 0 0]⟩,
 some ⟨.struct [(0,1,false),(1,1,false),(2,1,false),(3,1,false),(4,1,false)],5,[.slice none 0 0,.int .u64 0,.slice none 0 0,.int .i64 0,.slice none 0 0]⟩,
 some ⟨.struct [(0,1,false),(1,1,false),(2,1,false),(3,1,false),(4,1,false)],5,[.slice none 0 0,.int .u64 0,.slice none 0 0,.int .i64 0,.slice none 0 0]⟩,
 some ⟨.other,1,[.nilFunc]⟩,
 some ⟨.other,1,[.nilFunc]⟩,
 some ⟨.other,1,[.nilFunc]⟩,
 some ⟨.other,1,[.nilFunc]⟩,
 some ⟨.other,1,[.pointer none]⟩,
 none,
 some ⟨.other,1,[.nilFunc]⟩,
 some ⟨.other,1,[.nilFunc]⟩,
 some ⟨.other,1,[.pointer none]⟩,
 none,
 some ⟨.other,1,[.nilFunc]⟩,
 some ⟨.struct [(0,1,false),(1,1,false),(2,1,false)],3,[.int .i64 0,.int .i64 0,.int .i64 0]⟩,
 some ⟨.struct [(0,1,false),(1,1,false),(2,1,false)],3,[.int .i64 0,.int .i64 0,.int .i64 0]⟩,
 some ⟨.other,1,[.nilFunc]⟩,
 some ⟨.other,1,[.nilFunc]⟩,
 some ⟨.other,1,[.nilFunc]⟩,
 some ⟨.other,1,[.nilFunc]⟩,
 none,
 none,
 some ⟨.other,1,[.nilFunc]⟩,
 some ⟨.other,1,[.nilFunc]⟩,
 some ⟨.other,1,[.nilFunc]⟩,
 some ⟨.other,1,[.nilFunc]⟩,
 some ⟨.struct [(0,1,false),(1,1,false),(2,1,false),(3,1,false),(4,1,false)],5,[.slice none 0 0,.bool false,.nilFunc,.int .i64 0,.int .i64 0]⟩,
 some ⟨.struct [(0,1,false),(1,1,false),(2,1,false),(3,1,false),(4,1,false)],5,[.slice none 0 0,.bool false,.nilFunc,.int .i64 0,.int .i64 0]⟩,
 some ⟨.other,1,[.nilFunc]⟩,
 some ⟨.other,1,[.nilFunc]⟩,
 some ⟨.other,1,[.nilFunc]⟩,
 some ⟨.other,1,[.nilFunc]⟩,
 some ⟨.other,1,[.nilFunc]⟩,
 some ⟨.other,1,[.nilFunc]⟩,
 some ⟨.other,1,[.nilFunc]⟩,
 some ⟨.other,1,[.nilFunc]⟩,
 some ⟨.other,1,[.nilFunc]⟩,
 some ⟨.other,1,[.nilFunc]⟩,
 some ⟨.other,1,[.nilIface]⟩,
 some ⟨.other,1,[.nilIface]⟩,
 some ⟨.other,1,[.map none]⟩,
 some ⟨.slice 3 1 8,1,[.slice none 0 0]⟩,
 some ⟨.other,1,[.nilFunc]⟩,
 some ⟨.other,1,[.nilFunc]⟩,
 some ⟨.other,1,[.nilFunc]⟩,
 some ⟨.other,1,[.nilFunc]⟩,
 some ⟨.other,1,[.pointer none]⟩,
 some ⟨.other,1,[.nilFunc]⟩,
 some ⟨.other,1,[.nilFunc]⟩,
 some ⟨.other,1,[.map none]⟩,
 some ⟨.other,1,[.nilFunc]⟩,
 some ⟨.other,1,[.nilFunc]⟩,
 some ⟨.other,1,[.nilFunc]⟩,
 some ⟨.other,1,[.nilFunc]⟩,
 some ⟨.other,1,[.nilFunc]⟩,
 some ⟨.other,1,[.nilFunc]⟩,
 some ⟨.other,1,[.nilFunc]⟩,
 some ⟨.other,1,[.nilFunc]⟩,
 some ⟨.other,1,[.nilFunc]⟩,
 some ⟨.other,1,[.nilFunc]⟩,
 some ⟨.arr 16 5 1,16,[.int .u8 0,.int .u8 0,.int .u8 0,.int .u8 0,.int .u8 0,.int .u8 0,.int .u8 0,.int .u8 0,.int .u8 0,.int .u8 0,.int .u8 0,.int .u8 0,.int .u8 0,.int .u8 0,.int .u8 0,.int .u8 0]⟩,
 some ⟨.struct [(0,1,false),(1,1,false)],2,[.slice none 0 0,.int .u64 0]⟩,
 some ⟨.struct [(0,1,false),(1,1,false)],2,[.slice none 0 0,.int .u64 0]⟩,
 some ⟨.other,1,[.nilFunc]⟩,
 none,
 some ⟨.other,1,[.nilFunc]⟩,
 none,
 some ⟨.other,1,[.nilFunc]⟩,
 some ⟨.other,1,[.nilFunc]⟩,
 some ⟨.other,1,[.nilFunc]⟩,
 some ⟨.other,1,[.nilFunc]⟩,
 some ⟨.other,1,[.nilFunc]⟩,
 some ⟨.other,1,[.nilFunc]⟩,
 some ⟨.other,1,[.nilFunc]⟩,
 some ⟨.other,1,[.nilFunc]⟩,
 some ⟨.other,1,[.nilFunc]⟩,
 some ⟨.other,1,[.nilFunc]⟩,
 some ⟨.other,1,[.nilFunc]⟩,
 some ⟨.other,1,[.nilFunc]⟩,
 some ⟨.other,1,[.nilIface]⟩,
 some ⟨.other,1,[.nilIface]⟩,
 some ⟨.other,1,[.nilFunc]⟩,
 some ⟨.other,1,[.nilFunc]⟩,
 some ⟨.other,1,[.nilFunc]⟩,
 some ⟨.other,1,[.nilFunc]⟩,
 some ⟨.other,1,[.nilFunc]⟩,
 some ⟨.other,1,[.nilFunc]⟩,
 some ⟨.slice 471 2 16,1,[.slice none 0 0]⟩,
 some ⟨.struct [(0,1,false),(1,1,false)],2,[.int .i64 0,.int .i64 0]⟩,
 some ⟨.struct [(0,1,false),(1,1,false)],2,[.int .i64 0,.int .i64 0]⟩,
 some ⟨.other,1,[.pointer none]⟩,
 some ⟨.other,1,[.nilFunc]⟩,
 some ⟨.other,1,[.nilFunc]⟩,
 some ⟨.other,1,[.nilFunc]⟩,
 some ⟨.other,1,[.nilFunc]⟩,
 some ⟨.other,1,[.nilFunc]⟩,
 some ⟨.struct [(0,1,false),(1,1,false),(2,1,false)],3,[.slice none 0 0,.slice none 0 0,.slice none 0 0]⟩,
 some ⟨.struct [(0,1,false),(1,1,false),(2,1,false)],3,[.slice none 0 0,.slice none 0 0,.slice none 0 0]⟩,
 some ⟨.other,1,[.nilFunc]⟩,
 some ⟨.arr 64 5 1,64,[.int .u8 0,.int .u8 0,.int .u8 0,.int .u8 0,.int .u8 0,.int .u8 0,.int .u8 0,.int .u8 0,.int .u8 0,.int .u8 0,.int .u8 0,.int .u8 0,.int .u8 0,.int .u8 0,.int .u8 0,.int .u8 0,.int .u8 0,.int .u8 0,.int .u8 0,.int .u8 0,.int .u8 0,.int .u8 0,.int .u8 0,.int .u8 0,.int .u8 0,.int .u8 0,.int .u8 0,.int .u8 0,.int .u8 0,.int .u8 0,.int .u8 0,.int .u8 0,.int .u8 0,.int .u8 0,.int .u8 0,.int .u8 0,.int .u8 0,.int .u8 0,.int .u8 0,.int .u8 0,.int .u8 0,.int .u8 0,.int .u8 0,.int .u8 0,.int .u8 0,.int .u8 0,.int .u8 0,.int .u8 0,.int .u8 0,.int .u8 0,.int .u8 0,.int .u8 0,.int .u8 0,.int .u8 0,.int .u8 0,.int .u8 0,.int .u8 0,.int .u8 0,.int .u8 0,.int .u8 0,.int .u8 0,.int .u8 0,.int .u8 0,.int .u8 0]⟩,
 some ⟨.other,1,[.nilFunc]⟩,
 some ⟨.other,1,[.nilFunc]⟩,
 some ⟨.struct [(0,1,false),(1,1,false),(2,1,false),(3,1,false)],4,[.pointer none,.pointer none,.pointer none,.string ⟨#[]⟩]⟩,
 some ⟨.struct [(0,1,false),(1,1,false),(2,1,false),(3,1,false)],4,[.pointer none,.pointer none,.pointer none,.string ⟨#[]⟩]⟩,
 none,
 none,
 none,
 some ⟨.int .u8,1,[.int .u8 0]⟩,
 some ⟨.int .u8,1,[.int .u8 0]⟩,
 some ⟨.other,1,[.nilFunc]⟩,
 some ⟨.other,1,[.pointer none]⟩,
 some ⟨.int .i32,1,[.int .i32 0]⟩,
 some ⟨.int .i32,1,[.int .i32 0]⟩,
 some ⟨.struct [(0,1,false),(1,1,false),(2,1,false),(3,1,false),(4,1,false),(5,1,false),(6,1,false),(7,1,false),(8,1,false),(9,1,false),(10,1,false)],11,[.int .u64 0,.int .u64 0,.int .u32 0,.int .u8 0,.int .u8 0,.int .u8 0,.int .u8 0,.nilFunc,.pointer none,.int .i32 0,.int .i32 0]⟩,
 some ⟨.struct [(0,1,false),(1,1,false),(2,1,false),(3,1,false),(4,1,false),(5,1,false),(6,1,false),(7,1,false),(8,1,false),(9,1,false),(10,1,false)],11,[.int .u64 0,.int .u64 0,.int .u32 0,.int .u8 0,.int .u8 0,.int .u8 0,.int .u8 0,.nilFunc,.pointer none,.int .i32 0,.int .i32 0]⟩,
 none,
 none,
 none]
theorem a7:ej Tryz.prog tt:=I7 (by kernel_rfl)
theorem Lg {P:Program} {f:FuncId} {fn:Func} {c:Code} (hf:P.funcs[f]?=some fn) (hn:(fn.name== "runtime.NumGoroutine")=false:=by kernel_rfl) (hb:fn.body=some c:=by rfl):bF P f:=⟨ak hf hn hb⟩
instance:bF Tryz.prog 7:=Lg Tryz.func7
instance:bF Tryz.prog 8:=Lg Tryz.func8
instance:bF Tryz.prog 10:=Lg Tryz.func10
instance:bF Tryz.prog 13:=Lg Tryz.func13
instance:bF Tryz.prog 14:=Lg Tryz.func14
instance:bF Tryz.prog 15:=Lg Tryz.func15
instance:bF Tryz.prog 18:=Lg Tryz.func18
instance:bF Tryz.prog 19:=Lg Tryz.func19
instance:bF Tryz.prog 20:=Lg Tryz.func20
instance:bF Tryz.prog 21:=Lg Tryz.func21
instance:bF Tryz.prog 23:=Lg Tryz.func23
instance:bF Tryz.prog 25:=Lg Tryz.func25
instance:bF Tryz.prog 26:=Lg Tryz.func26
instance:bF Tryz.prog 27:=Lg Tryz.func27
instance:bF Tryz.prog 28:=Lg Tryz.func28
instance:bF Tryz.prog 29:=Lg Tryz.func29
instance:bF Tryz.prog 34:=Lg Tryz.func34
instance:bF Tryz.prog 37:=Lg Tryz.func37
instance:bF Tryz.prog 38:=Lg Tryz.func38
instance:bF Tryz.prog 39:=Lg Tryz.func39
instance:bF Tryz.prog 40:=Lg Tryz.func40
instance:bF Tryz.prog 41:=Lg Tryz.func41
instance:bF Tryz.prog 42:=Lg Tryz.func42
instance:bF Tryz.prog 44:=Lg Tryz.func44
instance:bF Tryz.prog 45:=Lg Tryz.func45
instance:bF Tryz.prog 46:=Lg Tryz.func46
instance:bF Tryz.prog 47:=Lg Tryz.func47
instance:bF Tryz.prog 48:=Lg Tryz.func48
instance:bF Tryz.prog 49:=Lg Tryz.func49
instance:bF Tryz.prog 50:=Lg Tryz.func50
instance:bF Tryz.prog 51:=Lg Tryz.func51
instance:bF Tryz.prog 52:=Lg Tryz.func52
instance:bF Tryz.prog 53:=Lg Tryz.func53
instance:bF Tryz.prog 54:=Lg Tryz.func54
instance:bF Tryz.prog 55:=Lg Tryz.func55
instance:bF Tryz.prog 56:=Lg Tryz.func56
instance:bF Tryz.prog 60:=Lg Tryz.func60
instance:bF Tryz.prog 61:=Lg Tryz.func61
instance:bF Tryz.prog 62:=Lg Tryz.func62
instance:bF Tryz.prog 64:=Lg Tryz.func64
instance:bF Tryz.prog 65:=Lg Tryz.func65
instance:bF Tryz.prog 66:=Lg Tryz.func66
instance:bF Tryz.prog 67:=Lg Tryz.func67
instance:bF Tryz.prog 68:=Lg Tryz.func68
instance:bF Tryz.prog 70:=Lg Tryz.func70
instance:bF Tryz.prog 71:=Lg Tryz.func71
instance:bF Tryz.prog 73:=Lg Tryz.func73
instance:bF Tryz.prog 74:=Lg Tryz.func74
instance:bF Tryz.prog 75:=Lg Tryz.func75
instance:bF Tryz.prog 78:=Lg Tryz.func78
instance:bF Tryz.prog 79:=Lg Tryz.func79
instance:bF Tryz.prog 80:=Lg Tryz.func80
instance:bF Tryz.prog 81:=Lg Tryz.func81
instance:bF Tryz.prog 82:=Lg Tryz.func82
instance:bF Tryz.prog 83:=Lg Tryz.func83
instance:bF Tryz.prog 84:=Lg Tryz.func84
instance:bF Tryz.prog 94:=Lg Tryz.func94
instance:bF Tryz.prog 98:=Lg Tryz.func98
instance:bF Tryz.prog 99:=Lg Tryz.func99
instance:bF Tryz.prog 100:=Lg Tryz.func100
instance:bF Tryz.prog 101:=Lg Tryz.func101
instance:bF Tryz.prog 102:=Lg Tryz.func102
instance:bF Tryz.prog 103:=Lg Tryz.func103
instance:bF Tryz.prog 104:=Lg Tryz.func104
instance:bF Tryz.prog 105:=Lg Tryz.func105
instance:bF Tryz.prog 106:=Lg Tryz.func106
instance:bF Tryz.prog 107:=Lg Tryz.func107
instance:bF Tryz.prog 108:=Lg Tryz.func108
instance:bF Tryz.prog 109:=Lg Tryz.func109
instance:bF Tryz.prog 110:=Lg Tryz.func110
instance:bF Tryz.prog 111:=Lg Tryz.func111
instance:bF Tryz.prog 112:=Lg Tryz.func112
instance:bF Tryz.prog 113:=Lg Tryz.func113
instance:bF Tryz.prog 114:=Lg Tryz.func114
instance:bF Tryz.prog 115:=Lg Tryz.func115
instance:bF Tryz.prog 116:=Lg Tryz.func116
instance:bF Tryz.prog 117:=Lg Tryz.func117
instance:bF Tryz.prog 118:=Lg Tryz.func118
instance:bF Tryz.prog 119:=Lg Tryz.func119
instance:bF Tryz.prog 120:=Lg Tryz.func120
instance:bF Tryz.prog 121:=Lg Tryz.func121
instance:bF Tryz.prog 122:=Lg Tryz.func122
instance:bF Tryz.prog 123:=Lg Tryz.func123
instance:bF Tryz.prog 124:=Lg Tryz.func124
instance:bF Tryz.prog 125:=Lg Tryz.func125
instance:bF Tryz.prog 126:=Lg Tryz.func126
instance:bF Tryz.prog 127:=Lg Tryz.func127
instance:bF Tryz.prog 128:=Lg Tryz.func128
instance:bF Tryz.prog 129:=Lg Tryz.func129
instance:bF Tryz.prog 130:=Lg Tryz.func130
instance:bF Tryz.prog 131:=Lg Tryz.func131
instance:bF Tryz.prog 132:=Lg Tryz.func132
instance:bF Tryz.prog 133:=Lg Tryz.func133
instance:bF Tryz.prog 134:=Lg Tryz.func134
instance:bF Tryz.prog 135:=Lg Tryz.func135
instance:bF Tryz.prog 136:=Lg Tryz.func136
instance:bF Tryz.prog 137:=Lg Tryz.func137
instance:bF Tryz.prog 138:=Lg Tryz.func138
instance:bF Tryz.prog 139:=Lg Tryz.func139
instance:bF Tryz.prog 141:=Lg Tryz.func141
instance:bF Tryz.prog 147:=Lg Tryz.func147
instance:bF Tryz.prog 148:=Lg Tryz.func148
instance:bF Tryz.prog 154:=Lg Tryz.func154
instance:bF Tryz.prog 155:=Lg Tryz.func155
instance:bF Tryz.prog 156:=Lg Tryz.func156
instance:bF Tryz.prog 163:=Lg Tryz.func163
instance:bF Tryz.prog 164:=Lg Tryz.func164
instance:bF Tryz.prog 170:=Lg Tryz.func170
instance:bF Tryz.prog 171:=Lg Tryz.func171
instance:bF Tryz.prog 172:=Lg Tryz.func172
instance:bF Tryz.prog 173:=Lg Tryz.func173
instance:bF Tryz.prog 174:=Lg Tryz.func174
instance:bF Tryz.prog 175:=Lg Tryz.func175
instance:bF Tryz.prog 176:=Lg Tryz.func176
instance:bF Tryz.prog 177:=Lg Tryz.func177
instance:bF Tryz.prog 178:=Lg Tryz.func178
instance:bF Tryz.prog 179:=Lg Tryz.func179
instance:bF Tryz.prog 180:=Lg Tryz.func180
instance:bF Tryz.prog 181:=Lg Tryz.func181
instance:bF Tryz.prog 182:=Lg Tryz.func182
instance:bF Tryz.prog 183:=Lg Tryz.func183
instance:bF Tryz.prog 184:=Lg Tryz.func184
instance:bF Tryz.prog 185:=Lg Tryz.func185
instance:bF Tryz.prog 186:=Lg Tryz.func186
instance:bF Tryz.prog 187:=Lg Tryz.func187
instance:bF Tryz.prog 188:=Lg Tryz.func188
instance:bF Tryz.prog 189:=Lg Tryz.func189
instance:bF Tryz.prog 190:=Lg Tryz.func190
instance:bF Tryz.prog 191:=Lg Tryz.func191
instance:bF Tryz.prog 192:=Lg Tryz.func192
instance:bF Tryz.prog 193:=Lg Tryz.func193
instance:bF Tryz.prog 194:=Lg Tryz.func194
instance:bF Tryz.prog 195:=Lg Tryz.func195
instance:bF Tryz.prog 196:=Lg Tryz.func196
instance:bF Tryz.prog 197:=Lg Tryz.func197
instance:bF Tryz.prog 198:=Lg Tryz.func198
instance:bF Tryz.prog 199:=Lg Tryz.func199
instance:bF Tryz.prog 200:=Lg Tryz.func200
instance:bF Tryz.prog 201:=Lg Tryz.func201
instance:bF Tryz.prog 202:=Lg Tryz.func202
instance:bF Tryz.prog 203:=Lg Tryz.func203
instance:bF Tryz.prog 204:=Lg Tryz.func204
instance:bF Tryz.prog 205:=Lg Tryz.func205
instance:bF Tryz.prog 206:=Lg Tryz.func206
instance:bF Tryz.prog 207:=Lg Tryz.func207
instance:bF Tryz.prog 208:=Lg Tryz.func208
instance:bF Tryz.prog 209:=Lg Tryz.func209
instance:bF Tryz.prog 210:=Lg Tryz.func210
instance:bF Tryz.prog 211:=Lg Tryz.func211
instance:bF Tryz.prog 212:=Lg Tryz.func212
instance:bF Tryz.prog 213:=Lg Tryz.func213
instance:bF Tryz.prog 214:=Lg Tryz.func214
instance:bF Tryz.prog 215:=Lg Tryz.func215
instance:bF Tryz.prog 216:=Lg Tryz.func216
instance:bF Tryz.prog 217:=Lg Tryz.func217
instance:bF Tryz.prog 218:=Lg Tryz.func218
instance:bF Tryz.prog 219:=Lg Tryz.func219
instance:bF Tryz.prog 220:=Lg Tryz.func220
instance:bF Tryz.prog 221:=Lg Tryz.func221
instance:bF Tryz.prog 228:=Lg Tryz.func228
instance:bF Tryz.prog 243:=Lg Tryz.func243
instance:bF Tryz.prog 244:=Lg Tryz.func244
instance:bF Tryz.prog 245:=Lg Tryz.func245
instance:bF Tryz.prog 246:=Lg Tryz.func246
instance:bF Tryz.prog 247:=Lg Tryz.func247
instance:bF Tryz.prog 248:=Lg Tryz.func248
instance:bF Tryz.prog 249:=Lg Tryz.func249
instance:bF Tryz.prog 250:=Lg Tryz.func250
instance:bF Tryz.prog 251:=Lg Tryz.func251
instance:bF Tryz.prog 252:=Lg Tryz.func252
instance:bF Tryz.prog 253:=Lg Tryz.func253
instance:bF Tryz.prog 254:=Lg Tryz.func254
instance:bF Tryz.prog 255:=Lg Tryz.func255
instance:bF Tryz.prog 256:=Lg Tryz.func256
instance:bF Tryz.prog 257:=Lg Tryz.func257
instance:bF Tryz.prog 258:=Lg Tryz.func258
instance:bF Tryz.prog 259:=Lg Tryz.func259
instance:bF Tryz.prog 260:=Lg Tryz.func260
instance:bF Tryz.prog 261:=Lg Tryz.func261
instance:bF Tryz.prog 262:=Lg Tryz.func262
instance:bF Tryz.prog 263:=Lg Tryz.func263
instance:bF Tryz.prog 264:=Lg Tryz.func264
instance:bF Tryz.prog 265:=Lg Tryz.func265
instance:bF Tryz.prog 266:=Lg Tryz.func266
instance:bF Tryz.prog 267:=Lg Tryz.func267
instance:bF Tryz.prog 268:=Lg Tryz.func268
instance:bF Tryz.prog 269:=Lg Tryz.func269
instance:bF Tryz.prog 270:=Lg Tryz.func270
instance:bF Tryz.prog 271:=Lg Tryz.func271
instance:bF Tryz.prog 272:=Lg Tryz.func272
instance:bF Tryz.prog 273:=Lg Tryz.func273
instance:bF Tryz.prog 274:=Lg Tryz.func274
instance:bF Tryz.prog 275:=Lg Tryz.func275
instance:bF Tryz.prog 276:=Lg Tryz.func276
instance:bF Tryz.prog 277:=Lg Tryz.func277
instance:bF Tryz.prog 278:=Lg Tryz.func278
instance:bF Tryz.prog 279:=Lg Tryz.func279
instance:bF Tryz.prog 280:=Lg Tryz.func280
instance:bF Tryz.prog 281:=Lg Tryz.func281
instance:bF Tryz.prog 282:=Lg Tryz.func282
instance:bF Tryz.prog 283:=Lg Tryz.func283
instance:bF Tryz.prog 308:=Lg Tryz.func308
instance:bF Tryz.prog 309:=Lg Tryz.func309
instance:bF Tryz.prog 310:=Lg Tryz.func310
instance:bF Tryz.prog 311:=Lg Tryz.func311
instance:bF Tryz.prog 312:=Lg Tryz.func312
instance:bF Tryz.prog 316:=Lg Tryz.func316
instance:bF Tryz.prog 317:=Lg Tryz.func317
instance:bF Tryz.prog 318:=Lg Tryz.func318
instance:bF Tryz.prog 319:=Lg Tryz.func319
instance:bF Tryz.prog 321:=Lg Tryz.func321
instance:bF Tryz.prog 345:=Lg Tryz.func345
instance:bF Tryz.prog 346:=Lg Tryz.func346
instance:bF Tryz.prog 347:=Lg Tryz.func347
instance:bF Tryz.prog 348:=Lg Tryz.func348
instance:bF Tryz.prog 352:=Lg Tryz.func352
end Go.Proofs.YtamjlkdanllgjaaGreatDoor
