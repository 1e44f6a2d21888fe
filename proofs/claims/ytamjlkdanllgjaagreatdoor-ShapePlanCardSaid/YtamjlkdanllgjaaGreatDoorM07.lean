/-
  Rows that are grown ahead.
-/
import Derived.Test.YtamjlkdanllgjaaGreatDoorM06
import Derived.Lib.AppendZeros
import Derived.Test.YtamjlkdanllgjaaGreatDoorM04
import Derived.Test.YtamjlkdanllgjaaGreatDoorProg
import Derived.KernelRfl
namespace Go.Proofs.YtamjlkdanllgjaaGreatDoor
open Go.RowKit
section
variable {P:Program} {fr:bZ} {B:Bs} {L:AL} {d:Option Tmp} {ty t t' tn:TypeId} {pos:String} {af:Array Edge} {g:Option (Nat×Bool)} {x y z q:Operand} {u:AV}
theorem xl {e sz by_ n:Nat} {k kn:IntKind} {a:Int} (hc:m8 P t e sz by_) (hsz:0 < sz) (hn:P.underlying tn=some (.int kn)) (hx:bw fr x=some (.sc (.slice none 0 0))) (hy:bw fr y=some (.sc (.int k a))) (ha:a=(n:Int)) (h0:0 < n) (h63:n≤9223372036854775807) (hby:n * by_≤281474976710656):
  AO P ⟨d,.call ⟨.builtin .append,#[x,y],#[t,tn]⟩,ty,pos,af,g⟩ fr B L (fun r L'=>∃b cap,r= .sc (.slice (some ⟨b,0,none⟩) n cap)∧n≤cap∧cap≤maxLen∧L'=(b,.vec e sz 0 cap)::L):=by
 intro σ ρ w hρ hw
 subst ha
 haveI:=hc
 obtain ⟨inf,zz,hi,rfl,rfl,hzz,hzs⟩:=hc.info
 have hr:=Lib.run_append_nil_zeros (P:=P) w t tn ty e inf zz k kn hc.under hn hi hzz n h0 hsz (by omega) hby
 unfold i8
 rw [show (execOp ρ ⟨d,.call ⟨.builtin .append,#[x,y],#[t,tn]⟩,ty,pos,af,g⟩).run P w= .ok (.value (.slice (some ⟨w.heap.size,0,none⟩) n (grownCap w n 0 e))) (w.drew.alloc (.cells (Builtin.zeroCells zz.cells n++Builtin.zeroCells zz.cells (grownCap w n 0 e - n)) e)) by
  simp [execOp,resolve,(hρ x _ hx).sc_inv,(hρ y _ hy).sc_inv,invoke,builtin,hr]]
 have hge:=grownCap_ge w n 0 e
 have hm:=grownCap_le_maxLen w n 0 e (by unfold maxLen;omega)
 refine ⟨σ,.sc _,_,cm.le_refl _,.sc _,(hw.drew _).alloc _ (.vec e inf.size 0 (grownCap w n 0 e)) ⟨_,rfl,?_,Nat.zero_le _,hm⟩,w.heap.size,_,rfl,hge,hm,rfl⟩
 rw [Array.size_append,size_zeroCells,size_zeroCells,hzs,←Nat.add_mul]
 congr 1
 omega
theorem Ju {A:Option Addr} {n c e sz by_:Nat} (hc:m8 P t e sz by_) (hx:bw fr x=some (.sc (.slice A n c))):Av P ⟨d,.call ⟨.builtin .cap,#[x],#[t]⟩,ty,pos,af,g⟩ fr (.sc (.int .i64 c)):=
 eF fun ρ w hρ=>by simp [execOp,resolve,hρ _ _ hx,invoke,builtin,Builtin.cap_,run_underlying hc.under,Result.andThen,goInt]
theorem Jx {e sz by_:Nat} {k:IntKind} (hc:m8 P t e sz by_) (hx:bw fr x=some (.sc (.slice none 0 0))) (hy:bw fr y=some (.sc (.int k 0))):Av P ⟨d,.slice t x none (some y) none,ty,pos,af,g⟩ fr (.sc (.slice none 0 0)):=by
 intro σ ρ w hρ _
 haveI:=hc
 refine ⟨_,?_,.sc _⟩
 simp [execOp,(hρ x _ hx).sc_inv,(hρ y _ hy).sc_inv,Instr.sliceAt,Instr.slice,Instr.sliceBounds,Instr.sliceBound,asIntOf,run_underlying hc.under,eU (t:=t)]
end
section
variable {P:Program} {tt:TT} {r:Option Nat} {ops:Array Oper} {Q:Exit→Act→World→Prop} {nt:Nat} {D:List Deferred} {fr:bZ} {B:Bs} {L:AL} {rest:List Oper} {d:Nat} {ty t t' tn:TypeId} {pos:String} {af:Array Edge} {x y z:Operand} {u:AV}
theorem C4 (ok:eh P tt) (n:Nat) {e sz by_:Nat} {k kn:IntKind} {a:Int} (ht:jW tt t=some (e,sz,by_)) (hn:P.underlying tn=some (.int kn)) (hx:bw fr x=some (.sc (.slice none 0 0))) (hy:bw fr y=some (.sc (.int k a))) (ha:a=(n:Int)) (h0:0 < n) (h63:n≤9223372036854775807) (hby:n * by_≤281474976710656) (hd:Nat.ble nt d=false)
  (h:∀b cap,n≤cap→cap≤maxLen→bF P r ops Q nt D rest ((d,.sc (.slice (some ⟨b,0,none⟩) n cap))::fr) B ((b,.vec e sz 0 cap)::L)):
  bF P r ops Q nt D (⟨some d,.call ⟨.builtin .append,#[x,y],#[t,tn]⟩,ty,pos,af,none⟩::rest) fr B L:=
 cn hd rfl (xl (bE ok ht).1 (bE ok ht).2 hn hx hy ha h0 h63 hby) fun q L' ⟨b,cap,h1,h2,h3,h4⟩=>by subst h1;subst h4;exact h b cap h2 h3
theorem ER (ok:eh P tt) {A:Option Addr} {n c e sz by_:Nat} (ht:jW tt t=some (e,sz,by_)) (hx:bw fr x=some (.sc (.slice A n c))) (hd:Nat.ble nt d=false) (h:bF P r ops Q nt D rest ((d,.sc (.int .i64 c))::fr) B L):bF P r ops Q nt D (⟨some d,.call ⟨.builtin .cap,#[x],#[t]⟩,ty,pos,af,none⟩::rest) fr B L:=cz (Ju (bE ok ht).1 hx) hd rfl h
theorem Ki (ok:eh P tt) {e sz by_:Nat} {k:IntKind} (ht:jW tt t=some (e,sz,by_)) (hx:bw fr x=some (.sc (.slice none 0 0))) (hy:bw fr y=some (.sc (.int k 0))) (hd:Nat.ble nt d=false) (h:bF P r ops Q nt D rest ((d,.sc (.slice none 0 0))::fr) B L):
  bF P r ops Q nt D (⟨some d,.slice t x none (some y) none,ty,pos,af,none⟩::rest) fr B L:=cz (Jx (bE ok ht).1 hx hy) hd rfl h
end
theorem Is {σ:cm} {b cap sz:Nat} {v:Value} (hm:cap≤maxLen) (h:VR σ (.sc (.slice (some ⟨b,0,none⟩) 0 cap)) v):VR σ (.vec (some (b,cap)) sz []) v:=by
 rw [h.sc_inv]
 exact lH (l:=[]) (xs:=[]) (by simp) d4.nil (by simp) (Nat.zero_le _) hm (by simp)
end Go.Proofs.YtamjlkdanllgjaaGreatDoor
namespace Go.Proofs.YtamjlkdanllgjaaGreatDoor
open Go.RowKit
theorem aq {P:Program} {f:FuncId} {fn:Func} {c:Code} (hf:P.funcs[f]?=some fn) (hname:(fn.name== "runtime.NumGoroutine")=false) (hb:fn.body=some c):∀args w,(callFunc f args).run P w= .ok (.enter f args) w:=by
 intro args w
 have hne:¬fn.name= "runtime.NumGoroutine" :=by simpa using hname
 simp [callFunc,hf,hne,hb]
theorem mixed:Tryz.prog.follows .mixedOrders=true:=by kernel_rfl
def tt:TT:=[none,
 some ⟨.other,1,[.nilFunc]⟩,
 some ⟨.int .i64,1,[.int .i64 0]⟩,
 some ⟨.int .i64,1,[.int .i64 0]⟩,
 some ⟨.bool,1,[.bool false]⟩,
 some ⟨.int .u8,1,[.int .u8 0]⟩,
 some ⟨.int .u8,1,[.int .u8 0]⟩,
 some ⟨.struct [(0,1,false),(1,1,false),(2,1,false),(3,1,false)],4,[.int .i64 0,.int .i64 0,.bool false,.int .u8 0]⟩,
 some ⟨.struct [(0,1,false),(1,1,false),(2,1,false),(3,1,false)],4,[.int .i64 0,.int .i64 0,.bool false,.int .u8 0]⟩,
 some ⟨.str,1,[.string ⟨#[]⟩]⟩,
 some ⟨.str,1,[.string ⟨#[]⟩]⟩,
 some ⟨.str,1,[.string ⟨#[]⟩]⟩,
 some ⟨.int .u64,1,[.int .u64 0]⟩,
 some ⟨.struct [(0,1,false),(1,1,false)],2,[.string ⟨#[]⟩,.int .u64 0]⟩,
 some ⟨.struct [(0,1,false),(1,1,false)],2,[.string ⟨#[]⟩,.int .u64 0]⟩,
 some ⟨.other,1,[.pointer none]⟩,
 some ⟨.other,1,[.pointer none]⟩,
 some ⟨.other,1,[.pointer none]⟩,
 some ⟨.struct [(0,1,false)],1,[.pointer none]⟩,
 some ⟨.struct [(0,1,false)],1,[.pointer none]⟩,
 some ⟨.other,1,[.nilIface]⟩,
 some ⟨.int .i32,1,[.int .i32 0]⟩,
 some ⟨.slice 3 1 8,1,[.slice none 0 0]⟩,
 some ⟨.int .u16,1,[.int .u16 0]⟩,
 some ⟨.struct [(0,1,false),(1,1,false),(2,1,false),(3,1,false)],4,[.slice none 0 0,.slice none 0 0,.slice none 0 0,.int .u16 0]⟩,
 some ⟨.struct [(0,1,false),(1,1,false),(2,1,false),(3,1,false)],4,[.slice none 0 0,.slice none 0 0,.slice none 0 0,.int .u16 0]⟩,
 some ⟨.slice 9 1 16,1,[.slice none 0 0]⟩,
 some ⟨.other,1,[.nilFunc]⟩,
 some ⟨.slice 67 9 176,1,[.slice none 0 0]⟩,
 some ⟨.slice 58 2 16,1,[.slice none 0 0]⟩,
 some ⟨.slice 76 3 40,1,[.slice none 0 0]⟩,
 some ⟨.slice 78 2 40,1,[.slice none 0 0]⟩,
 some ⟨.slice 131 4 40,1,[.slice none 0 0]⟩,
 some ⟨.slice 134 1 24,1,[.slice none 0 0]⟩,
 some ⟨.slice 65 1 24,1,[.slice none 0 0]⟩,
 some ⟨.struct [(0,1,false),(1,1,false),(2,1,false),(3,1,false),(4,1,false),(5,1,false),(6,1,false),(7,1,false),(8,1,false)],9,[.int .i64 0,.slice none 0 0,.slice none 0 0,.slice none 0 0,.slice none 0 0,.slice none 0 0,.slice none 0 0,.slice none 0 0,.slice none 0 0]⟩,
 some ⟨.struct [(0,1,false),(1,1,false),(2,1,false),(3,1,false),(4,1,false),(5,1,false),(6,1,false),(7,1,false),(8,1,false)],9,[.int .i64 0,.slice none 0 0,.slice none 0 0,.slice none 0 0,.slice none 0 0,.slice none 0 0,.slice none 0 0,.slice none 0 0,.slice none 0 0]⟩,
 some ⟨.other,1,[.nilFunc]⟩,
 some ⟨.other,1,[.nilFunc]⟩,
 some ⟨.slice 22 1 24,1,[.slice none 0 0]⟩,
 none,
 some ⟨.other,1,[.nilFunc]⟩,
 some ⟨.struct [(0,1,false),(1,1,false)],2,[.slice none 0 0,.slice none 0 0]⟩,
 some ⟨.struct [(0,1,false),(1,1,false)],2,[.slice none 0 0,.slice none 0 0]⟩,
 some ⟨.other,1,[.nilFunc]⟩,
 some ⟨.other,1,[.nilFunc]⟩,
 some ⟨.other,1,[.nilFunc]⟩,
 some ⟨.other,1,[.nilFunc]⟩,
 some ⟨.slice 56 6 48,1,[.slice none 0 0]⟩,
 some ⟨.other,1,[.nilFunc]⟩,
 some ⟨.other,1,[.nilFunc]⟩,
 some ⟨.other,1,[.nilFunc]⟩,
 some ⟨.int .i64,1,[.int .i64 0]⟩,
 none,
 some ⟨.other,1,[.nilFunc]⟩,
 some ⟨.struct [(0,1,false),(1,1,false),(2,1,false),(3,1,false),(4,1,false),(5,1,false)],6,[.int .i64 0,.int .i64 0,.int .i64 0,.int .i64 0,.int .i64 0,.int .i64 0]⟩,
 some ⟨.struct [(0,1,false),(1,1,false),(2,1,false),(3,1,false),(4,1,false),(5,1,false)],6,[.int .i64 0,.int .i64 0,.int .i64 0,.int .i64 0,.int .i64 0,.int .i64 0]⟩,
 some ⟨.struct [(0,1,false),(1,1,false)],2,[.int .i64 0,.int .i64 0]⟩,
 some ⟨.struct [(0,1,false),(1,1,false)],2,[.int .i64 0,.int .i64 0]⟩,
 some ⟨.slice 167 3 24,1,[.slice none 0 0]⟩,
 some ⟨.struct [(0,1,false),(1,1,false)],2,[.slice none 0 0,.slice none 0 0]⟩,
 some ⟨.struct [(0,1,false),(1,1,false)],2,[.slice none 0 0,.slice none 0 0]⟩,
 some ⟨.slice 176 3 24,1,[.slice none 0 0]⟩,
 some ⟨.slice 180 4 32,1,[.slice none 0 0]⟩,
 some ⟨.slice 182 4 32,1,[.slice none 0 0]⟩,
 some ⟨.slice 126 2 16,1,[.slice none 0 0]⟩,
 some ⟨.struct [(0,1,false),(1,1,false),(2,1,false),(3,2,true),(5,1,false),(6,1,false),(7,1,false),(8,1,false)],9,[.string ⟨#[]⟩,.int .i64 0,.bool false,.slice none 0 0,.slice none 0 0,.slice none 0 0,.slice none 0 0,.slice none 0 0,.slice none 0 0]⟩,
 some ⟨.struct [(0,1,false),(1,1,false),(2,1,false),(3,2,true),(5,1,false),(6,1,false),(7,1,false),(8,1,false)],9,[.string ⟨#[]⟩,.int .i64 0,.bool false,.slice none 0 0,.slice none 0 0,.slice none 0 0,.slice none 0 0,.slice none 0 0,.slice none 0 0]⟩,
 some ⟨.other,1,[.nilFunc]⟩,
 some ⟨.slice 5 1 1,1,[.slice none 0 0]⟩,
 some ⟨.arr 4 9 1,4,[.string ⟨#[]⟩,.string ⟨#[]⟩,.string ⟨#[]⟩,.string ⟨#[]⟩]⟩,
 some ⟨.slice 171 2 16,1,[.slice none 0 0]⟩,
 some ⟨.struct [(0,1,false),(1,1,false),(2,1,false),(3,1,false),(4,1,false),(5,1,false)],6,[.slice none 0 0,.slice none 0 0,.slice none 0 0,.slice none 0 0,.slice none 0 0,.int .i64 0]⟩,
 some ⟨.struct [(0,1,false),(1,1,false),(2,1,false),(3,1,false),(4,1,false),(5,1,false)],6,[.slice none 0 0,.slice none 0 0,.slice none 0 0,.slice none 0 0,.slice none 0 0,.int .i64 0]⟩,
 some ⟨.slice 73 6 128,1,[.slice none 0 0]⟩,
 some ⟨.struct [(0,1,false),(1,1,false),(2,1,false)],3,[.int .i64 0,.bool false,.slice none 0 0]⟩,
 some ⟨.struct [(0,1,false),(1,1,false),(2,1,false)],3,[.int .i64 0,.bool false,.slice none 0 0]⟩,
 some ⟨.struct [(0,1,false),(1,1,false)],2,[.string ⟨#[]⟩,.slice none 0 0]⟩,
 some ⟨.struct [(0,1,false),(1,1,false)],2,[.string ⟨#[]⟩,.slice none 0 0]⟩,
 some ⟨.arr 4 3 1,4,[.int .i64 0,.int .i64 0,.int .i64 0,.int .i64 0]⟩,
 some ⟨.other,1,[.nilFunc]⟩,
 none,
 some ⟨.other,1,[.nilFunc]⟩,
 some ⟨.other,1,[.nilFunc]⟩,
 some ⟨.other,1,[.nilFunc]⟩,
 some ⟨.other,1,[.nilFunc]⟩,
 some ⟨.other,1,[.map none]⟩,
 some ⟨.other,1,[.map none]⟩,
 some ⟨.other,1,[.nilFunc]⟩,
 some ⟨.arr 5 4 1,5,[.bool false,.bool false,.bool false,.bool false,.bool false]⟩,
 none,
 some ⟨.other,1,[.nilFunc]⟩,
 some ⟨.other,1,[.nilFunc]⟩,
 some ⟨.other,1,[.nilFunc]⟩,
 some ⟨.other,1,[.nilFunc]⟩,
 some ⟨.other,1,[.nilFunc]⟩,
 some ⟨.other,1,[.map none]⟩,
 none,
 some ⟨.other,1,[.pointer none]⟩,
 none,
 some ⟨.other,1,[.nilFunc]⟩,
 some ⟨.other,1,[.nilFunc]⟩,
 some ⟨.struct [(0,1,false),(1,1,false)],2,[.int .i64 0,.int .i64 0]⟩,
 some ⟨.struct [(0,1,false),(1,1,false)],2,[.int .i64 0,.int .i64 0]⟩,
 some ⟨.other,1,[.nilFunc]⟩,
 some ⟨.other,1,[.nilFunc]⟩,
 some ⟨.other,1,[.nilFunc]⟩,
 some ⟨.other,1,[.nilFunc]⟩,
 some ⟨.other,1,[.nilFunc]⟩,
 some ⟨.other,1,[.nilFunc]⟩,
 some ⟨.other,1,[.nilFunc]⟩,
 some ⟨.struct [(0,9,true),(9,9,true),(18,1,false)],19,[.int .i64 0,.slice none 0 0,.slice none 0 0,.slice none 0 0,.slice none 0 0,.slice none 0 0,.slice none 0 0,.slice none 0 0,.slice none 0 0,.int .i64 0,.slice none 0 0,.slice none 0 0,.slice none 0 0,.slice none 0 0,.slice none 0 0,.slice none 0 0,.slice none 0 0,.slice none 0 0,.nilFunc]⟩,
 some ⟨.struct [(0,9,true),(9,9,true),(18,1,false)],19,[.int .i64 0,.slice none 0 0,.slice none 0 0,.slice none 0 0,.slice none 0 0,.slice none 0 0,.slice none 0 0,.slice none 0 0,.slice none 0 0,.int .i64 0,.slice none 0 0,.slice none 0 0,.slice none 0 0,.slice none 0 0,.slice none 0 0,.slice none 0 0,.slice none 0 0,.slice none 0 0,.nilFunc]⟩,
 some ⟨.slice 156 2 16,1,[.slice none 0 0]⟩,
 none,
 some ⟨.other,1,[.nilFunc]⟩,
 some ⟨.other,1,[.map none]⟩,
 some ⟨.struct [(0,9,true),(9,1,false),(10,1,false)],11,[.int .i64 0,.slice none 0 0,.slice none 0 0,.slice none 0 0,.slice none 0 0,.slice none 0 0,.slice none 0 0,.slice none 0 0,.slice none 0 0,.slice none 0 0,.map none]⟩,
 some ⟨.struct [(0,9,true),(9,1,false),(10,1,false)],11,[.int .i64 0,.slice none 0 0,.slice none 0 0,.slice none 0 0,.slice none 0 0,.slice none 0 0,.slice none 0 0,.slice none 0 0,.slice none 0 0,.slice none 0 0,.map none]⟩,
 none,
 some ⟨.other,1,[.nilFunc]⟩,
 some ⟨.other,1,[.nilFunc]⟩,
 some ⟨.other,1,[.nilFunc]⟩,
 some ⟨.other,1,[.nilFunc]⟩,
 some ⟨.other,1,[.nilFunc]⟩,
 some ⟨.struct [(0,1,false),(1,1,false)],2,[.int .i64 0,.int .i64 0]⟩,
 some ⟨.struct [(0,1,false),(1,1,false)],2,[.int .i64 0,.int .i64 0]⟩,
 some ⟨.other,1,[.pointer none]⟩,
 some ⟨.struct [(0,1,false),(1,1,false),(2,9,true),(11,1,false)],12,[.slice none 0 0,.int .i64 0,.int .i64 0,.slice none 0 0,.slice none 0 0,.slice none 0 0,.slice none 0 0,.slice none 0 0,.slice none 0 0,.slice none 0 0,.slice none 0 0,.int .i64 0]⟩,
 some ⟨.struct [(0,1,false),(1,1,false),(2,9,true),(11,1,false)],12,[.slice none 0 0,.int .i64 0,.int .i64 0,.slice none 0 0,.slice none 0 0,.slice none 0 0,.slice none 0 0,.slice none 0 0,.slice none 0 0,.slice none 0 0,.slice none 0 0,.int .i64 0]⟩,
 some ⟨.struct [(0,1,false),(1,1,false),(2,1,false),(3,1,false)],4,[.string ⟨#[]⟩,.int .i64 0,.int .i64 0,.int .i64 0]⟩,
 some ⟨.struct [(0,1,false),(1,1,false),(2,1,false),(3,1,false)],4,[.string ⟨#[]⟩,.int .i64 0,.int .i64 0,.int .i64 0]⟩,
 some ⟨.slice 136 3 24,1,[.slice none 0 0]⟩,
 some ⟨.struct [(0,1,false)],1,[.slice none 0 0]⟩,
 some ⟨.struct [(0,1,false)],1,[.slice none 0 0]⟩,
 some ⟨.struct [(0,1,false),(1,1,false),(2,1,false)],3,[.int .i64 0,.int .i64 0,.int .i64 0]⟩,
 some ⟨.struct [(0,1,false),(1,1,false),(2,1,false)],3,[.int .i64 0,.int .i64 0,.int .i64 0]⟩,
 some ⟨.other,1,[.nilFunc]⟩,
 some ⟨.other,1,[.nilFunc]⟩,
 some ⟨.other,1,[.nilFunc]⟩,
 some ⟨.other,1,[.nilFunc]⟩,
 some ⟨.int .u64,1,[.int .u64 0]⟩,
 some ⟨.other,1,[.nilFunc]⟩,
 some ⟨.other,1,[.nilFunc]⟩,
 none,
 some ⟨.other,1,[.nilFunc]⟩,
 some ⟨.other,1,[.pointer none]⟩,
 none,
 some ⟨.other,1,[.nilFunc]⟩,
 some ⟨.other,1,[.nilFunc]⟩,
 some ⟨.other,1,[.nilFunc]⟩,
 some ⟨.other,1,[.nilFunc]⟩,
 some ⟨.other,1,[.nilFunc]⟩,
 some ⟨.other,1,[.nilFunc]⟩,
 some ⟨.other,1,[.nilFunc]⟩,
 some ⟨.struct [(0,1,false),(1,1,false)],2,[.int .i64 0,.int .i64 0]⟩,
 some ⟨.struct [(0,1,false),(1,1,false)],2,[.int .i64 0,.int .i64 0]⟩,
 some ⟨.other,1,[.nilFunc]⟩,
 some ⟨.other,1,[.nilFunc]⟩,
 some ⟨.other,1,[.map none]⟩,
 some ⟨.other,1,[.nilFunc]⟩,
 some ⟨.struct [(0,2,true),(2,2,true)],4,[.int .i64 0,.int .i64 0,.int .i64 0,.int .i64 0]⟩,
 some ⟨.struct [(0,2,true),(2,2,true)],4,[.int .i64 0,.int .i64 0,.int .i64 0,.int .i64 0]⟩,
 some ⟨.other,1,[.nilFunc]⟩,
 some ⟨.other,1,[.nilFunc]⟩,
 some ⟨.other,1,[.pointer none]⟩,
 some ⟨.struct [(0,1,false),(1,1,false),(2,1,false)],3,[.int .i64 0,.int .i64 0,.bool false]⟩,
 some ⟨.struct [(0,1,false),(1,1,false),(2,1,false)],3,[.int .i64 0,.int .i64 0,.bool false]⟩,
 some ⟨.other,1,[.nilFunc]⟩,
 some ⟨.other,1,[.nilFunc]⟩,
 some ⟨.struct [(0,1,false),(1,1,false)],2,[.int .i64 0,.int .i64 0]⟩,
 some ⟨.struct [(0,1,false),(1,1,false)],2,[.int .i64 0,.int .i64 0]⟩,
 some ⟨.other,1,[.nilFunc]⟩,
 some ⟨.other,1,[.nilFunc]⟩,
 some ⟨.other,1,[.nilFunc]⟩,
 some ⟨.struct [(0,1,false),(1,1,false),(2,1,false)],3,[.int .i64 0,.int .i64 0,.int .i64 0]⟩,
 some ⟨.struct [(0,1,false),(1,1,false),(2,1,false)],3,[.int .i64 0,.int .i64 0,.int .i64 0]⟩,
 some ⟨.arr 2 3 1,2,[.int .i64 0,.int .i64 0]⟩,
 some ⟨.slice 177 2 16,1,[.slice none 0 0]⟩,
 some ⟨.struct [(0,1,false),(1,1,false),(2,1,false),(3,1,false)],4,[.int .i64 0,.int .i64 0,.int .i64 0,.int .i64 0]⟩,
 some ⟨.struct [(0,1,false),(1,1,false),(2,1,false),(3,1,false)],4,[.int .i64 0,.int .i64 0,.int .i64 0,.int .i64 0]⟩,
 some ⟨.struct [(0,1,false),(1,1,false),(2,1,false),(3,1,false)],4,[.int .i64 0,.int .i64 0,.int .i64 0,.int .i64 0]⟩,
 some ⟨.struct [(0,1,false),(1,1,false),(2,1,false),(3,1,false)],4,[.int .i64 0,.int .i64 0,.int .i64 0,.int .i64 0]⟩,
 some ⟨.other,1,[.nilFunc]⟩,
 some ⟨.other,1,[.nilFunc]⟩,
 some ⟨.int .i64,1,[.int .i64 0]⟩,
 none,
 some ⟨.other,1,[.nilFunc]⟩,
 some ⟨.other,1,[.nilFunc]⟩,
 some ⟨.other,1,[.nilFunc]⟩,
 some ⟨.other,1,[.nilFunc]⟩,
 some ⟨.other,1,[.nilFunc]⟩,
 some ⟨.int .u32,1,[.int .u32 0]⟩,
 some ⟨.other,1,[.nilFunc]⟩,
 some ⟨.int .u64,1,[.int .u64 0]⟩,
 some ⟨.other,1,[.nilFunc]⟩,
 some ⟨.other,1,[.map none]⟩,
 some ⟨.other,1,[.nilFunc]⟩,
 some ⟨.other,1,[.nilFunc]⟩,
 some ⟨.other,1,[.nilFunc]⟩,
 some ⟨.other,1,[.nilFunc]⟩,
 some ⟨.other,1,[.nilFunc]⟩,
 some ⟨.other,1,[.nilFunc]⟩,
 some ⟨.other,1,[.nilFunc]⟩,
 some ⟨.other,1,[.nilFunc]⟩,
 some ⟨.other,1,[.nilFunc]⟩,
 some ⟨.other,1,[.nilFunc]⟩,
 some ⟨.other,1,[.nilFunc]⟩,
 some ⟨.other,1,[.nilFunc]⟩,
 some ⟨.other,1,[.nilFunc]⟩,
 some ⟨.other,1,[.nilFunc]⟩,
 some ⟨.other,1,[.nilFunc]⟩,
 some ⟨.other,1,[.nilFunc]⟩,
 some ⟨.other,1,[.nilFunc]⟩,
 some ⟨.other,1,[.nilFunc]⟩,
 some ⟨.other,1,[.nilFunc]⟩,
 some ⟨.other,1,[.nilFunc]⟩,
 some ⟨.other,1,[.nilFunc]⟩,
 some ⟨.other,1,[.nilFunc]⟩,
 some ⟨.other,1,[.nilFunc]⟩,
 some ⟨.other,1,[.nilFunc]⟩,
 some ⟨.other,1,[.nilFunc]⟩,
 some ⟨.other,1,[.nilFunc]⟩,
 some ⟨.other,1,[.nilFunc]⟩,
 some ⟨.other,1,[.nilFunc]⟩,
 some ⟨.other,1,[.nilFunc]⟩,
 some ⟨.other,1,[.nilFunc]⟩,
 some ⟨.other,1,[.nilFunc]⟩,
 some ⟨.other,1,[.nilFunc]⟩,
 some ⟨.other,1,[.nilFunc]⟩,
 some ⟨.other,1,[.nilFunc]⟩,
 some ⟨.other,1,[.nilFunc]⟩,
 some ⟨.other,1,[.nilFunc]⟩,
 some ⟨.other,1,[.nilFunc]⟩,
 some ⟨.slice 243 10 176,1,[.slice none 0 0]⟩,
 some ⟨.slice 4 1 1,1,[.slice none 0 0]⟩,
 some ⟨.struct [(0,1,false),(1,1,false)],2,[.slice none 0 0,.slice none 0 0]⟩,
 some ⟨.struct [(0,1,false),(1,1,false)],2,[.slice none 0 0,.slice none 0 0]⟩,
 some ⟨.other,1,[.nilFunc]⟩,
 some ⟨.slice 194 1 8,1,[.slice none 0 0]⟩,
 some ⟨.struct [(0,1,false),(1,1,false),(2,1,false),(3,1,false),(4,1,false)],5,[.slice none 0 0,.slice none 0 0,.slice none 0 0,.slice none 0 0,.slice none 0 0]⟩,
 some ⟨.struct [(0,1,false),(1,1,false),(2,1,false),(3,1,false),(4,1,false)],5,[.slice none 0 0,.slice none 0 0,.slice none 0 0,.slice none 0 0,.slice none 0 0]⟩,
 some ⟨.struct [(0,3,true),(3,5,true),(8,1,false),(9,1,false)],10,[.int .i64 0,.bool false,.slice none 0 0,.slice none 0 0,.slice none 0 0,.slice none 0 0,.slice none 0 0,.slice none 0 0,.int .i64 0,.int .i64 0]⟩,
 some ⟨.struct [(0,3,true),(3,5,true),(8,1,false),(9,1,false)],10,[.int .i64 0,.bool false,.slice none 0 0,.slice none 0 0,.slice none 0 0,.slice none 0 0,.slice none 0 0,.slice none 0 0,.int .i64 0,.int .i64 0]⟩,
 some ⟨.other,1,[.nilFunc]⟩,
 none,
 some ⟨.other,1,[.nilFunc]⟩,
 some ⟨.other,1,[.nilFunc]⟩,
 some ⟨.other,1,[.nilFunc]⟩,
 some ⟨.other,1,[.pointer none]⟩,
 some ⟨.other,1,[.nilFunc]⟩,
 some ⟨.struct [(0,9,true),(9,3,true),(12,1,false),(13,1,false)],14,[.int .i64 0,.slice none 0 0,.slice none 0 0,.slice none 0 0,.slice none 0 0,.slice none 0 0,.slice none 0 0,.slice none 0 0,.slice none 0 0,.int .i64 0,.bool false,.slice none 0 0,.int .i64 0,.slice none 0 0]⟩,
 some ⟨.struct [(0,9,true),(9,3,true),(12,1,false),(13,1,false)],14,[.int .i64 0,.slice none 0 0,.slice none 0 0,.slice none 0 0,.slice none 0 0,.slice none 0 0,.slice none 0 0,.slice none 0 0,.slice none 0 0,.int .i64 0,.bool false,.slice none 0 0,.int .i64 0,.slice none 0 0]⟩,
 some ⟨.other,1,[.nilFunc]⟩,
 some ⟨.other,1,[.nilFunc]⟩,
 some ⟨.other,1,[.pointer none]⟩,
 some ⟨.other,1,[.map none]⟩,
 some ⟨.struct [(0,9,true),(9,1,false),(10,1,false)],11,[.int .i64 0,.slice none 0 0,.slice none 0 0,.slice none 0 0,.slice none 0 0,.slice none 0 0,.slice none 0 0,.slice none 0 0,.slice none 0 0,.slice none 0 0,.map none]⟩,
 some ⟨.struct [(0,9,true),(9,1,false),(10,1,false)],11,[.int .i64 0,.slice none 0 0,.slice none 0 0,.slice none 0 0,.slice none 0 0,.slice none 0 0,.slice none 0 0,.slice none 0 0,.slice none 0 0,.slice none 0 0,.map none]⟩,
 some ⟨.other,1,[.nilFunc]⟩,
 none,
 some ⟨.other,1,[.nilFunc]⟩,
 none,
 some ⟨.other,1,[.nilFunc]⟩,
 some ⟨.other,1,[.nilFunc]⟩,
 some ⟨.other,1,[.nilFunc]⟩,
 some ⟨.other,1,[.nilFunc]⟩,
 some ⟨.other,1,[.nilFunc]⟩,
 some ⟨.other,1,[.nilFunc]⟩,
 none,
 some ⟨.other,1,[.nilFunc]⟩,
 some ⟨.other,1,[.nilFunc]⟩,
 some ⟨.arr 2 194 1,2,[.int .u64 0,.int .u64 0]⟩,
 some ⟨.arr 2 194 1,2,[.int .u64 0,.int .u64 0]⟩,
 some ⟨.struct [(0,2,true),(2,1,false)],3,[.int .u64 0,.int .u64 0,.bool false]⟩,
 some ⟨.struct [(0,2,true),(2,1,false)],3,[.int .u64 0,.int .u64 0,.bool false]⟩,
 some ⟨.other,1,[.nilFunc]⟩,
 none,
 some ⟨.other,1,[.nilFunc]⟩,
 some ⟨.other,1,[.nilFunc]⟩,
 some ⟨.other,1,[.nilFunc]⟩,
 some ⟨.other,1,[.nilFunc]⟩,
 some ⟨.int .u64,1,[.int .u64 0]⟩,
 some ⟨.other,1,[.nilFunc]⟩,
 some ⟨.other,1,[.nilFunc]⟩,
 some ⟨.other,1,[.nilFunc]⟩,
 some ⟨.other,1,[.pointer none]⟩,
 some ⟨.other,1,[.nilFunc]⟩,
 some ⟨.slice 206 1 8,1,[.slice none 0 0]⟩,
 some ⟨.other,1,[.nilFunc]⟩,
 some ⟨.other,1,[.nilFunc]⟩,
 some ⟨.other,1,[.nilFunc]⟩,
 some ⟨.other,1,[.nilFunc]⟩,
 some ⟨.other,1,[.nilFunc]⟩,
 some ⟨.other,1,[.nilFunc]⟩,
 some ⟨.other,1,[.nilFunc]⟩,
 some ⟨.other,1,[.nilFunc]⟩,
 some ⟨.other,1,[.nilFunc]⟩,
 some ⟨.other,1,[.nilFunc]⟩,
 some ⟨.other,1,[.nilFunc]⟩,
 some ⟨.other,1,[.nilFunc]⟩,
 some ⟨.other,1,[.nilFunc]⟩,
 some ⟨.other,1,[.nilFunc]⟩,
 some ⟨.other,1,[.nilFunc]⟩,
 none,
 some ⟨.other,1,[.nilFunc]⟩,
 some ⟨.other,1,[.nilFunc]⟩,
 some ⟨.other,1,[.nilFunc]⟩,
 some ⟨.other,1,[.nilFunc]⟩,
 some ⟨.other,1,[.nilFunc]⟩,
 some ⟨.other,1,[.nilFunc]⟩,
 some ⟨.other,1,[.nilFunc]⟩,
 some ⟨.other,1,[.nilFunc]⟩,
 some ⟨.other,1,[.nilFunc]⟩,
 some ⟨.other,1,[.nilFunc]⟩,
 some ⟨.other,1,[.nilFunc]⟩,
 some ⟨.other,1,[.nilFunc]⟩,
 some ⟨.other,1,[.nilFunc]⟩,
 some ⟨.other,1,[.nilFunc]⟩,
 some ⟨.other,1,[.nilFunc]⟩,
 some ⟨.other,1,[.nilFunc]⟩,
 some ⟨.struct [(0,1,false),(1,1,false)],2,[.slice none 0 0,.slice none 0 0]⟩,
 some ⟨.struct [(0,1,false),(1,1,false)],2,[.slice none 0 0,.slice none 0 0]⟩,
 none,
 some ⟨.other,1,[.nilFunc]⟩,
 some ⟨.other,1,[.nilFunc]⟩,
 some ⟨.other,1,[.pointer none]⟩,
 some ⟨.struct [(0,1,false),(1,1,false)],2,[.pointer none,.slice none 0 0]⟩,
 some ⟨.struct [(0,1,false),(1,1,false)],2,[.pointer none,.slice none 0 0]⟩,
 some ⟨.other,1,[.nilFunc]⟩,
 some ⟨.other,1,[.pointer none]⟩,
 some ⟨.other,1,[.nilFunc]⟩,
 some ⟨.other,1,[.map none]⟩,
 some ⟨.other,1,[.nilFunc]⟩,
 some ⟨.other,1,[.nilFunc]⟩,
 some ⟨.other,1,[.nilFunc]⟩,
 some ⟨.other,1,[.nilFunc]⟩,
 some ⟨.other,1,[.pointer none]⟩,
 some ⟨.other,1,[.nilFunc]⟩,
 none,
 some ⟨.other,1,[.nilFunc]⟩,
 some ⟨.other,1,[.nilFunc]⟩,
 some ⟨.other,1,[.nilFunc]⟩,
 some ⟨.other,1,[.nilFunc]⟩,
 some ⟨.other,1,[.nilFunc]⟩,
 some ⟨.other,1,[.nilFunc]⟩,
 some ⟨.other,1,[.nilFunc]⟩,
 some ⟨.other,1,[.nilFunc]⟩,
 none,
 some ⟨.other,1,[.nilFunc]⟩,
 some ⟨.other,1,[.pointer none]⟩,
 none,
 some ⟨.other,1,[.nilFunc]⟩,
 some ⟨.other,1,[.nilFunc]⟩,
 some ⟨.other,1,[.nilFunc]⟩,
 some ⟨.other,1,[.nilFunc]⟩,
 some ⟨.other,1,[.nilFunc]⟩,
 some ⟨.other,1,[.nilFunc]⟩,
 some ⟨.other,1,[.nilFunc]⟩,
 some ⟨.other,1,[.map none]⟩,
 some ⟨.struct [(0,1,false),(1,1,false)],2,[.int .i64 0,.int .i64 0]⟩,
 some ⟨.struct [(0,1,false),(1,1,false)],2,[.int .i64 0,.int .i64 0]⟩,
 some ⟨.other,1,[.nilFunc]⟩,
 some ⟨.struct [(0,1,false),(1,1,false)],2,[.int .i64 0,.int .i64 0]⟩,
 some ⟨.struct [(0,1,false),(1,1,false)],2,[.int .i64 0,.int .i64 0]⟩,
 some ⟨.other,1,[.nilFunc]⟩,
 some ⟨.other,1,[.nilFunc]⟩,
 some ⟨.other,1,[.nilFunc]⟩,
 some ⟨.other,1,[.nilFunc]⟩,
 some ⟨.other,1,[.nilFunc]⟩,
 some ⟨.other,1,[.nilFunc]⟩,
 some ⟨.other,1,[.nilFunc]⟩,
 some ⟨.other,1,[.nilFunc]⟩,
 some ⟨.other,1,[.nilFunc]⟩,
 some ⟨.other,1,[.pointer none]⟩,
 some ⟨.slice 377 2 16,1,[.slice none 0 0]⟩,
 some ⟨.struct [(0,1,false),(1,1,false)],2,[.int .i64 0,.int .u64 0]⟩,
 some ⟨.struct [(0,1,false),(1,1,false)],2,[.int .i64 0,.int .u64 0]⟩,
 some ⟨.other,1,[.nilFunc]⟩,
 some ⟨.other,1,[.nilFunc]⟩,
 some ⟨.other,1,[.nilFunc]⟩,
 some ⟨.slice 39 1 24,1,[.slice none 0 0]⟩,
 some ⟨.slice 444 2 32,1,[.slice none 0 0]⟩,
 some ⟨.struct [(0,1,false),(1,1,false),(2,1,false),(3,1,false),(4,1,false)],5,[.slice none 0 0,.int .u64 0,.slice none 0 0,.int .i64 0,.slice none 0 0]⟩,
 some ⟨.struct [(0,1,false),(1,1,false),(2,1,false),(3,1,false),(4,1,false)],5,[.slice none 0 0,.int .u64 0,.slice none 0 0,.int .i64 0,.slice none 0 0]⟩,
 some ⟨.other,1,[.nilFunc]⟩,
 some ⟨.other,1,[.nilFunc]⟩,
 some ⟨.other,1,[.nilFunc]⟩,
 some ⟨.other,1,[.nilFunc]⟩,
 some ⟨.other,1,[.pointer none]⟩,
 none,
 some ⟨.other,1,[.nilFunc]⟩,
 some ⟨.other,1,[.nilFunc]⟩,
 some ⟨.other,1,[.pointer none]⟩,
 none,
 some ⟨.other,1,[.nilFunc]⟩,
 some ⟨.struct [(0,1,false),(1,1,false),(2,1,false)],3,[.int .i64 0,.int .i64 0,.int .i64 0]⟩,
 some ⟨.struct [(0,1,false),(1,1,false),(2,1,false)],3,[.int .i64 0,.int .i64 0,.int .i64 0]⟩,
 some ⟨.other,1,[.nilFunc]⟩,
 some ⟨.other,1,[.nilFunc]⟩,
 some ⟨.other,1,[.nilFunc]⟩,
 some ⟨.other,1,[.nilFunc]⟩,
 none,
 none,
 some ⟨.other,1,[.nilFunc]⟩,
 some ⟨.other,1,[.nilFunc]⟩,
 some ⟨.other,1,[.nilFunc]⟩,
 some ⟨.other,1,[.nilFunc]⟩,
 some ⟨.struct [(0,1,false),(1,1,false),(2,1,false),(3,1,false),(4,1,false)],5,[.slice none 0 0,.bool false,.nilFunc,.int .i64 0,.int .i64 0]⟩,
 some ⟨.struct [(0,1,false),(1,1,false),(2,1,false),(3,1,false),(4,1,false)],5,[.slice none 0 0,.bool false,.nilFunc,.int .i64 0,.int .i64 0]⟩,
 some ⟨.other,1,[.nilFunc]⟩,
 some ⟨.other,1,[.nilFunc]⟩,
 some ⟨.other,1,[.nilFunc]⟩,
 some ⟨.other,1,[.nilFunc]⟩,
 some ⟨.other,1,[.nilFunc]⟩,
 some ⟨.other,1,[.nilFunc]⟩,
 some ⟨.other,1,[.nilFunc]⟩,
 some ⟨.other,1,[.nilFunc]⟩,
 some ⟨.other,1,[.nilFunc]⟩,
 some ⟨.other,1,[.nilFunc]⟩,
 some ⟨.other,1,[.nilIface]⟩,
 some ⟨.other,1,[.nilIface]⟩,
 some ⟨.other,1,[.map none]⟩,
 some ⟨.slice 3 1 8,1,[.slice none 0 0]⟩,
 some ⟨.other,1,[.nilFunc]⟩,
 some ⟨.other,1,[.nilFunc]⟩,
 some ⟨.other,1,[.nilFunc]⟩,
 some ⟨.other,1,[.nilFunc]⟩,
 some ⟨.other,1,[.pointer none]⟩,
 some ⟨.other,1,[.nilFunc]⟩,
 some ⟨.other,1,[.nilFunc]⟩,
 some ⟨.other,1,[.map none]⟩,
 some ⟨.other,1,[.nilFunc]⟩,
 some ⟨.other,1,[.nilFunc]⟩,
 some ⟨.other,1,[.nilFunc]⟩,
 some ⟨.other,1,[.nilFunc]⟩,
 some ⟨.other,1,[.nilFunc]⟩,
 some ⟨.other,1,[.nilFunc]⟩,
 some ⟨.other,1,[.nilFunc]⟩,
 some ⟨.other,1,[.nilFunc]⟩,
 some ⟨.other,1,[.nilFunc]⟩,
 some ⟨.other,1,[.nilFunc]⟩,
 some ⟨.arr 16 5 1,16,[.int .u8 0,.int .u8 0,.int .u8 0,.int .u8 0,.int .u8 0,.int .u8 0,.int .u8 0,.int .u8 0,.int .u8 0,.int .u8 0,.int .u8 0,.int .u8 0,.int .u8 0,.int .u8 0,.int .u8 0,.int .u8 0]⟩,
 some ⟨.struct [(0,1,false),(1,1,false)],2,[.slice none 0 0,.int .u64 0]⟩,
 some ⟨.struct [(0,1,false),(1,1,false)],2,[.slice none 0 0,.int .u64 0]⟩,
 some ⟨.other,1,[.nilFunc]⟩,
 none,
 some ⟨.other,1,[.nilFunc]⟩,
 none,
 some ⟨.other,1,[.nilFunc]⟩,
 some ⟨.other,1,[.nilFunc]⟩,
 some ⟨.other,1,[.nilFunc]⟩,
 some ⟨.other,1,[.nilFunc]⟩,
 some ⟨.other,1,[.nilFunc]⟩,
 some ⟨.other,1,[.nilFunc]⟩,
 some ⟨.other,1,[.nilFunc]⟩,
 some ⟨.other,1,[.nilFunc]⟩,
 some ⟨.other,1,[.nilFunc]⟩,
 some ⟨.other,1,[.nilFunc]⟩,
 some ⟨.other,1,[.nilFunc]⟩,
 some ⟨.other,1,[.nilFunc]⟩,
 some ⟨.other,1,[.nilIface]⟩,
 some ⟨.other,1,[.nilIface]⟩,
 some ⟨.other,1,[.nilFunc]⟩,
 some ⟨.other,1,[.nilFunc]⟩,
 some ⟨.other,1,[.nilFunc]⟩,
 some ⟨.other,1,[.nilFunc]⟩,
 some ⟨.other,1,[.nilFunc]⟩,
 some ⟨.other,1,[.nilFunc]⟩,
 some ⟨.slice 471 2 16,1,[.slice none 0 0]⟩,
 some ⟨.struct [(0,1,false),(1,1,false)],2,[.int .i64 0,.int .i64 0]⟩,
 some ⟨.struct [(0,1,false),(1,1,false)],2,[.int .i64 0,.int .i64 0]⟩,
 some ⟨.other,1,[.pointer none]⟩,
 some ⟨.other,1,[.nilFunc]⟩,
 some ⟨.other,1,[.nilFunc]⟩,
 some ⟨.other,1,[.nilFunc]⟩,
 some ⟨.other,1,[.nilFunc]⟩,
 some ⟨.other,1,[.nilFunc]⟩,
 some ⟨.struct [(0,1,false),(1,1,false),(2,1,false)],3,[.slice none 0 0,.slice none 0 0,.slice none 0 0]⟩,
 some ⟨.struct [(0,1,false),(1,1,false),(2,1,false)],3,[.slice none 0 0,.slice none 0 0,.slice none 0 0]⟩,
 some ⟨.other,1,[.nilFunc]⟩,
 some ⟨.arr 64 5 1,64,[.int .u8 0,.int .u8 0,.int .u8 0,.int .u8 0,.int .u8 0,.int .u8 0,.int .u8 0,.int .u8 0,.int .u8 0,.int .u8 0,.int .u8 0,.int .u8 0,.int .u8 0,.int .u8 0,.int .u8 0,.int .u8 0,.int .u8 0,.int .u8 0,.int .u8 0,.int .u8 0,.int .u8 0,.int .u8 0,.int .u8 0,.int .u8 0,.int .u8 0,.int .u8 0,.int .u8 0,.int .u8 0,.int .u8 0,.int .u8 0,.int .u8 0,.int .u8 0,.int .u8 0,.int .u8 0,.int .u8 0,.int .u8 0,.int .u8 0,.int .u8 0,.int .u8 0,.int .u8 0,.int .u8 0,.int .u8 0,.int .u8 0,.int .u8 0,.int .u8 0,.int .u8 0,.int .u8 0,.int .u8 0,.int .u8 0,.int .u8 0,.int .u8 0,.int .u8 0,.int .u8 0,.int .u8 0,.int .u8 0,.int .u8 0,.int .u8 0,.int .u8 0,.int .u8 0,.int .u8 0,.int .u8 0,.int .u8 0,.int .u8 0,.int .u8 0]⟩,
 some ⟨.other,1,[.nilFunc]⟩,
 some ⟨.other,1,[.nilFunc]⟩,
 some ⟨.struct [(0,1,false),(1,1,false),(2,1,false),(3,1,false)],4,[.pointer none,.pointer none,.pointer none,.string ⟨#[]⟩]⟩,
 some ⟨.struct [(0,1,false),(1,1,false),(2,1,false),(3,1,false)],4,[.pointer none,.pointer none,.pointer none,.string ⟨#[]⟩]⟩,
 none,
 none,
 none,
 some ⟨.int .u8,1,[.int .u8 0]⟩,
 some ⟨.int .u8,1,[.int .u8 0]⟩,
 some ⟨.other,1,[.nilFunc]⟩,
 some ⟨.other,1,[.pointer none]⟩,
 some ⟨.int .i32,1,[.int .i32 0]⟩,
 some ⟨.int .i32,1,[.int .i32 0]⟩,
 some ⟨.struct [(0,1,false),(1,1,false),(2,1,false),(3,1,false),(4,1,false),(5,1,false),(6,1,false),(7,1,false),(8,1,false),(9,1,false),(10,1,false)],11,[.int .u64 0,.int .u64 0,.int .u32 0,.int .u8 0,.int .u8 0,.int .u8 0,.int .u8 0,.nilFunc,.pointer none,.int .i32 0,.int .i32 0]⟩,
 some ⟨.struct [(0,1,false),(1,1,false),(2,1,false),(3,1,false),(4,1,false),(5,1,false),(6,1,false),(7,1,false),(8,1,false),(9,1,false),(10,1,false)],11,[.int .u64 0,.int .u64 0,.int .u32 0,.int .u8 0,.int .u8 0,.int .u8 0,.int .u8 0,.nilFunc,.pointer none,.int .i32 0,.int .i32 0]⟩,
 none,
 none,
 none]
theorem a7:eh Tryz.prog tt:=KL (by kernel_rfl)
theorem Og {P:Program} {f:FuncId} {fn:Func} {c:Code} (hf:P.funcs[f]?=some fn) (hn:(fn.name== "runtime.NumGoroutine")=false:=by kernel_rfl) (hb:fn.body=some c:=by rfl):bK P f:=⟨aq hf hn hb⟩
instance:bK Tryz.prog 7:=Og Tryz.func7
instance:bK Tryz.prog 8:=Og Tryz.func8
instance:bK Tryz.prog 9:=Og Tryz.func9
instance:bK Tryz.prog 10:=Og Tryz.func10
instance:bK Tryz.prog 11:=Og Tryz.func11
instance:bK Tryz.prog 12:=Og Tryz.func12
instance:bK Tryz.prog 13:=Og Tryz.func13
instance:bK Tryz.prog 14:=Og Tryz.func14
instance:bK Tryz.prog 15:=Og Tryz.func15
instance:bK Tryz.prog 16:=Og Tryz.func16
instance:bK Tryz.prog 17:=Og Tryz.func17
instance:bK Tryz.prog 19:=Og Tryz.func19
instance:bK Tryz.prog 20:=Og Tryz.func20
instance:bK Tryz.prog 21:=Og Tryz.func21
instance:bK Tryz.prog 23:=Og Tryz.func23
instance:bK Tryz.prog 25:=Og Tryz.func25
instance:bK Tryz.prog 26:=Og Tryz.func26
instance:bK Tryz.prog 27:=Og Tryz.func27
instance:bK Tryz.prog 28:=Og Tryz.func28
instance:bK Tryz.prog 29:=Og Tryz.func29
instance:bK Tryz.prog 30:=Og Tryz.func30
instance:bK Tryz.prog 31:=Og Tryz.func31
instance:bK Tryz.prog 32:=Og Tryz.func32
instance:bK Tryz.prog 33:=Og Tryz.func33
instance:bK Tryz.prog 34:=Og Tryz.func34
instance:bK Tryz.prog 35:=Og Tryz.func35
instance:bK Tryz.prog 36:=Og Tryz.func36
instance:bK Tryz.prog 37:=Og Tryz.func37
instance:bK Tryz.prog 38:=Og Tryz.func38
instance:bK Tryz.prog 39:=Og Tryz.func39
instance:bK Tryz.prog 40:=Og Tryz.func40
instance:bK Tryz.prog 41:=Og Tryz.func41
instance:bK Tryz.prog 42:=Og Tryz.func42
instance:bK Tryz.prog 44:=Og Tryz.func44
instance:bK Tryz.prog 45:=Og Tryz.func45
instance:bK Tryz.prog 46:=Og Tryz.func46
instance:bK Tryz.prog 47:=Og Tryz.func47
instance:bK Tryz.prog 48:=Og Tryz.func48
instance:bK Tryz.prog 49:=Og Tryz.func49
instance:bK Tryz.prog 50:=Og Tryz.func50
instance:bK Tryz.prog 51:=Og Tryz.func51
instance:bK Tryz.prog 52:=Og Tryz.func52
instance:bK Tryz.prog 53:=Og Tryz.func53
instance:bK Tryz.prog 54:=Og Tryz.func54
instance:bK Tryz.prog 55:=Og Tryz.func55
instance:bK Tryz.prog 56:=Og Tryz.func56
instance:bK Tryz.prog 57:=Og Tryz.func57
instance:bK Tryz.prog 58:=Og Tryz.func58
instance:bK Tryz.prog 59:=Og Tryz.func59
instance:bK Tryz.prog 60:=Og Tryz.func60
instance:bK Tryz.prog 61:=Og Tryz.func61
instance:bK Tryz.prog 62:=Og Tryz.func62
instance:bK Tryz.prog 64:=Og Tryz.func64
instance:bK Tryz.prog 65:=Og Tryz.func65
instance:bK Tryz.prog 66:=Og Tryz.func66
instance:bK Tryz.prog 67:=Og Tryz.func67
instance:bK Tryz.prog 68:=Og Tryz.func68
instance:bK Tryz.prog 70:=Og Tryz.func70
instance:bK Tryz.prog 71:=Og Tryz.func71
instance:bK Tryz.prog 73:=Og Tryz.func73
instance:bK Tryz.prog 74:=Og Tryz.func74
instance:bK Tryz.prog 75:=Og Tryz.func75
instance:bK Tryz.prog 78:=Og Tryz.func78
instance:bK Tryz.prog 79:=Og Tryz.func79
instance:bK Tryz.prog 80:=Og Tryz.func80
instance:bK Tryz.prog 81:=Og Tryz.func81
instance:bK Tryz.prog 82:=Og Tryz.func82
instance:bK Tryz.prog 83:=Og Tryz.func83
instance:bK Tryz.prog 84:=Og Tryz.func84
instance:bK Tryz.prog 94:=Og Tryz.func94
instance:bK Tryz.prog 95:=Og Tryz.func95
instance:bK Tryz.prog 96:=Og Tryz.func96
instance:bK Tryz.prog 97:=Og Tryz.func97
instance:bK Tryz.prog 98:=Og Tryz.func98
instance:bK Tryz.prog 99:=Og Tryz.func99
instance:bK Tryz.prog 100:=Og Tryz.func100
instance:bK Tryz.prog 101:=Og Tryz.func101
instance:bK Tryz.prog 102:=Og Tryz.func102
instance:bK Tryz.prog 103:=Og Tryz.func103
instance:bK Tryz.prog 104:=Og Tryz.func104
instance:bK Tryz.prog 105:=Og Tryz.func105
instance:bK Tryz.prog 106:=Og Tryz.func106
instance:bK Tryz.prog 107:=Og Tryz.func107
instance:bK Tryz.prog 108:=Og Tryz.func108
instance:bK Tryz.prog 109:=Og Tryz.func109
instance:bK Tryz.prog 110:=Og Tryz.func110
instance:bK Tryz.prog 111:=Og Tryz.func111
instance:bK Tryz.prog 112:=Og Tryz.func112
instance:bK Tryz.prog 113:=Og Tryz.func113
instance:bK Tryz.prog 114:=Og Tryz.func114
instance:bK Tryz.prog 115:=Og Tryz.func115
instance:bK Tryz.prog 116:=Og Tryz.func116
instance:bK Tryz.prog 117:=Og Tryz.func117
instance:bK Tryz.prog 118:=Og Tryz.func118
instance:bK Tryz.prog 119:=Og Tryz.func119
instance:bK Tryz.prog 120:=Og Tryz.func120
instance:bK Tryz.prog 121:=Og Tryz.func121
instance:bK Tryz.prog 122:=Og Tryz.func122
instance:bK Tryz.prog 123:=Og Tryz.func123
instance:bK Tryz.prog 124:=Og Tryz.func124
instance:bK Tryz.prog 125:=Og Tryz.func125
instance:bK Tryz.prog 126:=Og Tryz.func126
instance:bK Tryz.prog 127:=Og Tryz.func127
instance:bK Tryz.prog 128:=Og Tryz.func128
instance:bK Tryz.prog 129:=Og Tryz.func129
instance:bK Tryz.prog 130:=Og Tryz.func130
instance:bK Tryz.prog 131:=Og Tryz.func131
instance:bK Tryz.prog 132:=Og Tryz.func132
instance:bK Tryz.prog 133:=Og Tryz.func133
instance:bK Tryz.prog 134:=Og Tryz.func134
instance:bK Tryz.prog 135:=Og Tryz.func135
instance:bK Tryz.prog 136:=Og Tryz.func136
instance:bK Tryz.prog 137:=Og Tryz.func137
instance:bK Tryz.prog 138:=Og Tryz.func138
instance:bK Tryz.prog 139:=Og Tryz.func139
instance:bK Tryz.prog 141:=Og Tryz.func141
instance:bK Tryz.prog 147:=Og Tryz.func147
instance:bK Tryz.prog 148:=Og Tryz.func148
instance:bK Tryz.prog 154:=Og Tryz.func154
instance:bK Tryz.prog 155:=Og Tryz.func155
instance:bK Tryz.prog 156:=Og Tryz.func156
instance:bK Tryz.prog 163:=Og Tryz.func163
instance:bK Tryz.prog 164:=Og Tryz.func164
instance:bK Tryz.prog 170:=Og Tryz.func170
instance:bK Tryz.prog 171:=Og Tryz.func171
instance:bK Tryz.prog 172:=Og Tryz.func172
instance:bK Tryz.prog 173:=Og Tryz.func173
instance:bK Tryz.prog 174:=Og Tryz.func174
instance:bK Tryz.prog 175:=Og Tryz.func175
instance:bK Tryz.prog 176:=Og Tryz.func176
instance:bK Tryz.prog 177:=Og Tryz.func177
instance:bK Tryz.prog 178:=Og Tryz.func178
instance:bK Tryz.prog 179:=Og Tryz.func179
instance:bK Tryz.prog 180:=Og Tryz.func180
instance:bK Tryz.prog 181:=Og Tryz.func181
instance:bK Tryz.prog 182:=Og Tryz.func182
instance:bK Tryz.prog 183:=Og Tryz.func183
instance:bK Tryz.prog 184:=Og Tryz.func184
instance:bK Tryz.prog 185:=Og Tryz.func185
instance:bK Tryz.prog 186:=Og Tryz.func186
instance:bK Tryz.prog 187:=Og Tryz.func187
instance:bK Tryz.prog 188:=Og Tryz.func188
instance:bK Tryz.prog 189:=Og Tryz.func189
instance:bK Tryz.prog 190:=Og Tryz.func190
instance:bK Tryz.prog 191:=Og Tryz.func191
instance:bK Tryz.prog 192:=Og Tryz.func192
instance:bK Tryz.prog 193:=Og Tryz.func193
instance:bK Tryz.prog 194:=Og Tryz.func194
instance:bK Tryz.prog 195:=Og Tryz.func195
instance:bK Tryz.prog 196:=Og Tryz.func196
instance:bK Tryz.prog 197:=Og Tryz.func197
instance:bK Tryz.prog 198:=Og Tryz.func198
instance:bK Tryz.prog 199:=Og Tryz.func199
instance:bK Tryz.prog 200:=Og Tryz.func200
instance:bK Tryz.prog 201:=Og Tryz.func201
instance:bK Tryz.prog 202:=Og Tryz.func202
instance:bK Tryz.prog 203:=Og Tryz.func203
instance:bK Tryz.prog 204:=Og Tryz.func204
instance:bK Tryz.prog 205:=Og Tryz.func205
instance:bK Tryz.prog 206:=Og Tryz.func206
instance:bK Tryz.prog 207:=Og Tryz.func207
instance:bK Tryz.prog 208:=Og Tryz.func208
instance:bK Tryz.prog 209:=Og Tryz.func209
instance:bK Tryz.prog 210:=Og Tryz.func210
instance:bK Tryz.prog 211:=Og Tryz.func211
instance:bK Tryz.prog 212:=Og Tryz.func212
instance:bK Tryz.prog 213:=Og Tryz.func213
instance:bK Tryz.prog 214:=Og Tryz.func214
instance:bK Tryz.prog 215:=Og Tryz.func215
instance:bK Tryz.prog 216:=Og Tryz.func216
instance:bK Tryz.prog 217:=Og Tryz.func217
instance:bK Tryz.prog 218:=Og Tryz.func218
instance:bK Tryz.prog 219:=Og Tryz.func219
instance:bK Tryz.prog 220:=Og Tryz.func220
instance:bK Tryz.prog 221:=Og Tryz.func221
instance:bK Tryz.prog 228:=Og Tryz.func228
instance:bK Tryz.prog 229:=Og Tryz.func229
instance:bK Tryz.prog 243:=Og Tryz.func243
instance:bK Tryz.prog 244:=Og Tryz.func244
instance:bK Tryz.prog 245:=Og Tryz.func245
instance:bK Tryz.prog 246:=Og Tryz.func246
instance:bK Tryz.prog 247:=Og Tryz.func247
instance:bK Tryz.prog 248:=Og Tryz.func248
instance:bK Tryz.prog 249:=Og Tryz.func249
instance:bK Tryz.prog 250:=Og Tryz.func250
instance:bK Tryz.prog 251:=Og Tryz.func251
instance:bK Tryz.prog 252:=Og Tryz.func252
instance:bK Tryz.prog 253:=Og Tryz.func253
instance:bK Tryz.prog 254:=Og Tryz.func254
instance:bK Tryz.prog 255:=Og Tryz.func255
instance:bK Tryz.prog 256:=Og Tryz.func256
instance:bK Tryz.prog 257:=Og Tryz.func257
instance:bK Tryz.prog 258:=Og Tryz.func258
instance:bK Tryz.prog 259:=Og Tryz.func259
instance:bK Tryz.prog 260:=Og Tryz.func260
instance:bK Tryz.prog 261:=Og Tryz.func261
instance:bK Tryz.prog 262:=Og Tryz.func262
instance:bK Tryz.prog 263:=Og Tryz.func263
instance:bK Tryz.prog 264:=Og Tryz.func264
instance:bK Tryz.prog 265:=Og Tryz.func265
instance:bK Tryz.prog 266:=Og Tryz.func266
instance:bK Tryz.prog 267:=Og Tryz.func267
instance:bK Tryz.prog 268:=Og Tryz.func268
instance:bK Tryz.prog 269:=Og Tryz.func269
instance:bK Tryz.prog 270:=Og Tryz.func270
instance:bK Tryz.prog 271:=Og Tryz.func271
instance:bK Tryz.prog 272:=Og Tryz.func272
instance:bK Tryz.prog 273:=Og Tryz.func273
instance:bK Tryz.prog 274:=Og Tryz.func274
instance:bK Tryz.prog 275:=Og Tryz.func275
instance:bK Tryz.prog 276:=Og Tryz.func276
instance:bK Tryz.prog 277:=Og Tryz.func277
instance:bK Tryz.prog 278:=Og Tryz.func278
instance:bK Tryz.prog 279:=Og Tryz.func279
instance:bK Tryz.prog 280:=Og Tryz.func280
instance:bK Tryz.prog 281:=Og Tryz.func281
instance:bK Tryz.prog 282:=Og Tryz.func282
instance:bK Tryz.prog 283:=Og Tryz.func283
instance:bK Tryz.prog 289:=Og Tryz.func289
instance:bK Tryz.prog 308:=Og Tryz.func308
instance:bK Tryz.prog 309:=Og Tryz.func309
instance:bK Tryz.prog 310:=Og Tryz.func310
instance:bK Tryz.prog 311:=Og Tryz.func311
instance:bK Tryz.prog 312:=Og Tryz.func312
instance:bK Tryz.prog 316:=Og Tryz.func316
instance:bK Tryz.prog 317:=Og Tryz.func317
instance:bK Tryz.prog 318:=Og Tryz.func318
instance:bK Tryz.prog 319:=Og Tryz.func319
instance:bK Tryz.prog 321:=Og Tryz.func321
instance:bK Tryz.prog 330:=Og Tryz.func330
instance:bK Tryz.prog 345:=Og Tryz.func345
instance:bK Tryz.prog 346:=Og Tryz.func346
instance:bK Tryz.prog 347:=Og Tryz.func347
instance:bK Tryz.prog 348:=Og Tryz.func348
instance:bK Tryz.prog 352:=Og Tryz.func352
theorem W01 {A B:Prop} (k:B) (h:W00 B→A:=by intro k;(repeat' (first|refine O1 ?_|refine OE a7 KN ?_));exact k.g):A:=h ⟨k⟩
theorem W02 {A B:Prop} (k:B) (h:W00 B→A:=by intro k;(repeat' (first|refine O1 ?_|refine OE a7 KN ?_|(apply aS;refine aR ?_)|fail));exact k.g):A:=h ⟨k⟩
theorem W03 {A B:Prop} (k:B) (h:W00 B→A:=by intro k;(repeat' (first|refine O1 ?_|refine ak ?_|refine OE a7 KN ?_));exact k.g):A:=h ⟨k⟩
theorem W04 {A B:Prop} (k:B) (h:W00 B→A:=by intro k;(repeat' (first|refine O1 ?_|refine ak ?_|refine OE a7 KN ?_|(apply aV;first|refine aU a7 ?_|refine aN a7 ?_)|(apply aO;first|refine OG 7 a7 0 OD ?_|refine OG 7 a7 1 OD ?_|refine OG 7 a7 2 OD ?_|refine OF a7 0 OC ?_|refine OF a7 1 OC ?_|refine OF a7 2 OC ?_|refine OF a7 3 OC ?_|fail)|refine bi a7 fun b'z=>?_|fail));(repeat revert b'z);exact k.g):A:=h ⟨k⟩
theorem W05 {A B:Prop} (k:B) (h:W00 B→A:=by intro k;(repeat' (first|refine O1 ?_|refine OE a7 KN ?_|(apply bU;first|refine OH a7 0 OB ?_|refine OH a7 1 OB ?_|refine OH a7 2 OB ?_|refine OH a7 3 OB ?_|refine OJ a7 0 OB ?_|refine OJ a7 1 OB ?_|refine OJ a7 2 OB ?_|refine OM a7 1 NZ (by assumption) rfl ?_|refine OM a7 0 NZ (by assumption) rfl ?_|fail)|fail));exact k.g):A:=h ⟨k⟩
theorem W06 {A B:Prop} (k:B) (h:W00 B→A:=by intro k;(repeat' (first|refine aE ?_|refine b6 a7 ?_|fail));exact k.g):A:=h ⟨k⟩
theorem W07 {A B:Prop} (k:B) (h:W00 B→A:=by intro k;(repeat' (first|refine O1 ?_|refine OE a7 KN ?_|refine br ?_|fail));exact k.g):A:=h ⟨k⟩
theorem W08 {A B:Prop} (k:B) (h:W00 B→A:=by intro k;(repeat' (first|refine O1 ?_|refine ak ?_|refine OE a7 KN ?_|(apply aV;first|refine aU a7 ?_|refine aN a7 ?_)|fail));exact k.g):A:=h ⟨k⟩
theorem W09 {A B:Prop} (k:B) (h:W00 B→A:=by intro k;(repeat' (first|refine O1 ?_|refine OE a7 KN ?_|(apply aO;first|refine OF a7 0 OC ?_|refine OF a7 1 OC ?_|refine OF a7 2 OC ?_|refine OF a7 3 OC ?_|fail)));exact k.g):A:=h ⟨k⟩
theorem W0a {A B:Prop} (k:B) (h:W00 B→A:=by intro k;(repeat' (first|refine O1 ?_|refine OE a7 KN ?_|(apply bg;refine b9 ?_)|fail));exact k.g):A:=h ⟨k⟩
theorem W0b {A B:Prop} (k:B) (h:W00 B→A:=by intro k;(repeat' (first|refine O1 ?_|refine OE a7 KN ?_|(apply bU;first|refine OH a7 0 OB ?_|refine OH a7 1 OB ?_|refine OH a7 2 OB ?_|refine OH a7 3 OB ?_|refine OJ a7 0 OB ?_|refine OJ a7 1 OB ?_|refine OJ a7 2 OB ?_|refine OM a7 1 NZ (by assumption) rfl ?_|refine OM a7 0 NZ (by assumption) rfl ?_|fail)|refine bO a7 ?_|fail));exact k.g):A:=h ⟨k⟩
theorem W0c {A B:Prop} (k:B) (h:W00 B→A:=by intro k;(repeat' (first|refine O1 ?_|refine ak ?_|refine OE a7 KN ?_|(apply aS;refine aR ?_)|fail));exact k.g):A:=h ⟨k⟩
theorem W0d {A B:Prop} (k:B) (h:W00 B→A:=by intro k;(repeat' (first|refine O1 ?_|refine OE a7 KN ?_|(apply aS;refine aR ?_)|(apply aO;first|refine OF a7 0 OC ?_|refine OF a7 1 OC ?_|refine OF a7 2 OC ?_|refine OF a7 3 OC ?_|fail)));exact k.g):A:=h ⟨k⟩
theorem W0e {A B:Prop} (k:B) (h:W00 B→A:=by intro k;(repeat' (first|refine O1 ?_|refine OE a7 KN ?_|(apply aS;refine aR ?_)|(apply aO;first|refine OG 6 a7 0 OD ?_|refine OG 6 a7 1 OD ?_|refine OG 6 a7 2 OD ?_|refine OF a7 0 OC ?_|refine OF a7 1 OC ?_|refine OF a7 2 OC ?_|refine OF a7 3 OC ?_|fail)));exact k.g):A:=h ⟨k⟩
theorem W0f {A B:Prop} (k:B) (h:W00 B→A:=by intro k;(repeat' (first|refine O1 ?_|refine OE a7 KN ?_|refine bO a7 ?_|fail));exact k.g):A:=h ⟨k⟩
theorem W0g {A B:Prop} (k:B) (h:W00 B→A:=by intro k;(repeat' (first|refine O1 ?_|(apply bU;first|refine OH a7 0 OB ?_|refine OH a7 1 OB ?_|refine OH a7 2 OB ?_|refine OH a7 3 OB ?_|refine OJ a7 0 OB ?_|refine OJ a7 1 OB ?_|refine OJ a7 2 OB ?_|refine OM a7 1 NZ (by assumption) rfl ?_|refine OM a7 0 NZ (by assumption) rfl ?_|fail)|(apply aO;first|refine OF a7 0 OC ?_|refine OF a7 1 OC ?_|refine OF a7 2 OC ?_|refine OF a7 3 OC ?_|fail)));exact k.g):A:=h ⟨k⟩
theorem W0h {A B:Prop} (k:B) (h:W00 B→A:=by intro k;(repeat' (first|refine O1 ?_|refine OE a7 KN ?_|(apply bU;first|refine OH a7 0 OB ?_|refine OH a7 1 OB ?_|refine OH a7 2 OB ?_|refine OH a7 3 OB ?_|refine OJ a7 0 OB ?_|refine OJ a7 1 OB ?_|refine OJ a7 2 OB ?_|refine OM a7 1 NZ (by assumption) rfl ?_|refine OM a7 0 NZ (by assumption) rfl ?_|fail)|(apply aV;first|refine aU a7 ?_|refine aN a7 ?_)|fail));exact k.g):A:=h ⟨k⟩
theorem W0i {A B:Prop} (k:B) (h:W00 B→A:=by intro k;(repeat' (first|(apply aV;first|refine aU a7 ?_|refine aN a7 ?_)|fail));exact k.g):A:=h ⟨k⟩
theorem W0j {A B:Prop} (k:B) (h:W00 B→A:=by intro k;(repeat' (first|refine aE ?_|refine b6 a7 ?_|(apply cI;refine d8 ?_)|fail));exact k.g):A:=h ⟨k⟩
theorem W0k {A B:Prop} (k:B) (h:W00 B→A:=by intro k;(repeat' (first|refine O1 ?_|refine OE a7 KN ?_|refine bT rfl ?_));exact k.g):A:=h ⟨k⟩
theorem W0l {A B:Prop} (k:B) (h:W00 B→A:=by intro k;(repeat' (first|refine aE ?_|refine b6 a7 ?_|(apply c9;refine cA a7 ?_)|fail));exact k.g):A:=h ⟨k⟩
theorem W0m {A B:Prop} (k:B) (h:W00 B→A:=by intro k;(repeat' (first|refine O1 ?_|refine OE a7 KN ?_|refine bj rfl ?_));exact k.g):A:=h ⟨k⟩
theorem W0n {A B:Prop} (k:B) (h:W00 B→A:=by intro k;(repeat' (first|refine O1 ?_|refine ak ?_|refine OE a7 KN ?_|(apply bU;first|refine OH a7 0 OB ?_|refine OH a7 1 OB ?_|refine OH a7 2 OB ?_|refine OH a7 3 OB ?_|refine OJ a7 0 OB ?_|refine OJ a7 1 OB ?_|refine OJ a7 2 OB ?_|refine OM a7 1 NZ (by assumption) rfl ?_|refine OM a7 0 NZ (by assumption) rfl ?_|fail)|(apply aV;first|refine aU a7 ?_|refine aN a7 ?_)|fail));exact k.g):A:=h ⟨k⟩
theorem W0o {A B:Prop} (k:B) (h:W00 B→A:=by intro k;(repeat' (first|refine O1 ?_|refine OE a7 KN ?_|(apply aV;first|refine aU a7 ?_|refine aN a7 ?_)|fail));exact k.g):A:=h ⟨k⟩
theorem W0p {A B:Prop} (k:B) (h:W00 B→A:=by intro k;(repeat' (first|refine O1 ?_|refine aa ?_|refine OE a7 KN ?_));exact k.g):A:=h ⟨k⟩
theorem W0q {A B:Prop} (k:B) (h:W00 B→A:=by intro k;(repeat' (first|refine aE ?_|refine b6 a7 ?_|(apply dQ;refine eY ?_)|fail));exact k.g):A:=h ⟨k⟩
theorem W0r {A B:Prop} (k:B) (h:W00 B→A:=by intro k;(repeat' (first|refine O1 ?_|refine OE a7 KN ?_|(apply aS;refine aR ?_)|(apply aO;first|refine OG 8 a7 0 OD ?_|refine OG 8 a7 1 OD ?_|refine OG 8 a7 2 OD ?_|refine OG 10 a7 0 OD ?_|refine OG 10 a7 1 OD ?_|refine OG 10 a7 2 OD ?_|refine OG 13 a7 0 OD ?_|refine OG 13 a7 1 OD ?_|refine OG 13 a7 2 OD ?_|refine OG 15 a7 0 OD ?_|refine OG 15 a7 1 OD ?_|refine OG 15 a7 2 OD ?_|refine OF a7 0 OC ?_|refine OF a7 1 OC ?_|refine OF a7 2 OC ?_|refine OF a7 3 OC ?_|fail)));exact k.g):A:=h ⟨k⟩
theorem W0s {A B:Prop} (k:B) (h:W00 B→A:=by intro k;(repeat' (first|refine O1 ?_|refine OE a7 KN ?_|(apply aS;refine aR ?_)|(apply aO;first|refine OG 5 a7 0 OD ?_|refine OG 5 a7 1 OD ?_|refine OG 5 a7 2 OD ?_|refine OG 6 a7 0 OD ?_|refine OG 6 a7 1 OD ?_|refine OG 6 a7 2 OD ?_|refine OG 9 a7 0 OD ?_|refine OG 9 a7 1 OD ?_|refine OG 9 a7 2 OD ?_|refine OG 10 a7 0 OD ?_|refine OG 10 a7 1 OD ?_|refine OG 10 a7 2 OD ?_|refine OF a7 0 OC ?_|refine OF a7 1 OC ?_|refine OF a7 2 OC ?_|refine OF a7 3 OC ?_|fail)));exact k.g):A:=h ⟨k⟩
theorem W0t {A B:Prop} (k:B) (h:W00 B→A:=by intro k;(repeat' (first|refine aE ?_|refine b6 a7 ?_|refine cW a7 0 rfl rfl rfl rfl (by first|trivial|rfl) ?_));exact k.g):A:=h ⟨k⟩
theorem W0u {A B:Prop} (k:B) (h:W00 B→A:=by intro k;(repeat' (first|refine O1 ?_|refine aa ?_|refine OE a7 KN ?_|(apply bg;refine b9 ?_)|fail));exact k.g):A:=h ⟨k⟩
theorem W0v {A B:Prop} (k:B) (h:W00 B→A:=by intro k;(repeat' (first|refine O1 ?_|(apply aO;first|refine OG 5 a7 0 OD ?_|refine OG 5 a7 1 OD ?_|refine OG 5 a7 2 OD ?_|refine OG 6 a7 0 OD ?_|refine OG 6 a7 1 OD ?_|refine OG 6 a7 2 OD ?_|refine OG 9 a7 0 OD ?_|refine OG 9 a7 1 OD ?_|refine OG 9 a7 2 OD ?_|refine OG 10 a7 0 OD ?_|refine OG 10 a7 1 OD ?_|refine OG 10 a7 2 OD ?_|refine OF a7 0 OC ?_|refine OF a7 1 OC ?_|refine OF a7 2 OC ?_|refine OF a7 3 OC ?_|fail)|refine bi a7 fun b'z=>?_|fail));(repeat revert b'z);exact k.g):A:=h ⟨k⟩
theorem W0w {A B:Prop} (k:B) (h:W00 B→A:=by intro k;(repeat' (first|refine O1 ?_|refine OE a7 KN ?_|(apply bU;first|refine OH a7 0 OB ?_|refine OH a7 1 OB ?_|refine OH a7 2 OB ?_|refine OH a7 3 OB ?_|refine OJ a7 0 OB ?_|refine OJ a7 1 OB ?_|refine OJ a7 2 OB ?_|refine OM a7 1 NZ (by assumption) rfl ?_|refine OM a7 0 NZ (by assumption) rfl ?_|fail)|(apply aS;refine aR ?_)|(apply aO;first|refine OF a7 0 OC ?_|refine OF a7 1 OC ?_|refine OF a7 2 OC ?_|refine OF a7 3 OC ?_|fail)));exact k.g):A:=h ⟨k⟩
theorem W0x {A B:Prop} (k:B) (h:W00 B→A:=by intro k;(repeat' (first|refine O1 ?_|refine ak ?_|refine OE a7 KN ?_|(apply aV;first|refine aU a7 ?_|refine aN a7 ?_)|(apply bg;refine b9 ?_)|fail));exact k.g):A:=h ⟨k⟩
theorem W0y {A B:Prop} (k:B) (h:W00 B→A:=by intro k;(repeat' (first|refine O1 ?_|refine OE a7 KN ?_|refine ON KN ?_));exact k.g):A:=h ⟨k⟩
theorem W0A {A B:Prop} (k:B) (h:W00 B→A:=by intro k;(repeat' (first|refine O1 ?_|refine OE a7 KN ?_|(apply aO;first|refine OG 4 a7 0 OD ?_|refine OG 4 a7 1 OD ?_|refine OG 4 a7 2 OD ?_|refine OG 5 a7 0 OD ?_|refine OG 5 a7 1 OD ?_|refine OG 5 a7 2 OD ?_|refine OG 6 a7 0 OD ?_|refine OG 6 a7 1 OD ?_|refine OG 6 a7 2 OD ?_|refine OF a7 0 OC ?_|refine OF a7 1 OC ?_|refine OF a7 2 OC ?_|refine OF a7 3 OC ?_|fail)|refine bi a7 fun b'z=>?_|fail));(repeat revert b'z);exact k.g):A:=h ⟨k⟩
theorem W0B {A B:Prop} (k:B) (h:W00 B→A:=by intro k;(repeat' (first|refine O1 ?_|refine ak ?_|refine OE a7 KN ?_|(apply aV;first|refine aU a7 ?_|refine aN a7 ?_)|(apply aO;first|refine OG 5 a7 0 OD ?_|refine OG 5 a7 1 OD ?_|refine OG 5 a7 2 OD ?_|refine OG 7 a7 0 OD ?_|refine OG 7 a7 1 OD ?_|refine OG 7 a7 2 OD ?_|refine OF a7 0 OC ?_|refine OF a7 1 OC ?_|refine OF a7 2 OC ?_|refine OF a7 3 OC ?_|fail)|refine bi a7 fun b'z=>?_|fail));(repeat revert b'z);exact k.g):A:=h ⟨k⟩
theorem W0C {A B:Prop} (k:B) (h:W00 B→A:=by intro k;(repeat' (first|refine O1 ?_|refine ak ?_|refine OE a7 KN ?_|refine br ?_|fail));exact k.g):A:=h ⟨k⟩
theorem W0D {A B:Prop} (k:B) (h:W00 B→A:=by intro k;(repeat' (first|refine aE ?_|refine b6 a7 ?_|(apply c9;refine cA a7 ?_)|(apply cI;refine d8 ?_)|fail));exact k.g):A:=h ⟨k⟩
theorem W0E {A B:Prop} (k:B) (h:W00 B→A:=by intro k;(repeat' (first|refine O1 ?_|refine OE a7 KN ?_|(apply aO;first|refine OG 5 a7 0 OD ?_|refine OG 5 a7 1 OD ?_|refine OG 5 a7 2 OD ?_|refine OF a7 0 OC ?_|refine OF a7 1 OC ?_|refine OF a7 2 OC ?_|refine OF a7 3 OC ?_|fail)));exact k.g):A:=h ⟨k⟩
theorem W0F {A B:Prop} (k:B) (h:W00 B→A:=by intro k;(repeat' (first|refine O1 ?_|refine OE a7 KN ?_|(apply bU;first|refine OH a7 0 OB ?_|refine OH a7 1 OB ?_|refine OH a7 2 OB ?_|refine OH a7 3 OB ?_|refine OJ a7 0 OB ?_|refine OJ a7 1 OB ?_|refine OJ a7 2 OB ?_|refine OM a7 1 NZ (by assumption) rfl ?_|refine OM a7 0 NZ (by assumption) rfl ?_|fail)|refine bi a7 fun b'z=>?_|fail));(repeat revert b'z);exact k.g):A:=h ⟨k⟩
theorem W0G {A B:Prop} (k:B) (h:W00 B→A:=by intro k;(repeat' (first|refine O1 ?_|refine OE a7 KN ?_|refine bO a7 ?_|(apply bg;refine b9 ?_)|fail));exact k.g):A:=h ⟨k⟩
theorem W0H {A B:Prop} (k:B) (h:W00 B→A:=by intro k;(repeat' (first|refine O1 ?_|refine OE a7 KN ?_|refine ON KN ?_|(apply bU;first|refine OH a7 0 OB ?_|refine OH a7 1 OB ?_|refine OH a7 2 OB ?_|refine OH a7 3 OB ?_|refine OJ a7 0 OB ?_|refine OJ a7 1 OB ?_|refine OJ a7 2 OB ?_|refine OM a7 1 NZ (by assumption) rfl ?_|refine OM a7 0 NZ (by assumption) rfl ?_|fail)|fail));exact k.g):A:=h ⟨k⟩
theorem W0I {A B:Prop} (k:B) (h:W00 B→A:=by intro k;(repeat' (first|refine O1 ?_|refine OE a7 KN ?_|(apply aV;first|refine aU a7 ?_|refine aN a7 ?_)|(apply bg;refine b9 ?_)|fail));exact k.g):A:=h ⟨k⟩
theorem W0J {A B:Prop} (k:B) (h:W00 B→A:=by intro k;(repeat' (first|refine O1 ?_|refine ak ?_|refine OE a7 KN ?_|(apply aV;first|refine aU a7 ?_|refine aN a7 ?_)|(apply aO;first|refine OG 5 a7 0 OD ?_|refine OG 5 a7 1 OD ?_|refine OG 5 a7 2 OD ?_|refine OF a7 0 OC ?_|refine OF a7 1 OC ?_|refine OF a7 2 OC ?_|refine OF a7 3 OC ?_|fail)|refine bi a7 fun b'z=>?_|fail));(repeat revert b'z);exact k.g):A:=h ⟨k⟩
theorem W0K {A B:Prop} (k:B) (h:W00 B→A:=by intro k;(repeat' (first|refine aE ?_|refine ec a7 ?_|fail));exact k.g):A:=h ⟨k⟩
theorem W0L {A B:Prop} (k:B) (h:W00 B→A:=by intro k;(repeat' (first|refine O1 ?_|refine OE a7 KN ?_|(apply aS;refine aR ?_)|refine bj rfl ?_));exact k.g):A:=h ⟨k⟩
theorem W0M {A B:Prop} (k:B) (h:W00 B→A:=by intro k;(repeat' (first|refine O1 ?_|refine OE a7 KN ?_|(apply aO;first|refine OG 12 a7 0 OD ?_|refine OG 12 a7 1 OD ?_|refine OG 12 a7 2 OD ?_|refine OF a7 0 OC ?_|refine OF a7 1 OC ?_|refine OF a7 2 OC ?_|refine OF a7 3 OC ?_|fail)|refine bi a7 fun b'z=>?_|fail));(repeat revert b'z);exact k.g):A:=h ⟨k⟩
theorem W0N {A B:Prop} (k:B) (h:W00 B→A:=by intro k;(repeat' (first|refine O1 ?_|refine aa ?_|refine OE a7 KN ?_|(apply aO;first|refine OF a7 0 OC ?_|refine OF a7 1 OC ?_|refine OF a7 2 OC ?_|refine OF a7 3 OC ?_|fail)));exact k.g):A:=h ⟨k⟩
theorem W0O {A B:Prop} (k:B) (h:W00 B→A:=by intro k;(repeat' (first|refine O1 ?_|refine OE a7 KN ?_|refine br ?_|refine bi a7 fun b'z=>?_|fail));(repeat revert b'z);exact k.g):A:=h ⟨k⟩
theorem W0P {A B:Prop} (k:B) (h:W00 B→A:=by intro k;(repeat' (first|refine O1 ?_|(apply aO;first|refine OG 5 a7 0 OD ?_|refine OG 5 a7 1 OD ?_|refine OG 5 a7 2 OD ?_|refine OF a7 0 OC ?_|refine OF a7 1 OC ?_|refine OF a7 2 OC ?_|refine OF a7 3 OC ?_|fail)));exact k.g):A:=h ⟨k⟩
theorem W0Q {A B:Prop} (k:B) (h:W00 B→A:=by intro k;(repeat' (first|refine O1 ?_|refine OE a7 KN ?_|refine OP OA ?_|refine bj rfl ?_));exact k.g):A:=h ⟨k⟩
theorem W0R {A B:Prop} (k:B) (h:W00 B→A:=by intro k;(repeat' (first|refine aE ?_|refine b6 a7 ?_|refine ec a7 ?_|fail));exact k.g):A:=h ⟨k⟩
theorem W0S {A B:Prop} (k:B) (h:W00 B→A:=by intro k;(repeat' (first|refine O1 ?_|refine ak ?_|refine OE a7 KN ?_|refine bT rfl ?_|refine bj rfl ?_));exact k.g):A:=h ⟨k⟩
theorem W0T {A B:Prop} (k:B) (h:W00 B→A:=by intro k;(repeat' (first|refine O1 ?_|refine OE a7 KN ?_|refine br ?_|(apply bg;refine b9 ?_)|fail));exact k.g):A:=h ⟨k⟩
theorem W0U {A B:Prop} (k:B) (h:W00 B→A:=by intro k;(repeat' (first|refine O1 ?_|refine ak ?_|refine OE a7 KN ?_|(apply bg;refine b9 ?_)|fail));exact k.g):A:=h ⟨k⟩
theorem W0V {A B:Prop} (k:B) (h:W00 B→A:=by intro k;(repeat' (first|refine OE a7 KN ?_|(apply aV;first|refine aU a7 ?_|refine aN a7 ?_)|fail));exact k.g):A:=h ⟨k⟩
theorem W0W {A B:Prop} (k:B) (h:W00 B→A:=by intro k;(repeat' (first|refine O1 ?_|refine ak ?_|refine OE a7 KN ?_|refine br ?_|refine bT rfl ?_|refine bj rfl ?_));exact k.g):A:=h ⟨k⟩
theorem W0X {A B:Prop} (k:B) (h:W00 B→A:=by intro k;(repeat' (first|refine O1 ?_|refine OE a7 KN ?_|refine bO a7 ?_|refine bT rfl ?_));exact k.g):A:=h ⟨k⟩
theorem W0Y {A B:Prop} (k:B) (h:W00 B→A:=by intro k;(repeat' (first|refine O1 ?_|refine OE a7 KN ?_|refine OP OA ?_|(apply aS;refine aR ?_)|refine bj rfl ?_));exact k.g):A:=h ⟨k⟩
theorem W0Z {A B:Prop} (k:B) (h:W00 B→A:=by intro k;(repeat' (first|refine aE ?_|refine b6 a7 ?_|refine cW a7 1 rfl rfl rfl rfl (by first|trivial|rfl) ?_));exact k.g):A:=h ⟨k⟩
theorem W10 {A B:Prop} (k:B) (h:W00 B→A:=by intro k;(repeat' (first|refine OE a7 KN ?_|refine ON KN ?_));exact k.g):A:=h ⟨k⟩
theorem W12 {A B:Prop} (k:B) (h:W00 B→A:=by intro k;(repeat' (first|refine O1 ?_|refine OE a7 KN ?_|refine OP OA ?_|(apply bg;refine b9 ?_)|fail));exact k.g):A:=h ⟨k⟩
theorem W13 {A B:Prop} (k:B) (h:W00 B→A:=by intro k;(repeat' (first|refine O1 ?_|refine OE a7 KN ?_|refine ON KN ?_|(apply bg;refine b9 ?_)|fail));exact k.g):A:=h ⟨k⟩
theorem W15 {A B:Prop} (k:B) (h:W00 B→A:=by intro k;(repeat' (first|refine O1 ?_|(apply aO;first|refine OF a7 0 OC ?_|refine OF a7 1 OC ?_|refine OF a7 2 OC ?_|refine OF a7 3 OC ?_|fail)));exact k.g):A:=h ⟨k⟩
theorem W16 {A B:Prop} (k:B) (h:W00 B→A:=by intro k;(repeat' (first|refine aE ?_|refine b6 a7 ?_|refine lc rfl rfl ?_));exact k.g):A:=h ⟨k⟩
theorem W17 {A B:Prop} (k:B) (h:W00 B→A:=by intro k;(repeat' (first|refine O1 ?_|refine fD rfl ?_|refine OE a7 KN ?_));exact k.g):A:=h ⟨k⟩
theorem W18 {A B:Prop} (k:B) (h:W00 B→A:=by intro k;(repeat' (first|refine aE ?_|refine b6 a7 ?_|(apply c9;refine cA a7 ?_)|refine cW a7 0 rfl rfl rfl rfl (by first|trivial|rfl) ?_));exact k.g):A:=h ⟨k⟩
theorem W19 {A B:Prop} (k:B) (h:W00 B→A:=by intro k;(repeat' (first|refine aE ?_|refine b6 a7 ?_|(apply dQ;refine eY ?_)|(apply c9;refine cA a7 ?_)|(apply cI;refine d8 ?_)|fail));exact k.g):A:=h ⟨k⟩
theorem W1b {A B:Prop} (k:B) (h:W00 B→A:=by intro k;(repeat' (first|refine O1 ?_|refine ak ?_|refine OE a7 KN ?_|refine bO a7 ?_|fail));exact k.g):A:=h ⟨k⟩
theorem W1c {A B:Prop} (k:B) (h:W00 B→A:=by intro k;(repeat' (first|refine O1 ?_|refine ak ?_|refine OE a7 KN ?_|(apply bg;refine b9 ?_)|refine bT rfl ?_|refine bj rfl ?_));exact k.g):A:=h ⟨k⟩
theorem W1d {A B:Prop} (k:B) (h:W00 B→A:=by intro k;(repeat' (first|refine O1 ?_|refine OE a7 KN ?_|(apply aV;first|refine aU a7 ?_|refine aN a7 ?_)|refine bO a7 ?_|fail));exact k.g):A:=h ⟨k⟩
theorem W1e {A B:Prop} (k:B) (h:W00 B→A:=by intro k;(repeat' (first|refine aE ?_|refine b6 a7 ?_|refine ec a7 ?_|refine cW a7 0 rfl rfl rfl rfl (by first|trivial|rfl) ?_));exact k.g):A:=h ⟨k⟩
theorem W1f {A B:Prop} (k:B) (h:W00 B→A:=by intro k;(repeat' (first|refine O1 ?_|refine ak ?_|refine OE a7 KN ?_|refine bj rfl ?_));exact k.g):A:=h ⟨k⟩
theorem W1h {A B:Prop} (k:B) (h:W00 B→A:=by intro k;(repeat' (first|refine O1 ?_|refine aa ?_|refine OE a7 KN ?_|refine ON KN ?_|(apply bg;refine b9 ?_)|fail));exact k.g):A:=h ⟨k⟩
theorem W1i {A B:Prop} (k:B) (h:W00 B→A:=by intro k;(repeat' (first|refine aE ?_|refine b6 a7 ?_|(apply dQ;refine eY ?_)|(apply c9;refine cA a7 ?_)|fail));exact k.g):A:=h ⟨k⟩
theorem W1j {A B:Prop} (k:B) (h:W00 B→A:=by intro k;(repeat' (first|refine O1 ?_|refine ak ?_|refine OE a7 KN ?_|refine jb (d:=9) a7 fun b'z=>?_|fail));(repeat revert b'z);exact k.g):A:=h ⟨k⟩
theorem W1k {A B:Prop} (k:B) (h:W00 B→A:=by intro k;(repeat' (first|refine O1 ?_|refine OE a7 KN ?_|refine jb (d:=5) a7 fun b'z=>?_|refine bj rfl ?_));(repeat revert b'z);exact k.g):A:=h ⟨k⟩
theorem W1l {A B:Prop} (k:B) (h:W00 B→A:=by intro k;(repeat' (first|refine aE ?_|refine b6 a7 ?_|(apply c9;refine cA a7 ?_)|refine ec a7 ?_|fail));exact k.g):A:=h ⟨k⟩
theorem W1m {A B:Prop} (k:B) (h:W00 B→A:=by intro k;(repeat' (first|refine aE ?_|refine b6 a7 ?_|(apply dQ;refine eY ?_)|refine ec a7 ?_|fail));exact k.g):A:=h ⟨k⟩
theorem W1n {A B:Prop} (k:B) (h:W00 B→A:=by intro k;(repeat' (first|refine O1 ?_|refine OE a7 KN ?_|(apply bg;refine b9 ?_)|refine bj rfl ?_));exact k.g):A:=h ⟨k⟩
theorem W1o {A B:Prop} (k:B) (h:W00 B→A:=by intro k;(repeat' (first|refine O1 ?_|refine OE a7 KN ?_|refine jb (d:=1) a7 fun b'z=>?_|fail));(repeat revert b'z);exact k.g):A:=h ⟨k⟩
theorem W1p {A B:Prop} (k:B) (h:W00 B→A:=by intro k;(repeat' (first|refine O1 ?_|refine aa ?_|refine OE a7 KN ?_|refine ON KN ?_));exact k.g):A:=h ⟨k⟩
theorem W1q {A B:Prop} (k:B) (h:W00 B→A:=by intro k;(repeat' (first|refine O1 ?_|refine OE a7 KN ?_|refine bi a7 fun b'z=>?_|fail));(repeat revert b'z);exact k.g):A:=h ⟨k⟩
end Go.Proofs.YtamjlkdanllgjaaGreatDoor
