/-
  The table of the types of the seat's program, and the functions that are entered, written by a program (wip/typesA.py).
-/
import Derived.Test.YtpbinloeemebkaaGreatM04
import Derived.Test.YtpbinloeemebkaaGreatProg
import Derived.KernelRfl
namespace Go.Proofs.YtpbinloeemebkaaGreat
open Go.RowKit
theorem am {P:Program} {f:FuncId} {fn:Func} {c:Code} (hf:P.funcs[f]?=some fn) (hname:(fn.name== "runtime.NumGoroutine")=false) (hb:fn.body=some c):∀args w,(callFunc f args).run P w= .ok (.enter f args) w:=by
 intro args w
 have hne:¬fn.name= "runtime.NumGoroutine" :=by simpa using hname
 simp [callFunc,hf,hne,hb]
theorem mixed:Tryz.prog.follows .mixedOrders=true:=by kernel_rfl
def tt:TT:=[none,
 some ⟨.other,1,[.nilFunc]⟩,
 some ⟨.int .i64,1,[.int .i64 0]⟩,
 some ⟨.int .i64,1,[.int .i64 0]⟩,
 some ⟨.bool,1,[.bool false]⟩,
 some ⟨.int .u8,1,[.int .u8 0]⟩,
 some ⟨.int .u8,1,[.int .u8 0]⟩,
 some ⟨.struct [(0,1,false),(1,1,false),(2,1,false),(3,1,false)],4,[.int .i64 0,.int .i64 0,.bool false,.int .u8 0]⟩,
 some ⟨.struct [(0,1,false),(1,1,false),(2,1,false),(3,1,false)],4,[.int .i64 0,.int .i64 0,.bool false,.int .u8 0]⟩,
 some ⟨.str,1,[.string ⟨#[]⟩]⟩,
 some ⟨.str,1,[.string ⟨#[]⟩]⟩,
 some ⟨.str,1,[.string ⟨#[]⟩]⟩,
 some ⟨.int .u64,1,[.int .u64 0]⟩,
 some ⟨.struct [(0,1,false),(1,1,false)],2,[.string ⟨#[]⟩,.int .u64 0]⟩,
 some ⟨.struct [(0,1,false),(1,1,false)],2,[.string ⟨#[]⟩,.int .u64 0]⟩,
 some ⟨.other,1,[.pointer none]⟩,
 some ⟨.other,1,[.pointer none]⟩,
 some ⟨.other,1,[.pointer none]⟩,
 some ⟨.struct [(0,1,false)],1,[.pointer none]⟩,
 some ⟨.struct [(0,1,false)],1,[.pointer none]⟩,
 some ⟨.other,1,[.nilIface]⟩,
 some ⟨.int .i32,1,[.int .i32 0]⟩,
 some ⟨.slice 64 9 176,1,[.slice none 0 0]⟩,
 some ⟨.slice 50 2 16,1,[.slice none 0 0]⟩,
 some ⟨.slice 70 3 40,1,[.slice none 0 0]⟩,
 some ⟨.slice 72 2 40,1,[.slice none 0 0]⟩,
 some ⟨.slice 149 4 40,1,[.slice none 0 0]⟩,
 some ⟨.slice 75 1 24,1,[.slice none 0 0]⟩,
 some ⟨.slice 62 1 24,1,[.slice none 0 0]⟩,
 some ⟨.slice 3 1 8,1,[.slice none 0 0]⟩,
 some ⟨.struct [(0,1,false),(1,1,false),(2,1,false),(3,1,false),(4,1,false),(5,1,false),(6,1,false),(7,1,false),(8,1,false)],9,[.int .i64 0,.slice none 0 0,.slice none 0 0,.slice none 0 0,.slice none 0 0,.slice none 0 0,.slice none 0 0,.slice none 0 0,.slice none 0 0]⟩,
 some ⟨.struct [(0,1,false),(1,1,false),(2,1,false),(3,1,false),(4,1,false),(5,1,false),(6,1,false),(7,1,false),(8,1,false)],9,[.int .i64 0,.slice none 0 0,.slice none 0 0,.slice none 0 0,.slice none 0 0,.slice none 0 0,.slice none 0 0,.slice none 0 0,.slice none 0 0]⟩,
 some ⟨.slice 9 1 16,1,[.slice none 0 0]⟩,
 some ⟨.other,1,[.nilFunc]⟩,
 some ⟨.other,1,[.nilFunc]⟩,
 some ⟨.other,1,[.nilFunc]⟩,
 some ⟨.other,1,[.nilFunc]⟩,
 some ⟨.other,1,[.nilFunc]⟩,
 some ⟨.struct [(0,1,false),(1,1,false)],2,[.slice none 0 0,.slice none 0 0]⟩,
 some ⟨.struct [(0,1,false),(1,1,false)],2,[.slice none 0 0,.slice none 0 0]⟩,
 some ⟨.int .i64,1,[.int .i64 0]⟩,
 none,
 some ⟨.other,1,[.nilFunc]⟩,
 some ⟨.other,1,[.nilFunc]⟩,
 none,
 some ⟨.other,1,[.nilFunc]⟩,
 some ⟨.other,1,[.nilFunc]⟩,
 some ⟨.other,1,[.nilFunc]⟩,
 some ⟨.other,1,[.nilFunc]⟩,
 some ⟨.struct [(0,1,false),(1,1,false)],2,[.int .i64 0,.int .i64 0]⟩,
 some ⟨.struct [(0,1,false),(1,1,false)],2,[.int .i64 0,.int .i64 0]⟩,
 some ⟨.other,1,[.nilFunc]⟩,
 some ⟨.slice 54 6 48,1,[.slice none 0 0]⟩,
 some ⟨.struct [(0,1,false),(1,1,false),(2,1,false),(3,1,false),(4,1,false),(5,1,false)],6,[.int .i64 0,.int .i64 0,.int .i64 0,.int .i64 0,.int .i64 0,.int .i64 0]⟩,
 some ⟨.struct [(0,1,false),(1,1,false),(2,1,false),(3,1,false),(4,1,false),(5,1,false)],6,[.int .i64 0,.int .i64 0,.int .i64 0,.int .i64 0,.int .i64 0,.int .i64 0]⟩,
 some ⟨.other,1,[.nilFunc]⟩,
 some ⟨.slice 282 3 24,1,[.slice none 0 0]⟩,
 some ⟨.struct [(0,1,false),(1,1,false)],2,[.slice none 0 0,.slice none 0 0]⟩,
 some ⟨.struct [(0,1,false),(1,1,false)],2,[.slice none 0 0,.slice none 0 0]⟩,
 some ⟨.slice 66 3 24,1,[.slice none 0 0]⟩,
 some ⟨.slice 210 4 32,1,[.slice none 0 0]⟩,
 some ⟨.slice 212 4 32,1,[.slice none 0 0]⟩,
 some ⟨.slice 273 2 16,1,[.slice none 0 0]⟩,
 some ⟨.struct [(0,1,false),(1,1,false),(2,1,false),(3,2,true),(5,1,false),(6,1,false),(7,1,false),(8,1,false)],9,[.string ⟨#[]⟩,.int .i64 0,.bool false,.slice none 0 0,.slice none 0 0,.slice none 0 0,.slice none 0 0,.slice none 0 0,.slice none 0 0]⟩,
 some ⟨.struct [(0,1,false),(1,1,false),(2,1,false),(3,2,true),(5,1,false),(6,1,false),(7,1,false),(8,1,false)],9,[.string ⟨#[]⟩,.int .i64 0,.bool false,.slice none 0 0,.slice none 0 0,.slice none 0 0,.slice none 0 0,.slice none 0 0,.slice none 0 0]⟩,
 some ⟨.struct [(0,1,false),(1,1,false),(2,1,false)],3,[.int .i64 0,.int .i64 0,.int .i64 0]⟩,
 some ⟨.struct [(0,1,false),(1,1,false),(2,1,false)],3,[.int .i64 0,.int .i64 0,.int .i64 0]⟩,
 some ⟨.other,1,[.nilFunc]⟩,
 some ⟨.slice 89 6 128,1,[.slice none 0 0]⟩,
 some ⟨.struct [(0,1,false),(1,1,false),(2,1,false)],3,[.int .i64 0,.bool false,.slice none 0 0]⟩,
 some ⟨.struct [(0,1,false),(1,1,false),(2,1,false)],3,[.int .i64 0,.bool false,.slice none 0 0]⟩,
 some ⟨.struct [(0,1,false),(1,1,false)],2,[.string ⟨#[]⟩,.slice none 0 0]⟩,
 some ⟨.struct [(0,1,false),(1,1,false)],2,[.string ⟨#[]⟩,.slice none 0 0]⟩,
 some ⟨.slice 151 3 24,1,[.slice none 0 0]⟩,
 some ⟨.struct [(0,1,false)],1,[.slice none 0 0]⟩,
 some ⟨.struct [(0,1,false)],1,[.slice none 0 0]⟩,
 some ⟨.other,1,[.nilFunc]⟩,
 some ⟨.other,1,[.nilFunc]⟩,
 some ⟨.other,1,[.map none]⟩,
 some ⟨.other,1,[.pointer none]⟩,
 some ⟨.other,1,[.nilFunc]⟩,
 some ⟨.int .i64,1,[.int .i64 0]⟩,
 some ⟨.other,1,[.nilFunc]⟩,
 some ⟨.other,1,[.nilFunc]⟩,
 some ⟨.other,1,[.nilFunc]⟩,
 some ⟨.other,1,[.nilFunc]⟩,
 some ⟨.slice 29 1 24,1,[.slice none 0 0]⟩,
 some ⟨.slice 91 2 16,1,[.slice none 0 0]⟩,
 some ⟨.struct [(0,1,false),(1,1,false),(2,1,false),(3,1,false),(4,1,false),(5,1,false)],6,[.slice none 0 0,.slice none 0 0,.slice none 0 0,.slice none 0 0,.slice none 0 0,.int .i64 0]⟩,
 some ⟨.struct [(0,1,false),(1,1,false),(2,1,false),(3,1,false),(4,1,false),(5,1,false)],6,[.slice none 0 0,.slice none 0 0,.slice none 0 0,.slice none 0 0,.slice none 0 0,.int .i64 0]⟩,
 some ⟨.struct [(0,1,false),(1,1,false)],2,[.int .i64 0,.int .i64 0]⟩,
 some ⟨.struct [(0,1,false),(1,1,false)],2,[.int .i64 0,.int .i64 0]⟩,
 some ⟨.other,1,[.nilFunc]⟩,
 some ⟨.other,1,[.nilFunc]⟩,
 some ⟨.other,1,[.nilFunc]⟩,
 some ⟨.other,1,[.nilFunc]⟩,
 some ⟨.other,1,[.map none]⟩,
 some ⟨.other,1,[.pointer none]⟩,
 some ⟨.other,1,[.nilFunc]⟩,
 some ⟨.int .i64,1,[.int .i64 0]⟩,
 some ⟨.other,1,[.pointer none]⟩,
 some ⟨.other,1,[.nilFunc]⟩,
 some ⟨.other,1,[.nilFunc]⟩,
 some ⟨.slice 4 1 1,1,[.slice none 0 0]⟩,
 some ⟨.slice 99 1 8,1,[.slice none 0 0]⟩,
 some ⟨.struct [(0,1,false),(1,1,false)],2,[.slice none 0 0,.slice none 0 0]⟩,
 some ⟨.struct [(0,1,false),(1,1,false)],2,[.slice none 0 0,.slice none 0 0]⟩,
 some ⟨.other,1,[.nilFunc]⟩,
 some ⟨.other,1,[.nilFunc]⟩,
 some ⟨.other,1,[.nilFunc]⟩,
 some ⟨.other,1,[.nilFunc]⟩,
 some ⟨.other,1,[.nilFunc]⟩,
 some ⟨.other,1,[.nilFunc]⟩,
 some ⟨.other,1,[.nilFunc]⟩,
 some ⟨.other,1,[.pointer none]⟩,
 some ⟨.other,1,[.nilFunc]⟩,
 some ⟨.other,1,[.map none]⟩,
 some ⟨.struct [(0,9,true),(9,1,false),(10,1,false)],11,[.int .i64 0,.slice none 0 0,.slice none 0 0,.slice none 0 0,.slice none 0 0,.slice none 0 0,.slice none 0 0,.slice none 0 0,.slice none 0 0,.slice none 0 0,.map none]⟩,
 some ⟨.struct [(0,9,true),(9,1,false),(10,1,false)],11,[.int .i64 0,.slice none 0 0,.slice none 0 0,.slice none 0 0,.slice none 0 0,.slice none 0 0,.slice none 0 0,.slice none 0 0,.slice none 0 0,.slice none 0 0,.map none]⟩,
 some ⟨.other,1,[.nilFunc]⟩,
 some ⟨.slice 86 1 24,1,[.slice none 0 0]⟩,
 some ⟨.slice 81 1 8,1,[.slice none 0 0]⟩,
 some ⟨.struct [(0,1,false),(1,1,false)],2,[.slice none 0 0,.slice none 0 0]⟩,
 some ⟨.struct [(0,1,false),(1,1,false)],2,[.slice none 0 0,.slice none 0 0]⟩,
 some ⟨.other,1,[.nilFunc]⟩,
 some ⟨.other,1,[.nilFunc]⟩,
 none,
 some ⟨.other,1,[.nilFunc]⟩,
 some ⟨.other,1,[.nilFunc]⟩,
 some ⟨.slice 133 1 8,1,[.slice none 0 0]⟩,
 some ⟨.struct [(0,9,true),(9,1,false)],10,[.int .i64 0,.slice none 0 0,.slice none 0 0,.slice none 0 0,.slice none 0 0,.slice none 0 0,.slice none 0 0,.slice none 0 0,.slice none 0 0,.slice none 0 0]⟩,
 some ⟨.struct [(0,9,true),(9,1,false)],10,[.int .i64 0,.slice none 0 0,.slice none 0 0,.slice none 0 0,.slice none 0 0,.slice none 0 0,.slice none 0 0,.slice none 0 0,.slice none 0 0,.slice none 0 0]⟩,
 some ⟨.other,1,[.nilFunc]⟩,
 some ⟨.other,1,[.pointer none]⟩,
 some ⟨.struct [(0,6,true),(6,1,false),(7,1,false),(8,1,false)],9,[.slice none 0 0,.slice none 0 0,.slice none 0 0,.slice none 0 0,.slice none 0 0,.int .i64 0,.int .i64 0,.bool false,.slice none 0 0]⟩,
 some ⟨.struct [(0,6,true),(6,1,false),(7,1,false),(8,1,false)],9,[.slice none 0 0,.slice none 0 0,.slice none 0 0,.slice none 0 0,.slice none 0 0,.int .i64 0,.int .i64 0,.bool false,.slice none 0 0]⟩,
 some ⟨.other,1,[.nilFunc]⟩,
 some ⟨.other,1,[.nilFunc]⟩,
 some ⟨.struct [(0,1,false),(1,1,false)],2,[.int .i64 0,.int .i64 0]⟩,
 some ⟨.struct [(0,1,false),(1,1,false)],2,[.int .i64 0,.int .i64 0]⟩,
 some ⟨.other,1,[.nilFunc]⟩,
 some ⟨.other,1,[.nilFunc]⟩,
 some ⟨.other,1,[.nilFunc]⟩,
 some ⟨.other,1,[.pointer none]⟩,
 some ⟨.struct [(0,1,false),(1,1,false),(2,9,true),(11,1,false)],12,[.slice none 0 0,.int .i64 0,.int .i64 0,.slice none 0 0,.slice none 0 0,.slice none 0 0,.slice none 0 0,.slice none 0 0,.slice none 0 0,.slice none 0 0,.slice none 0 0,.int .i64 0]⟩,
 some ⟨.struct [(0,1,false),(1,1,false),(2,9,true),(11,1,false)],12,[.slice none 0 0,.int .i64 0,.int .i64 0,.slice none 0 0,.slice none 0 0,.slice none 0 0,.slice none 0 0,.slice none 0 0,.slice none 0 0,.slice none 0 0,.slice none 0 0,.int .i64 0]⟩,
 some ⟨.other,1,[.nilFunc]⟩,
 some ⟨.slice 5 1 1,1,[.slice none 0 0]⟩,
 some ⟨.struct [(0,1,false),(1,1,false),(2,1,false),(3,1,false)],4,[.string ⟨#[]⟩,.int .i64 0,.int .i64 0,.int .i64 0]⟩,
 some ⟨.struct [(0,1,false),(1,1,false),(2,1,false),(3,1,false)],4,[.string ⟨#[]⟩,.int .i64 0,.int .i64 0,.int .i64 0]⟩,
 some ⟨.struct [(0,1,false),(1,1,false),(2,1,false)],3,[.int .i64 0,.int .i64 0,.int .i64 0]⟩,
 some ⟨.struct [(0,1,false),(1,1,false),(2,1,false)],3,[.int .i64 0,.int .i64 0,.int .i64 0]⟩,
 some ⟨.other,1,[.nilFunc]⟩,
 some ⟨.other,1,[.nilFunc]⟩,
 some ⟨.other,1,[.nilFunc]⟩,
 some ⟨.other,1,[.nilFunc]⟩,
 some ⟨.other,1,[.pointer none]⟩,
 some ⟨.other,1,[.nilFunc]⟩,
 none,
 some ⟨.other,1,[.nilFunc]⟩,
 some ⟨.other,1,[.nilFunc]⟩,
 some ⟨.other,1,[.nilFunc]⟩,
 some ⟨.other,1,[.nilFunc]⟩,
 some ⟨.int .u64,1,[.int .u64 0]⟩,
 some ⟨.other,1,[.map none]⟩,
 some ⟨.other,1,[.nilFunc]⟩,
 some ⟨.other,1,[.nilFunc]⟩,
 some ⟨.other,1,[.nilFunc]⟩,
 some ⟨.other,1,[.nilFunc]⟩,
 some ⟨.other,1,[.nilFunc]⟩,
 some ⟨.other,1,[.nilFunc]⟩,
 some ⟨.other,1,[.nilFunc]⟩,
 some ⟨.other,1,[.nilFunc]⟩,
 some ⟨.other,1,[.nilFunc]⟩,
 some ⟨.other,1,[.nilFunc]⟩,
 some ⟨.other,1,[.nilFunc]⟩,
 some ⟨.other,1,[.nilFunc]⟩,
 some ⟨.other,1,[.nilFunc]⟩,
 some ⟨.other,1,[.nilFunc]⟩,
 some ⟨.other,1,[.nilFunc]⟩,
 some ⟨.other,1,[.nilFunc]⟩,
 some ⟨.other,1,[.nilFunc]⟩,
 some ⟨.other,1,[.nilFunc]⟩,
 some ⟨.other,1,[.nilFunc]⟩,
 some ⟨.other,1,[.nilFunc]⟩,
 some ⟨.other,1,[.nilFunc]⟩,
 some ⟨.other,1,[.nilFunc]⟩,
 some ⟨.other,1,[.nilFunc]⟩,
 some ⟨.other,1,[.nilFunc]⟩,
 some ⟨.other,1,[.nilFunc]⟩,
 some ⟨.other,1,[.nilFunc]⟩,
 some ⟨.other,1,[.nilFunc]⟩,
 some ⟨.other,1,[.nilFunc]⟩,
 some ⟨.other,1,[.nilFunc]⟩,
 some ⟨.other,1,[.nilFunc]⟩,
 some ⟨.other,1,[.nilFunc]⟩,
 some ⟨.other,1,[.nilFunc]⟩,
 some ⟨.other,1,[.nilFunc]⟩,
 some ⟨.other,1,[.nilFunc]⟩,
 some ⟨.other,1,[.nilFunc]⟩,
 some ⟨.other,1,[.nilFunc]⟩,
 some ⟨.other,1,[.nilFunc]⟩,
 some ⟨.other,1,[.nilFunc]⟩,
 some ⟨.other,1,[.nilFunc]⟩,
 some ⟨.other,1,[.nilFunc]⟩,
 some ⟨.other,1,[.nilFunc]⟩,
 some ⟨.other,1,[.nilFunc]⟩,
 some ⟨.arr 2 3 1,2,[.int .i64 0,.int .i64 0]⟩,
 some ⟨.slice 207 2 16,1,[.slice none 0 0]⟩,
 some ⟨.struct [(0,1,false),(1,1,false),(2,1,false),(3,1,false)],4,[.int .i64 0,.int .i64 0,.int .i64 0,.int .i64 0]⟩,
 some ⟨.struct [(0,1,false),(1,1,false),(2,1,false),(3,1,false)],4,[.int .i64 0,.int .i64 0,.int .i64 0,.int .i64 0]⟩,
 some ⟨.struct [(0,1,false),(1,1,false),(2,1,false),(3,1,false)],4,[.int .i64 0,.int .i64 0,.int .i64 0,.int .i64 0]⟩,
 some ⟨.struct [(0,1,false),(1,1,false),(2,1,false),(3,1,false)],4,[.int .i64 0,.int .i64 0,.int .i64 0,.int .i64 0]⟩,
 some ⟨.other,1,[.nilFunc]⟩,
 none,
 some ⟨.other,1,[.nilFunc]⟩,
 some ⟨.other,1,[.nilFunc]⟩,
 none,
 some ⟨.other,1,[.nilFunc]⟩,
 some ⟨.other,1,[.nilFunc]⟩,
 some ⟨.other,1,[.nilFunc]⟩,
 some ⟨.struct [(0,1,false),(1,1,false),(2,1,false),(3,1,false),(4,1,false)],5,[.slice none 0 0,.bool false,.nilFunc,.int .i64 0,.int .i64 0]⟩,
 some ⟨.struct [(0,1,false),(1,1,false),(2,1,false),(3,1,false),(4,1,false)],5,[.slice none 0 0,.bool false,.nilFunc,.int .i64 0,.int .i64 0]⟩,
 some ⟨.other,1,[.nilFunc]⟩,
 some ⟨.other,1,[.nilFunc]⟩,
 some ⟨.other,1,[.nilFunc]⟩,
 some ⟨.other,1,[.nilFunc]⟩,
 some ⟨.other,1,[.nilFunc]⟩,
 some ⟨.other,1,[.nilFunc]⟩,
 some ⟨.other,1,[.nilFunc]⟩,
 some ⟨.other,1,[.nilFunc]⟩,
 some ⟨.int .i64,1,[.int .i64 0]⟩,
 none,
 some ⟨.other,1,[.nilFunc]⟩,
 some ⟨.other,1,[.nilFunc]⟩,
 some ⟨.other,1,[.nilFunc]⟩,
 some ⟨.other,1,[.nilFunc]⟩,
 some ⟨.other,1,[.nilFunc]⟩,
 some ⟨.other,1,[.nilFunc]⟩,
 some ⟨.int .u32,1,[.int .u32 0]⟩,
 some ⟨.other,1,[.nilFunc]⟩,
 some ⟨.int .u64,1,[.int .u64 0]⟩,
 some ⟨.slice 174 1 8,1,[.slice none 0 0]⟩,
 some ⟨.other,1,[.nilFunc]⟩,
 some ⟨.other,1,[.nilFunc]⟩,
 some ⟨.other,1,[.nilFunc]⟩,
 some ⟨.other,1,[.nilFunc]⟩,
 some ⟨.other,1,[.nilFunc]⟩,
 some ⟨.other,1,[.nilFunc]⟩,
 some ⟨.other,1,[.nilFunc]⟩,
 some ⟨.other,1,[.nilFunc]⟩,
 some ⟨.other,1,[.nilFunc]⟩,
 some ⟨.other,1,[.nilFunc]⟩,
 some ⟨.other,1,[.nilFunc]⟩,
 some ⟨.other,1,[.nilFunc]⟩,
 some ⟨.other,1,[.nilFunc]⟩,
 some ⟨.other,1,[.nilFunc]⟩,
 none,
 some ⟨.other,1,[.nilFunc]⟩,
 some ⟨.other,1,[.nilFunc]⟩,
 some ⟨.other,1,[.nilFunc]⟩,
 some ⟨.other,1,[.nilFunc]⟩,
 some ⟨.other,1,[.nilFunc]⟩,
 some ⟨.other,1,[.nilFunc]⟩,
 some ⟨.other,1,[.nilFunc]⟩,
 some ⟨.other,1,[.nilFunc]⟩,
 some ⟨.other,1,[.nilFunc]⟩,
 some ⟨.other,1,[.nilFunc]⟩,
 some ⟨.other,1,[.nilFunc]⟩,
 some ⟨.other,1,[.nilFunc]⟩,
 some ⟨.other,1,[.nilFunc]⟩,
 some ⟨.other,1,[.nilFunc]⟩,
 some ⟨.struct [(0,1,false),(1,1,false)],2,[.int .i64 0,.int .i64 0]⟩,
 some ⟨.struct [(0,1,false),(1,1,false)],2,[.int .i64 0,.int .i64 0]⟩,
 some ⟨.other,1,[.nilFunc]⟩,
 some ⟨.other,1,[.nilFunc]⟩,
 some ⟨.other,1,[.nilFunc]⟩,
 some ⟨.other,1,[.nilFunc]⟩,
 some ⟨.other,1,[.nilFunc]⟩,
 some ⟨.other,1,[.nilFunc]⟩,
 some ⟨.other,1,[.nilFunc]⟩,
 some ⟨.struct [(0,1,false),(1,1,false),(2,1,false)],3,[.int .i64 0,.int .i64 0,.bool false]⟩,
 some ⟨.struct [(0,1,false),(1,1,false),(2,1,false)],3,[.int .i64 0,.int .i64 0,.bool false]⟩,
 some ⟨.other,1,[.nilFunc]⟩,
 some ⟨.other,1,[.nilFunc]⟩,
 some ⟨.other,1,[.nilFunc]⟩,
 some ⟨.other,1,[.nilFunc]⟩,
 some ⟨.other,1,[.pointer none]⟩,
 some ⟨.other,1,[.nilFunc]⟩,
 some ⟨.other,1,[.nilFunc]⟩,
 some ⟨.int .u64,1,[.int .u64 0]⟩,
 some ⟨.other,1,[.nilFunc]⟩,
 some ⟨.other,1,[.nilFunc]⟩,
 some ⟨.other,1,[.nilFunc]⟩,
 some ⟨.other,1,[.pointer none]⟩,
 some ⟨.other,1,[.nilFunc]⟩,
 some ⟨.other,1,[.nilFunc]⟩,
 some ⟨.other,1,[.nilFunc]⟩,
 some ⟨.other,1,[.nilFunc]⟩,
 some ⟨.other,1,[.nilFunc]⟩,
 some ⟨.other,1,[.nilFunc]⟩,
 some ⟨.other,1,[.nilFunc]⟩,
 some ⟨.other,1,[.map none]⟩,
 some ⟨.struct [(0,1,false),(1,1,false)],2,[.int .i64 0,.int .i64 0]⟩,
 some ⟨.struct [(0,1,false),(1,1,false)],2,[.int .i64 0,.int .i64 0]⟩,
 some ⟨.other,1,[.nilFunc]⟩,
 some ⟨.struct [(0,1,false),(1,1,false)],2,[.int .i64 0,.int .i64 0]⟩,
 some ⟨.struct [(0,1,false),(1,1,false)],2,[.int .i64 0,.int .i64 0]⟩,
 some ⟨.other,1,[.nilFunc]⟩,
 some ⟨.other,1,[.nilFunc]⟩,
 some ⟨.other,1,[.nilFunc]⟩,
 some ⟨.other,1,[.nilFunc]⟩,
 some ⟨.other,1,[.nilFunc]⟩,
 some ⟨.other,1,[.nilFunc]⟩,
 some ⟨.other,1,[.nilFunc]⟩,
 some ⟨.other,1,[.nilFunc]⟩,
 some ⟨.other,1,[.nilFunc]⟩,
 some ⟨.other,1,[.nilFunc]⟩,
 some ⟨.other,1,[.nilFunc]⟩,
 some ⟨.other,1,[.nilFunc]⟩,
 some ⟨.other,1,[.nilFunc]⟩,
 some ⟨.other,1,[.nilFunc]⟩,
 some ⟨.other,1,[.nilFunc]⟩,
 some ⟨.other,1,[.pointer none]⟩,
 none,
 some ⟨.other,1,[.nilFunc]⟩,
 some ⟨.other,1,[.map none]⟩,
 some ⟨.other,1,[.map none]⟩,
 some ⟨.slice 3 1 8,1,[.slice none 0 0]⟩,
 some ⟨.other,1,[.nilFunc]⟩,
 some ⟨.other,1,[.nilFunc]⟩,
 some ⟨.other,1,[.nilFunc]⟩,
 some ⟨.other,1,[.nilFunc]⟩,
 some ⟨.other,1,[.pointer none]⟩,
 some ⟨.other,1,[.nilFunc]⟩,
 some ⟨.other,1,[.nilFunc]⟩,
 some ⟨.other,1,[.nilFunc]⟩,
 some ⟨.other,1,[.nilFunc]⟩,
 some ⟨.other,1,[.nilFunc]⟩,
 some ⟨.other,1,[.nilFunc]⟩,
 some ⟨.other,1,[.nilFunc]⟩,
 some ⟨.other,1,[.nilFunc]⟩,
 some ⟨.slice 40 1 8,1,[.slice none 0 0]⟩,
 some ⟨.other,1,[.nilFunc]⟩,
 some ⟨.other,1,[.nilIface]⟩,
 some ⟨.other,1,[.nilIface]⟩,
 some ⟨.other,1,[.nilFunc]⟩,
 some ⟨.other,1,[.nilFunc]⟩,
 some ⟨.other,1,[.nilFunc]⟩,
 some ⟨.other,1,[.nilFunc]⟩,
 some ⟨.other,1,[.nilFunc]⟩,
 some ⟨.other,1,[.nilFunc]⟩,
 some ⟨.slice 354 2 16,1,[.slice none 0 0]⟩,
 some ⟨.struct [(0,1,false),(1,1,false)],2,[.int .i64 0,.int .i64 0]⟩,
 some ⟨.struct [(0,1,false),(1,1,false)],2,[.int .i64 0,.int .i64 0]⟩,
 some ⟨.other,1,[.pointer none]⟩,
 some ⟨.other,1,[.nilFunc]⟩,
 some ⟨.other,1,[.nilFunc]⟩,
 some ⟨.struct [(0,1,false),(1,1,false),(2,1,false),(3,1,false)],4,[.pointer none,.pointer none,.pointer none,.string ⟨#[]⟩]⟩,
 some ⟨.struct [(0,1,false),(1,1,false),(2,1,false),(3,1,false)],4,[.pointer none,.pointer none,.pointer none,.string ⟨#[]⟩]⟩,
 none,
 none,
 none,
 some ⟨.int .u8,1,[.int .u8 0]⟩,
 some ⟨.int .u8,1,[.int .u8 0]⟩,
 some ⟨.other,1,[.nilFunc]⟩,
 some ⟨.other,1,[.pointer none]⟩,
 some ⟨.int .i32,1,[.int .i32 0]⟩,
 some ⟨.int .i32,1,[.int .i32 0]⟩,
 some ⟨.struct [(0,1,false),(1,1,false),(2,1,false),(3,1,false),(4,1,false),(5,1,false),(6,1,false),(7,1,false),(8,1,false),(9,1,false),(10,1,false)],11,[.int .u64 0,.int .u64 0,.int .u32 0,.int .u8 0,.int .u8 0,.int .u8 0,.int .u8 0,.nilFunc,.pointer none,.int .i32 0,.int .i32 0]⟩,
 some ⟨.struct [(0,1,false),(1,1,false),(2,1,false),(3,1,false),(4,1,false),(5,1,false),(6,1,false),(7,1,false),(8,1,false),(9,1,false),(10,1,false)],11,[.int .u64 0,.int .u64 0,.int .u32 0,.int .u8 0,.int .u8 0,.int .u8 0,.int .u8 0,.nilFunc,.pointer none,.int .i32 0,.int .i32 0]⟩,
 none,
 none,
 none,
 none,
 none,
 none,
 none,
 none,
 none,
 none,
 none,
 none,
 none,
 none,
 none,
 none,
 none,
 none,
 none,
 none,
 none,
 none,
 none,
 none,
 none,
 none,
 none,
 none,
 none,
 none,
 none,
 none,
 none,
 none,
 none,
 none,
 none,
 none,
 none,
 none,
 none,
 none,
 none,
 none,
 none,
 none,
 none,
 none,
 none]
theorem a1:ev Tryz.prog tt:=F5 (by kernel_rfl)
theorem Hk {P:Program} {f:FuncId} {fn:Func} {c:Code} (hf:P.funcs[f]?=some fn) (hn:(fn.name== "runtime.NumGoroutine")=false:=by kernel_rfl) (hb:fn.body=some c:=by rfl):bK P f:=⟨am hf hn hb⟩
instance:bK Tryz.prog 11:=Hk Tryz.func11
instance:bK Tryz.prog 12:=Hk Tryz.func12
instance:bK Tryz.prog 13:=Hk Tryz.func13
instance:bK Tryz.prog 15:=Hk Tryz.func15
instance:bK Tryz.prog 17:=Hk Tryz.func17
instance:bK Tryz.prog 19:=Hk Tryz.func19
instance:bK Tryz.prog 20:=Hk Tryz.func20
instance:bK Tryz.prog 22:=Hk Tryz.func22
instance:bK Tryz.prog 24:=Hk Tryz.func24
instance:bK Tryz.prog 25:=Hk Tryz.func25
instance:bK Tryz.prog 26:=Hk Tryz.func26
instance:bK Tryz.prog 27:=Hk Tryz.func27
instance:bK Tryz.prog 28:=Hk Tryz.func28
instance:bK Tryz.prog 29:=Hk Tryz.func29
instance:bK Tryz.prog 30:=Hk Tryz.func30
instance:bK Tryz.prog 34:=Hk Tryz.func34
instance:bK Tryz.prog 35:=Hk Tryz.func35
instance:bK Tryz.prog 36:=Hk Tryz.func36
instance:bK Tryz.prog 37:=Hk Tryz.func37
instance:bK Tryz.prog 38:=Hk Tryz.func38
instance:bK Tryz.prog 39:=Hk Tryz.func39
instance:bK Tryz.prog 44:=Hk Tryz.func44
instance:bK Tryz.prog 45:=Hk Tryz.func45
instance:bK Tryz.prog 46:=Hk Tryz.func46
instance:bK Tryz.prog 47:=Hk Tryz.func47
instance:bK Tryz.prog 48:=Hk Tryz.func48
instance:bK Tryz.prog 49:=Hk Tryz.func49
instance:bK Tryz.prog 50:=Hk Tryz.func50
instance:bK Tryz.prog 51:=Hk Tryz.func51
instance:bK Tryz.prog 52:=Hk Tryz.func52
instance:bK Tryz.prog 53:=Hk Tryz.func53
instance:bK Tryz.prog 54:=Hk Tryz.func54
instance:bK Tryz.prog 55:=Hk Tryz.func55
instance:bK Tryz.prog 56:=Hk Tryz.func56
instance:bK Tryz.prog 57:=Hk Tryz.func57
instance:bK Tryz.prog 58:=Hk Tryz.func58
instance:bK Tryz.prog 62:=Hk Tryz.func62
instance:bK Tryz.prog 63:=Hk Tryz.func63
instance:bK Tryz.prog 64:=Hk Tryz.func64
instance:bK Tryz.prog 65:=Hk Tryz.func65
instance:bK Tryz.prog 66:=Hk Tryz.func66
instance:bK Tryz.prog 67:=Hk Tryz.func67
instance:bK Tryz.prog 68:=Hk Tryz.func68
instance:bK Tryz.prog 69:=Hk Tryz.func69
instance:bK Tryz.prog 70:=Hk Tryz.func70
instance:bK Tryz.prog 71:=Hk Tryz.func71
instance:bK Tryz.prog 74:=Hk Tryz.func74
instance:bK Tryz.prog 75:=Hk Tryz.func75
instance:bK Tryz.prog 76:=Hk Tryz.func76
instance:bK Tryz.prog 77:=Hk Tryz.func77
instance:bK Tryz.prog 78:=Hk Tryz.func78
instance:bK Tryz.prog 79:=Hk Tryz.func79
instance:bK Tryz.prog 80:=Hk Tryz.func80
instance:bK Tryz.prog 81:=Hk Tryz.func81
instance:bK Tryz.prog 82:=Hk Tryz.func82
instance:bK Tryz.prog 83:=Hk Tryz.func83
instance:bK Tryz.prog 84:=Hk Tryz.func84
instance:bK Tryz.prog 85:=Hk Tryz.func85
instance:bK Tryz.prog 86:=Hk Tryz.func86
instance:bK Tryz.prog 87:=Hk Tryz.func87
instance:bK Tryz.prog 88:=Hk Tryz.func88
instance:bK Tryz.prog 89:=Hk Tryz.func89
instance:bK Tryz.prog 90:=Hk Tryz.func90
instance:bK Tryz.prog 91:=Hk Tryz.func91
instance:bK Tryz.prog 92:=Hk Tryz.func92
instance:bK Tryz.prog 93:=Hk Tryz.func93
instance:bK Tryz.prog 94:=Hk Tryz.func94
instance:bK Tryz.prog 95:=Hk Tryz.func95
instance:bK Tryz.prog 96:=Hk Tryz.func96
instance:bK Tryz.prog 97:=Hk Tryz.func97
instance:bK Tryz.prog 98:=Hk Tryz.func98
instance:bK Tryz.prog 99:=Hk Tryz.func99
instance:bK Tryz.prog 100:=Hk Tryz.func100
instance:bK Tryz.prog 101:=Hk Tryz.func101
instance:bK Tryz.prog 102:=Hk Tryz.func102
instance:bK Tryz.prog 103:=Hk Tryz.func103
instance:bK Tryz.prog 104:=Hk Tryz.func104
instance:bK Tryz.prog 105:=Hk Tryz.func105
instance:bK Tryz.prog 106:=Hk Tryz.func106
instance:bK Tryz.prog 107:=Hk Tryz.func107
instance:bK Tryz.prog 108:=Hk Tryz.func108
instance:bK Tryz.prog 109:=Hk Tryz.func109
instance:bK Tryz.prog 110:=Hk Tryz.func110
instance:bK Tryz.prog 111:=Hk Tryz.func111
instance:bK Tryz.prog 112:=Hk Tryz.func112
instance:bK Tryz.prog 113:=Hk Tryz.func113
instance:bK Tryz.prog 114:=Hk Tryz.func114
instance:bK Tryz.prog 121:=Hk Tryz.func121
instance:bK Tryz.prog 122:=Hk Tryz.func122
instance:bK Tryz.prog 123:=Hk Tryz.func123
instance:bK Tryz.prog 124:=Hk Tryz.func124
instance:bK Tryz.prog 125:=Hk Tryz.func125
instance:bK Tryz.prog 126:=Hk Tryz.func126
instance:bK Tryz.prog 127:=Hk Tryz.func127
instance:bK Tryz.prog 128:=Hk Tryz.func128
instance:bK Tryz.prog 129:=Hk Tryz.func129
instance:bK Tryz.prog 130:=Hk Tryz.func130
instance:bK Tryz.prog 131:=Hk Tryz.func131
instance:bK Tryz.prog 132:=Hk Tryz.func132
instance:bK Tryz.prog 133:=Hk Tryz.func133
instance:bK Tryz.prog 134:=Hk Tryz.func134
instance:bK Tryz.prog 135:=Hk Tryz.func135
instance:bK Tryz.prog 142:=Hk Tryz.func142
instance:bK Tryz.prog 147:=Hk Tryz.func147
instance:bK Tryz.prog 148:=Hk Tryz.func148
instance:bK Tryz.prog 149:=Hk Tryz.func149
instance:bK Tryz.prog 150:=Hk Tryz.func150
instance:bK Tryz.prog 151:=Hk Tryz.func151
instance:bK Tryz.prog 152:=Hk Tryz.func152
instance:bK Tryz.prog 153:=Hk Tryz.func153
instance:bK Tryz.prog 154:=Hk Tryz.func154
instance:bK Tryz.prog 155:=Hk Tryz.func155
instance:bK Tryz.prog 156:=Hk Tryz.func156
instance:bK Tryz.prog 157:=Hk Tryz.func157
instance:bK Tryz.prog 158:=Hk Tryz.func158
instance:bK Tryz.prog 159:=Hk Tryz.func159
instance:bK Tryz.prog 160:=Hk Tryz.func160
instance:bK Tryz.prog 161:=Hk Tryz.func161
instance:bK Tryz.prog 162:=Hk Tryz.func162
instance:bK Tryz.prog 163:=Hk Tryz.func163
instance:bK Tryz.prog 164:=Hk Tryz.func164
instance:bK Tryz.prog 165:=Hk Tryz.func165
instance:bK Tryz.prog 166:=Hk Tryz.func166
instance:bK Tryz.prog 167:=Hk Tryz.func167
instance:bK Tryz.prog 168:=Hk Tryz.func168
instance:bK Tryz.prog 169:=Hk Tryz.func169
instance:bK Tryz.prog 170:=Hk Tryz.func170
instance:bK Tryz.prog 171:=Hk Tryz.func171
instance:bK Tryz.prog 172:=Hk Tryz.func172
instance:bK Tryz.prog 173:=Hk Tryz.func173
instance:bK Tryz.prog 174:=Hk Tryz.func174
instance:bK Tryz.prog 175:=Hk Tryz.func175
instance:bK Tryz.prog 176:=Hk Tryz.func176
instance:bK Tryz.prog 177:=Hk Tryz.func177
instance:bK Tryz.prog 178:=Hk Tryz.func178
instance:bK Tryz.prog 179:=Hk Tryz.func179
instance:bK Tryz.prog 180:=Hk Tryz.func180
instance:bK Tryz.prog 181:=Hk Tryz.func181
instance:bK Tryz.prog 182:=Hk Tryz.func182
instance:bK Tryz.prog 183:=Hk Tryz.func183
instance:bK Tryz.prog 184:=Hk Tryz.func184
instance:bK Tryz.prog 185:=Hk Tryz.func185
instance:bK Tryz.prog 186:=Hk Tryz.func186
instance:bK Tryz.prog 187:=Hk Tryz.func187
instance:bK Tryz.prog 188:=Hk Tryz.func188
instance:bK Tryz.prog 189:=Hk Tryz.func189
instance:bK Tryz.prog 190:=Hk Tryz.func190
instance:bK Tryz.prog 191:=Hk Tryz.func191
instance:bK Tryz.prog 192:=Hk Tryz.func192
instance:bK Tryz.prog 204:=Hk Tryz.func204
instance:bK Tryz.prog 205:=Hk Tryz.func205
instance:bK Tryz.prog 206:=Hk Tryz.func206
instance:bK Tryz.prog 207:=Hk Tryz.func207
instance:bK Tryz.prog 208:=Hk Tryz.func208
instance:bK Tryz.prog 209:=Hk Tryz.func209
instance:bK Tryz.prog 210:=Hk Tryz.func210
instance:bK Tryz.prog 211:=Hk Tryz.func211
instance:bK Tryz.prog 212:=Hk Tryz.func212
instance:bK Tryz.prog 213:=Hk Tryz.func213
instance:bK Tryz.prog 214:=Hk Tryz.func214
instance:bK Tryz.prog 220:=Hk Tryz.func220
instance:bK Tryz.prog 221:=Hk Tryz.func221
instance:bK Tryz.prog 222:=Hk Tryz.func222
instance:bK Tryz.prog 223:=Hk Tryz.func223
instance:bK Tryz.prog 224:=Hk Tryz.func224
instance:bK Tryz.prog 225:=Hk Tryz.func225
instance:bK Tryz.prog 226:=Hk Tryz.func226
instance:bK Tryz.prog 227:=Hk Tryz.func227
instance:bK Tryz.prog 228:=Hk Tryz.func228
instance:bK Tryz.prog 229:=Hk Tryz.func229
instance:bK Tryz.prog 230:=Hk Tryz.func230
instance:bK Tryz.prog 231:=Hk Tryz.func231
instance:bK Tryz.prog 232:=Hk Tryz.func232
instance:bK Tryz.prog 233:=Hk Tryz.func233
instance:bK Tryz.prog 234:=Hk Tryz.func234
instance:bK Tryz.prog 235:=Hk Tryz.func235
instance:bK Tryz.prog 236:=Hk Tryz.func236
instance:bK Tryz.prog 237:=Hk Tryz.func237
instance:bK Tryz.prog 238:=Hk Tryz.func238
instance:bK Tryz.prog 239:=Hk Tryz.func239
instance:bK Tryz.prog 240:=Hk Tryz.func240
instance:bK Tryz.prog 241:=Hk Tryz.func241
instance:bK Tryz.prog 242:=Hk Tryz.func242
instance:bK Tryz.prog 243:=Hk Tryz.func243
instance:bK Tryz.prog 244:=Hk Tryz.func244
instance:bK Tryz.prog 245:=Hk Tryz.func245
instance:bK Tryz.prog 246:=Hk Tryz.func246
instance:bK Tryz.prog 247:=Hk Tryz.func247
instance:bK Tryz.prog 248:=Hk Tryz.func248
instance:bK Tryz.prog 249:=Hk Tryz.func249
instance:bK Tryz.prog 250:=Hk Tryz.func250
instance:bK Tryz.prog 251:=Hk Tryz.func251
instance:bK Tryz.prog 260:=Hk Tryz.func260
instance:bK Tryz.prog 267:=Hk Tryz.func267
instance:bK Tryz.prog 268:=Hk Tryz.func268
instance:bK Tryz.prog 269:=Hk Tryz.func269
instance:bK Tryz.prog 270:=Hk Tryz.func270
instance:bK Tryz.prog 271:=Hk Tryz.func271
instance:bK Tryz.prog 275:=Hk Tryz.func275
instance:bK Tryz.prog 276:=Hk Tryz.func276
instance:bK Tryz.prog 277:=Hk Tryz.func277
instance:bK Tryz.prog 280:=Hk Tryz.func280
instance:bK Tryz.prog 281:=Hk Tryz.func281
instance:bK Tryz.prog 282:=Hk Tryz.func282
instance:bK Tryz.prog 283:=Hk Tryz.func283
section
variable {P:Program} {r:Option Nat} {ops:Array Oper} {Q:Exit→Act→World→Prop} {nt:Nat} {D:List Deferred} {fr:c6} {B:Bs} {L:AL} {rest:List Oper} {cd:Code} {φ:Prop}
theorem Es (hφ:∀σ a w,iM σ nt D fr a→cZ B σ L w→φ) (h:φ→AT P r cd Q nt D fr B L):AT P r cd Q nt D fr B L:=fun σ a w ha hw=>h (hφ σ a w ha hw) σ a w ha hw
theorem Cq (hφ:∀σ a w,iM σ nt D fr a→cZ B σ L w→φ) (h:φ→bO P r ops Q nt D rest fr B L):bO P r ops Q nt D rest fr B L:=fun σ a w ha hw=>h (hφ σ a w ha hw) σ a w ha hw
theorem AA {σ:ci} {u:AV} {v:Value} {s:Nat} {l:List (List AV)} (h:VR σ u v) (hu:hQ u=some (s,l)):l.length≤9223372036854775807∧∀e∈l,e.length=s:=by
 have h1:=h.im
 rw [cM hu] at h1
 obtain ⟨_,_,_,h2,h3,h4,_⟩:=h1.imm_inv
 unfold maxLen at h3
 exact ⟨by omega,h4⟩
theorem cF (t:Nat) {u:AV} {s:Nat} {l:List (List AV)} (hl:bY fr t=some u) (hu:hQ u=some (s,l)) (h:l.length≤9223372036854775807→AT P r cd Q nt D fr B L):AT P r cd Q nt D fr B L:=
 Es (fun σ a w ha _=>(AA (ha.look t u hl) hu).1) h
end
section
variable {P:Program} {nt:Nat} {fr:c6} {B:Bs} {L:AL}
theorem pn {fn:Func} {Post:AV→AL→Prop} {t:Tmp} {c:AV} {s:Nat} {l:List (List AV)} (hr:fn.results=#[.tmp t]) (hv:bY fr t=some c) (hi:hQ c=some (s,l)) (h:Post (.imm s l) L):AX P .ret (bodyPost P fn (j4 B Post)) nt [] fr B L:=
 fun σ a w ha hw=>⟨ha.defers,_,results_tmp hr _ _ _,_,σ,.imm s l,L,rfl,by rw [←cM hi];exact (ha.look t c hv).im,hw,h⟩
end
section
variable {P:Program} {r:Option Nat} {ops:Array Oper} {Q:Exit→Act→World→Prop} {nt:Nat} {D:List Deferred} {fr:c6} {B:Bs} {L:AL} {rest:List Oper} {d:Nat} {ty:TypeId} {pos:String} {af:Array Edge}
def Fa (P:Program) (f:FuncId) (args:List AV) (e s:Nat) (l:List (List AV)):Prop:=AC P f args [] fun c L=>∃k,c= .vec k s l∧L=_root_.Go.Proofs.YtpbinloeemebkaaGreat.tok k e s l.length
theorem D2 {f:FuncId} {args:Array Operand} {ts:Array TypeId} {cs ds:List AV} {e s:Nat} {l:List (List AV)} [bK P f] (hc:Fa P f ds e s l) (hv:ep fr args.toList=some cs) (hi:kT cs=some ds) (hd:Nat.ble nt d=false) (h:∀k,bO P r ops Q nt D rest ((d,.vec k s l)::fr) B (_root_.Go.Proofs.YtpbinloeemebkaaGreat.tok k e s l.length++L)):
  bO P r ops Q nt D (⟨some d,.call ⟨.value (.func f),args,ts⟩,ty,pos,af,none⟩::rest) fr B L:=by
 have hc':=hc
 rw [←ic hi] at hc'
 refine cU hd rfl (mB [] L hv (fun σ vs h=>h.im) (Ho _) hc') fun c L' hh=>?_
 obtain ⟨L1,⟨k,h1,h2⟩,h3⟩:=hh
 subst h1;subst h2;subst h3
 exact h k
end
def aS (l:List Int):List (List AV):=l.map fun z=>[.sc (.int .i64 z)]
theorem aN (l:List Int):(aS l).length=l.length:=by simp [aS]
theorem bG {l:List Int} {i:Nat} {z:Int} (h:l[i]?=some z):(aS l)[i]?=some [.sc (.int .i64 z)]:=by simp [aS,h]
end Go.Proofs.YtpbinloeemebkaaGreat
namespace Go.Proofs.YtpbinloeemebkaaGreat
open Go.RowKit
section
variable {P:Program} {tt:TT} {r:Option Nat} {Q:Exit→Act→World→Prop} {nt:Nat} {D:List Deferred} {fr:c6} {B:Bs} {L:AL} {l:List Oper} {fin:iq}
variable {k j:Nat} {s:Ak} {sk:ky} {acc:c6} {dd:Option Tmp} {op:Op} {ty t t':TypeId} {pos:String} {af:Array Edge} {g:Option (Nat×Bool)} {x y c:Operand} {u:AV} {want b:Bool}
def cT (P:Program) (l:List Oper) (fr:c6) (fin:iq) (k:Nat) (s:Ak) (o:Oper) (sk:ky) (acc:c6) (L:AL):Prop:=l[k]?=some o→DA P l fr fin ((k,s)::sk) acc L
theorem aE {o:Oper} (h:cT P l fr fin k s o sk acc L) (ho:l[k]?=some o:=by rfl):DA P l fr fin ((k,s)::sk) acc L:=h ho
def iL (o:Oper) (acc:c6):Prop:=match o.guard with
 | none=>True
 | some (j,want)=>nh acc j= .sc (.bool want)
theorem ny {o:Oper} {R:AV→AL→Prop} (hg:iL o acc) (h:∀B,AO P o (cB l.toArray acc fr o.after.toList) B L R):xB P l fr o acc L R:=by
 unfold xB
 unfold iL at hg
 split
 ·exact h
 ·rename_i j want hq
  rw [hq] at hg
  exact .inl ⟨hg,h⟩
theorem f6 {o:Oper} (hg:iL o acc) (h:∀B L,AO P o (cB l.toArray acc fr o.after.toList) B L (fun c L'=>c=u∧L'=L)) (hn:DA P l fr fin sk ((k,u)::acc) L):cT P l fr fin k .v o sk acc L:=by
 intro ho
 obtain ⟨pl,hpl⟩:=hn
 exact ⟨.val k u pl,.v,sk,o,rfl,ho,.inl ⟨rfl,fun L=>ny hg fun B=>h B L⟩,hpl⟩
theorem Ac {o:Oper} (hg:iL o acc) (h:∀B,AO P o (cB l.toArray acc fr o.after.toList) B L (fun c L'=>c=u∧L'=L)) (hn:DA P l fr fin sk ((k,u)::acc) L):cT P l fr fin k .l o sk acc L:=by
 intro ho
 obtain ⟨pl,hpl⟩:=hn
 exact ⟨.val k u pl,.l,sk,o,rfl,ho,.inr (.inl ⟨rfl,ny hg fun B=>h B⟩),hpl⟩
theorem iv {o:Oper} {R:AV→AL→Prop} (hg:iL o acc) (h:∀B,AO P o (cB l.toArray acc fr o.after.toList) B L R) (hn:∀c L',R c L'→DA P l fr fin sk ((k,c)::acc) L'):cT P l fr fin k .e o sk acc L:=by
 intro ho
 have hn':∀c L',∃pl,R c L'→dU P l fr fin pl sk ((k,c)::acc) L':=fun c L'=>by
  by_cases hr:R c L'
  ·obtain ⟨pl,hpl⟩:=hn c L' hr
   exact ⟨pl,fun _=>hpl⟩
  ·exact ⟨.fin,fun h=>absurd h hr⟩
 exact ⟨.eff k R fun c L'=>Classical.choose (hn' c L'),.e,sk,o,.inl rfl,rfl,ho,ny hg h,fun c L' hr=>Classical.choose_spec (hn' c L') hr⟩
theorem Ex {o:Oper} (hK:fc fin.gs L) (hg:iL o acc) (h:∀B L,fc fin.gs L→AO P o (cB l.toArray acc fr o.after.toList) B L (fun c L'=>c=u∧L'=L)) (hn:DA P l fr fin sk ((k,u)::acc) L):cT P l fr fin k .k o sk acc L:=by
 intro ho
 obtain ⟨pl,hpl⟩:=hn
 exact ⟨.val k u pl,.k,sk,o,rfl,ho,.inr (.inr ⟨rfl,hK,fun L hL=>ny hg fun B=>h B L hL⟩),hpl⟩
theorem wQ {o:Oper} {R:AV→AL→Prop} (hX:∀c L',R c L'→fc fin.gs L→fc fin.gs L') (hg:iL o acc) (h:∀B,AO P o (cB l.toArray acc fr o.after.toList) B L R) (hn:∀c L',R c L'→DA P l fr fin sk ((k,c)::acc) L'):cT P l fr fin k .f o sk acc L:=by
 intro ho
 have hn':∀c L',∃pl,R c L'→dU P l fr fin pl sk ((k,c)::acc) L':=fun c L'=>by
  by_cases hr:R c L'
  ·obtain ⟨pl,hpl⟩:=hn c L' hr
   exact ⟨pl,fun _=>hpl⟩
  ·exact ⟨.fin,fun h=>absurd h hr⟩
 exact ⟨.eff k R fun c L'=>Classical.choose (hn' c L'),.f,sk,o,.inr (.inr ⟨rfl,hX⟩),rfl,ho,ny hg h,fun c L' hr=>Classical.choose_spec (hn' c L') hr⟩
theorem Ab {o:Oper} {R:AV→AL→Prop} (hX:∀c L',R c L'→∃X,L'=X++L) (hg:iL o acc) (h:∀B,AO P o (cB l.toArray acc fr o.after.toList) B L R) (hn:∀c L',R c L'→DA P l fr fin sk ((k,c)::acc) L'):cT P l fr fin k .a o sk acc L:=by
 intro ho
 have hn':∀c L',∃pl,R c L'→dU P l fr fin pl sk ((k,c)::acc) L':=fun c L'=>by
  by_cases hr:R c L'
  ·obtain ⟨pl,hpl⟩:=hn c L' hr
   exact ⟨pl,fun _=>hpl⟩
  ·exact ⟨.fin,fun h=>absurd h hr⟩
 exact ⟨.eff k R fun c L'=>Classical.choose (hn' c L'),.a,sk,o,.inr (.inl ⟨rfl,hX⟩),rfl,ho,ny hg h,fun c L' hr=>Classical.choose_spec (hn' c L') hr⟩
theorem kl {op:Op} (hj:nh acc j= .sc (.bool b)) (hb:(b==want)=false) (hn:DA P l fr fin sk ((k,.sc undef)::acc) L):cT P l fr fin k .v ⟨dd,op,ty,pos,af,some (j,want)⟩ sk acc L:=by
 intro ho
 obtain ⟨pl,hpl⟩:=hn
 exact ⟨.val k (.sc undef) pl,.v,sk,_,rfl,ho,.inl ⟨rfl,fun L=> .inr ⟨⟨_,hj,fun e=>by injection e with e;subst e;simp at hb⟩,rfl,rfl⟩⟩,hpl⟩
theorem zq {o:Oper} {fr:c6} (h:Av P o fr u):∀B L,AO P o fr B L (fun c L'=>c=u∧L'=L):=fun _ _=>h.ao
theorem ba (ok:ev P tt) (h:DA P l fr fin sk ((k,u)::acc) L) (hu:qB tt (cB l.toArray acc fr af.toList) op=some u:=by rfl) (hg:iL ⟨dd,op,ty,pos,af,g⟩ acc:=by first | trivial | rfl):cT P l fr fin k .v ⟨dd,op,ty,pos,af,g⟩ sk acc L:=f6 hg (zq (qC ok hu)) h
theorem dB {bop:BinOp} (h:cT P l fr fin k .v ⟨dd,.binOp bop t x y t',ty,pos,af,g⟩ sk acc L):cT P l fr fin k .v ⟨dd,.binOp bop t x y t',ty,pos,af,g⟩ sk acc L:=h
theorem eK {bop:BinOp} (h:DA P l fr fin sk ((k,u)::acc) L) (ho:Av P ⟨dd,.binOp bop t x y t',ty,pos,af,g⟩ (cB l.toArray acc fr af.toList) u:=by first | exact wE rfl rfl (by omega) | exact wJ rfl rfl (by omega) | exact wI rfl rfl (by omega)) (hg:iL ⟨dd,.binOp bop t x y t',ty,pos,af,g⟩ acc:=by first | trivial | rfl):cT P l fr fin k .v ⟨dd,.binOp bop t x y t',ty,pos,af,g⟩ sk acc L:=f6 hg (zq ho) h
theorem co (h:cT P l fr fin k .v ⟨dd,.indexAddr t x y,ty,pos,af,g⟩ sk acc L):cT P l fr fin k .v ⟨dd,.indexAddr t x y,ty,pos,af,g⟩ sk acc L:=h
theorem cJ (ok:ev P tt) {e sz by_ s:Nat} {ll:List (List AV)} {ik:IntKind} {i:Int} {es:List AV} (h:DA P l fr fin sk ((k,.iptr es)::acc) L) (ht:jt tt t=some (e,sz,by_):=by rfl) (hx:bt (cB l.toArray acc fr af.toList) x=some u:=by rfl) (hu:hQ u=some (s,ll):=by rfl) (hs:Nat.beq s sz=true:=by rfl) (hy:bt (cB l.toArray acc fr af.toList) y=some (.sc (.int ik i)):=by rfl) (h0:0≤i:=by omega) (hl:ll[i.toNat]?=some es:=by first | assumption | (simp only [Int.toNat_natCast];assumption)) (hg:iL ⟨dd,.indexAddr t x y,ty,pos,af,g⟩ acc:=by first | trivial | rfl):cT P l fr fin k .v ⟨dd,.indexAddr t x y,ty,pos,af,g⟩ sk acc L:=f6 hg (zq (wG (bq ok ht).1 hx (cM hu) hs hy h0 hl)) h
theorem dm {f:FuncId} {args:Array Operand} {ts:Array TypeId} (h:cT P l fr fin k .v ⟨dd,.call ⟨.value (.func f),args,ts⟩,ty,pos,af,g⟩ sk acc L):cT P l fr fin k .v ⟨dd,.call ⟨.value (.func f),args,ts⟩,ty,pos,af,g⟩ sk acc L:=h
theorem dP {f:FuncId} {args:Array Operand} {ts:Array TypeId} {cs ds:List AV} [bK P f] (h:DA P l fr fin sk ((k,u)::acc) L) (hv:ep (cB l.toArray acc fr af.toList) args.toList=some cs:=by rfl) (hi:kT cs=some ds:=by rfl) (hc:AD P f ds u:=by infer_instance) (hg:iL ⟨dd,.call ⟨.value (.func f),args,ts⟩,ty,pos,af,g⟩ acc:=by first | trivial | rfl):cT P l fr fin k .v ⟨dd,.call ⟨.value (.func f),args,ts⟩,ty,pos,af,g⟩ sk acc L:=f6 hg (fun _ _=>zQ hv (by rw [ic hi];exact hc.det)) h
theorem bX (ok:ev P tt) (i:Nat) {b kk:Nat} {cs:List AV} {e:TypeId} (ht:G8 tt t=true) (hx:bt (cB l.toArray acc fr af.toList) x=some (.sc (.pointer (some ⟨b,kk,none⟩)))) (hL:L[i]?=some (b,.box cs e)) (hc:cs[kk]?=some u) (hg:iL ⟨dd,.load t x,ty,pos,af,g⟩ acc) (h:DA P l fr fin sk ((k,u)::acc) L):cT P l fr fin k .l ⟨dd,.load t x,ty,pos,af,g⟩ sk acc L:=Ac hg (fun _=>rY i (cz ok ht) hx hL hc) h
theorem wO (ok:ev P tt) (i:Nat) {b kk n:Nat} {cs:List AV} {e:TypeId} (ht:F9 tt t=some n) (hx:bt (cB l.toArray acc fr af.toList) x=some (.sc (.pointer (some ⟨b,kk,none⟩)))) (hL:L[i]?=some (b,.box cs e)) (hc:Nat.ble (kk+n) cs.length=true) (hg:iL ⟨dd,.load t x,ty,pos,af,g⟩ acc) (h:DA P l fr fin sk ((k,.agg ((cs.drop kk).take n))::acc) L):cT P l fr fin k .l ⟨dd,.load t x,ty,pos,af,g⟩ sk acc L:=Ac hg (fun _=>tc i (it ok ht) hx hL hc) h
theorem yp {gs:KpL} {i b kk:Nat} {v:AV} (hi:gs[i]?=some (.cell (b,kk,v))) {L:AL} (h:fc gs L):∃(j:Nat) (cs:List AV) (e:TypeId),L[j]?=some (b,.box cs e)∧cs[kk]?=some v:=by
 obtain ⟨cs,e,h1,h2⟩:=h _ (Hw hi)
 obtain ⟨j,hj⟩:=List.mem_iff_getElem?.1 h1
 exact ⟨j,cs,e,hj,h2⟩
theorem eb (ok:ev P tt) (i:Nat) {b kk:Nat} (ht:G8 tt t=true) (hx:bt (cB l.toArray acc fr af.toList) x=some (.sc (.pointer (some ⟨b,kk,none⟩)))) (hi:fin.gs[i]?=some (.cell (b,kk,u))) (hK:fc fin.gs L) (hg:iL ⟨dd,.load t x,ty,pos,af,g⟩ acc) (h:DA P l fr fin sk ((k,u)::acc) L):cT P l fr fin k .k ⟨dd,.load t x,ty,pos,af,g⟩ sk acc L:=
 Ex hK hg (fun _ L' hL'=>by
  obtain ⟨j,cs,e,h1,h2⟩:=yp hi hL'
  exact rY j (cz ok ht) hx h1 h2) h
theorem wK {d:Option Tmp} {e sz by_ n:Nat} {parts:Array (Nat×Operand)} {vs:List AV} {xs:List (List AV)} (hc:kw P t e sz by_) (hsz:0 < sz) (hv:ep fr (parts.toList.map (·.2))=some vs) (hxs:jA vs=some xs) (hn:Nat.beq xs.length n=true) (hi:parts.toList.map (·.1)=List.range' 0 n) (hz:xs.all (fun q=>Nat.beq q.length sz)=true) (h24:Nat.ble (n * sz) 16777216=true):
  AO P ⟨d,.buildSlice t n parts,ty,pos,af,g⟩ fr B L (fun c L'=>c= .imm sz xs∧L'=L):=by
 intro σ ρ w hρ hw
 refine (zS hc hsz hv hxs hn hi hz h24 σ ρ w hρ hw).mono fun v w' hh=>?_
 obtain ⟨τ,c,L',h1,h2,h3,b,rfl,rfl⟩:=hh
 exact ⟨τ,_,L,h1,h2.im,h3.sublist (.cons _ (List.Sublist.refl _)),rfl,rfl⟩
theorem ek (ok:ev P tt) {e sz by_ n:Nat} {parts:Array (Nat×Operand)} {vs:List AV} {xs:List (List AV)} (h:DA P l fr fin sk ((k,.imm sz xs)::acc) L) (ht:jt tt t=some (e,sz,by_):=by rfl) (hv:ep (cB l.toArray acc fr af.toList) (parts.toList.map (·.2))=some vs:=by rfl) (hxs:jA vs=some xs:=by rfl) (hn:Nat.beq xs.length n=true:=by rfl) (hi:parts.toList.map (·.1)=List.range' 0 n:=by rfl) (hz:xs.all (fun q=>Nat.beq q.length sz)=true:=by rfl) (h24:Nat.ble (n * sz) 16777216=true:=by rfl) (hg:iL ⟨dd,.buildSlice t n parts,ty,pos,af,g⟩ acc:=by first | trivial | rfl):
  cT P l fr fin k .v ⟨dd,.buildSlice t n parts,ty,pos,af,g⟩ sk acc L:=f6 hg (fun _ _=>wK (bq ok ht).1 (bq ok ht).2 hv hxs hn hi hz h24) h
theorem bI (ok:ev P tt) {r:Option Nat} {ops:Array Oper} {Q:Exit→Act→World→Prop} {nt:Nat} {D:List Deferred} {rest:List Oper} {d e sz by_ n:Nat} {parts:Array (Nat×Operand)} {vs:List AV} {xs:List (List AV)} (h:bO P r ops Q nt D rest ((d,.imm sz xs)::fr) B L) (ht:jt tt t=some (e,sz,by_):=by rfl) (hv:ep fr (parts.toList.map (·.2))=some vs:=by rfl) (hxs:jA vs=some xs:=by rfl) (hn:Nat.beq xs.length n=true:=by rfl) (hi:parts.toList.map (·.1)=List.range' 0 n:=by rfl) (hz:xs.all (fun q=>Nat.beq q.length sz)=true:=by rfl) (h24:Nat.ble (n * sz) 16777216=true:=by rfl) (hd:Nat.ble nt d=false:=by rfl):
  bO P r ops Q nt D (⟨some d,.buildSlice t n parts,ty,pos,af,none⟩::rest) fr B L:=by
 obtain ⟨h1,h2⟩:=bq ok ht
 refine cU hd rfl (wK h1 h2 hv hxs hn hi hz h24) fun c L' hh=>?_
 obtain ⟨h1,h2⟩:=hh
 subst h1;subst h2
 exact h
theorem bi {gs:KpL} {n0:Nat} {fr0:c6} {rest:List Oper} (ks:List Nat) (hk:gJ (gZ l.toArray acc fr n0) ks=some fr0) (hr:l.drop n0=rest) (h:bO P r l.toArray Q nt D rest fr0 B L):DA P l fr ⟨tI P r l n0 Q nt D fr B none,gs⟩ [] acc L:=
 ⟨.fin,rfl,by rw [←hr] at h;exact tj (dO ks hk) (fun _ _ h=>h) h⟩
theorem HR {gs:KpL} {n0:Nat} {fr0:c6} {rest:List Oper} (ks:List Nat) (zz:gJ (gZ l.toArray acc fr n0) ks=some fr0∧l.drop n0=rest) (h:bO P r l.toArray Q nt D rest fr0 B L):DA P l fr ⟨tI P r l n0 Q nt D fr B none,gs⟩ [] acc L:=bi ks zz.1 zz.2 h
theorem wP {gs:KpL} {n0 kk:Nat} {ab:AB} {rest:List Oper} (ks:List Nat) (fr0:Nat→c6) (hk:∀b,gJ (gZ l.toArray ((kk,.sc (.pointer (some ⟨b,0,none⟩)))::acc) fr n0) ks=some (fr0 b)) (hr:l.drop n0=rest) (h:∀b,bO P r l.toArray Q nt D rest (fr0 b) B (L++[(b,ab)])):DA P l fr ⟨tI P r l n0 Q nt D fr B (some (kk,ab)),gs⟩ [] acc L:=
 ⟨.fin,rfl,fun b=>by have:=h b;rw [←hr] at this;exact tj (dO ks (hk b)) (fun _ _ h=>h) this⟩
end
end Go.Proofs.YtpbinloeemebkaaGreat
