/-
  The table of the types of the seat's program, and the functions that are entered, written by a program (wip/typesA.py).
-/
import Derived.Test.YtpmdfoaadejmkaaGreatDoorM04
import Derived.Test.YtpmdfoaadejmkaaGreatDoorProg
import Derived.KernelRfl
namespace Go.Proofs.YtpmdfoaadejmkaaGreatDoor
open Go.RowKit
theorem ak {P:Program} {f:FuncId} {fn:Func} {c:Code} (hf:P.funcs[f]?=some fn) (hname:(fn.name== "runtime.NumGoroutine")=false) (hb:fn.body=some c):∀args w,(callFunc f args).run P w= .ok (.enter f args) w:=by
 intro args w
 have hne:¬fn.name= "runtime.NumGoroutine" :=by simpa using hname
 simp [callFunc,hf,hne,hb]
theorem bR:Tryz.prog.follows .mixedOrders=true:=by kernel_rfl
def tt:TT:=[none,
 some ⟨.other,1,[.nilFunc]⟩,
 some ⟨.int .i64,1,[.int .i64 0]⟩,
 some ⟨.int .i64,1,[.int .i64 0]⟩,
 some ⟨.bool,1,[.bool false]⟩,
 some ⟨.int .u8,1,[.int .u8 0]⟩,
 some ⟨.int .u8,1,[.int .u8 0]⟩,
 some ⟨.struct [(0,1,false),(1,1,false),(2,1,false),(3,1,false)],4,[.int .i64 0,.int .i64 0,.bool false,.int .u8 0]⟩,
 some ⟨.struct [(0,1,false),(1,1,false),(2,1,false),(3,1,false)],4,[.int .i64 0,.int .i64 0,.bool false,.int .u8 0]⟩,
 some ⟨.str,1,[.string ⟨#[]⟩]⟩,
 some ⟨.str,1,[.string ⟨#[]⟩]⟩,
 some ⟨.str,1,[.string ⟨#[]⟩]⟩,
 some ⟨.int .u64,1,[.int .u64 0]⟩,
 some ⟨.struct [(0,1,false),(1,1,false)],2,[.string ⟨#[]⟩,.int .u64 0]⟩,
 some ⟨.struct [(0,1,false),(1,1,false)],2,[.string ⟨#[]⟩,.int .u64 0]⟩,
 some ⟨.other,1,[.pointer none]⟩,
 some ⟨.other,1,[.pointer none]⟩,
 some ⟨.other,1,[.pointer none]⟩,
 some ⟨.struct [(0,1,false)],1,[.pointer none]⟩,
 some ⟨.struct [(0,1,false)],1,[.pointer none]⟩,
 some ⟨.other,1,[.nilIface]⟩,
 some ⟨.int .i32,1,[.int .i32 0]⟩,
 some ⟨.slice 3 1 8,1,[.slice none 0 0]⟩,
 some ⟨.other,1,[.nilFunc]⟩,
 some ⟨.slice 76 9 176,1,[.slice none 0 0]⟩,
 some ⟨.slice 119 2 16,1,[.slice none 0 0]⟩,
 some ⟨.slice 59 3 40,1,[.slice none 0 0]⟩,
 some ⟨.slice 121 2 40,1,[.slice none 0 0]⟩,
 some ⟨.slice 123 4 40,1,[.slice none 0 0]⟩,
 some ⟨.slice 128 1 24,1,[.slice none 0 0]⟩,
 some ⟨.slice 74 1 24,1,[.slice none 0 0]⟩,
 some ⟨.struct [(0,1,false),(1,1,false),(2,1,false),(3,1,false),(4,1,false),(5,1,false),(6,1,false),(7,1,false),(8,1,false)],9,[.int .i64 0,.slice none 0 0,.slice none 0 0,.slice none 0 0,.slice none 0 0,.slice none 0 0,.slice none 0 0,.slice none 0 0,.slice none 0 0]⟩,
 some ⟨.struct [(0,1,false),(1,1,false),(2,1,false),(3,1,false),(4,1,false),(5,1,false),(6,1,false),(7,1,false),(8,1,false)],9,[.int .i64 0,.slice none 0 0,.slice none 0 0,.slice none 0 0,.slice none 0 0,.slice none 0 0,.slice none 0 0,.slice none 0 0,.slice none 0 0]⟩,
 some ⟨.other,1,[.nilFunc]⟩,
 some ⟨.other,1,[.pointer none]⟩,
 some ⟨.int .i64,1,[.int .i64 0]⟩,
 none,
 some ⟨.other,1,[.nilFunc]⟩,
 some ⟨.slice 67 6 48,1,[.slice none 0 0]⟩,
 some ⟨.other,1,[.nilFunc]⟩,
 some ⟨.other,1,[.nilFunc]⟩,
 some ⟨.other,1,[.nilFunc]⟩,
 some ⟨.other,1,[.nilFunc]⟩,
 some ⟨.other,1,[.nilFunc]⟩,
 some ⟨.other,1,[.nilFunc]⟩,
 some ⟨.slice 22 1 24,1,[.slice none 0 0]⟩,
 some ⟨.other,1,[.nilFunc]⟩,
 some ⟨.other,1,[.nilFunc]⟩,
 some ⟨.other,1,[.nilFunc]⟩,
 some ⟨.other,1,[.nilFunc]⟩,
 some ⟨.arr 3 3 1,3,[.int .i64 0,.int .i64 0,.int .i64 0]⟩,
 some ⟨.other,1,[.nilFunc]⟩,
 none,
 some ⟨.other,1,[.nilFunc]⟩,
 some ⟨.struct [(0,1,false),(1,1,false)],2,[.int .i64 0,.int .i64 0]⟩,
 some ⟨.struct [(0,1,false),(1,1,false)],2,[.int .i64 0,.int .i64 0]⟩,
 some ⟨.other,1,[.nilFunc]⟩,
 some ⟨.slice 79 6 128,1,[.slice none 0 0]⟩,
 some ⟨.struct [(0,1,false),(1,1,false),(2,1,false)],3,[.int .i64 0,.bool false,.slice none 0 0]⟩,
 some ⟨.struct [(0,1,false),(1,1,false),(2,1,false)],3,[.int .i64 0,.bool false,.slice none 0 0]⟩,
 some ⟨.slice 246 1 8,1,[.slice none 0 0]⟩,
 some ⟨.struct [(0,1,false),(1,1,false),(2,1,false),(3,1,false),(4,1,false)],5,[.slice none 0 0,.slice none 0 0,.slice none 0 0,.slice none 0 0,.slice none 0 0]⟩,
 some ⟨.struct [(0,1,false),(1,1,false),(2,1,false),(3,1,false),(4,1,false)],5,[.slice none 0 0,.slice none 0 0,.slice none 0 0,.slice none 0 0,.slice none 0 0]⟩,
 none,
 some ⟨.other,1,[.nilFunc]⟩,
 some ⟨.other,1,[.nilFunc]⟩,
 some ⟨.struct [(0,1,false),(1,1,false),(2,1,false),(3,1,false),(4,1,false),(5,1,false)],6,[.int .i64 0,.int .i64 0,.int .i64 0,.int .i64 0,.int .i64 0,.int .i64 0]⟩,
 some ⟨.struct [(0,1,false),(1,1,false),(2,1,false),(3,1,false),(4,1,false),(5,1,false)],6,[.int .i64 0,.int .i64 0,.int .i64 0,.int .i64 0,.int .i64 0,.int .i64 0]⟩,
 some ⟨.slice 286 3 24,1,[.slice none 0 0]⟩,
 some ⟨.struct [(0,1,false),(1,1,false)],2,[.slice none 0 0,.slice none 0 0]⟩,
 some ⟨.struct [(0,1,false),(1,1,false)],2,[.slice none 0 0,.slice none 0 0]⟩,
 some ⟨.slice 111 3 24,1,[.slice none 0 0]⟩,
 some ⟨.slice 113 4 32,1,[.slice none 0 0]⟩,
 some ⟨.slice 115 4 32,1,[.slice none 0 0]⟩,
 some ⟨.slice 117 2 16,1,[.slice none 0 0]⟩,
 some ⟨.struct [(0,1,false),(1,1,false),(2,1,false),(3,2,true),(5,1,false),(6,1,false),(7,1,false),(8,1,false)],9,[.string ⟨#[]⟩,.int .i64 0,.bool false,.slice none 0 0,.slice none 0 0,.slice none 0 0,.slice none 0 0,.slice none 0 0,.slice none 0 0]⟩,
 some ⟨.struct [(0,1,false),(1,1,false),(2,1,false),(3,2,true),(5,1,false),(6,1,false),(7,1,false),(8,1,false)],9,[.string ⟨#[]⟩,.int .i64 0,.bool false,.slice none 0 0,.slice none 0 0,.slice none 0 0,.slice none 0 0,.slice none 0 0,.slice none 0 0]⟩,
 some ⟨.slice 81 2 16,1,[.slice none 0 0]⟩,
 some ⟨.struct [(0,1,false),(1,1,false),(2,1,false),(3,1,false),(4,1,false),(5,1,false)],6,[.slice none 0 0,.slice none 0 0,.slice none 0 0,.slice none 0 0,.slice none 0 0,.int .i64 0]⟩,
 some ⟨.struct [(0,1,false),(1,1,false),(2,1,false),(3,1,false),(4,1,false),(5,1,false)],6,[.slice none 0 0,.slice none 0 0,.slice none 0 0,.slice none 0 0,.slice none 0 0,.int .i64 0]⟩,
 some ⟨.struct [(0,1,false),(1,1,false)],2,[.int .i64 0,.int .i64 0]⟩,
 some ⟨.struct [(0,1,false),(1,1,false)],2,[.int .i64 0,.int .i64 0]⟩,
 some ⟨.other,1,[.nilFunc]⟩,
 some ⟨.slice 97 10 176,1,[.slice none 0 0]⟩,
 some ⟨.slice 4 1 1,1,[.slice none 0 0]⟩,
 some ⟨.struct [(0,1,false),(1,1,false)],2,[.slice none 0 0,.slice none 0 0]⟩,
 some ⟨.struct [(0,1,false),(1,1,false)],2,[.slice none 0 0,.slice none 0 0]⟩,
 some ⟨.other,1,[.nilFunc]⟩,
 some ⟨.arr 3 5 1,3,[.int .u8 0,.int .u8 0,.int .u8 0]⟩,
 some ⟨.other,1,[.nilFunc]⟩,
 some ⟨.other,1,[.nilFunc]⟩,
 some ⟨.other,1,[.nilFunc]⟩,
 some ⟨.other,1,[.nilFunc]⟩,
 some ⟨.other,1,[.nilFunc]⟩,
 some ⟨.other,1,[.nilFunc]⟩,
 some ⟨.other,1,[.nilFunc]⟩,
 some ⟨.struct [(0,3,true),(3,5,true),(8,1,false),(9,1,false)],10,[.int .i64 0,.bool false,.slice none 0 0,.slice none 0 0,.slice none 0 0,.slice none 0 0,.slice none 0 0,.slice none 0 0,.int .i64 0,.int .i64 0]⟩,
 some ⟨.struct [(0,3,true),(3,5,true),(8,1,false),(9,1,false)],10,[.int .i64 0,.bool false,.slice none 0 0,.slice none 0 0,.slice none 0 0,.slice none 0 0,.slice none 0 0,.slice none 0 0,.int .i64 0,.int .i64 0]⟩,
 some ⟨.other,1,[.nilFunc]⟩,
 some ⟨.other,1,[.pointer none]⟩,
 some ⟨.other,1,[.nilFunc]⟩,
 some ⟨.struct [(0,1,false),(1,1,false)],2,[.pointer none,.slice none 0 0]⟩,
 some ⟨.struct [(0,1,false),(1,1,false)],2,[.pointer none,.slice none 0 0]⟩,
 some ⟨.other,1,[.nilFunc]⟩,
 some ⟨.other,1,[.pointer none]⟩,
 none,
 some ⟨.other,1,[.nilFunc]⟩,
 none,
 some ⟨.other,1,[.nilFunc]⟩,
 some ⟨.slice 9 1 16,1,[.slice none 0 0]⟩,
 some ⟨.struct [(0,1,false),(1,1,false),(2,1,false)],3,[.int .i64 0,.int .i64 0,.int .i64 0]⟩,
 some ⟨.struct [(0,1,false),(1,1,false),(2,1,false)],3,[.int .i64 0,.int .i64 0,.int .i64 0]⟩,
 some ⟨.struct [(0,1,false),(1,1,false),(2,1,false),(3,1,false)],4,[.int .i64 0,.int .i64 0,.int .i64 0,.int .i64 0]⟩,
 some ⟨.struct [(0,1,false),(1,1,false),(2,1,false),(3,1,false)],4,[.int .i64 0,.int .i64 0,.int .i64 0,.int .i64 0]⟩,
 some ⟨.struct [(0,1,false),(1,1,false),(2,1,false),(3,1,false)],4,[.int .i64 0,.int .i64 0,.int .i64 0,.int .i64 0]⟩,
 some ⟨.struct [(0,1,false),(1,1,false),(2,1,false),(3,1,false)],4,[.int .i64 0,.int .i64 0,.int .i64 0,.int .i64 0]⟩,
 some ⟨.struct [(0,1,false),(1,1,false)],2,[.int .i64 0,.int .i64 0]⟩,
 some ⟨.struct [(0,1,false),(1,1,false)],2,[.int .i64 0,.int .i64 0]⟩,
 some ⟨.struct [(0,1,false),(1,1,false)],2,[.int .i64 0,.int .i64 0]⟩,
 some ⟨.struct [(0,1,false),(1,1,false)],2,[.int .i64 0,.int .i64 0]⟩,
 some ⟨.struct [(0,1,false),(1,1,false)],2,[.string ⟨#[]⟩,.slice none 0 0]⟩,
 some ⟨.struct [(0,1,false),(1,1,false)],2,[.string ⟨#[]⟩,.slice none 0 0]⟩,
 some ⟨.struct [(0,1,false),(1,1,false),(2,1,false),(3,1,false)],4,[.string ⟨#[]⟩,.int .i64 0,.int .i64 0,.int .i64 0]⟩,
 some ⟨.struct [(0,1,false),(1,1,false),(2,1,false),(3,1,false)],4,[.string ⟨#[]⟩,.int .i64 0,.int .i64 0,.int .i64 0]⟩,
 some ⟨.struct [(0,1,false),(1,1,false),(2,1,false)],3,[.int .i64 0,.int .i64 0,.int .i64 0]⟩,
 some ⟨.struct [(0,1,false),(1,1,false),(2,1,false)],3,[.int .i64 0,.int .i64 0,.int .i64 0]⟩,
 some ⟨.slice 125 3 24,1,[.slice none 0 0]⟩,
 some ⟨.struct [(0,1,false)],1,[.slice none 0 0]⟩,
 some ⟨.struct [(0,1,false)],1,[.slice none 0 0]⟩,
 some ⟨.other,1,[.map none]⟩,
 some ⟨.other,1,[.nilFunc]⟩,
 some ⟨.other,1,[.nilFunc]⟩,
 some ⟨.other,1,[.nilFunc]⟩,
 some ⟨.other,1,[.nilFunc]⟩,
 some ⟨.other,1,[.nilFunc]⟩,
 some ⟨.other,1,[.nilFunc]⟩,
 some ⟨.other,1,[.nilFunc]⟩,
 some ⟨.other,1,[.nilFunc]⟩,
 some ⟨.other,1,[.nilFunc]⟩,
 some ⟨.other,1,[.nilFunc]⟩,
 some ⟨.other,1,[.nilFunc]⟩,
 some ⟨.other,1,[.nilFunc]⟩,
 some ⟨.other,1,[.nilFunc]⟩,
 some ⟨.other,1,[.nilFunc]⟩,
 some ⟨.other,1,[.nilFunc]⟩,
 some ⟨.other,1,[.nilFunc]⟩,
 some ⟨.other,1,[.nilFunc]⟩,
 some ⟨.other,1,[.nilFunc]⟩,
 some ⟨.other,1,[.nilFunc]⟩,
 some ⟨.other,1,[.nilFunc]⟩,
 some ⟨.other,1,[.nilFunc]⟩,
 some ⟨.other,1,[.nilFunc]⟩,
 some ⟨.other,1,[.nilFunc]⟩,
 some ⟨.other,1,[.nilFunc]⟩,
 some ⟨.other,1,[.nilFunc]⟩,
 some ⟨.other,1,[.nilFunc]⟩,
 some ⟨.other,1,[.nilFunc]⟩,
 some ⟨.other,1,[.nilFunc]⟩,
 some ⟨.other,1,[.nilFunc]⟩,
 some ⟨.other,1,[.nilFunc]⟩,
 some ⟨.other,1,[.nilFunc]⟩,
 some ⟨.other,1,[.nilFunc]⟩,
 some ⟨.other,1,[.nilFunc]⟩,
 some ⟨.other,1,[.nilFunc]⟩,
 some ⟨.other,1,[.nilFunc]⟩,
 some ⟨.other,1,[.nilFunc]⟩,
 some ⟨.other,1,[.nilFunc]⟩,
 some ⟨.other,1,[.nilFunc]⟩,
 none,
 some ⟨.other,1,[.nilFunc]⟩,
 some ⟨.other,1,[.pointer none]⟩,
 some ⟨.other,1,[.map none]⟩,
 some ⟨.struct [(0,9,true),(9,1,false),(10,1,false)],11,[.int .i64 0,.slice none 0 0,.slice none 0 0,.slice none 0 0,.slice none 0 0,.slice none 0 0,.slice none 0 0,.slice none 0 0,.slice none 0 0,.slice none 0 0,.map none]⟩,
 some ⟨.struct [(0,9,true),(9,1,false),(10,1,false)],11,[.int .i64 0,.slice none 0 0,.slice none 0 0,.slice none 0 0,.slice none 0 0,.slice none 0 0,.slice none 0 0,.slice none 0 0,.slice none 0 0,.slice none 0 0,.map none]⟩,
 some ⟨.other,1,[.nilFunc]⟩,
 some ⟨.other,1,[.pointer none]⟩,
 some ⟨.struct [(0,1,false),(1,1,false),(2,9,true),(11,1,false)],12,[.slice none 0 0,.int .i64 0,.int .i64 0,.slice none 0 0,.slice none 0 0,.slice none 0 0,.slice none 0 0,.slice none 0 0,.slice none 0 0,.slice none 0 0,.slice none 0 0,.int .i64 0]⟩,
 some ⟨.struct [(0,1,false),(1,1,false),(2,9,true),(11,1,false)],12,[.slice none 0 0,.int .i64 0,.int .i64 0,.slice none 0 0,.slice none 0 0,.slice none 0 0,.slice none 0 0,.slice none 0 0,.slice none 0 0,.slice none 0 0,.slice none 0 0,.int .i64 0]⟩,
 some ⟨.other,1,[.nilFunc]⟩,
 some ⟨.slice 5 1 1,1,[.slice none 0 0]⟩,
 some ⟨.other,1,[.nilFunc]⟩,
 some ⟨.other,1,[.nilFunc]⟩,
 some ⟨.other,1,[.nilFunc]⟩,
 some ⟨.other,1,[.nilFunc]⟩,
 some ⟨.other,1,[.nilFunc]⟩,
 some ⟨.other,1,[.nilFunc]⟩,
 some ⟨.struct [(0,1,false),(1,1,false)],2,[.slice none 0 0,.slice none 0 0]⟩,
 some ⟨.struct [(0,1,false),(1,1,false)],2,[.slice none 0 0,.slice none 0 0]⟩,
 some ⟨.other,1,[.nilFunc]⟩,
 some ⟨.other,1,[.nilFunc]⟩,
 some ⟨.other,1,[.pointer none]⟩,
 none,
 some ⟨.other,1,[.nilFunc]⟩,
 some ⟨.other,1,[.nilFunc]⟩,
 some ⟨.other,1,[.nilFunc]⟩,
 none,
 some ⟨.other,1,[.nilFunc]⟩,
 none,
 some ⟨.other,1,[.nilFunc]⟩,
 some ⟨.other,1,[.nilFunc]⟩,
 some ⟨.other,1,[.nilFunc]⟩,
 some ⟨.other,1,[.nilFunc]⟩,
 some ⟨.other,1,[.nilFunc]⟩,
 some ⟨.slice 139 1 8,1,[.slice none 0 0]⟩,
 some ⟨.other,1,[.nilFunc]⟩,
 some ⟨.other,1,[.nilFunc]⟩,
 some ⟨.other,1,[.nilFunc]⟩,
 some ⟨.other,1,[.nilFunc]⟩,
 some ⟨.other,1,[.nilFunc]⟩,
 some ⟨.other,1,[.nilFunc]⟩,
 some ⟨.other,1,[.nilFunc]⟩,
 some ⟨.other,1,[.nilFunc]⟩,
 some ⟨.other,1,[.nilFunc]⟩,
 some ⟨.other,1,[.nilFunc]⟩,
 some ⟨.other,1,[.nilFunc]⟩,
 some ⟨.other,1,[.nilFunc]⟩,
 some ⟨.other,1,[.nilFunc]⟩,
 some ⟨.other,1,[.nilFunc]⟩,
 none,
 some ⟨.other,1,[.nilFunc]⟩,
 some ⟨.other,1,[.nilFunc]⟩,
 some ⟨.other,1,[.nilFunc]⟩,
 some ⟨.other,1,[.nilFunc]⟩,
 some ⟨.other,1,[.nilFunc]⟩,
 some ⟨.other,1,[.nilFunc]⟩,
 some ⟨.other,1,[.nilFunc]⟩,
 some ⟨.other,1,[.nilFunc]⟩,
 some ⟨.other,1,[.nilFunc]⟩,
 some ⟨.other,1,[.nilFunc]⟩,
 some ⟨.other,1,[.nilFunc]⟩,
 some ⟨.other,1,[.nilFunc]⟩,
 some ⟨.other,1,[.nilFunc]⟩,
 some ⟨.other,1,[.nilFunc]⟩,
 some ⟨.other,1,[.nilFunc]⟩,
 some ⟨.other,1,[.nilFunc]⟩,
 some ⟨.other,1,[.nilFunc]⟩,
 some ⟨.other,1,[.nilFunc]⟩,
 some ⟨.other,1,[.nilFunc]⟩,
 some ⟨.other,1,[.nilFunc]⟩,
 some ⟨.other,1,[.nilFunc]⟩,
 some ⟨.struct [(0,1,false),(1,1,false)],2,[.int .i64 0,.slice none 0 0]⟩,
 some ⟨.struct [(0,1,false),(1,1,false)],2,[.int .i64 0,.slice none 0 0]⟩,
 some ⟨.other,1,[.nilFunc]⟩,
 some ⟨.slice 241 2 32,1,[.slice none 0 0]⟩,
 some ⟨.other,1,[.nilFunc]⟩,
 some ⟨.other,1,[.nilFunc]⟩,
 some ⟨.int .u64,1,[.int .u64 0]⟩,
 some ⟨.other,1,[.nilFunc]⟩,
 some ⟨.other,1,[.pointer none]⟩,
 some ⟨.other,1,[.nilFunc]⟩,
 some ⟨.other,1,[.nilFunc]⟩,
 some ⟨.other,1,[.nilFunc]⟩,
 some ⟨.other,1,[.nilFunc]⟩,
 some ⟨.other,1,[.nilFunc]⟩,
 some ⟨.arr 2 3 1,2,[.int .i64 0,.int .i64 0]⟩,
 some ⟨.slice 254 2 16,1,[.slice none 0 0]⟩,
 some ⟨.other,1,[.nilFunc]⟩,
 some ⟨.other,1,[.map none]⟩,
 some ⟨.other,1,[.pointer none]⟩,
 some ⟨.slice 261 2 16,1,[.slice none 0 0]⟩,
 some ⟨.struct [(0,1,false),(1,1,false)],2,[.int .i64 0,.int .u64 0]⟩,
 some ⟨.struct [(0,1,false),(1,1,false)],2,[.int .i64 0,.int .u64 0]⟩,
 some ⟨.other,1,[.nilFunc]⟩,
 some ⟨.other,1,[.nilFunc]⟩,
 some ⟨.other,1,[.nilFunc]⟩,
 some ⟨.slice 45 1 24,1,[.slice none 0 0]⟩,
 some ⟨.slice 330 2 32,1,[.slice none 0 0]⟩,
 some ⟨.struct [(0,1,false),(1,1,false),(2,1,false),(3,1,false),(4,1,false)],5,[.slice none 0 0,.int .u64 0,.slice none 0 0,.int .i64 0,.slice none 0 0]⟩,
 some ⟨.struct [(0,1,false),(1,1,false),(2,1,false),(3,1,false),(4,1,false)],5,[.slice none 0 0,.int .u64 0,.slice none 0 0,.int .i64 0,.slice none 0 0]⟩,
 some ⟨.other,1,[.nilFunc]⟩,
 some ⟨.other,1,[.nilFunc]⟩,
 some ⟨.other,1,[.nilFunc]⟩,
 some ⟨.other,1,[.nilFunc]⟩,
 some ⟨.other,1,[.nilFunc]⟩,
 some ⟨.other,1,[.nilFunc]⟩,
 none,
 some ⟨.other,1,[.nilFunc]⟩,
 some ⟨.other,1,[.nilFunc]⟩,
 some ⟨.other,1,[.nilFunc]⟩,
 some ⟨.other,1,[.nilFunc]⟩,
 some ⟨.other,1,[.nilFunc]⟩,
 some ⟨.other,1,[.nilFunc]⟩,
 some ⟨.other,1,[.nilFunc]⟩,
 some ⟨.other,1,[.nilFunc]⟩,
 some ⟨.other,1,[.nilFunc]⟩,
 some ⟨.struct [(0,1,false),(1,1,false),(2,1,false)],3,[.int .i64 0,.int .i64 0,.bool false]⟩,
 some ⟨.struct [(0,1,false),(1,1,false),(2,1,false)],3,[.int .i64 0,.int .i64 0,.bool false]⟩,
 some ⟨.other,1,[.nilFunc]⟩,
 some ⟨.other,1,[.nilFunc]⟩,
 some ⟨.other,1,[.nilFunc]⟩,
 some ⟨.other,1,[.nilFunc]⟩,
 some ⟨.other,1,[.map none]⟩,
 some ⟨.struct [(0,1,false),(1,1,false)],2,[.int .i64 0,.int .i64 0]⟩,
 some ⟨.struct [(0,1,false),(1,1,false)],2,[.int .i64 0,.int .i64 0]⟩,
 some ⟨.other,1,[.nilFunc]⟩,
 some ⟨.struct [(0,1,false),(1,1,false)],2,[.int .i64 0,.int .i64 0]⟩,
 some ⟨.struct [(0,1,false),(1,1,false)],2,[.int .i64 0,.int .i64 0]⟩,
 some ⟨.other,1,[.nilFunc]⟩,
 some ⟨.other,1,[.nilFunc]⟩,
 some ⟨.other,1,[.nilFunc]⟩,
 some ⟨.other,1,[.nilFunc]⟩,
 some ⟨.other,1,[.nilFunc]⟩,
 some ⟨.other,1,[.nilFunc]⟩,
 some ⟨.other,1,[.nilFunc]⟩,
 some ⟨.other,1,[.nilFunc]⟩,
 some ⟨.other,1,[.nilFunc]⟩,
 some ⟨.other,1,[.nilFunc]⟩,
 some ⟨.other,1,[.nilFunc]⟩,
 some ⟨.other,1,[.nilFunc]⟩,
 none,
 some ⟨.other,1,[.nilFunc]⟩,
 some ⟨.other,1,[.nilFunc]⟩,
 some ⟨.int .u64,1,[.int .u64 0]⟩,
 none,
 some ⟨.other,1,[.nilFunc]⟩,
 some ⟨.other,1,[.nilFunc]⟩,
 some ⟨.other,1,[.nilFunc]⟩,
 some ⟨.other,1,[.nilFunc]⟩,
 some ⟨.struct [(0,1,false),(1,1,false),(2,1,false),(3,1,false),(4,1,false)],5,[.slice none 0 0,.bool false,.nilFunc,.int .i64 0,.int .i64 0]⟩,
 some ⟨.struct [(0,1,false),(1,1,false),(2,1,false),(3,1,false),(4,1,false)],5,[.slice none 0 0,.bool false,.nilFunc,.int .i64 0,.int .i64 0]⟩,
 some ⟨.other,1,[.nilFunc]⟩,
 some ⟨.other,1,[.nilFunc]⟩,
 some ⟨.other,1,[.nilFunc]⟩,
 some ⟨.other,1,[.nilFunc]⟩,
 some ⟨.other,1,[.nilFunc]⟩,
 some ⟨.other,1,[.nilFunc]⟩,
 some ⟨.other,1,[.nilFunc]⟩,
 some ⟨.other,1,[.nilFunc]⟩,
 some ⟨.arr 16 5 1,16,[.int .u8 0,.int .u8 0,.int .u8 0,.int .u8 0,.int .u8 0,.int .u8 0,.int .u8 0,.int .u8 0,.int .u8 0,.int .u8 0,.int .u8 0,.int .u8 0,.int .u8 0,.int .u8 0,.int .u8 0,.int .u8 0]⟩,
 some ⟨.struct [(0,1,false),(1,1,false)],2,[.slice none 0 0,.int .u64 0]⟩,
 some ⟨.struct [(0,1,false),(1,1,false)],2,[.slice none 0 0,.int .u64 0]⟩,
 some ⟨.other,1,[.nilFunc]⟩,
 some ⟨.other,1,[.nilFunc]⟩,
 some ⟨.other,1,[.nilFunc]⟩,
 some ⟨.other,1,[.nilFunc]⟩,
 some ⟨.other,1,[.pointer none]⟩,
 some ⟨.other,1,[.nilFunc]⟩,
 some ⟨.other,1,[.nilFunc]⟩,
 some ⟨.other,1,[.map none]⟩,
 some ⟨.slice 3 1 8,1,[.slice none 0 0]⟩,
 some ⟨.other,1,[.nilFunc]⟩,
 some ⟨.other,1,[.nilFunc]⟩,
 some ⟨.other,1,[.nilFunc]⟩,
 some ⟨.other,1,[.nilFunc]⟩,
 some ⟨.other,1,[.pointer none]⟩,
 some ⟨.other,1,[.nilFunc]⟩,
 some ⟨.other,1,[.nilFunc]⟩,
 some ⟨.other,1,[.map none]⟩,
 some ⟨.other,1,[.nilFunc]⟩,
 some ⟨.other,1,[.nilFunc]⟩,
 some ⟨.other,1,[.nilFunc]⟩,
 some ⟨.other,1,[.nilFunc]⟩,
 some ⟨.other,1,[.nilFunc]⟩,
 some ⟨.other,1,[.nilFunc]⟩,
 some ⟨.other,1,[.nilFunc]⟩,
 some ⟨.slice 35 1 8,1,[.slice none 0 0]⟩,
 some ⟨.other,1,[.nilFunc]⟩,
 some ⟨.other,1,[.nilFunc]⟩,
 some ⟨.other,1,[.nilFunc]⟩,
 some ⟨.other,1,[.nilFunc]⟩,
 some ⟨.other,1,[.nilFunc]⟩,
 some ⟨.struct [(0,1,false),(1,1,false),(2,1,false)],3,[.slice none 0 0,.slice none 0 0,.slice none 0 0]⟩,
 some ⟨.struct [(0,1,false),(1,1,false),(2,1,false)],3,[.slice none 0 0,.slice none 0 0,.slice none 0 0]⟩,
 some ⟨.other,1,[.nilFunc]⟩,
 some ⟨.arr 64 5 1,64,[.int .u8 0,.int .u8 0,.int .u8 0,.int .u8 0,.int .u8 0,.int .u8 0,.int .u8 0,.int .u8 0,.int .u8 0,.int .u8 0,.int .u8 0,.int .u8 0,.int .u8 0,.int .u8 0,.int .u8 0,.int .u8 0,.int .u8 0,.int .u8 0,.int .u8 0,.int .u8 0,.int .u8 0,.int .u8 0,.int .u8 0,.int .u8 0,.int .u8 0,.int .u8 0,.int .u8 0,.int .u8 0,.int .u8 0,.int .u8 0,.int .u8 0,.int .u8 0,.int .u8 0,.int .u8 0,.int .u8 0,.int .u8 0,.int .u8 0,.int .u8 0,.int .u8 0,.int .u8 0,.int .u8 0,.int .u8 0,.int .u8 0,.int .u8 0,.int .u8 0,.int .u8 0,.int .u8 0,.int .u8 0,.int .u8 0,.int .u8 0,.int .u8 0,.int .u8 0,.int .u8 0,.int .u8 0,.int .u8 0,.int .u8 0,.int .u8 0,.int .u8 0,.int .u8 0,.int .u8 0,.int .u8 0,.int .u8 0,.int .u8 0,.int .u8 0]⟩,
 some ⟨.other,1,[.nilFunc]⟩,
 some ⟨.other,1,[.nilIface]⟩,
 some ⟨.other,1,[.nilIface]⟩,
 some ⟨.other,1,[.nilFunc]⟩,
 some ⟨.other,1,[.nilFunc]⟩,
 some ⟨.other,1,[.nilFunc]⟩,
 some ⟨.other,1,[.nilFunc]⟩,
 some ⟨.other,1,[.nilFunc]⟩,
 some ⟨.other,1,[.nilFunc]⟩,
 some ⟨.slice 376 2 16,1,[.slice none 0 0]⟩,
 some ⟨.struct [(0,1,false),(1,1,false)],2,[.int .i64 0,.int .i64 0]⟩,
 some ⟨.struct [(0,1,false),(1,1,false)],2,[.int .i64 0,.int .i64 0]⟩,
 some ⟨.other,1,[.pointer none]⟩,
 some ⟨.other,1,[.nilFunc]⟩,
 some ⟨.other,1,[.nilFunc]⟩,
 some ⟨.other,1,[.nilFunc]⟩,
 some ⟨.other,1,[.nilFunc]⟩,
 some ⟨.other,1,[.nilFunc]⟩,
 some ⟨.other,1,[.nilFunc]⟩,
 some ⟨.other,1,[.nilFunc]⟩,
 some ⟨.other,1,[.nilFunc]⟩,
 some ⟨.int .i64,1,[.int .i64 0]⟩,
 none,
 some ⟨.other,1,[.nilFunc]⟩,
 some ⟨.other,1,[.nilFunc]⟩,
 some ⟨.other,1,[.nilFunc]⟩,
 some ⟨.other,1,[.nilFunc]⟩,
 some ⟨.other,1,[.nilFunc]⟩,
 some ⟨.int .u32,1,[.int .u32 0]⟩,
 some ⟨.other,1,[.nilFunc]⟩,
 some ⟨.int .u64,1,[.int .u64 0]⟩,
 some ⟨.other,1,[.nilFunc]⟩,
 some ⟨.other,1,[.nilFunc]⟩,
 some ⟨.other,1,[.nilFunc]⟩,
 some ⟨.other,1,[.pointer none]⟩,
 some ⟨.other,1,[.nilFunc]⟩,
 some ⟨.other,1,[.pointer none]⟩,
 none,
 some ⟨.other,1,[.nilFunc]⟩,
 some ⟨.struct [(0,1,false),(1,1,false),(2,1,false),(3,1,false)],4,[.pointer none,.pointer none,.pointer none,.string ⟨#[]⟩]⟩,
 some ⟨.struct [(0,1,false),(1,1,false),(2,1,false),(3,1,false)],4,[.pointer none,.pointer none,.pointer none,.string ⟨#[]⟩]⟩,
 none,
 none,
 none,
 some ⟨.int .u8,1,[.int .u8 0]⟩,
 some ⟨.int .u8,1,[.int .u8 0]⟩,
 some ⟨.other,1,[.nilFunc]⟩,
 some ⟨.other,1,[.pointer none]⟩,
 some ⟨.int .i32,1,[.int .i32 0]⟩,
 some ⟨.int .i32,1,[.int .i32 0]⟩,
 some ⟨.struct [(0,1,false),(1,1,false),(2,1,false),(3,1,false),(4,1,false),(5,1,false),(6,1,false),(7,1,false),(8,1,false),(9,1,false),(10,1,false)],11,[.int .u64 0,.int .u64 0,.int .u32 0,.int .u8 0,.int .u8 0,.int .u8 0,.int .u8 0,.nilFunc,.pointer none,.int .i32 0,.int .i32 0]⟩,
 some ⟨.struct [(0,1,false),(1,1,false),(2,1,false),(3,1,false),(4,1,false),(5,1,false),(6,1,false),(7,1,false),(8,1,false),(9,1,false),(10,1,false)],11,[.int .u64 0,.int .u64 0,.int .u32 0,.int .u8 0,.int .u8 0,.int .u8 0,.int .u8 0,.nilFunc,.pointer none,.int .i32 0,.int .i32 0]⟩,
 none]
theorem a5:er Tryz.prog tt:=H4 (by kernel_rfl)
theorem Jk {P:Program} {f:FuncId} {fn:Func} {c:Code} (hf:P.funcs[f]?=some fn) (hn:(fn.name== "runtime.NumGoroutine")=false:=by kernel_rfl) (hb:fn.body=some c:=by rfl):bL P f:=⟨ak hf hn hb⟩
instance:bL Tryz.prog 13:=Jk Tryz.func13
instance:bL Tryz.prog 14:=Jk Tryz.func14
instance:bL Tryz.prog 15:=Jk Tryz.func15
instance:bL Tryz.prog 16:=Jk Tryz.func16
instance:bL Tryz.prog 17:=Jk Tryz.func17
instance:bL Tryz.prog 18:=Jk Tryz.func18
instance:bL Tryz.prog 19:=Jk Tryz.func19
instance:bL Tryz.prog 20:=Jk Tryz.func20
instance:bL Tryz.prog 22:=Jk Tryz.func22
instance:bL Tryz.prog 25:=Jk Tryz.func25
instance:bL Tryz.prog 28:=Jk Tryz.func28
instance:bL Tryz.prog 29:=Jk Tryz.func29
instance:bL Tryz.prog 30:=Jk Tryz.func30
instance:bL Tryz.prog 32:=Jk Tryz.func32
instance:bL Tryz.prog 33:=Jk Tryz.func33
instance:bL Tryz.prog 34:=Jk Tryz.func34
instance:bL Tryz.prog 35:=Jk Tryz.func35
instance:bL Tryz.prog 36:=Jk Tryz.func36
instance:bL Tryz.prog 37:=Jk Tryz.func37
instance:bL Tryz.prog 38:=Jk Tryz.func38
instance:bL Tryz.prog 39:=Jk Tryz.func39
instance:bL Tryz.prog 40:=Jk Tryz.func40
instance:bL Tryz.prog 41:=Jk Tryz.func41
instance:bL Tryz.prog 42:=Jk Tryz.func42
instance:bL Tryz.prog 43:=Jk Tryz.func43
instance:bL Tryz.prog 44:=Jk Tryz.func44
instance:bL Tryz.prog 45:=Jk Tryz.func45
instance:bL Tryz.prog 46:=Jk Tryz.func46
instance:bL Tryz.prog 47:=Jk Tryz.func47
instance:bL Tryz.prog 48:=Jk Tryz.func48
instance:bL Tryz.prog 49:=Jk Tryz.func49
instance:bL Tryz.prog 50:=Jk Tryz.func50
instance:bL Tryz.prog 51:=Jk Tryz.func51
instance:bL Tryz.prog 52:=Jk Tryz.func52
instance:bL Tryz.prog 53:=Jk Tryz.func53
instance:bL Tryz.prog 54:=Jk Tryz.func54
instance:bL Tryz.prog 55:=Jk Tryz.func55
instance:bL Tryz.prog 56:=Jk Tryz.func56
instance:bL Tryz.prog 57:=Jk Tryz.func57
instance:bL Tryz.prog 58:=Jk Tryz.func58
instance:bL Tryz.prog 59:=Jk Tryz.func59
instance:bL Tryz.prog 60:=Jk Tryz.func60
instance:bL Tryz.prog 61:=Jk Tryz.func61
instance:bL Tryz.prog 62:=Jk Tryz.func62
instance:bL Tryz.prog 63:=Jk Tryz.func63
instance:bL Tryz.prog 64:=Jk Tryz.func64
instance:bL Tryz.prog 65:=Jk Tryz.func65
instance:bL Tryz.prog 66:=Jk Tryz.func66
instance:bL Tryz.prog 67:=Jk Tryz.func67
instance:bL Tryz.prog 68:=Jk Tryz.func68
instance:bL Tryz.prog 69:=Jk Tryz.func69
instance:bL Tryz.prog 70:=Jk Tryz.func70
instance:bL Tryz.prog 71:=Jk Tryz.func71
instance:bL Tryz.prog 72:=Jk Tryz.func72
instance:bL Tryz.prog 73:=Jk Tryz.func73
instance:bL Tryz.prog 74:=Jk Tryz.func74
instance:bL Tryz.prog 75:=Jk Tryz.func75
instance:bL Tryz.prog 76:=Jk Tryz.func76
instance:bL Tryz.prog 77:=Jk Tryz.func77
instance:bL Tryz.prog 78:=Jk Tryz.func78
instance:bL Tryz.prog 79:=Jk Tryz.func79
instance:bL Tryz.prog 89:=Jk Tryz.func89
instance:bL Tryz.prog 90:=Jk Tryz.func90
instance:bL Tryz.prog 91:=Jk Tryz.func91
instance:bL Tryz.prog 92:=Jk Tryz.func92
instance:bL Tryz.prog 93:=Jk Tryz.func93
instance:bL Tryz.prog 94:=Jk Tryz.func94
instance:bL Tryz.prog 95:=Jk Tryz.func95
instance:bL Tryz.prog 96:=Jk Tryz.func96
instance:bL Tryz.prog 97:=Jk Tryz.func97
instance:bL Tryz.prog 98:=Jk Tryz.func98
instance:bL Tryz.prog 99:=Jk Tryz.func99
instance:bL Tryz.prog 100:=Jk Tryz.func100
instance:bL Tryz.prog 101:=Jk Tryz.func101
instance:bL Tryz.prog 102:=Jk Tryz.func102
instance:bL Tryz.prog 103:=Jk Tryz.func103
instance:bL Tryz.prog 104:=Jk Tryz.func104
instance:bL Tryz.prog 105:=Jk Tryz.func105
instance:bL Tryz.prog 106:=Jk Tryz.func106
instance:bL Tryz.prog 107:=Jk Tryz.func107
instance:bL Tryz.prog 108:=Jk Tryz.func108
instance:bL Tryz.prog 109:=Jk Tryz.func109
instance:bL Tryz.prog 110:=Jk Tryz.func110
instance:bL Tryz.prog 111:=Jk Tryz.func111
instance:bL Tryz.prog 112:=Jk Tryz.func112
instance:bL Tryz.prog 113:=Jk Tryz.func113
instance:bL Tryz.prog 114:=Jk Tryz.func114
instance:bL Tryz.prog 115:=Jk Tryz.func115
instance:bL Tryz.prog 116:=Jk Tryz.func116
instance:bL Tryz.prog 117:=Jk Tryz.func117
instance:bL Tryz.prog 118:=Jk Tryz.func118
instance:bL Tryz.prog 119:=Jk Tryz.func119
instance:bL Tryz.prog 120:=Jk Tryz.func120
instance:bL Tryz.prog 121:=Jk Tryz.func121
instance:bL Tryz.prog 122:=Jk Tryz.func122
instance:bL Tryz.prog 123:=Jk Tryz.func123
instance:bL Tryz.prog 124:=Jk Tryz.func124
instance:bL Tryz.prog 125:=Jk Tryz.func125
instance:bL Tryz.prog 126:=Jk Tryz.func126
instance:bL Tryz.prog 127:=Jk Tryz.func127
instance:bL Tryz.prog 128:=Jk Tryz.func128
instance:bL Tryz.prog 129:=Jk Tryz.func129
instance:bL Tryz.prog 130:=Jk Tryz.func130
instance:bL Tryz.prog 131:=Jk Tryz.func131
instance:bL Tryz.prog 132:=Jk Tryz.func132
instance:bL Tryz.prog 133:=Jk Tryz.func133
instance:bL Tryz.prog 134:=Jk Tryz.func134
instance:bL Tryz.prog 135:=Jk Tryz.func135
instance:bL Tryz.prog 136:=Jk Tryz.func136
instance:bL Tryz.prog 137:=Jk Tryz.func137
instance:bL Tryz.prog 138:=Jk Tryz.func138
instance:bL Tryz.prog 139:=Jk Tryz.func139
instance:bL Tryz.prog 140:=Jk Tryz.func140
instance:bL Tryz.prog 141:=Jk Tryz.func141
instance:bL Tryz.prog 142:=Jk Tryz.func142
instance:bL Tryz.prog 143:=Jk Tryz.func143
instance:bL Tryz.prog 144:=Jk Tryz.func144
instance:bL Tryz.prog 145:=Jk Tryz.func145
instance:bL Tryz.prog 146:=Jk Tryz.func146
instance:bL Tryz.prog 147:=Jk Tryz.func147
instance:bL Tryz.prog 148:=Jk Tryz.func148
instance:bL Tryz.prog 149:=Jk Tryz.func149
instance:bL Tryz.prog 150:=Jk Tryz.func150
instance:bL Tryz.prog 151:=Jk Tryz.func151
instance:bL Tryz.prog 152:=Jk Tryz.func152
instance:bL Tryz.prog 153:=Jk Tryz.func153
instance:bL Tryz.prog 154:=Jk Tryz.func154
instance:bL Tryz.prog 155:=Jk Tryz.func155
instance:bL Tryz.prog 174:=Jk Tryz.func174
instance:bL Tryz.prog 175:=Jk Tryz.func175
instance:bL Tryz.prog 176:=Jk Tryz.func176
instance:bL Tryz.prog 177:=Jk Tryz.func177
instance:bL Tryz.prog 178:=Jk Tryz.func178
instance:bL Tryz.prog 179:=Jk Tryz.func179
instance:bL Tryz.prog 180:=Jk Tryz.func180
instance:bL Tryz.prog 181:=Jk Tryz.func181
instance:bL Tryz.prog 182:=Jk Tryz.func182
instance:bL Tryz.prog 183:=Jk Tryz.func183
instance:bL Tryz.prog 184:=Jk Tryz.func184
instance:bL Tryz.prog 185:=Jk Tryz.func185
instance:bL Tryz.prog 186:=Jk Tryz.func186
instance:bL Tryz.prog 187:=Jk Tryz.func187
instance:bL Tryz.prog 188:=Jk Tryz.func188
instance:bL Tryz.prog 189:=Jk Tryz.func189
instance:bL Tryz.prog 190:=Jk Tryz.func190
instance:bL Tryz.prog 191:=Jk Tryz.func191
instance:bL Tryz.prog 192:=Jk Tryz.func192
instance:bL Tryz.prog 193:=Jk Tryz.func193
instance:bL Tryz.prog 194:=Jk Tryz.func194
instance:bL Tryz.prog 195:=Jk Tryz.func195
instance:bL Tryz.prog 196:=Jk Tryz.func196
instance:bL Tryz.prog 197:=Jk Tryz.func197
instance:bL Tryz.prog 198:=Jk Tryz.func198
instance:bL Tryz.prog 199:=Jk Tryz.func199
instance:bL Tryz.prog 200:=Jk Tryz.func200
instance:bL Tryz.prog 201:=Jk Tryz.func201
instance:bL Tryz.prog 202:=Jk Tryz.func202
instance:bL Tryz.prog 203:=Jk Tryz.func203
instance:bL Tryz.prog 204:=Jk Tryz.func204
instance:bL Tryz.prog 205:=Jk Tryz.func205
instance:bL Tryz.prog 206:=Jk Tryz.func206
instance:bL Tryz.prog 207:=Jk Tryz.func207
instance:bL Tryz.prog 208:=Jk Tryz.func208
instance:bL Tryz.prog 209:=Jk Tryz.func209
instance:bL Tryz.prog 210:=Jk Tryz.func210
instance:bL Tryz.prog 211:=Jk Tryz.func211
instance:bL Tryz.prog 212:=Jk Tryz.func212
instance:bL Tryz.prog 213:=Jk Tryz.func213
instance:bL Tryz.prog 214:=Jk Tryz.func214
instance:bL Tryz.prog 215:=Jk Tryz.func215
instance:bL Tryz.prog 216:=Jk Tryz.func216
instance:bL Tryz.prog 217:=Jk Tryz.func217
instance:bL Tryz.prog 218:=Jk Tryz.func218
instance:bL Tryz.prog 219:=Jk Tryz.func219
instance:bL Tryz.prog 220:=Jk Tryz.func220
instance:bL Tryz.prog 221:=Jk Tryz.func221
instance:bL Tryz.prog 222:=Jk Tryz.func222
instance:bL Tryz.prog 223:=Jk Tryz.func223
instance:bL Tryz.prog 224:=Jk Tryz.func224
instance:bL Tryz.prog 225:=Jk Tryz.func225
instance:bL Tryz.prog 226:=Jk Tryz.func226
instance:bL Tryz.prog 227:=Jk Tryz.func227
instance:bL Tryz.prog 228:=Jk Tryz.func228
instance:bL Tryz.prog 251:=Jk Tryz.func251
instance:bL Tryz.prog 252:=Jk Tryz.func252
instance:bL Tryz.prog 253:=Jk Tryz.func253
instance:bL Tryz.prog 255:=Jk Tryz.func255
instance:bL Tryz.prog 256:=Jk Tryz.func256
instance:bL Tryz.prog 257:=Jk Tryz.func257
instance:bL Tryz.prog 258:=Jk Tryz.func258
instance:bL Tryz.prog 259:=Jk Tryz.func259
instance:bL Tryz.prog 260:=Jk Tryz.func260
instance:bL Tryz.prog 261:=Jk Tryz.func261
instance:bL Tryz.prog 262:=Jk Tryz.func262
instance:bL Tryz.prog 263:=Jk Tryz.func263
instance:bL Tryz.prog 264:=Jk Tryz.func264
instance:bL Tryz.prog 265:=Jk Tryz.func265
instance:bL Tryz.prog 266:=Jk Tryz.func266
instance:bL Tryz.prog 267:=Jk Tryz.func267
instance:bL Tryz.prog 271:=Jk Tryz.func271
instance:bL Tryz.prog 272:=Jk Tryz.func272
instance:bL Tryz.prog 273:=Jk Tryz.func273
instance:bL Tryz.prog 285:=Jk Tryz.func285
instance:bL Tryz.prog 286:=Jk Tryz.func286
instance:bL Tryz.prog 287:=Jk Tryz.func287
instance:bL Tryz.prog 288:=Jk Tryz.func288
instance:bL Tryz.prog 289:=Jk Tryz.func289
instance:bL Tryz.prog 290:=Jk Tryz.func290
instance:bL Tryz.prog 301:=Jk Tryz.func301
instance:bL Tryz.prog 302:=Jk Tryz.func302
end Go.Proofs.YtpmdfoaadejmkaaGreatDoor
