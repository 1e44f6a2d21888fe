/-
  The table of the types of the seat's program, and the functions that are entered, written by a program (wip/typesA.py).
-/
import Derived.Test.YtpmdfoaadejmkaaGreatDoorM05
import Derived.Test.YtpmdfoaadejmkaaGreatDoorProg
import Derived.KernelRfl
namespace Go.Proofs.YtpmdfoaadejmkaaGreatDoor
open Go.RowKit
theorem ak {P:Program} {f:FuncId} {fn:Func} {c:Code} (hf:P.funcs[f]?=some fn) (hname:(fn.name== "runtime.NumGoroutine")=false) (hb:fn.body=some c):∀args w,(callFunc f args).run P w= .ok (.enter f args) w:=by
 intro args w
 have hne:¬fn.name= "runtime.NumGoroutine" :=by simpa using hname
 simp [callFunc,hf,hne,hb]
theorem bX:Tryz.prog.follows .mixedOrders=true:=by kernel_rfl
def tt:TT:=[none,
 some ⟨.other,1,[.nilFunc]⟩,
 some ⟨.int .i64,1,[.int .i64 0]⟩,
 some ⟨.int .i64,1,[.int .i64 0]⟩,
 some ⟨.bool,1,[.bool false]⟩,
 some ⟨.int .u8,1,[.int .u8 0]⟩,
 some ⟨.int .u8,1,[.int .u8 0]⟩,
 some ⟨.struct [(0,1,false),(1,1,false),(2,1,false),(3,1,false)],4,[.int .i64 0,.int .i64 0,.bool false,.int .u8 0]⟩,
 some ⟨.struct [(0,1,false),(1,1,false),(2,1,false),(3,1,false)],4,[.int .i64 0,.int .i64 0,.bool false,.int .u8 0]⟩,
 some ⟨.str,1,[.string ⟨#[]⟩]⟩,
 some ⟨.str,1,[.string ⟨#[]⟩]⟩,
 some ⟨.str,1,[.string ⟨#[]⟩]⟩,
 some ⟨.int .u64,1,[.int .u64 0]⟩,
 some ⟨.struct [(0,1,false),(1,1,false)],2,[.string ⟨#[]⟩,.int .u64 0]⟩,
 some ⟨.struct [(0,1,false),(1,1,false)],2,[.string ⟨#[]⟩,.int .u64 0]⟩,
 some ⟨.other,1,[.pointer none]⟩,
 some ⟨.other,1,[.pointer none]⟩,
 some ⟨.other,1,[.pointer none]⟩,
 some ⟨.struct [(0,1,false)],1,[.pointer none]⟩,
 some ⟨.struct [(0,1,false)],1,[.pointer none]⟩,
 some ⟨.other,1,[.nilIface]⟩,
 some ⟨.int .i32,1,[.int .i32 0]⟩,
 some ⟨.slice 3 1 8,1,[.slice none 0 0]⟩,
 some ⟨.other,1,[.nilFunc]⟩,
 some ⟨.slice 76 9 176,1,[.slice none 0 0]⟩,
 some ⟨.slice 119 2 16,1,[.slice none 0 0]⟩,
 some ⟨.slice 59 3 40,1,[.slice none 0 0]⟩,
 some ⟨.slice 121 2 40,1,[.slice none 0 0]⟩,
 some ⟨.slice 123 4 40,1,[.slice none 0 0]⟩,
 some ⟨.slice 128 1 24,1,[.slice none 0 0]⟩,
 some ⟨.slice 74 1 24,1,[.slice none 0 0]⟩,
 some ⟨.struct [(0,1,false),(1,1,false),(2,1,false),(3,1,false),(4,1,false),(5,1,false),(6,1,false),(7,1,false),(8,1,false)],9,[.int .i64 0,.slice none 0 0,.slice none 0 0,.slice none 0 0,.slice none 0 0,.slice none 0 0,.slice none 0 0,.slice none 0 0,.slice none 0 0]⟩,
 some ⟨.struct [(0,1,false),(1,1,false),(2,1,false),(3,1,false),(4,1,false),(5,1,false),(6,1,false),(7,1,false),(8,1,false)],9,[.int .i64 0,.slice none 0 0,.slice none 0 0,.slice none 0 0,.slice none 0 0,.slice none 0 0,.slice none 0 0,.slice none 0 0,.slice none 0 0]⟩,
 some ⟨.other,1,[.nilFunc]⟩,
 some ⟨.other,1,[.pointer none]⟩,
 some ⟨.int .i64,1,[.int .i64 0]⟩,
 none,
 some ⟨.other,1,[.nilFunc]⟩,
 some ⟨.slice 67 6 48,1,[.slice none 0 0]⟩,
 some ⟨.other,1,[.nilFunc]⟩,
 some ⟨.other,1,[.nilFunc]⟩,
 some ⟨.other,1,[.nilFunc]⟩,
 some ⟨.other,1,[.nilFunc]⟩,
 some ⟨.other,1,[.nilFunc]⟩,
 some ⟨.other,1,[.nilFunc]⟩,
 some ⟨.slice 22 1 24,1,[.slice none 0 0]⟩,
 some ⟨.other,1,[.nilFunc]⟩,
 some ⟨.other,1,[.nilFunc]⟩,
 some ⟨.other,1,[.nilFunc]⟩,
 some ⟨.other,1,[.nilFunc]⟩,
 some ⟨.arr 3 3 1,3,[.int .i64 0,.int .i64 0,.int .i64 0]⟩,
 some ⟨.other,1,[.nilFunc]⟩,
 none,
 some ⟨.other,1,[.nilFunc]⟩,
 some ⟨.struct [(0,1,false),(1,1,false)],2,[.int .i64 0,.int .i64 0]⟩,
 some ⟨.struct [(0,1,false),(1,1,false)],2,[.int .i64 0,.int .i64 0]⟩,
 some ⟨.other,1,[.nilFunc]⟩,
 some ⟨.slice 79 6 128,1,[.slice none 0 0]⟩,
 some ⟨.struct [(0,1,false),(1,1,false),(2,1,false)],3,[.int .i64 0,.bool false,.slice none 0 0]⟩,
 some ⟨.struct [(0,1,false),(1,1,false),(2,1,false)],3,[.int .i64 0,.bool false,.slice none 0 0]⟩,
 some ⟨.slice 246 1 8,1,[.slice none 0 0]⟩,
 some ⟨.struct [(0,1,false),(1,1,false),(2,1,false),(3,1,false),(4,1,false)],5,[.slice none 0 0,.slice none 0 0,.slice none 0 0,.slice none 0 0,.slice none 0 0]⟩,
 some ⟨.struct [(0,1,false),(1,1,false),(2,1,false),(3,1,false),(4,1,false)],5,[.slice none 0 0,.slice none 0 0,.slice none 0 0,.slice none 0 0,.slice none 0 0]⟩,
 none,
 some ⟨.other,1,[.nilFunc]⟩,
 some ⟨.other,1,[.nilFunc]⟩,
 some ⟨.struct [(0,1,false),(1,1,false),(2,1,false),(3,1,false),(4,1,false),(5,1,false)],6,[.int .i64 0,.int .i64 0,.int .i64 0,.int .i64 0,.int .i64 0,.int .i64 0]⟩,
 some ⟨.struct [(0,1,false),(1,1,false),(2,1,false),(3,1,false),(4,1,false),(5,1,false)],6,[.int .i64 0,.int .i64 0,.int .i64 0,.int .i64 0,.int .i64 0,.int .i64 0]⟩,
 some ⟨.slice 286 3 24,1,[.slice none 0 0]⟩,
 some ⟨.struct [(0,1,false),(1,1,false)],2,[.slice none 0 0,.slice none 0 0]⟩,
 some ⟨.struct [(0,1,false),(1,1,false)],2,[.slice none 0 0,.slice none 0 0]⟩,
 some ⟨.slice 111 3 24,1,[.slice none 0 0]⟩,
 some ⟨.slice 113 4 32,1,[.slice none 0 0]⟩,
 some ⟨.slice 115 4 32,1,[.slice none 0 0]⟩,
 some ⟨.slice 117 2 16,1,[.slice none 0 0]⟩,
 some ⟨.struct [(0,1,false),(1,1,false),(2,1,false),(3,2,true),(5,1,false),(6,1,false),(7,1,false),(8,1,false)],9,[.string ⟨#[]⟩,.int .i64 0,.bool false,.slice none 0 0,.slice none 0 0,.slice none 0 0,.slice none 0 0,.slice none 0 0,.slice none 0 0]⟩,
 some ⟨.struct [(0,1,false),(1,1,false),(2,1,false),(3,2,true),(5,1,false),(6,1,false),(7,1,false),(8,1,false)],9,[.string ⟨#[]⟩,.int .i64 0,.bool false,.slice none 0 0,.slice none 0 0,.slice none 0 0,.slice none 0 0,.slice none 0 0,.slice none 0 0]⟩,
 some ⟨.slice 81 2 16,1,[.slice none 0 0]⟩,
 some ⟨.struct [(0,1,false),(1,1,false),(2,1,false),(3,1,false),(4,1,false),(5,1,false)],6,[.slice none 0 0,.slice none 0 0,.slice none 0 0,.slice none 0 0,.slice none 0 0,.int .i64 0]⟩,
 some ⟨.struct [(0,1,false),(1,1,false),(2,1,false),(3,1,false),(4,1,false),(5,1,false)],6,[.slice none 0 0,.slice none 0 0,.slice none 0 0,.slice none 0 0,.slice none 0 0,.int .i64 0]⟩,
 some ⟨.struct [(0,1,false),(1,1,false)],2,[.int .i64 0,.int .i64 0]⟩,
 some ⟨.struct [(0,1,false),(1,1,false)],2,[.int .i64 0,.int .i64 0]⟩,
 some ⟨.other,1,[.nilFunc]⟩,
 some ⟨.slice 97 10 176,1,[.slice none 0 0]⟩,
 some ⟨.slice 4 1 1,1,[.slice none 0 0]⟩,
 some ⟨.struct [(0,1,false),(1,1,false)],2,[.slice none 0 0,.slice none 0 0]⟩,
 some ⟨.struct [(0,1,false),(1,1,false)],2,[.slice none 0 0,.slice none 0 0]⟩,
 some ⟨.other,1,[.nilFunc]⟩,
 some ⟨.arr 3 5 1,3,[.int .u8 0,.int .u8 0,.int .u8 0]⟩,
 some ⟨.other,1,[.nilFunc]⟩,
 some ⟨.other,1,[.nilFunc]⟩,
 some ⟨.other,1,[.nilFunc]⟩,
 some ⟨.other,1,[.nilFunc]⟩,
 some ⟨.other,1,[.nilFunc]⟩,
 some ⟨.other,1,[.nilFunc]⟩,
 some ⟨.other,1,[.nilFunc]⟩,
 some ⟨.struct [(0,3,true),(3,5,true),(8,1,false),(9,1,false)],10,[.int .i64 0,.bool false,.slice none 0 0,.slice none 0 0,.slice none 0 0,.slice none 0 0,.slice none 0 0,.slice none 0 0,.int .i64 0,.int .i64 0]⟩,
 some ⟨.struct [(0,3,true),(3,5,true),(8,1,false),(9,1,false)],10,[.int .i64 0,.bool false,.slice none 0 0,.slice none 0 0,.slice none 0 0,.slice none 0 0,.slice none 0 0,.slice none 0 0,.int .i64 0,.int .i64 0]⟩,
 some ⟨.other,1,[.nilFunc]⟩,
 some ⟨.other,1,[.pointer none]⟩,
 some ⟨.other,1,[.nilFunc]⟩,
 some ⟨.struct [(0,1,false),(1,1,false)],2,[.pointer none,.slice none 0 0]⟩,
 some ⟨.struct [(0,1,false),(1,1,false)],2,[.pointer none,.slice none 0 0]⟩,
 some ⟨.other,1,[.nilFunc]⟩,
 some ⟨.other,1,[.pointer none]⟩,
 none,
 some ⟨.other,1,[.nilFunc]⟩,
 none,
 some ⟨.other,1,[.nilFunc]⟩,
 some ⟨.slice 9 1 16,1,[.slice none 0 0]⟩,
 some ⟨.struct [(0,1,false),(1,1,false),(2,1,false)],3,[.int .i64 0,.int .i64 0,.int .i64 0]⟩,
 some ⟨.struct [(0,1,false),(1,1,false),(2,1,false)],3,[.int .i64 0,.int .i64 0,.int .i64 0]⟩,
 some ⟨.struct [(0,1,false),(1,1,false),(2,1,false),(3,1,false)],4,[.int .i64 0,.int .i64 0,.int .i64 0,.int .i64 0]⟩,
 some ⟨.struct [(0,1,false),(1,1,false),(2,1,false),(3,1,false)],4,[.int .i64 0,.int .i64 0,.int .i64 0,.int .i64 0]⟩,
 some ⟨.struct [(0,1,false),(1,1,false),(2,1,false),(3,1,false)],4,[.int .i64 0,.int .i64 0,.int .i64 0,.int .i64 0]⟩,
 some ⟨.struct [(0,1,false),(1,1,false),(2,1,false),(3,1,false)],4,[.int .i64 0,.int .i64 0,.int .i64 0,.int .i64 0]⟩,
 some ⟨.struct [(0,1,false),(1,1,false)],2,[.int .i64 0,.int .i64 0]⟩,
 some ⟨.struct [(0,1,false),(1,1,false)],2,[.int .i64 0,.int .i64 0]⟩,
 some ⟨.struct [(0,1,false),(1,1,false)],2,[.int .i64 0,.int .i64 0]⟩,
 some ⟨.struct [(0,1,false),(1,1,false)],2,[.int .i64 0,.int .i64 0]⟩,
 some ⟨.struct [(0,1,false),(1,1,false)],2,[.string ⟨#[]⟩,.slice none 0 0]⟩,
 some ⟨.struct [(0,1,false),(1,1,false)],2,[.string ⟨#[]⟩,.slice none 0 0]⟩,
 some ⟨.struct [(0,1,false),(1,1,false),(2,1,false),(3,1,false)],4,[.string ⟨#[]⟩,.int .i64 0,.int .i64 0,.int .i64 0]⟩,
 some ⟨.struct [(0,1,false),(1,1,false),(2,1,false),(3,1,false)],4,[.string ⟨#[]⟩,.int .i64 0,.int .i64 0,.int .i64 0]⟩,
 some ⟨.struct [(0,1,false),(1,1,false),(2,1,false)],3,[.int .i64 0,.int .i64 0,.int .i64 0]⟩,
 some ⟨.struct [(0,1,false),(1,1,false),(2,1,false)],3,[.int .i64 0,.int .i64 0,.int .i64 0]⟩,
 some ⟨.slice 125 3 24,1,[.slice none 0 0]⟩,
 some ⟨.struct [(0,1,false)],1,[.slice none 0 0]⟩,
 some ⟨.struct [(0,1,false)],1,[.slice none 0 0]⟩,
 some ⟨.other,1,[.map none]⟩,
 some ⟨.other,1,[.nilFunc]⟩,
 some ⟨.other,1,[.nilFunc]⟩,
 some ⟨.other,1,[.nilFunc]⟩,
 some ⟨.other,1,[.nilFunc]⟩,
 some ⟨.other,1,[.nilFunc]⟩,
 some ⟨.other,1,[.nilFunc]⟩,
 some ⟨.other,1,[.nilFunc]⟩,
 some ⟨.other,1,[.nilFunc]⟩,
 some ⟨.other,1,[.nilFunc]⟩,
 some ⟨.other,1,[.nilFunc]⟩,
 some ⟨.other,1,[.nilFunc]⟩,
 some ⟨.other,1,[.nilFunc]⟩,
 some ⟨.other,1,[.nilFunc]⟩,
 some ⟨.other,1,[.nilFunc]⟩,
 some ⟨.other,1,[.nilFunc]⟩,
 some ⟨.other,1,[.nilFunc]⟩,
 some ⟨.other,1,[.nilFunc]⟩,
 some ⟨.other,1,[.nilFunc]⟩,
 some ⟨.other,1,[.nilFunc]⟩,
 some ⟨.other,1,[.nilFunc]⟩,
 some ⟨.other,1,[.nilFunc]⟩,
 some ⟨.other,1,[.nilFunc]⟩,
 some ⟨.other,1,[.nilFunc]⟩,
 some ⟨.other,1,[.nilFunc]⟩,
 some ⟨.other,1,[.nilFunc]⟩,
 some ⟨.other,1,[.nilFunc]⟩,
 some ⟨.other,1,[.nilFunc]⟩,
 some ⟨.other,1,[.nilFunc]⟩,
 some ⟨.other,1,[.nilFunc]⟩,
 some ⟨.other,1,[.nilFunc]⟩,
 some ⟨.other,1,[.nilFunc]⟩,
 some ⟨.other,1,[.nilFunc]⟩,
 some ⟨.other,1,[.nilFunc]⟩,
 some ⟨.other,1,[.nilFunc]⟩,
 some ⟨.other,1,[.nilFunc]⟩,
 some ⟨.other,1,[.nilFunc]⟩,
 some ⟨.other,1,[.nilFunc]⟩,
 some ⟨.other,1,[.nilFunc]⟩,
 none,
 some ⟨.other,1,[.nilFunc]⟩,
 some ⟨.other,1,[.pointer none]⟩,
 some ⟨.other,1,[.map none]⟩,
 some ⟨.struct [(0,9,true),(9,1,false),(10,1,false)],11,[.int .i64 0,.slice none 0 0,.slice none 0 0,.slice none 0 0,.slice none 0 0,.slice none 0 0,.slice none 0 0,.slice none 0 0,.slice none 0 0,.slice none 0 0,.map none]⟩,
 some ⟨.struct [(0,9,true),(9,1,false),(10,1,false)],11,[.int .i64 0,.slice none 0 0,.slice none 0 0,.slice none 0 0,.slice none 0 0,.slice none 0 0,.slice none 0 0,.slice none 0 0,.slice none 0 0,.slice none 0 0,.map none]⟩,
 some ⟨.other,1,[.nilFunc]⟩,
 some ⟨.other,1,[.pointer none]⟩,
 some ⟨.struct [(0,1,false),(1,1,false),(2,9,true),(11,1,false)],12,[.slice none 0 0,.int .i64 0,.int .i64 0,.slice none 0 0,.slice none 0 0,.slice none 0 0,.slice none 0 0,.slice none 0 0,.slice none 0 0,.slice none 0 0,.slice none 0 0,.int .i64 0]⟩,
 some ⟨.struct [(0,1,false),(1,1,false),(2,9,true),(11,1,false)],12,[.slice none 0 0,.int .i64 0,.int .i64 0,.slice none 0 0,.slice none 0 0,.slice none 0 0,.slice none 0 0,.slice none 0 0,.slice none 0 0,.slice none 0 0,.slice none 0 0,.int .i64 0]⟩,
 some ⟨.other,1,[.nilFunc]⟩,
 some ⟨.slice 5 1 1,1,[.slice none 0 0]⟩,
 some ⟨.other,1,[.nilFunc]⟩,
 some ⟨.other,1,[.nilFunc]⟩,
 some ⟨.other,1,[.nilFunc]⟩,
 some ⟨.other,1,[.nilFunc]⟩,
 some ⟨.other,1,[.nilFunc]⟩,
 some ⟨.other,1,[.nilFunc]⟩,
 some ⟨.struct [(0,1,false),(1,1,false)],2,[.slice none 0 0,.slice none 0 0]⟩,
 some ⟨.struct [(0,1,false),(1,1,false)],2,[.slice none 0 0,.slice none 0 0]⟩,
 some ⟨.other,1,[.nilFunc]⟩,
 some ⟨.other,1,[.nilFunc]⟩,
 some ⟨.other,1,[.pointer none]⟩,
 none,
 some ⟨.other,1,[.nilFunc]⟩,
 some ⟨.other,1,[.nilFunc]⟩,
 some ⟨.other,1,[.nilFunc]⟩,
 none,
 some ⟨.other,1,[.nilFunc]⟩,
 none,
 some ⟨.other,1,[.nilFunc]⟩,
 some ⟨.other,1,[.nilFunc]⟩,
 some ⟨.other,1,[.nilFunc]⟩,
 some ⟨.other,1,[.nilFunc]⟩,
 some ⟨.other,1,[.nilFunc]⟩,
 some ⟨.slice 139 1 8,1,[.slice none 0 0]⟩,
 some ⟨.other,1,[.nilFunc]⟩,
 some ⟨.other,1,[.nilFunc]⟩,
 some ⟨.other,1,[.nilFunc]⟩,
 some ⟨.other,1,[.nilFunc]⟩,
 some ⟨.other,1,[.nilFunc]⟩,
 some ⟨.other,1,[.nilFunc]⟩,
 some ⟨.other,1,[.nilFunc]⟩,
 some ⟨.other,1,[.nilFunc]⟩,
 some ⟨.other,1,[.nilFunc]⟩,
 some ⟨.other,1,[.nilFunc]⟩,
 some ⟨.other,1,[.nilFunc]⟩,
 some ⟨.other,1,[.nilFunc]⟩,
 some ⟨.other,1,[.nilFunc]⟩,
 some ⟨.other,1,[.nilFunc]⟩,
 none,
 some ⟨.other,1,[.nilFunc]⟩,
 some ⟨.other,1,[.nilFunc]⟩,
 some ⟨.other,1,[.nilFunc]⟩,
 some ⟨.other,1,[.nilFunc]⟩,
 some ⟨.other,1,[.nilFunc]⟩,
 some ⟨.other,1,[.nilFunc]⟩,
 some ⟨.other,1,[.nilFunc]⟩,
 some ⟨.other,1,[.nilFunc]⟩,
 some ⟨.other,1,[.nilFunc]⟩,
 some ⟨.other,1,[.nilFunc]⟩,
 some ⟨.other,1,[.nilFunc]⟩,
 some ⟨.other,1,[.nilFunc]⟩,
 some ⟨.other,1,[.nilFunc]⟩,
 some ⟨.other,1,[.nilFunc]⟩,
 some ⟨.other,1,[.nilFunc]⟩,
 some ⟨.other,1,[.nilFunc]⟩,
 some ⟨.other,1,[.nilFunc]⟩,
 some ⟨.other,1,[.nilFunc]⟩,
 some ⟨.other,1,[.nilFunc]⟩,
 some ⟨.other,1,[.nilFunc]⟩,
 some ⟨.other,1,[.nilFunc]⟩,
 some ⟨.struct [(0,1,false),(1,1,false)],2,[.int .i64 0,.slice none 0 0]⟩,
 some ⟨.struct [(0,1,false),(1,1,false)],2,[.int .i64 0,.slice none 0 0]⟩,
 some ⟨.other,1,[.nilFunc]⟩,
 some ⟨.slice 241 2 32,1,[.slice none 0 0]⟩,
 some ⟨.other,1,[.nilFunc]⟩,
 some ⟨.other,1,[.nilFunc]⟩,
 some ⟨.int .u64,1,[.int .u64 0]⟩,
 some ⟨.other,1,[.nilFunc]⟩,
 some ⟨.other,1,[.pointer none]⟩,
 some ⟨.other,1,[.nilFunc]⟩,
 some ⟨.other,1,[.nilFunc]⟩,
 some ⟨.other,1,[.nilFunc]⟩,
 some ⟨.other,1,[.nilFunc]⟩,
 some ⟨.other,1,[.nilFunc]⟩,
 some ⟨.arr 2 3 1,2,[.int .i64 0,.int .i64 0]⟩,
 some ⟨.slice 254 2 16,1,[.slice none 0 0]⟩,
 some ⟨.other,1,[.nilFunc]⟩,
 some ⟨.other,1,[.map none]⟩,
 some ⟨.other,1,[.pointer none]⟩,
 some ⟨.slice 261 2 16,1,[.slice none 0 0]⟩,
 some ⟨.struct [(0,1,false),(1,1,false)],2,[.int .i64 0,.int .u64 0]⟩,
 some ⟨.struct [(0,1,false),(1,1,false)],2,[.int .i64 0,.int .u64 0]⟩,
 some ⟨.other,1,[.nilFunc]⟩,
 some ⟨.other,1,[.nilFunc]⟩,
 some ⟨.other,1,[.nilFunc]⟩,
 some ⟨.slice 45 1 24,1,[.slice none 0 0]⟩,
 some ⟨.slice 330 2 32,1,[.slice none 0 0]⟩,
 some ⟨.struct [(0,1,false),(1,1,false),(2,1,false),(3,1,false),(4,1,false)],5,[.slice none 0 0,.int .u64 0,.slice none 0 0,.int .i64 0,.slice none 0 0]⟩,
 some ⟨.struct [(0,1,false),(1,1,false),(2,1,false),(3,1,false),(4,1,false)],5,[.slice none 0 0,.int .u64 0,.slice none 0 0,.int .i64 0,.slice none 0 0]⟩,
 some ⟨.other,1,[.nilFunc]⟩,
 some ⟨.other,1,[.nilFunc]⟩,
 some ⟨.other,1,[.nilFunc]⟩,
 some ⟨.other,1,[.nilFunc]⟩,
 some ⟨.other,1,[.nilFunc]⟩,
 some ⟨.other,1,[.nilFunc]⟩,
 none,
 some ⟨.other,1,[.nilFunc]⟩,
 some ⟨.other,1,[.nilFunc]⟩,
 some ⟨.other,1,[.nilFunc]⟩,
 some ⟨.other,1,[.nilFunc]⟩,
 some ⟨.other,1,[.nilFunc]⟩,
 some ⟨.other,1,[.nilFunc]⟩,
 some ⟨.other,1,[.nilFunc]⟩,
 some ⟨.other,1,[.nilFunc]⟩,
 some ⟨.other,1,[.nilFunc]⟩,
 some ⟨.struct [(0,1,false),(1,1,false),(2,1,false)],3,[.int .i64 0,.int .i64 0,.bool false]⟩,
 some ⟨.struct [(0,1,false),(1,1,false),(2,1,false)],3,[.int .i64 0,.int .i64 0,.bool false]⟩,
 some ⟨.other,1,[.nilFunc]⟩,
 some ⟨.other,1,[.nilFunc]⟩,
 some ⟨.other,1,[.nilFunc]⟩,
 some ⟨.other,1,[.nilFunc]⟩,
 some ⟨.other,1,[.map none]⟩,
 some ⟨.struct [(0,1,false),(1,1,false)],2,[.int .i64 0,.int .i64 0]⟩,
 some ⟨.struct [(0,1,false),(1,1,false)],2,[.int .i64 0,.int .i64 0]⟩,
 some ⟨.other,1,[.nilFunc]⟩,
 some ⟨.struct [(0,1,false),(1,1,false)],2,[.int .i64 0,.int .i64 0]⟩,
 some ⟨.struct [(0,1,false),(1,1,false)],2,[.int .i64 0,.int .i64 0]⟩,
 some ⟨.other,1,[.nilFunc]⟩,
 some ⟨.other,1,[.nilFunc]⟩,
 some ⟨.other,1,[.nilFunc]⟩,
 some ⟨.other,1,[.nilFunc]⟩,
 some ⟨.other,1,[.nilFunc]⟩,
 some ⟨.other,1,[.nilFunc]⟩,
 some ⟨.other,1,[.nilFunc]⟩,
 some ⟨.other,1,[.nilFunc]⟩,
 some ⟨.other,1,[.nilFunc]⟩,
 some ⟨.other,1,[.nilFunc]⟩,
 some ⟨.other,1,[.nilFunc]⟩,
 some ⟨.other,1,[.nilFunc]⟩,
 none,
 some ⟨.other,1,[.nilFunc]⟩,
 some ⟨.other,1,[.nilFunc]⟩,
 some ⟨.int .u64,1,[.int .u64 0]⟩,
 none,
 some ⟨.other,1,[.nilFunc]⟩,
 some ⟨.other,1,[.nilFunc]⟩,
 some ⟨.other,1,[.nilFunc]⟩,
 some ⟨.other,1,[.nilFunc]⟩,
 some ⟨.struct [(0,1,false),(1,1,false),(2,1,false),(3,1,false),(4,1,false)],5,[.slice none 0 0,.bool false,.nilFunc,.int .i64 0,.int .i64 0]⟩,
 some ⟨.struct [(0,1,false),(1,1,false),(2,1,false),(3,1,false),(4,1,false)],5,[.slice none 0 0,.bool false,.nilFunc,.int .i64 0,.int .i64 0]⟩,
 some ⟨.other,1,[.nilFunc]⟩,
 some ⟨.other,1,[.nilFunc]⟩,
 some ⟨.other,1,[.nilFunc]⟩,
 some ⟨.other,1,[.nilFunc]⟩,
 some ⟨.other,1,[.nilFunc]⟩,
 some ⟨.other,1,[.nilFunc]⟩,
 some ⟨.other,1,[.nilFunc]⟩,
 some ⟨.other,1,[.nilFunc]⟩,
 some ⟨.arr 16 5 1,16,[.int .u8 0,.int .u8 0,.int .u8 0,.int .u8 0,.int .u8 0,.int .u8 0,.int .u8 0,.int .u8 0,.int .u8 0,.int .u8 0,.int .u8 0,.int .u8 0,.int .u8 0,.int .u8 0,.int .u8 0,.int .u8 0]⟩,
 some ⟨.struct [(0,1,false),(1,1,false)],2,[.slice none 0 0,.int .u64 0]⟩,
 some ⟨.struct [(0,1,false),(1,1,false)],2,[.slice none 0 0,.int .u64 0]⟩,
 some ⟨.other,1,[.nilFunc]⟩,
 some ⟨.other,1,[.nilFunc]⟩,
 some ⟨.other,1,[.nilFunc]⟩,
 some ⟨.other,1,[.nilFunc]⟩,
 some ⟨.other,1,[.pointer none]⟩,
 some ⟨.other,1,[.nilFunc]⟩,
 some ⟨.other,1,[.nilFunc]⟩,
 some ⟨.other,1,[.map none]⟩,
 some ⟨.slice 3 1 8,1,[.slice none 0 0]⟩,
 some ⟨.other,1,[.nilFunc]⟩,
 some ⟨.other,1,[.nilFunc]⟩,
 some ⟨.other,1,[.nilFunc]⟩,
 some ⟨.other,1,[.nilFunc]⟩,
 some ⟨.other,1,[.pointer none]⟩,
 some ⟨.other,1,[.nilFunc]⟩,
 some ⟨.other,1,[.nilFunc]⟩,
 some ⟨.other,1,[.map none]⟩,
 some ⟨.other,1,[.nilFunc]⟩,
 some ⟨.other,1,[.nilFunc]⟩,
 some ⟨.other,1,[.nilFunc]⟩,
 some ⟨.other,1,[.nilFunc]⟩,
 some ⟨.other,1,[.nilFunc]⟩,
 some ⟨.other,1,[.nilFunc]⟩,
 some ⟨.other,1,[.nilFunc]⟩,
 some ⟨.slice 35 1 8,1,[.slice none 0 0]⟩,
 some ⟨.other,1,[.nilFunc]⟩,
 some ⟨.other,1,[.nilFunc]⟩,
 some ⟨.other,1,[.nilFunc]⟩,
 some ⟨.other,1,[.nilFunc]⟩,
 some ⟨.other,1,[.nilFunc]⟩,
 some ⟨.struct [(0,1,false),(1,1,false),(2,1,false)],3,[.slice none 0 0,.slice none 0 0,.slice none 0 0]⟩,
 some ⟨.struct [(0,1,false),(1,1,false),(2,1,false)],3,[.slice none 0 0,.slice none 0 0,.slice none 0 0]⟩,
 some ⟨.other,1,[.nilFunc]⟩,
 some ⟨.arr 64 5 1,64,[.int .u8 0,.int .u8 0,.int .u8 0,.int .u8 0,.int .u8 0,.int .u8 0,.int .u8 0,.int .u8 0,.int .u8 0,.int .u8 0,.int .u8 0,.int .u8 0,.int .u8 0,.int .u8 0,.int .u8 0,.int .u8 0,.int .u8 0,.int .u8 0,.int .u8 0,.int .u8 0,.int .u8 0,.int .u8 0,.int .u8 0,.int .u8 0,.int .u8 0,.int .u8 0,.int .u8 0,.int .u8 0,.int .u8 0,.int .u8 0,.int .u8 0,.int .u8 0,.int .u8 0,.int .u8 0,.int .u8 0,.int .u8 0,.int .u8 0,.int .u8 0,.int .u8 0,.int .u8 0,.int .u8 0,.int .u8 0,.int .u8 0,.int .u8 0,.int .u8 0,.int .u8 0,.int .u8 0,.int .u8 0,.int .u8 0,.int .u8 0,.int .u8 0,.int .u8 0,.int .u8 0,.int .u8 0,.int .u8 0,.int .u8 0,.int .u8 0,.int .u8 0,.int .u8 0,.int .u8 0,.int .u8 0,.int .u8 0,.int .u8 0,.int .u8 0]⟩,
 some ⟨.other,1,[.nilFunc]⟩,
 some ⟨.other,1,[.nilIface]⟩,
 some ⟨.other,1,[.nilIface]⟩,
 some ⟨.other,1,[.nilFunc]⟩,
 some ⟨.other,1,[.nilFunc]⟩,
 some ⟨.other,1,[.nilFunc]⟩,
 some ⟨.other,1,[.nilFunc]⟩,
 some ⟨.other,1,[.nilFunc]⟩,
 some ⟨.other,1,[.nilFunc]⟩,
 some ⟨.slice 376 2 16,1,[.slice none 0 0]⟩,
 some ⟨.struct [(0,1,false),(1,1,false)],2,[.int .i64 0,.int .i64 0]⟩,
 some ⟨.struct [(0,1,false),(1,1,false)],2,[.int .i64 0,.int .i64 0]⟩,
 some ⟨.other,1,[.pointer none]⟩,
 some ⟨.other,1,[.nilFunc]⟩,
 some ⟨.other,1,[.nilFunc]⟩,
 some ⟨.other,1,[.nilFunc]⟩,
 some ⟨.other,1,[.nilFunc]⟩,
 some ⟨.other,1,[.nilFunc]⟩,
 some ⟨.other,1,[.nilFunc]⟩,
 some ⟨.other,1,[.nilFunc]⟩,
 some ⟨.other,1,[.nilFunc]⟩,
 some ⟨.int .i64,1,[.int .i64 0]⟩,
 none,
 some ⟨.other,1,[.nilFunc]⟩,
 some ⟨.other,1,[.nilFunc]⟩,
 some ⟨.other,1,[.nilFunc]⟩,
 some ⟨.other,1,[.nilFunc]⟩,
 some ⟨.other,1,[.nilFunc]⟩,
 some ⟨.int .u32,1,[.int .u32 0]⟩,
 some ⟨.other,1,[.nilFunc]⟩,
 some ⟨.int .u64,1,[.int .u64 0]⟩,
 some ⟨.other,1,[.nilFunc]⟩,
 some ⟨.other,1,[.nilFunc]⟩,
 some ⟨.other,1,[.nilFunc]⟩,
 some ⟨.other,1,[.pointer none]⟩,
 some ⟨.other,1,[.nilFunc]⟩,
 some ⟨.other,1,[.pointer none]⟩,
 none,
 some ⟨.other,1,[.nilFunc]⟩,
 some ⟨.struct [(0,1,false),(1,1,false),(2,1,false),(3,1,false)],4,[.pointer none,.pointer none,.pointer none,.string ⟨#[]⟩]⟩,
 some ⟨.struct [(0,1,false),(1,1,false),(2,1,false),(3,1,false)],4,[.pointer none,.pointer none,.pointer none,.string ⟨#[]⟩]⟩,
 none,
 none,
 none,
 some ⟨.int .u8,1,[.int .u8 0]⟩,
 some ⟨.int .u8,1,[.int .u8 0]⟩,
 some ⟨.other,1,[.nilFunc]⟩,
 some ⟨.other,1,[.pointer none]⟩,
 some ⟨.int .i32,1,[.int .i32 0]⟩,
 some ⟨.int .i32,1,[.int .i32 0]⟩,
 some ⟨.struct [(0,1,false),(1,1,false),(2,1,false),(3,1,false),(4,1,false),(5,1,false),(6,1,false),(7,1,false),(8,1,false),(9,1,false),(10,1,false)],11,[.int .u64 0,.int .u64 0,.int .u32 0,.int .u8 0,.int .u8 0,.int .u8 0,.int .u8 0,.nilFunc,.pointer none,.int .i32 0,.int .i32 0]⟩,
 some ⟨.struct [(0,1,false),(1,1,false),(2,1,false),(3,1,false),(4,1,false),(5,1,false),(6,1,false),(7,1,false),(8,1,false),(9,1,false),(10,1,false)],11,[.int .u64 0,.int .u64 0,.int .u32 0,.int .u8 0,.int .u8 0,.int .u8 0,.int .u8 0,.nilFunc,.pointer none,.int .i32 0,.int .i32 0]⟩,
 none]
theorem a5:eu Tryz.prog tt:=Iw (by kernel_rfl)
theorem Lh {P:Program} {f:FuncId} {fn:Func} {c:Code} (hf:P.funcs[f]?=some fn) (hn:(fn.name== "runtime.NumGoroutine")=false:=by kernel_rfl) (hb:fn.body=some c:=by rfl):bD P f:=⟨ak hf hn hb⟩
instance:bD Tryz.prog 13:=Lh Tryz.func13
instance:bD Tryz.prog 14:=Lh Tryz.func14
instance:bD Tryz.prog 15:=Lh Tryz.func15
instance:bD Tryz.prog 16:=Lh Tryz.func16
instance:bD Tryz.prog 17:=Lh Tryz.func17
instance:bD Tryz.prog 18:=Lh Tryz.func18
instance:bD Tryz.prog 22:=Lh Tryz.func22
instance:bD Tryz.prog 25:=Lh Tryz.func25
instance:bD Tryz.prog 28:=Lh Tryz.func28
instance:bD Tryz.prog 29:=Lh Tryz.func29
instance:bD Tryz.prog 30:=Lh Tryz.func30
instance:bD Tryz.prog 32:=Lh Tryz.func32
instance:bD Tryz.prog 33:=Lh Tryz.func33
instance:bD Tryz.prog 34:=Lh Tryz.func34
instance:bD Tryz.prog 35:=Lh Tryz.func35
instance:bD Tryz.prog 36:=Lh Tryz.func36
instance:bD Tryz.prog 37:=Lh Tryz.func37
instance:bD Tryz.prog 38:=Lh Tryz.func38
instance:bD Tryz.prog 41:=Lh Tryz.func41
instance:bD Tryz.prog 42:=Lh Tryz.func42
instance:bD Tryz.prog 43:=Lh Tryz.func43
instance:bD Tryz.prog 44:=Lh Tryz.func44
instance:bD Tryz.prog 45:=Lh Tryz.func45
instance:bD Tryz.prog 46:=Lh Tryz.func46
instance:bD Tryz.prog 47:=Lh Tryz.func47
instance:bD Tryz.prog 48:=Lh Tryz.func48
instance:bD Tryz.prog 49:=Lh Tryz.func49
instance:bD Tryz.prog 50:=Lh Tryz.func50
instance:bD Tryz.prog 51:=Lh Tryz.func51
instance:bD Tryz.prog 52:=Lh Tryz.func52
instance:bD Tryz.prog 53:=Lh Tryz.func53
instance:bD Tryz.prog 54:=Lh Tryz.func54
instance:bD Tryz.prog 55:=Lh Tryz.func55
instance:bD Tryz.prog 56:=Lh Tryz.func56
instance:bD Tryz.prog 57:=Lh Tryz.func57
instance:bD Tryz.prog 58:=Lh Tryz.func58
instance:bD Tryz.prog 59:=Lh Tryz.func59
instance:bD Tryz.prog 60:=Lh Tryz.func60
instance:bD Tryz.prog 61:=Lh Tryz.func61
instance:bD Tryz.prog 62:=Lh Tryz.func62
instance:bD Tryz.prog 63:=Lh Tryz.func63
instance:bD Tryz.prog 64:=Lh Tryz.func64
instance:bD Tryz.prog 65:=Lh Tryz.func65
instance:bD Tryz.prog 66:=Lh Tryz.func66
instance:bD Tryz.prog 67:=Lh Tryz.func67
instance:bD Tryz.prog 68:=Lh Tryz.func68
instance:bD Tryz.prog 69:=Lh Tryz.func69
instance:bD Tryz.prog 70:=Lh Tryz.func70
instance:bD Tryz.prog 71:=Lh Tryz.func71
instance:bD Tryz.prog 72:=Lh Tryz.func72
instance:bD Tryz.prog 73:=Lh Tryz.func73
instance:bD Tryz.prog 74:=Lh Tryz.func74
instance:bD Tryz.prog 75:=Lh Tryz.func75
instance:bD Tryz.prog 76:=Lh Tryz.func76
instance:bD Tryz.prog 77:=Lh Tryz.func77
instance:bD Tryz.prog 78:=Lh Tryz.func78
instance:bD Tryz.prog 79:=Lh Tryz.func79
instance:bD Tryz.prog 89:=Lh Tryz.func89
instance:bD Tryz.prog 90:=Lh Tryz.func90
instance:bD Tryz.prog 91:=Lh Tryz.func91
instance:bD Tryz.prog 92:=Lh Tryz.func92
instance:bD Tryz.prog 93:=Lh Tryz.func93
instance:bD Tryz.prog 94:=Lh Tryz.func94
instance:bD Tryz.prog 95:=Lh Tryz.func95
instance:bD Tryz.prog 96:=Lh Tryz.func96
instance:bD Tryz.prog 97:=Lh Tryz.func97
instance:bD Tryz.prog 98:=Lh Tryz.func98
instance:bD Tryz.prog 99:=Lh Tryz.func99
instance:bD Tryz.prog 100:=Lh Tryz.func100
instance:bD Tryz.prog 101:=Lh Tryz.func101
instance:bD Tryz.prog 102:=Lh Tryz.func102
instance:bD Tryz.prog 103:=Lh Tryz.func103
instance:bD Tryz.prog 111:=Lh Tryz.func111
instance:bD Tryz.prog 112:=Lh Tryz.func112
instance:bD Tryz.prog 113:=Lh Tryz.func113
instance:bD Tryz.prog 114:=Lh Tryz.func114
instance:bD Tryz.prog 115:=Lh Tryz.func115
instance:bD Tryz.prog 116:=Lh Tryz.func116
instance:bD Tryz.prog 117:=Lh Tryz.func117
instance:bD Tryz.prog 118:=Lh Tryz.func118
instance:bD Tryz.prog 119:=Lh Tryz.func119
instance:bD Tryz.prog 120:=Lh Tryz.func120
instance:bD Tryz.prog 121:=Lh Tryz.func121
instance:bD Tryz.prog 122:=Lh Tryz.func122
instance:bD Tryz.prog 123:=Lh Tryz.func123
instance:bD Tryz.prog 124:=Lh Tryz.func124
instance:bD Tryz.prog 125:=Lh Tryz.func125
instance:bD Tryz.prog 126:=Lh Tryz.func126
instance:bD Tryz.prog 127:=Lh Tryz.func127
instance:bD Tryz.prog 128:=Lh Tryz.func128
instance:bD Tryz.prog 129:=Lh Tryz.func129
instance:bD Tryz.prog 130:=Lh Tryz.func130
instance:bD Tryz.prog 131:=Lh Tryz.func131
instance:bD Tryz.prog 132:=Lh Tryz.func132
instance:bD Tryz.prog 133:=Lh Tryz.func133
instance:bD Tryz.prog 134:=Lh Tryz.func134
instance:bD Tryz.prog 135:=Lh Tryz.func135
instance:bD Tryz.prog 136:=Lh Tryz.func136
instance:bD Tryz.prog 137:=Lh Tryz.func137
instance:bD Tryz.prog 138:=Lh Tryz.func138
instance:bD Tryz.prog 139:=Lh Tryz.func139
instance:bD Tryz.prog 140:=Lh Tryz.func140
instance:bD Tryz.prog 141:=Lh Tryz.func141
instance:bD Tryz.prog 142:=Lh Tryz.func142
instance:bD Tryz.prog 143:=Lh Tryz.func143
instance:bD Tryz.prog 144:=Lh Tryz.func144
instance:bD Tryz.prog 145:=Lh Tryz.func145
instance:bD Tryz.prog 146:=Lh Tryz.func146
instance:bD Tryz.prog 147:=Lh Tryz.func147
instance:bD Tryz.prog 148:=Lh Tryz.func148
instance:bD Tryz.prog 149:=Lh Tryz.func149
instance:bD Tryz.prog 150:=Lh Tryz.func150
instance:bD Tryz.prog 151:=Lh Tryz.func151
instance:bD Tryz.prog 152:=Lh Tryz.func152
instance:bD Tryz.prog 153:=Lh Tryz.func153
instance:bD Tryz.prog 154:=Lh Tryz.func154
instance:bD Tryz.prog 155:=Lh Tryz.func155
instance:bD Tryz.prog 174:=Lh Tryz.func174
instance:bD Tryz.prog 175:=Lh Tryz.func175
instance:bD Tryz.prog 176:=Lh Tryz.func176
instance:bD Tryz.prog 177:=Lh Tryz.func177
instance:bD Tryz.prog 178:=Lh Tryz.func178
instance:bD Tryz.prog 179:=Lh Tryz.func179
instance:bD Tryz.prog 180:=Lh Tryz.func180
instance:bD Tryz.prog 181:=Lh Tryz.func181
instance:bD Tryz.prog 182:=Lh Tryz.func182
instance:bD Tryz.prog 183:=Lh Tryz.func183
instance:bD Tryz.prog 184:=Lh Tryz.func184
instance:bD Tryz.prog 185:=Lh Tryz.func185
instance:bD Tryz.prog 186:=Lh Tryz.func186
instance:bD Tryz.prog 187:=Lh Tryz.func187
instance:bD Tryz.prog 188:=Lh Tryz.func188
instance:bD Tryz.prog 189:=Lh Tryz.func189
instance:bD Tryz.prog 190:=Lh Tryz.func190
instance:bD Tryz.prog 191:=Lh Tryz.func191
instance:bD Tryz.prog 192:=Lh Tryz.func192
instance:bD Tryz.prog 193:=Lh Tryz.func193
instance:bD Tryz.prog 197:=Lh Tryz.func197
instance:bD Tryz.prog 198:=Lh Tryz.func198
instance:bD Tryz.prog 199:=Lh Tryz.func199
instance:bD Tryz.prog 200:=Lh Tryz.func200
instance:bD Tryz.prog 201:=Lh Tryz.func201
instance:bD Tryz.prog 202:=Lh Tryz.func202
instance:bD Tryz.prog 203:=Lh Tryz.func203
instance:bD Tryz.prog 204:=Lh Tryz.func204
instance:bD Tryz.prog 205:=Lh Tryz.func205
instance:bD Tryz.prog 206:=Lh Tryz.func206
instance:bD Tryz.prog 207:=Lh Tryz.func207
instance:bD Tryz.prog 208:=Lh Tryz.func208
instance:bD Tryz.prog 209:=Lh Tryz.func209
instance:bD Tryz.prog 210:=Lh Tryz.func210
instance:bD Tryz.prog 211:=Lh Tryz.func211
instance:bD Tryz.prog 212:=Lh Tryz.func212
instance:bD Tryz.prog 213:=Lh Tryz.func213
instance:bD Tryz.prog 214:=Lh Tryz.func214
instance:bD Tryz.prog 215:=Lh Tryz.func215
instance:bD Tryz.prog 216:=Lh Tryz.func216
instance:bD Tryz.prog 217:=Lh Tryz.func217
instance:bD Tryz.prog 218:=Lh Tryz.func218
instance:bD Tryz.prog 219:=Lh Tryz.func219
instance:bD Tryz.prog 220:=Lh Tryz.func220
instance:bD Tryz.prog 221:=Lh Tryz.func221
instance:bD Tryz.prog 222:=Lh Tryz.func222
instance:bD Tryz.prog 223:=Lh Tryz.func223
instance:bD Tryz.prog 224:=Lh Tryz.func224
instance:bD Tryz.prog 225:=Lh Tryz.func225
instance:bD Tryz.prog 226:=Lh Tryz.func226
instance:bD Tryz.prog 227:=Lh Tryz.func227
instance:bD Tryz.prog 228:=Lh Tryz.func228
instance:bD Tryz.prog 251:=Lh Tryz.func251
instance:bD Tryz.prog 252:=Lh Tryz.func252
instance:bD Tryz.prog 253:=Lh Tryz.func253
instance:bD Tryz.prog 255:=Lh Tryz.func255
instance:bD Tryz.prog 256:=Lh Tryz.func256
instance:bD Tryz.prog 257:=Lh Tryz.func257
instance:bD Tryz.prog 258:=Lh Tryz.func258
instance:bD Tryz.prog 259:=Lh Tryz.func259
instance:bD Tryz.prog 260:=Lh Tryz.func260
instance:bD Tryz.prog 261:=Lh Tryz.func261
instance:bD Tryz.prog 263:=Lh Tryz.func263
instance:bD Tryz.prog 264:=Lh Tryz.func264
instance:bD Tryz.prog 265:=Lh Tryz.func265
instance:bD Tryz.prog 266:=Lh Tryz.func266
instance:bD Tryz.prog 267:=Lh Tryz.func267
instance:bD Tryz.prog 271:=Lh Tryz.func271
instance:bD Tryz.prog 272:=Lh Tryz.func272
instance:bD Tryz.prog 273:=Lh Tryz.func273
instance:bD Tryz.prog 285:=Lh Tryz.func285
instance:bD Tryz.prog 286:=Lh Tryz.func286
instance:bD Tryz.prog 287:=Lh Tryz.func287
instance:bD Tryz.prog 288:=Lh Tryz.func288
instance:bD Tryz.prog 289:=Lh Tryz.func289
instance:bD Tryz.prog 290:=Lh Tryz.func290
instance:bD Tryz.prog 301:=Lh Tryz.func301
instance:bD Tryz.prog 302:=Lh Tryz.func302
theorem W01 {A B:Prop} (k:B) (h:W00 B→A:=by intro k;(repeat' (first|refine a9 ?_|refine a4 ?_|refine a6 ?_|refine a7 ?_|refine LG a5 KZ ?_));exact k.g):A:=h ⟨k⟩
theorem W02 {A B:Prop} (k:B) (h:W00 B→A:=by intro k;(repeat' (first|refine a9 ?_|refine a4 ?_|refine am ?_|refine aP ?_|refine a6 ?_|refine aq ?_|refine ay ?_|refine au ?_|refine a7 ?_|refine LG a5 KZ ?_));exact k.g):A:=h ⟨k⟩
theorem W03 {A B:Prop} (k:B) (h:W00 B→A:=by intro k;(repeat' (first|refine a9 ?_|refine a4 ?_|refine ai ?_|refine aj ?_|refine a6 ?_|refine a7 ?_|refine LG a5 KZ ?_|(apply aL;first|refine aJ a5 ?_|refine aF a5 ?_)|(apply aM;first|refine LI 7 a5 0 LF ?_|refine LI 7 a5 1 LF ?_|refine LI 7 a5 2 LF ?_|refine LH a5 0 LE ?_|refine LH a5 1 LE ?_|refine LH a5 2 LE ?_|refine LH a5 3 LE ?_|fail)|refine bf a5 fun b'z=>?_|fail));(repeat revert b'z);exact k.g):A:=h ⟨k⟩
theorem W04 {A B:Prop} (k:B) (h:W00 B→A:=by intro k;(repeat' (first|refine a9 ?_|refine a4 ?_|refine ai ?_|refine a6 ?_|refine a7 ?_|refine LG a5 KZ ?_));exact k.g):A:=h ⟨k⟩
theorem W05 {A B:Prop} (k:B) (h:W00 B→A:=by intro k;(repeat' (first|refine a4 ?_|refine a6 ?_|refine aK ?_|refine a7 ?_|refine LG a5 KZ ?_|(apply aU;refine aT ?_)|fail));exact k.g):A:=h ⟨k⟩
theorem W06 {A B:Prop} (k:B) (h:W00 B→A:=by intro k;(repeat' (first|refine a4 ?_|refine aj ?_|refine a6 ?_|refine aK ?_|refine a7 ?_|refine LG a5 KZ ?_|(apply aU;refine aT ?_)|fail));exact k.g):A:=h ⟨k⟩
theorem W07 {A B:Prop} (k:B) (h:W00 B→A:=by intro k;(repeat' (first|refine a9 ?_|refine a4 ?_|refine am ?_|refine a6 ?_|refine aB ?_|refine a7 ?_|refine LG a5 KZ ?_));exact k.g):A:=h ⟨k⟩
theorem W08 {A B:Prop} (k:B) (h:W00 B→A:=by intro k;(repeat' (first|refine a9 ?_|refine a4 ?_|refine ai ?_|refine aj ?_|refine a6 ?_|refine a7 ?_|refine LG a5 KZ ?_|(apply aL;first|refine aJ a5 ?_|refine aF a5 ?_)|fail));exact k.g):A:=h ⟨k⟩
theorem W09 {A B:Prop} (k:B) (h:W00 B→A:=by intro k;(repeat' (first|refine a9 ?_|refine a4 ?_|refine am ?_|refine a6 ?_|refine aB ?_|refine aV ?_|refine bK ?_|refine a7 ?_|refine LG a5 KZ ?_));exact k.g):A:=h ⟨k⟩
theorem W0a {A B:Prop} (k:B) (h:W00 B→A:=by intro k;(repeat' (first|refine aD ?_|refine b6 a5 ?_|fail));exact k.g):A:=h ⟨k⟩
theorem W0b {A B:Prop} (k:B) (h:W00 B→A:=by intro k;(repeat' (first|refine a9 ?_|refine a4 ?_|refine a6 ?_|refine a7 ?_|refine LG a5 KZ ?_|refine bk ?_|fail));exact k.g):A:=h ⟨k⟩
theorem W0c {A B:Prop} (k:B) (h:W00 B→A:=by intro k;(repeat' (first|refine am ?_|refine a6 ?_|refine a7 ?_|refine LG a5 KZ ?_));exact k.g):A:=h ⟨k⟩
theorem W0d {A B:Prop} (k:B) (h:W00 B→A:=by intro k;(repeat' (first|refine a9 ?_|refine a4 ?_|refine a6 ?_|refine a7 ?_|refine LG a5 KZ ?_|(apply bq;first|refine LJ a5 0 LC ?_|refine LJ a5 1 LC ?_|refine LJ a5 2 LC ?_|refine LJ a5 3 LC ?_|refine LK a5 0 LC ?_|refine LK a5 1 LC ?_|refine LK a5 2 LC ?_|refine LL a5 1 LA (by assumption) rfl ?_|refine LL a5 0 LA (by assumption) rfl ?_|fail)|fail));exact k.g):A:=h ⟨k⟩
theorem W0e {A B:Prop} (k:B) (h:W00 B→A:=by intro k;(repeat' (first|refine a9 ?_|refine a4 ?_|refine aj ?_|refine a6 ?_|refine LG a5 KZ ?_));exact k.g):A:=h ⟨k⟩
theorem W0f {A B:Prop} (k:B) (h:W00 B→A:=by intro k;(repeat' (first|refine a9 ?_|refine a4 ?_|refine am ?_|refine a6 ?_|refine aB ?_|refine aV ?_|refine a7 ?_|refine LG a5 KZ ?_));exact k.g):A:=h ⟨k⟩
theorem W0g {A B:Prop} (k:B) (h:W00 B→A:=by intro k;(repeat' (first|refine a4 ?_|refine a6 ?_|refine aK ?_|refine a7 ?_|refine LG a5 KZ ?_|(apply aU;refine aT ?_)|(apply aM;first|refine LH a5 0 LE ?_|refine LH a5 1 LE ?_|refine LH a5 2 LE ?_|refine LH a5 3 LE ?_|fail)));exact k.g):A:=h ⟨k⟩
theorem W0h {A B:Prop} (k:B) (h:W00 B→A:=by intro k;(repeat' (first|refine a9 ?_|refine a4 ?_|refine am ?_|refine a6 ?_|refine a7 ?_|refine LG a5 KZ ?_|refine bk ?_|fail));exact k.g):A:=h ⟨k⟩
theorem W0i {A B:Prop} (k:B) (h:W00 B→A:=by intro k;(repeat' (first|refine a4 ?_|refine a6 ?_|refine aK ?_|refine a7 ?_|refine LG a5 KZ ?_|(apply aU;refine aT ?_)|(apply aM;first|refine LI 8 a5 0 LF ?_|refine LI 8 a5 1 LF ?_|refine LI 8 a5 2 LF ?_|refine LI 10 a5 0 LF ?_|refine LI 10 a5 1 LF ?_|refine LI 10 a5 2 LF ?_|refine LI 13 a5 0 LF ?_|refine LI 13 a5 1 LF ?_|refine LI 13 a5 2 LF ?_|refine LI 15 a5 0 LF ?_|refine LI 15 a5 1 LF ?_|refine LI 15 a5 2 LF ?_|refine LH a5 0 LE ?_|refine LH a5 1 LE ?_|refine LH a5 2 LE ?_|refine LH a5 3 LE ?_|fail)));exact k.g):A:=h ⟨k⟩
theorem W0j {A B:Prop} (k:B) (h:W00 B→A:=by intro k;(repeat' (first|refine a4 ?_|refine a6 ?_|refine aK ?_|refine a7 ?_|refine LG a5 KZ ?_|(apply aU;refine aT ?_)|(apply aM;first|refine LI 6 a5 0 LF ?_|refine LI 6 a5 1 LF ?_|refine LI 6 a5 2 LF ?_|refine LH a5 0 LE ?_|refine LH a5 1 LE ?_|refine LH a5 2 LE ?_|refine LH a5 3 LE ?_|fail)));exact k.g):A:=h ⟨k⟩
theorem W0k {A B:Prop} (k:B) (h:W00 B→A:=by intro k;(repeat' (first|refine a9 ?_|refine a4 ?_|refine LG a5 KZ ?_));exact k.g):A:=h ⟨k⟩
theorem W0l {A B:Prop} (k:B) (h:W00 B→A:=by intro k;(repeat' (first|refine a9 ?_|refine a4 ?_|refine am ?_|refine a6 ?_|refine a7 ?_|refine LG a5 KZ ?_|(apply bw;refine bn ?_)|fail));exact k.g):A:=h ⟨k⟩
theorem W0m {A B:Prop} (k:B) (h:W00 B→A:=by intro k;(repeat' (first|refine a9 ?_|refine a4 ?_|refine ai ?_|refine aj ?_|refine a6 ?_|refine a7 ?_|refine LG a5 KZ ?_|(apply aL;first|refine aJ a5 ?_|refine aF a5 ?_)|(apply aM;first|refine LI 8 a5 0 LF ?_|refine LI 8 a5 1 LF ?_|refine LI 8 a5 2 LF ?_|refine LI 10 a5 0 LF ?_|refine LI 10 a5 1 LF ?_|refine LI 10 a5 2 LF ?_|refine LI 13 a5 0 LF ?_|refine LI 13 a5 1 LF ?_|refine LI 13 a5 2 LF ?_|refine LI 15 a5 0 LF ?_|refine LI 15 a5 1 LF ?_|refine LI 15 a5 2 LF ?_|refine LH a5 0 LE ?_|refine LH a5 1 LE ?_|refine LH a5 2 LE ?_|refine LH a5 3 LE ?_|fail)|refine bf a5 fun b'z=>?_|fail));(repeat revert b'z);exact k.g):A:=h ⟨k⟩
theorem W0n {A B:Prop} (k:B) (h:W00 B→A:=by intro k;(repeat' (first|refine a9 ?_|refine a4 ?_|refine ai ?_|refine aj ?_|refine a6 ?_|refine aK ?_|refine a7 ?_|refine LG a5 KZ ?_|(apply bq;first|refine LJ a5 0 LC ?_|refine LJ a5 1 LC ?_|refine LJ a5 2 LC ?_|refine LJ a5 3 LC ?_|refine LK a5 0 LC ?_|refine LK a5 1 LC ?_|refine LK a5 2 LC ?_|refine LL a5 1 LA (by assumption) rfl ?_|refine LL a5 0 LA (by assumption) rfl ?_|fail)|(apply aU;refine aT ?_)|(apply aL;first|refine aJ a5 ?_|refine aF a5 ?_)|(apply aM;first|refine LI 8 a5 0 LF ?_|refine LI 8 a5 1 LF ?_|refine LI 8 a5 2 LF ?_|refine LI 10 a5 0 LF ?_|refine LI 10 a5 1 LF ?_|refine LI 10 a5 2 LF ?_|refine LI 13 a5 0 LF ?_|refine LI 13 a5 1 LF ?_|refine LI 13 a5 2 LF ?_|refine LI 15 a5 0 LF ?_|refine LI 15 a5 1 LF ?_|refine LI 15 a5 2 LF ?_|refine LH a5 0 LE ?_|refine LH a5 1 LE ?_|refine LH a5 2 LE ?_|refine LH a5 3 LE ?_|fail)|refine bf a5 fun b'z=>?_|fail));(repeat revert b'z);exact k.g):A:=h ⟨k⟩
theorem W0o {A B:Prop} (k:B) (h:W00 B→A:=by intro k;(repeat' (first|refine a9 ?_|refine a4 ?_|refine LG a5 KZ ?_|(apply bq;first|refine LJ a5 0 LC ?_|refine LJ a5 1 LC ?_|refine LJ a5 2 LC ?_|refine LJ a5 3 LC ?_|refine LK a5 0 LC ?_|refine LK a5 1 LC ?_|refine LK a5 2 LC ?_|refine LL a5 1 LA (by assumption) rfl ?_|refine LL a5 0 LA (by assumption) rfl ?_|fail)|fail));exact k.g):A:=h ⟨k⟩
theorem W0p {A B:Prop} (k:B) (h:W00 B→A:=by intro k;(repeat' (first|refine a9 ?_|refine a4 ?_|refine a6 ?_|refine a7 ?_|refine LG a5 KZ ?_|(apply aM;first|refine LH a5 0 LE ?_|refine LH a5 1 LE ?_|refine LH a5 2 LE ?_|refine LH a5 3 LE ?_|fail)));exact k.g):A:=h ⟨k⟩
theorem W0q {A B:Prop} (k:B) (h:W00 B→A:=by intro k;(repeat' (first|refine a9 ?_|refine a4 ?_|refine am ?_|refine a6 ?_|refine aB ?_|refine a7 ?_|refine LG a5 KZ ?_|(apply bq;first|refine LJ a5 0 LC ?_|refine LJ a5 1 LC ?_|refine LJ a5 2 LC ?_|refine LJ a5 3 LC ?_|refine LK a5 0 LC ?_|refine LK a5 1 LC ?_|refine LK a5 2 LC ?_|refine LL a5 1 LA (by assumption) rfl ?_|refine LL a5 0 LA (by assumption) rfl ?_|fail)|fail));exact k.g):A:=h ⟨k⟩
theorem W0r {A B:Prop} (k:B) (h:W00 B→A:=by intro k;(repeat' (first|refine a6 ?_|refine a7 ?_|refine LG a5 KZ ?_));exact k.g):A:=h ⟨k⟩
theorem W0s {A B:Prop} (k:B) (h:W00 B→A:=by intro k;(repeat' (first|refine a9 ?_|refine a4 ?_|refine am ?_|refine a6 ?_|refine a7 ?_|refine LG a5 KZ ?_|(apply bq;first|refine LJ a5 0 LC ?_|refine LJ a5 1 LC ?_|refine LJ a5 2 LC ?_|refine LJ a5 3 LC ?_|refine LK a5 0 LC ?_|refine LK a5 1 LC ?_|refine LK a5 2 LC ?_|refine LL a5 1 LA (by assumption) rfl ?_|refine LL a5 0 LA (by assumption) rfl ?_|fail)|fail));exact k.g):A:=h ⟨k⟩
theorem W0t {A B:Prop} (k:B) (h:W00 B→A:=by intro k;(repeat' (first|refine aD ?_|refine b6 a5 ?_|refine cf a5 0 rfl rfl rfl rfl (by first|trivial|rfl) ?_));exact k.g):A:=h ⟨k⟩
theorem W0u {A B:Prop} (k:B) (h:W00 B→A:=by intro k;(repeat' (first|refine a9 ?_|refine a4 ?_|refine am ?_|refine a6 ?_|refine a7 ?_|refine LG a5 KZ ?_));exact k.g):A:=h ⟨k⟩
theorem W0v {A B:Prop} (k:B) (h:W00 B→A:=by intro k;(repeat' (first|refine a9 ?_|refine a4 ?_|refine ai ?_|refine aj ?_|refine a6 ?_|refine LG a5 KZ ?_));exact k.g):A:=h ⟨k⟩
theorem W0w {A B:Prop} (k:B) (h:W00 B→A:=by intro k;(repeat' (first|refine a9 ?_|refine a4 ?_|refine ai ?_|refine aP ?_|refine a6 ?_|refine aq ?_|refine ay ?_|refine au ?_|refine a7 ?_|refine LG a5 KZ ?_));exact k.g):A:=h ⟨k⟩
theorem W0x {A B:Prop} (k:B) (h:W00 B→A:=by intro k;(repeat' (first|refine a9 ?_|refine a4 ?_|refine ai ?_|refine aj ?_|refine a6 ?_|refine a7 ?_|refine LG a5 KZ ?_));exact k.g):A:=h ⟨k⟩
theorem W0y {A B:Prop} (k:B) (h:W00 B→A:=by intro k;(repeat' (first|refine a4 ?_|refine aP ?_|refine a6 ?_|refine aq ?_|refine aK ?_|refine ay ?_|refine au ?_|refine a7 ?_|refine LG a5 KZ ?_|(apply aU;refine aT ?_)|fail));exact k.g):A:=h ⟨k⟩
theorem W0z {A B:Prop} (k:B) (h:W00 B→A:=by intro k;(repeat' (first|(apply aL;first|refine aJ a5 ?_|refine aF a5 ?_)|fail));exact k.g):A:=h ⟨k⟩
theorem W0A {A B:Prop} (k:B) (h:W00 B→A:=by intro k;(repeat' (first|refine a9 ?_|refine a4 ?_|refine ai ?_|refine aj ?_|refine a6 ?_|refine a7 ?_|refine LG a5 KZ ?_|(apply bq;first|refine LJ a5 0 LC ?_|refine LJ a5 1 LC ?_|refine LJ a5 2 LC ?_|refine LJ a5 3 LC ?_|refine LK a5 0 LC ?_|refine LK a5 1 LC ?_|refine LK a5 2 LC ?_|refine LL a5 1 LA (by assumption) rfl ?_|refine LL a5 0 LA (by assumption) rfl ?_|fail)|(apply aL;first|refine aJ a5 ?_|refine aF a5 ?_)|fail));exact k.g):A:=h ⟨k⟩
theorem W0B {A B:Prop} (k:B) (h:W00 B→A:=by intro k;(repeat' (first|refine a9 ?_|refine a4 ?_|refine aj ?_|refine a6 ?_|refine a7 ?_|refine LG a5 KZ ?_|(apply bq;first|refine LJ a5 0 LC ?_|refine LJ a5 1 LC ?_|refine LJ a5 2 LC ?_|refine LJ a5 3 LC ?_|refine LK a5 0 LC ?_|refine LK a5 1 LC ?_|refine LK a5 2 LC ?_|refine LL a5 1 LA (by assumption) rfl ?_|refine LL a5 0 LA (by assumption) rfl ?_|fail)|(apply aL;first|refine aJ a5 ?_|refine aF a5 ?_)|fail));exact k.g):A:=h ⟨k⟩
theorem W0C {A B:Prop} (k:B) (h:W00 B→A:=by intro k;(repeat' (first|refine a9 ?_|refine a4 ?_|refine a6 ?_|refine a7 ?_|refine LG a5 KZ ?_|(apply aM;first|refine LI 12 a5 0 LF ?_|refine LI 12 a5 1 LF ?_|refine LI 12 a5 2 LF ?_|refine LH a5 0 LE ?_|refine LH a5 1 LE ?_|refine LH a5 2 LE ?_|refine LH a5 3 LE ?_|fail)|refine bf a5 fun b'z=>?_|fail));(repeat revert b'z);exact k.g):A:=h ⟨k⟩
theorem W0D {A B:Prop} (k:B) (h:W00 B→A:=by intro k;(repeat' (first|refine a9 ?_|refine a4 ?_|refine LG a5 KZ ?_|(apply bq;first|refine LJ a5 0 LC ?_|refine LJ a5 1 LC ?_|refine LJ a5 2 LC ?_|refine LJ a5 3 LC ?_|refine LK a5 0 LC ?_|refine LK a5 1 LC ?_|refine LK a5 2 LC ?_|refine LL a5 1 LA (by assumption) rfl ?_|refine LL a5 0 LA (by assumption) rfl ?_|fail)|(apply aL;first|refine aJ a5 ?_|refine aF a5 ?_)|fail));exact k.g):A:=h ⟨k⟩
theorem W0E {A B:Prop} (k:B) (h:W00 B→A:=by intro k;(repeat' (first|refine a9 ?_|refine a4 ?_|refine aj ?_|refine am ?_|refine a6 ?_|refine aB ?_|refine aV ?_|refine a7 ?_|refine LG a5 KZ ?_|refine bR rfl ?_));exact k.g):A:=h ⟨k⟩
theorem W0F {A B:Prop} (k:B) (h:W00 B→A:=by intro k;(repeat' (first|refine a9 ?_|refine a4 ?_|refine aj ?_|refine a6 ?_|refine a7 ?_|refine LG a5 KZ ?_|(apply aM;first|refine LI 8 a5 0 LF ?_|refine LI 8 a5 1 LF ?_|refine LI 8 a5 2 LF ?_|refine LI 10 a5 0 LF ?_|refine LI 10 a5 1 LF ?_|refine LI 10 a5 2 LF ?_|refine LI 13 a5 0 LF ?_|refine LI 13 a5 1 LF ?_|refine LI 13 a5 2 LF ?_|refine LI 15 a5 0 LF ?_|refine LI 15 a5 1 LF ?_|refine LI 15 a5 2 LF ?_|refine LH a5 0 LE ?_|refine LH a5 1 LE ?_|refine LH a5 2 LE ?_|refine LH a5 3 LE ?_|fail)|refine bf a5 fun b'z=>?_|refine bB rfl ?_));(repeat revert b'z);exact k.g):A:=h ⟨k⟩
theorem W0G {A B:Prop} (k:B) (h:W00 B→A:=by intro k;(repeat' (first|refine a9 ?_|refine a4 ?_|refine aj ?_|refine a6 ?_|refine a7 ?_|refine LG a5 KZ ?_|refine bB rfl ?_));exact k.g):A:=h ⟨k⟩
theorem W0H {A B:Prop} (k:B) (h:W00 B→A:=by intro k;(repeat' (first|refine a9 ?_|refine a4 ?_|refine am ?_|refine aP ?_|refine a6 ?_|refine aq ?_|refine aK ?_|refine ay ?_|refine au ?_|refine a7 ?_|(apply bq;first|refine LJ a5 0 LC ?_|refine LJ a5 1 LC ?_|refine LJ a5 2 LC ?_|refine LJ a5 3 LC ?_|refine LK a5 0 LC ?_|refine LK a5 1 LC ?_|refine LK a5 2 LC ?_|refine LL a5 1 LA (by assumption) rfl ?_|refine LL a5 0 LA (by assumption) rfl ?_|fail)|(apply aM;first|refine LH a5 0 LE ?_|refine LH a5 1 LE ?_|refine LH a5 2 LE ?_|refine LH a5 3 LE ?_|fail)));exact k.g):A:=h ⟨k⟩
theorem W0I {A B:Prop} (k:B) (h:W00 B→A:=by intro k;(repeat' (first|refine a4 ?_|refine a6 ?_|refine aK ?_|refine a7 ?_|refine LG a5 KZ ?_|(apply aU;refine aT ?_)|(apply aM;first|refine LI 5 a5 0 LF ?_|refine LI 5 a5 1 LF ?_|refine LI 5 a5 2 LF ?_|refine LI 6 a5 0 LF ?_|refine LI 6 a5 1 LF ?_|refine LI 6 a5 2 LF ?_|refine LI 9 a5 0 LF ?_|refine LI 9 a5 1 LF ?_|refine LI 9 a5 2 LF ?_|refine LI 10 a5 0 LF ?_|refine LI 10 a5 1 LF ?_|refine LI 10 a5 2 LF ?_|refine LH a5 0 LE ?_|refine LH a5 1 LE ?_|refine LH a5 2 LE ?_|refine LH a5 3 LE ?_|fail)));exact k.g):A:=h ⟨k⟩
theorem W0J {A B:Prop} (k:B) (h:W00 B→A:=by intro k;(repeat' (first|refine a9 ?_|refine a4 ?_|refine am ?_|refine aP ?_|refine a6 ?_|refine aq ?_|refine ay ?_|refine au ?_|refine a7 ?_|(apply bq;first|refine LJ a5 0 LC ?_|refine LJ a5 1 LC ?_|refine LJ a5 2 LC ?_|refine LJ a5 3 LC ?_|refine LK a5 0 LC ?_|refine LK a5 1 LC ?_|refine LK a5 2 LC ?_|refine LL a5 1 LA (by assumption) rfl ?_|refine LL a5 0 LA (by assumption) rfl ?_|fail)|(apply aM;first|refine LH a5 0 LE ?_|refine LH a5 1 LE ?_|refine LH a5 2 LE ?_|refine LH a5 3 LE ?_|fail)));exact k.g):A:=h ⟨k⟩
theorem W0L {A B:Prop} (k:B) (h:W00 B→A:=by intro k;(repeat' (first|refine a9 ?_|refine a4 ?_|refine a6 ?_|refine a7 ?_|refine LG a5 KZ ?_|(apply aU;refine aT ?_)|fail));exact k.g):A:=h ⟨k⟩
theorem W0M {A B:Prop} (k:B) (h:W00 B→A:=by intro k;(repeat' (first|refine a7 ?_|refine LG a5 KZ ?_|(apply aM;first|refine LH a5 0 LE ?_|refine LH a5 1 LE ?_|refine LH a5 2 LE ?_|refine LH a5 3 LE ?_|fail)));exact k.g):A:=h ⟨k⟩
theorem W0N {A B:Prop} (k:B) (h:W00 B→A:=by intro k;(repeat' (first|refine a9 ?_|refine a4 ?_|refine ai ?_|refine aj ?_|refine a6 ?_|refine LG a5 KZ ?_|(apply aL;first|refine aJ a5 ?_|refine aF a5 ?_)|fail));exact k.g):A:=h ⟨k⟩
theorem W0O {A B:Prop} (k:B) (h:W00 B→A:=by intro k;(repeat' (first|refine a9 ?_|refine a4 ?_|refine ai ?_|refine a6 ?_|refine a7 ?_|refine LG a5 KZ ?_|(apply aL;first|refine aJ a5 ?_|refine aF a5 ?_)|refine bR rfl ?_|refine bB rfl ?_));exact k.g):A:=h ⟨k⟩
theorem W0P {A B:Prop} (k:B) (h:W00 B→A:=by intro k;(repeat' (first|refine a9 ?_|refine a4 ?_|refine am ?_|refine a6 ?_|refine aB ?_|refine a7 ?_|refine LG a5 KZ ?_|refine bR rfl ?_));exact k.g):A:=h ⟨k⟩
theorem W0Q {A B:Prop} (k:B) (h:W00 B→A:=by intro k;(repeat' (first|refine a9 ?_|refine a4 ?_|refine am ?_|refine a6 ?_|refine aB ?_|refine aV ?_|refine a7 ?_|refine LG a5 KZ ?_|refine bQ a5 ?_|fail));exact k.g):A:=h ⟨k⟩
theorem W0R {A B:Prop} (k:B) (h:W00 B→A:=by intro k;(repeat' (first|refine a9 ?_|refine a4 ?_|refine aP ?_|refine a6 ?_|refine aq ?_|refine ay ?_|refine au ?_|refine LG a5 KZ ?_));exact k.g):A:=h ⟨k⟩
theorem W0S {A B:Prop} (k:B) (h:W00 B→A:=by intro k;(repeat' (first|refine a9 ?_|refine a4 ?_|refine ai ?_|refine aj ?_|refine a6 ?_|refine a7 ?_|refine LG a5 KZ ?_|(apply aL;first|refine aJ a5 ?_|refine aF a5 ?_)|(apply aM;first|refine LI 9 a5 0 LF ?_|refine LI 9 a5 1 LF ?_|refine LI 9 a5 2 LF ?_|refine LI 10 a5 0 LF ?_|refine LI 10 a5 1 LF ?_|refine LI 10 a5 2 LF ?_|refine LH a5 0 LE ?_|refine LH a5 1 LE ?_|refine LH a5 2 LE ?_|refine LH a5 3 LE ?_|fail)|refine bf a5 fun b'z=>?_|fail));(repeat revert b'z);exact k.g):A:=h ⟨k⟩
theorem W0T {A B:Prop} (k:B) (h:W00 B→A:=by intro k;(repeat' (first|refine a9 ?_|refine a4 ?_|refine a6 ?_|refine a7 ?_|refine LG a5 KZ ?_|(apply aM;first|refine LI 4 a5 0 LF ?_|refine LI 4 a5 1 LF ?_|refine LI 4 a5 2 LF ?_|refine LI 5 a5 0 LF ?_|refine LI 5 a5 1 LF ?_|refine LI 5 a5 2 LF ?_|refine LI 6 a5 0 LF ?_|refine LI 6 a5 1 LF ?_|refine LI 6 a5 2 LF ?_|refine LH a5 0 LE ?_|refine LH a5 1 LE ?_|refine LH a5 2 LE ?_|refine LH a5 3 LE ?_|fail)|refine bf a5 fun b'z=>?_|fail));(repeat revert b'z);exact k.g):A:=h ⟨k⟩
theorem W0U {A B:Prop} (k:B) (h:W00 B→A:=by intro k;(repeat' (first|refine a9 ?_|refine a4 ?_|refine am ?_|refine aP ?_|refine a6 ?_|refine aq ?_|refine ay ?_|refine ez rfl ?_|refine au ?_|refine a7 ?_|refine LG a5 KZ ?_));exact k.g):A:=h ⟨k⟩
theorem W0V {A B:Prop} (k:B) (h:W00 B→A:=by intro k;(repeat' (first|refine a9 ?_|refine a4 ?_|refine ai ?_|refine a6 ?_|refine a7 ?_|refine LG a5 KZ ?_|refine bk ?_|fail));exact k.g):A:=h ⟨k⟩
theorem W0W {A B:Prop} (k:B) (h:W00 B→A:=by intro k;(repeat' (first|refine aD ?_|refine b6 a5 ?_|(apply dQ;refine eT ?_)|fail));exact k.g):A:=h ⟨k⟩
theorem W0X {A B:Prop} (k:B) (h:W00 B→A:=by intro k;(repeat' (first|refine LG a5 KZ ?_|(apply aL;first|refine aJ a5 ?_|refine aF a5 ?_)|fail));exact k.g):A:=h ⟨k⟩
theorem W0Y {A B:Prop} (k:B) (h:W00 B→A:=by intro k;(repeat' (first|refine a9 ?_|refine a4 ?_|refine aP ?_|refine a6 ?_|refine aq ?_|refine ay ?_|refine au ?_|refine a7 ?_|refine LG a5 KZ ?_|(apply bq;first|refine LJ a5 0 LC ?_|refine LJ a5 1 LC ?_|refine LJ a5 2 LC ?_|refine LJ a5 3 LC ?_|refine LK a5 0 LC ?_|refine LK a5 1 LC ?_|refine LK a5 2 LC ?_|refine LL a5 1 LA (by assumption) rfl ?_|refine LL a5 0 LA (by assumption) rfl ?_|fail)|fail));exact k.g):A:=h ⟨k⟩
theorem W0Z {A B:Prop} (k:B) (h:W00 B→A:=by intro k;(repeat' (first|refine aD ?_|refine b6 a5 ?_|(apply cK;refine df a5 ?_)|refine cf a5 0 rfl rfl rfl rfl (by first|trivial|rfl) ?_));exact k.g):A:=h ⟨k⟩
theorem W10 {A B:Prop} (k:B) (h:W00 B→A:=by intro k;(repeat' (first|refine a9 ?_|refine a4 ?_|refine aj ?_|refine a6 ?_|refine a7 ?_|refine LG a5 KZ ?_|(apply aL;first|refine aJ a5 ?_|refine aF a5 ?_)|fail));exact k.g):A:=h ⟨k⟩
theorem W11 {A B:Prop} (k:B) (h:W00 B→A:=by intro k;(repeat' (first|refine a4 ?_|refine a6 ?_|refine a7 ?_|refine LG a5 KZ ?_|(apply bq;first|refine LJ a5 0 LC ?_|refine LJ a5 1 LC ?_|refine LJ a5 2 LC ?_|refine LJ a5 3 LC ?_|refine LK a5 0 LC ?_|refine LK a5 1 LC ?_|refine LK a5 2 LC ?_|refine LL a5 1 LA (by assumption) rfl ?_|refine LL a5 0 LA (by assumption) rfl ?_|fail)|(apply aL;first|refine aJ a5 ?_|refine aF a5 ?_)|fail));exact k.g):A:=h ⟨k⟩
theorem W12 {A B:Prop} (k:B) (h:W00 B→A:=by intro k;(repeat' (first|refine a9 ?_|refine a4 ?_|refine aj ?_|refine am ?_|refine a6 ?_|refine a7 ?_|refine LG a5 KZ ?_|(apply aM;first|refine LI 9 a5 0 LF ?_|refine LI 9 a5 1 LF ?_|refine LI 9 a5 2 LF ?_|refine LI 10 a5 0 LF ?_|refine LI 10 a5 1 LF ?_|refine LI 10 a5 2 LF ?_|refine LH a5 0 LE ?_|refine LH a5 1 LE ?_|refine LH a5 2 LE ?_|refine LH a5 3 LE ?_|fail)|refine bB rfl ?_));exact k.g):A:=h ⟨k⟩
theorem W13 {A B:Prop} (k:B) (h:W00 B→A:=by intro k;(repeat' (first|refine a9 ?_|refine a4 ?_|refine a6 ?_|refine a7 ?_|refine LG a5 KZ ?_|(apply bq;first|refine LJ a5 0 LC ?_|refine LJ a5 1 LC ?_|refine LJ a5 2 LC ?_|refine LJ a5 3 LC ?_|refine LK a5 0 LC ?_|refine LK a5 1 LC ?_|refine LK a5 2 LC ?_|refine LL a5 1 LA (by assumption) rfl ?_|refine LL a5 0 LA (by assumption) rfl ?_|fail)|refine bf a5 fun b'z=>?_|fail));(repeat revert b'z);exact k.g):A:=h ⟨k⟩
theorem W14 {A B:Prop} (k:B) (h:W00 B→A:=by intro k;(repeat' (first|refine a9 ?_|refine a4 ?_|refine ai ?_|refine aj ?_|refine a6 ?_|refine a7 ?_|refine LG a5 KZ ?_|(apply aL;first|refine aJ a5 ?_|refine aF a5 ?_)|(apply aM;first|refine LI 5 a5 0 LF ?_|refine LI 5 a5 1 LF ?_|refine LI 5 a5 2 LF ?_|refine LH a5 0 LE ?_|refine LH a5 1 LE ?_|refine LH a5 2 LE ?_|refine LH a5 3 LE ?_|fail)|refine bf a5 fun b'z=>?_|fail));(repeat revert b'z);exact k.g):A:=h ⟨k⟩
theorem W15 {A B:Prop} (k:B) (h:W00 B→A:=by intro k;(repeat' (first|refine a9 ?_|refine a4 ?_|refine a6 ?_|refine a7 ?_|refine LG a5 KZ ?_|refine LO KZ ?_|(apply bq;first|refine LJ a5 0 LC ?_|refine LJ a5 1 LC ?_|refine LJ a5 2 LC ?_|refine LJ a5 3 LC ?_|refine LK a5 0 LC ?_|refine LK a5 1 LC ?_|refine LK a5 2 LC ?_|refine LL a5 1 LA (by assumption) rfl ?_|refine LL a5 0 LA (by assumption) rfl ?_|fail)|fail));exact k.g):A:=h ⟨k⟩
theorem W16 {A B:Prop} (k:B) (h:W00 B→A:=by intro k;(repeat' (first|refine a9 ?_|refine a4 ?_|refine ai ?_|refine aj ?_|refine a6 ?_|refine LG a5 KZ ?_|(apply bq;first|refine LJ a5 0 LC ?_|refine LJ a5 1 LC ?_|refine LJ a5 2 LC ?_|refine LJ a5 3 LC ?_|refine LK a5 0 LC ?_|refine LK a5 1 LC ?_|refine LK a5 2 LC ?_|refine LL a5 1 LA (by assumption) rfl ?_|refine LL a5 0 LA (by assumption) rfl ?_|fail)|fail));exact k.g):A:=h ⟨k⟩
theorem W17 {A B:Prop} (k:B) (h:W00 B→A:=by intro k;(repeat' (first|refine a9 ?_|refine a4 ?_|refine am ?_|refine a6 ?_|refine a7 ?_|refine LG a5 KZ ?_|refine bk ?_|(apply bw;refine bn ?_)|fail));exact k.g):A:=h ⟨k⟩
theorem W18 {A B:Prop} (k:B) (h:W00 B→A:=by intro k;(repeat' (first|refine aD ?_|refine b6 a5 ?_|(apply cK;refine df a5 ?_)|fail));exact k.g):A:=h ⟨k⟩
theorem W1a {A B:Prop} (k:B) (h:W00 B→A:=by intro k;(repeat' (first|refine a4 ?_|refine a6 ?_|refine a7 ?_|refine LG a5 KZ ?_));exact k.g):A:=h ⟨k⟩
theorem W1b {A B:Prop} (k:B) (h:W00 B→A:=by intro k;(repeat' (first|refine a9 ?_|refine a4 ?_|refine am ?_|refine aP ?_|refine a6 ?_|refine aq ?_|refine ay ?_|refine au ?_|refine a7 ?_|refine LG a5 KZ ?_|(apply aM;first|refine LI 5 a5 0 LF ?_|refine LI 5 a5 1 LF ?_|refine LI 5 a5 2 LF ?_|refine LH a5 0 LE ?_|refine LH a5 1 LE ?_|refine LH a5 2 LE ?_|refine LH a5 3 LE ?_|fail)));exact k.g):A:=h ⟨k⟩
theorem W1c {A B:Prop} (k:B) (h:W00 B→A:=by intro k;(repeat' (first|refine a9 ?_|refine a4 ?_|refine ai ?_|refine a6 ?_|refine a7 ?_|refine LG a5 KZ ?_|(apply aU;refine aT ?_)|fail));exact k.g):A:=h ⟨k⟩
theorem W1d {A B:Prop} (k:B) (h:W00 B→A:=by intro k;(repeat' (first|refine a4 ?_|refine LG a5 KZ ?_|(apply bq;first|refine LJ a5 0 LC ?_|refine LJ a5 1 LC ?_|refine LJ a5 2 LC ?_|refine LJ a5 3 LC ?_|refine LK a5 0 LC ?_|refine LK a5 1 LC ?_|refine LK a5 2 LC ?_|refine LL a5 1 LA (by assumption) rfl ?_|refine LL a5 0 LA (by assumption) rfl ?_|fail)|refine bQ a5 ?_|fail));exact k.g):A:=h ⟨k⟩
theorem W1e {A B:Prop} (k:B) (h:W00 B→A:=by intro k;(repeat' (first|refine aD ?_|refine ei a5 ?_|fail));exact k.g):A:=h ⟨k⟩
theorem W1f {A B:Prop} (k:B) (h:W00 B→A:=by intro k;(repeat' (first|refine a4 ?_|refine LG a5 KZ ?_));exact k.g):A:=h ⟨k⟩
theorem W1g {A B:Prop} (k:B) (h:W00 B→A:=by intro k;(repeat' (first|refine a4 ?_|refine aP ?_|refine a6 ?_|refine aq ?_|refine ay ?_|refine a7 ?_|refine LG a5 KZ ?_|(apply aU;refine aT ?_)|fail));exact k.g):A:=h ⟨k⟩
theorem W1h {A B:Prop} (k:B) (h:W00 B→A:=by intro k;(repeat' (first|refine a9 ?_|refine a4 ?_|refine aj ?_|refine a6 ?_|refine LG a5 KZ ?_|refine nP (d:=5) a5 fun b'z=>?_|refine bB rfl ?_));(repeat revert b'z);exact k.g):A:=h ⟨k⟩
theorem W1i {A B:Prop} (k:B) (h:W00 B→A:=by intro k;(repeat' (first|refine aD ?_|refine b6 a5 ?_|(apply eU;refine gk ?_)|fail));exact k.g):A:=h ⟨k⟩
theorem W1j {A B:Prop} (k:B) (h:W00 B→A:=by intro k;(repeat' (first|refine am ?_|refine a6 ?_|refine a7 ?_|refine LG a5 KZ ?_|(apply bw;refine bn ?_)|fail));exact k.g):A:=h ⟨k⟩
theorem W1k {A B:Prop} (k:B) (h:W00 B→A:=by intro k;(repeat' (first|refine a9 ?_|refine a4 ?_|refine aj ?_|refine am ?_|refine a6 ?_|refine aK ?_|refine a7 ?_|refine LG a5 KZ ?_));exact k.g):A:=h ⟨k⟩
theorem W1l {A B:Prop} (k:B) (h:W00 B→A:=by intro k;(repeat' (first|refine a9 ?_|refine a4 ?_|refine a6 ?_|refine a7 ?_|refine LG a5 KZ ?_|(apply bw;refine bn ?_)|fail));exact k.g):A:=h ⟨k⟩
theorem W1m {A B:Prop} (k:B) (h:W00 B→A:=by intro k;(repeat' (first|refine a9 ?_|refine a4 ?_|refine aj ?_|refine am ?_|refine a6 ?_|refine a7 ?_|refine LG a5 KZ ?_));exact k.g):A:=h ⟨k⟩
theorem W1n {A B:Prop} (k:B) (h:W00 B→A:=by intro k;(repeat' (first|refine a9 ?_|refine a4 ?_|refine aj ?_|refine am ?_|refine a6 ?_|refine aK ?_|refine a7 ?_|refine LG a5 KZ ?_|refine bQ a5 ?_|fail));exact k.g):A:=h ⟨k⟩
theorem W1o {A B:Prop} (k:B) (h:W00 B→A:=by intro k;(repeat' (first|refine a4 ?_|refine a6 ?_|refine aK ?_|refine a7 ?_|refine LG a5 KZ ?_));exact k.g):A:=h ⟨k⟩
theorem W1q {A B:Prop} (k:B) (h:W00 B→A:=by intro k;(repeat' (first|refine a9 ?_|refine a4 ?_|refine a6 ?_|refine a7 ?_|refine LG a5 KZ ?_|(apply aL;first|refine aJ a5 ?_|refine aF a5 ?_)|fail));exact k.g):A:=h ⟨k⟩
theorem W1r {A B:Prop} (k:B) (h:W00 B→A:=by intro k;(repeat' (first|refine a9 ?_|refine a4 ?_|refine a6 ?_|refine a7 ?_|refine LG a5 KZ ?_|refine bR rfl ?_));exact k.g):A:=h ⟨k⟩
theorem W1s {A B:Prop} (k:B) (h:W00 B→A:=by intro k;(repeat' (first|refine a9 ?_|refine a4 ?_|refine ai ?_|refine aj ?_|refine am ?_|refine a6 ?_|refine aK ?_|refine a7 ?_|refine LG a5 KZ ?_|(apply bw;refine bn ?_)|refine bR rfl ?_|refine bB rfl ?_));exact k.g):A:=h ⟨k⟩
theorem W1t {A B:Prop} (k:B) (h:W00 B→A:=by intro k;(repeat' (first|refine a9 ?_|refine a4 ?_|refine ai ?_|refine a6 ?_|refine a7 ?_|refine LG a5 KZ ?_|(apply bw;refine bn ?_)|fail));exact k.g):A:=h ⟨k⟩
theorem W1u {A B:Prop} (k:B) (h:W00 B→A:=by intro k;(repeat' (first|refine a9 ?_|refine a4 ?_|refine a6 ?_|refine a7 ?_|refine LG a5 KZ ?_|refine bk ?_|refine bf a5 fun b'z=>?_|fail));(repeat revert b'z);exact k.g):A:=h ⟨k⟩
theorem W1v {A B:Prop} (k:B) (h:W00 B→A:=by intro k;(repeat' (first|refine a9 ?_|refine a4 ?_|refine ai ?_|refine aj ?_|refine a6 ?_|refine a7 ?_|refine LG a5 KZ ?_|(apply aL;first|refine aJ a5 ?_|refine aF a5 ?_)|(apply bw;refine bn ?_)|fail));exact k.g):A:=h ⟨k⟩
theorem W1w {A B:Prop} (k:B) (h:W00 B→A:=by intro k;(repeat' (first|refine a6 ?_|refine a7 ?_|refine LG a5 KZ ?_|refine LO KZ ?_));exact k.g):A:=h ⟨k⟩
theorem W1x {A B:Prop} (k:B) (h:W00 B→A:=by intro k;(repeat' (first|refine a9 ?_|refine a4 ?_|refine ai ?_|refine am ?_|refine a6 ?_|refine aB ?_|refine aV ?_|refine a7 ?_|refine LG a5 KZ ?_|refine bk ?_|refine bR rfl ?_|refine bB rfl ?_));exact k.g):A:=h ⟨k⟩
theorem W1z {A B:Prop} (k:B) (h:W00 B→A:=by intro k;(repeat' (first|refine am ?_|refine a6 ?_|refine aB ?_|refine aV ?_|refine a7 ?_|refine LG a5 KZ ?_|refine bQ a5 ?_|fail));exact k.g):A:=h ⟨k⟩
theorem W1A {A B:Prop} (k:B) (h:W00 B→A:=by intro k;(repeat' (first|refine a4 ?_|refine a6 ?_|refine a7 ?_|refine LG a5 KZ ?_|(apply aM;first|refine LH a5 0 LE ?_|refine LH a5 1 LE ?_|refine LH a5 2 LE ?_|refine LH a5 3 LE ?_|fail)));exact k.g):A:=h ⟨k⟩
theorem W1B {A B:Prop} (k:B) (h:W00 B→A:=by intro k;(repeat' (first|refine am ?_|refine a6 ?_|refine a7 ?_|refine LG a5 KZ ?_|refine LO KZ ?_|(apply bw;refine bn ?_)|fail));exact k.g):A:=h ⟨k⟩
theorem W1C {A B:Prop} (k:B) (h:W00 B→A:=by intro k;(repeat' (first|refine aD ?_|refine b6 a5 ?_|refine ei a5 ?_|refine cf a5 0 rfl rfl rfl rfl (by first|trivial|rfl) ?_));exact k.g):A:=h ⟨k⟩
theorem W1D {A B:Prop} (k:B) (h:W00 B→A:=by intro k;(repeat' (first|refine aD ?_|refine b6 a5 ?_|refine ei a5 ?_|refine cf a5 1 rfl rfl rfl rfl (by first|trivial|rfl) ?_|refine nl a5 0 rfl rfl rfl rfl (by first|trivial|rfl) ?_));exact k.g):A:=h ⟨k⟩
theorem W1E {A B:Prop} (k:B) (h:W00 B→A:=by intro k;(repeat' (first|refine aD ?_|refine b6 a5 ?_|refine ei a5 ?_|fail));exact k.g):A:=h ⟨k⟩
theorem W1F {A B:Prop} (k:B) (h:W00 B→A:=by intro k;(repeat' (first|refine a9 ?_|refine a4 ?_|refine aj ?_|refine a6 ?_|refine LG a5 KZ ?_|refine bQ a5 ?_|fail));exact k.g):A:=h ⟨k⟩
theorem W1G {A B:Prop} (k:B) (h:W00 B→A:=by intro k;(repeat' (first|refine a9 ?_|refine a4 ?_|refine a6 ?_|refine a7 ?_|refine LG a5 KZ ?_|refine bQ a5 ?_|fail));exact k.g):A:=h ⟨k⟩
theorem W1H {A B:Prop} (k:B) (h:W00 B→A:=by intro k;(repeat' (first|refine a9 ?_|refine a4 ?_|refine ai ?_|refine aj ?_|refine a6 ?_|refine a7 ?_|refine LG a5 KZ ?_|refine t3 (d:=25) fun b'z=>?_|refine bB rfl ?_));(repeat revert b'z);exact k.g):A:=h ⟨k⟩
theorem W1I {A B:Prop} (k:B) (h:W00 B→A:=by intro k;(repeat' (first|refine a4 ?_|refine aj ?_|refine a6 ?_|refine aK ?_|refine a7 ?_|refine LG a5 KZ ?_|refine LP LB ?_|(apply aU;refine aT ?_)|refine bB rfl ?_));exact k.g):A:=h ⟨k⟩
theorem W1J {A B:Prop} (k:B) (h:W00 B→A:=by intro k;(repeat' (first|refine a9 ?_|refine a4 ?_|refine aP ?_|refine a6 ?_|refine aq ?_|refine ay ?_|refine au ?_|refine a7 ?_|refine LG a5 KZ ?_|refine bB rfl ?_));exact k.g):A:=h ⟨k⟩
theorem W1K {A B:Prop} (k:B) (h:W00 B→A:=by intro k;(repeat' (first|refine a9 ?_|refine a4 ?_|refine aj ?_|refine am ?_|refine a6 ?_|refine aK ?_|refine a7 ?_|refine LG a5 KZ ?_|(apply bw;refine bn ?_)|fail));exact k.g):A:=h ⟨k⟩
theorem W1L {A B:Prop} (k:B) (h:W00 B→A:=by intro k;(repeat' (first|refine a4 ?_|refine a6 ?_|refine a7 ?_|refine LG a5 KZ ?_|(apply aU;refine aT ?_)|fail));exact k.g):A:=h ⟨k⟩
theorem W1M {A B:Prop} (k:B) (h:W00 B→A:=by intro k;(repeat' (first|refine a9 ?_|refine a4 ?_|refine ai ?_|refine a6 ?_|refine a7 ?_|refine LG a5 KZ ?_|(apply aL;first|refine aJ a5 ?_|refine aF a5 ?_)|fail));exact k.g):A:=h ⟨k⟩
theorem W1N {A B:Prop} (k:B) (h:W00 B→A:=by intro k;(repeat' (first|refine LG a5 KZ ?_|refine LO KZ ?_));exact k.g):A:=h ⟨k⟩
theorem W1O {A B:Prop} (k:B) (h:W00 B→A:=by intro k;(repeat' (first|refine a9 ?_|refine a4 ?_|refine aj ?_|refine a6 ?_|refine aK ?_|refine LG a5 KZ ?_));exact k.g):A:=h ⟨k⟩
theorem W1P {A B:Prop} (k:B) (h:W00 B→A:=by intro k;(repeat' (first|refine a9 ?_|refine a4 ?_|refine aj ?_|refine a6 ?_|refine a7 ?_|refine LG a5 KZ ?_));exact k.g):A:=h ⟨k⟩
theorem W1Q {A B:Prop} (k:B) (h:W00 B→A:=by intro k;(repeat' (first|refine a9 ?_|refine a4 ?_|refine ai ?_|refine aj ?_|refine a6 ?_|refine a7 ?_|refine LG a5 KZ ?_|refine bR rfl ?_|refine bB rfl ?_));exact k.g):A:=h ⟨k⟩
theorem W1R {A B:Prop} (k:B) (h:W00 B→A:=by intro k;(repeat' (first|refine a9 ?_|refine a4 ?_|refine am ?_|refine a6 ?_|refine a7 ?_|refine LG a5 KZ ?_|refine bQ a5 ?_|(apply bw;refine bn ?_)|fail));exact k.g):A:=h ⟨k⟩
theorem W1T {A B:Prop} (k:B) (h:W00 B→A:=by intro k;(repeat' (first|refine a9 ?_|refine a4 ?_|refine a6 ?_|refine a7 ?_|refine LG a5 KZ ?_|refine LO KZ ?_|refine bk ?_|refine bf a5 fun b'z=>?_|fail));(repeat revert b'z);exact k.g):A:=h ⟨k⟩
theorem W1V {A B:Prop} (k:B) (h:W00 B→A:=by intro k;(repeat' (first|refine a9 ?_|refine a4 ?_|refine aj ?_|refine a6 ?_|refine LG a5 KZ ?_|(apply aL;first|refine aJ a5 ?_|refine aF a5 ?_)|fail));exact k.g):A:=h ⟨k⟩
theorem W1W {A B:Prop} (k:B) (h:W00 B→A:=by intro k;(repeat' (first|refine a4 ?_|refine LG a5 KZ ?_|refine bQ a5 ?_|fail));exact k.g):A:=h ⟨k⟩
theorem W1X {A B:Prop} (k:B) (h:W00 B→A:=by intro k;(repeat' (first|refine a9 ?_|refine a4 ?_|refine ai ?_|refine a6 ?_|refine a7 ?_|refine LG a5 KZ ?_|refine bR rfl ?_|refine bB rfl ?_));exact k.g):A:=h ⟨k⟩
theorem W1Y {A B:Prop} (k:B) (h:W00 B→A:=by intro k;(repeat' (first|refine a9 ?_|refine a4 ?_|refine a6 ?_|refine a7 ?_|refine LG a5 KZ ?_|refine bQ a5 ?_|(apply bw;refine bn ?_)|fail));exact k.g):A:=h ⟨k⟩
theorem W1Z {A B:Prop} (k:B) (h:W00 B→A:=by intro k;(repeat' (first|refine a9 ?_|refine a4 ?_|refine aj ?_|refine am ?_|refine a6 ?_|refine a7 ?_|refine LG a5 KZ ?_|refine bB rfl ?_));exact k.g):A:=h ⟨k⟩
theorem W20 {A B:Prop} (k:B) (h:W00 B→A:=by intro k;(repeat' (first|refine aD ?_|refine b6 a5 ?_|(apply eU;refine gk ?_)|(apply cK;refine df a5 ?_)|(apply dQ;refine eT ?_)|fail));exact k.g):A:=h ⟨k⟩
theorem W22 {A B:Prop} (k:B) (h:W00 B→A:=by intro k;(repeat' (first|refine a9 ?_|refine a4 ?_|refine am ?_|refine a6 ?_|refine a7 ?_|refine LG a5 KZ ?_|refine bQ a5 ?_|fail));exact k.g):A:=h ⟨k⟩
theorem W23 {A B:Prop} (k:B) (h:W00 B→A:=by intro k;(repeat' (first|refine a9 ?_|refine a4 ?_|refine a6 ?_|refine a7 ?_|refine LG a5 KZ ?_|refine t3 (d:=15) fun b'z=>?_|fail));(repeat revert b'z);exact k.g):A:=h ⟨k⟩
theorem W24 {A B:Prop} (k:B) (h:W00 B→A:=by intro k;(repeat' (first|refine am ?_|refine a6 ?_|refine a7 ?_|refine LG a5 KZ ?_|refine LP LB ?_|(apply bw;refine bn ?_)|fail));exact k.g):A:=h ⟨k⟩
theorem W25 {A B:Prop} (k:B) (h:W00 B→A:=by intro k;(repeat' (first|refine a9 ?_|refine a4 ?_|refine a6 ?_|refine a7 ?_|refine LG a5 KZ ?_|refine bf a5 fun b'z=>?_|fail));(repeat revert b'z);exact k.g):A:=h ⟨k⟩
theorem W26 {A B:Prop} (k:B) (h:W00 B→A:=by intro k;(repeat' (first|refine a9 ?_|refine a4 ?_|refine a6 ?_|refine LG a5 KZ ?_));exact k.g):A:=h ⟨k⟩
theorem W29 {A B:Prop} (k:B) (h:W00 B→A:=by intro k;(repeat' (first|refine ai ?_|refine a6 ?_|refine a7 ?_|refine LG a5 KZ ?_|(apply aU;refine aT ?_)|fail));exact k.g):A:=h ⟨k⟩
theorem W2a {A B:Prop} (k:B) (h:W00 B→A:=by intro k;(repeat' (first|refine a9 ?_|refine a4 ?_|refine a6 ?_|refine a7 ?_|refine LG a5 KZ ?_|refine LO KZ ?_));exact k.g):A:=h ⟨k⟩
theorem W2b {A B:Prop} (k:B) (h:W00 B→A:=by intro k;(repeat' (first|refine aD ?_|refine b6 a5 ?_|refine cf a5 1 rfl rfl rfl rfl (by first|trivial|rfl) ?_));exact k.g):A:=h ⟨k⟩
theorem W2c {A B:Prop} (k:B) (h:W00 B→A:=by intro k;(repeat' (first|refine aD ?_|refine b6 a5 ?_|(apply eU;refine gk ?_)|(apply cK;refine df a5 ?_)|fail));exact k.g):A:=h ⟨k⟩
theorem W2d {A B:Prop} (k:B) (h:W00 B→A:=by intro k;(repeat' (first|refine am ?_|refine a6 ?_|refine aB ?_|refine aV ?_|refine a7 ?_|refine LG a5 KZ ?_));exact k.g):A:=h ⟨k⟩
theorem W2e {A B:Prop} (k:B) (h:W00 B→A:=by intro k;(repeat' (first|refine aD ?_|refine b6 a5 ?_|refine sI rfl rfl ?_));exact k.g):A:=h ⟨k⟩
theorem W2f {A B:Prop} (k:B) (h:W00 B→A:=by intro k;(repeat' (first|refine a7 ?_|refine LG a5 KZ ?_|refine LO KZ ?_));exact k.g):A:=h ⟨k⟩
theorem W2g {A B:Prop} (k:B) (h:W00 B→A:=by intro k;(repeat' (first|refine aD ?_|refine b6 a5 ?_|(apply cK;refine df a5 ?_)|refine ei a5 ?_|fail));exact k.g):A:=h ⟨k⟩
theorem W2h {A B:Prop} (k:B) (h:W00 B→A:=by intro k;(repeat' (first|refine a4 ?_|refine a6 ?_|refine a7 ?_|refine LG a5 KZ ?_|refine bR rfl ?_));exact k.g):A:=h ⟨k⟩
theorem W2i {A B:Prop} (k:B) (h:W00 B→A:=by intro k;(repeat' (first|refine aD ?_|refine b6 a5 ?_|(apply eU;refine gk ?_)|refine ei a5 ?_|fail));exact k.g):A:=h ⟨k⟩
theorem W2j {A B:Prop} (k:B) (h:W00 B→A:=by intro k;(repeat' (first|refine am ?_|refine a6 ?_|refine aB ?_|refine a7 ?_|refine LG a5 KZ ?_));exact k.g):A:=h ⟨k⟩
end Go.Proofs.YtpmdfoaadejmkaaGreatDoor
