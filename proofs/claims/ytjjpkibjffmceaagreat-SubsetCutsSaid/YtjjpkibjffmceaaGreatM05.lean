/-
  The table of the types of the seat's program, and the functions that are entered, written by a program (wip/typesA.py).
-/
import Derived.Test.YtjjpkibjffmceaaGreatM04
import Derived.Test.YtjjpkibjffmceaaGreatProg
import Derived.KernelRfl
namespace Go.Proofs.YtjjpkibjffmceaaGreat
open Go.RowKit
theorem ar {P:Program} {f:FuncId} {fn:Func} {c:Code} (hf:P.funcs[f]?=some fn) (hname:(fn.name== "runtime.NumGoroutine")=false) (hb:fn.body=some c):∀args w,(callFunc f args).run P w= .ok (.enter f args) w:=by
 intro args w
 have hne:¬fn.name= "runtime.NumGoroutine" :=by simpa using hname
 simp [callFunc,hf,hne,hb]
theorem mixed:Tryz.prog.follows .mixedOrders=true:=by kernel_rfl
def tt:TT:=[none,
 some ⟨.other,1,[.nilFunc]⟩,
 some ⟨.int .i64,1,[.int .i64 0]⟩,
 some ⟨.int .i64,1,[.int .i64 0]⟩,
 some ⟨.bool,1,[.bool false]⟩,
 some ⟨.int .u8,1,[.int .u8 0]⟩,
 some ⟨.int .u8,1,[.int .u8 0]⟩,
 some ⟨.struct [(0,1,false),(1,1,false),(2,1,false),(3,1,false)],4,[.int .i64 0,.int .i64 0,.bool false,.int .u8 0]⟩,
 some ⟨.struct [(0,1,false),(1,1,false),(2,1,false),(3,1,false)],4,[.int .i64 0,.int .i64 0,.bool false,.int .u8 0]⟩,
 some ⟨.str,1,[.string ⟨#[]⟩]⟩,
 some ⟨.str,1,[.string ⟨#[]⟩]⟩,
 some ⟨.str,1,[.string ⟨#[]⟩]⟩,
 some ⟨.int .u64,1,[.int .u64 0]⟩,
 some ⟨.struct [(0,1,false),(1,1,false)],2,[.string ⟨#[]⟩,.int .u64 0]⟩,
 some ⟨.struct [(0,1,false),(1,1,false)],2,[.string ⟨#[]⟩,.int .u64 0]⟩,
 some ⟨.other,1,[.pointer none]⟩,
 some ⟨.other,1,[.pointer none]⟩,
 some ⟨.other,1,[.pointer none]⟩,
 some ⟨.struct [(0,1,false)],1,[.pointer none]⟩,
 some ⟨.struct [(0,1,false)],1,[.pointer none]⟩,
 some ⟨.other,1,[.nilIface]⟩,
 some ⟨.int .i32,1,[.int .i32 0]⟩,
 some ⟨.slice 3 1 8,1,[.slice none 0 0]⟩,
 some ⟨.int .u32,1,[.int .u32 0]⟩,
 some ⟨.struct [(0,1,false),(1,1,false),(2,1,false),(3,1,false),(4,1,false),(5,1,false)],6,[.slice none 0 0,.int .u32 0,.int .u32 0,.slice none 0 0,.slice none 0 0,.int .u32 0]⟩,
 some ⟨.struct [(0,1,false),(1,1,false),(2,1,false),(3,1,false),(4,1,false),(5,1,false)],6,[.slice none 0 0,.int .u32 0,.int .u32 0,.slice none 0 0,.slice none 0 0,.int .u32 0]⟩,
 some ⟨.arr 3 3 1,3,[.int .i64 0,.int .i64 0,.int .i64 0]⟩,
 some ⟨.other,1,[.nilFunc]⟩,
 some ⟨.slice 63 9 176,1,[.slice none 0 0]⟩,
 some ⟨.slice 68 2 16,1,[.slice none 0 0]⟩,
 some ⟨.slice 77 3 40,1,[.slice none 0 0]⟩,
 some ⟨.slice 83 2 40,1,[.slice none 0 0]⟩,
 some ⟨.slice 93 4 40,1,[.slice none 0 0]⟩,
 some ⟨.slice 98 1 24,1,[.slice none 0 0]⟩,
 some ⟨.slice 61 1 24,1,[.slice none 0 0]⟩,
 some ⟨.struct [(0,1,false),(1,1,false),(2,1,false),(3,1,false),(4,1,false),(5,1,false),(6,1,false),(7,1,false),(8,1,false)],9,[.int .i64 0,.slice none 0 0,.slice none 0 0,.slice none 0 0,.slice none 0 0,.slice none 0 0,.slice none 0 0,.slice none 0 0,.slice none 0 0]⟩,
 some ⟨.struct [(0,1,false),(1,1,false),(2,1,false),(3,1,false),(4,1,false),(5,1,false),(6,1,false),(7,1,false),(8,1,false)],9,[.int .i64 0,.slice none 0 0,.slice none 0 0,.slice none 0 0,.slice none 0 0,.slice none 0 0,.slice none 0 0,.slice none 0 0,.slice none 0 0]⟩,
 some ⟨.other,1,[.nilFunc]⟩,
 some ⟨.slice 9 1 16,1,[.slice none 0 0]⟩,
 some ⟨.struct [(0,1,false),(1,1,false)],2,[.slice none 0 0,.slice none 0 0]⟩,
 some ⟨.struct [(0,1,false),(1,1,false)],2,[.slice none 0 0,.slice none 0 0]⟩,
 some ⟨.other,1,[.nilFunc]⟩,
 some ⟨.other,1,[.nilFunc]⟩,
 some ⟨.arr 2 36 9,18,[.int .i64 0,.slice none 0 0,.slice none 0 0,.slice none 0 0,.slice none 0 0,.slice none 0 0,.slice none 0 0,.slice none 0 0,.slice none 0 0,.int .i64 0,.slice none 0 0,.slice none 0 0,.slice none 0 0,.slice none 0 0,.slice none 0 0,.slice none 0 0,.slice none 0 0,.slice none 0 0]⟩,
 some ⟨.int .i64,1,[.int .i64 0]⟩,
 none,
 some ⟨.other,1,[.nilFunc]⟩,
 none,
 some ⟨.other,1,[.nilFunc]⟩,
 some ⟨.other,1,[.nilFunc]⟩,
 some ⟨.other,1,[.nilFunc]⟩,
 some ⟨.other,1,[.nilFunc]⟩,
 some ⟨.other,1,[.nilFunc]⟩,
 some ⟨.other,1,[.nilFunc]⟩,
 some ⟨.other,1,[.nilFunc]⟩,
 some ⟨.slice 72 3 24,1,[.slice none 0 0]⟩,
 some ⟨.struct [(0,1,false),(1,1,false)],2,[.slice none 0 0,.slice none 0 0]⟩,
 some ⟨.struct [(0,1,false),(1,1,false)],2,[.slice none 0 0,.slice none 0 0]⟩,
 some ⟨.slice 65 3 24,1,[.slice none 0 0]⟩,
 some ⟨.slice 87 4 32,1,[.slice none 0 0]⟩,
 some ⟨.slice 89 4 32,1,[.slice none 0 0]⟩,
 some ⟨.slice 74 2 16,1,[.slice none 0 0]⟩,
 some ⟨.struct [(0,1,false),(1,1,false),(2,1,false),(3,2,true),(5,1,false),(6,1,false),(7,1,false),(8,1,false)],9,[.string ⟨#[]⟩,.int .i64 0,.bool false,.slice none 0 0,.slice none 0 0,.slice none 0 0,.slice none 0 0,.slice none 0 0,.slice none 0 0]⟩,
 some ⟨.struct [(0,1,false),(1,1,false),(2,1,false),(3,2,true),(5,1,false),(6,1,false),(7,1,false),(8,1,false)],9,[.string ⟨#[]⟩,.int .i64 0,.bool false,.slice none 0 0,.slice none 0 0,.slice none 0 0,.slice none 0 0,.slice none 0 0,.slice none 0 0]⟩,
 some ⟨.struct [(0,1,false),(1,1,false),(2,1,false)],3,[.int .i64 0,.int .i64 0,.int .i64 0]⟩,
 some ⟨.struct [(0,1,false),(1,1,false),(2,1,false)],3,[.int .i64 0,.int .i64 0,.int .i64 0]⟩,
 some ⟨.other,1,[.nilFunc]⟩,
 some ⟨.struct [(0,1,false),(1,1,false)],2,[.int .i64 0,.int .i64 0]⟩,
 some ⟨.struct [(0,1,false),(1,1,false)],2,[.int .i64 0,.int .i64 0]⟩,
 some ⟨.other,1,[.nilFunc]⟩,
 some ⟨.other,1,[.nilFunc]⟩,
 some ⟨.struct [(0,1,false),(1,1,false),(2,1,false)],3,[.int .i64 0,.int .i64 0,.bool false]⟩,
 some ⟨.struct [(0,1,false),(1,1,false),(2,1,false)],3,[.int .i64 0,.int .i64 0,.bool false]⟩,
 some ⟨.struct [(0,1,false),(1,1,false)],2,[.int .i64 0,.int .i64 0]⟩,
 some ⟨.struct [(0,1,false),(1,1,false)],2,[.int .i64 0,.int .i64 0]⟩,
 some ⟨.slice 81 6 128,1,[.slice none 0 0]⟩,
 some ⟨.struct [(0,1,false),(1,1,false),(2,1,false)],3,[.int .i64 0,.bool false,.slice none 0 0]⟩,
 some ⟨.struct [(0,1,false),(1,1,false),(2,1,false)],3,[.int .i64 0,.bool false,.slice none 0 0]⟩,
 some ⟨.slice 22 1 24,1,[.slice none 0 0]⟩,
 some ⟨.slice 91 2 16,1,[.slice none 0 0]⟩,
 some ⟨.struct [(0,1,false),(1,1,false),(2,1,false),(3,1,false),(4,1,false),(5,1,false)],6,[.slice none 0 0,.slice none 0 0,.slice none 0 0,.slice none 0 0,.slice none 0 0,.int .i64 0]⟩,
 some ⟨.struct [(0,1,false),(1,1,false),(2,1,false),(3,1,false),(4,1,false),(5,1,false)],6,[.slice none 0 0,.slice none 0 0,.slice none 0 0,.slice none 0 0,.slice none 0 0,.int .i64 0]⟩,
 some ⟨.struct [(0,1,false),(1,1,false)],2,[.string ⟨#[]⟩,.slice none 0 0]⟩,
 some ⟨.struct [(0,1,false),(1,1,false)],2,[.string ⟨#[]⟩,.slice none 0 0]⟩,
 some ⟨.other,1,[.nilFunc]⟩,
 some ⟨.other,1,[.nilFunc]⟩,
 some ⟨.struct [(0,1,false),(1,1,false),(2,1,false),(3,1,false)],4,[.int .i64 0,.int .i64 0,.int .i64 0,.int .i64 0]⟩,
 some ⟨.struct [(0,1,false),(1,1,false),(2,1,false),(3,1,false)],4,[.int .i64 0,.int .i64 0,.int .i64 0,.int .i64 0]⟩,
 some ⟨.struct [(0,1,false),(1,1,false),(2,1,false),(3,1,false)],4,[.int .i64 0,.int .i64 0,.int .i64 0,.int .i64 0]⟩,
 some ⟨.struct [(0,1,false),(1,1,false),(2,1,false),(3,1,false)],4,[.int .i64 0,.int .i64 0,.int .i64 0,.int .i64 0]⟩,
 some ⟨.struct [(0,1,false),(1,1,false)],2,[.int .i64 0,.int .i64 0]⟩,
 some ⟨.struct [(0,1,false),(1,1,false)],2,[.int .i64 0,.int .i64 0]⟩,
 some ⟨.struct [(0,1,false),(1,1,false),(2,1,false),(3,1,false)],4,[.string ⟨#[]⟩,.int .i64 0,.int .i64 0,.int .i64 0]⟩,
 some ⟨.struct [(0,1,false),(1,1,false),(2,1,false),(3,1,false)],4,[.string ⟨#[]⟩,.int .i64 0,.int .i64 0,.int .i64 0]⟩,
 some ⟨.struct [(0,1,false),(1,1,false),(2,1,false)],3,[.int .i64 0,.int .i64 0,.int .i64 0]⟩,
 some ⟨.struct [(0,1,false),(1,1,false),(2,1,false)],3,[.int .i64 0,.int .i64 0,.int .i64 0]⟩,
 some ⟨.slice 95 3 24,1,[.slice none 0 0]⟩,
 some ⟨.struct [(0,1,false)],1,[.slice none 0 0]⟩,
 some ⟨.struct [(0,1,false)],1,[.slice none 0 0]⟩,
 some ⟨.other,1,[.map none]⟩,
 some ⟨.other,1,[.nilFunc]⟩,
 some ⟨.struct [(0,9,true),(9,1,false),(10,1,false)],11,[.int .i64 0,.slice none 0 0,.slice none 0 0,.slice none 0 0,.slice none 0 0,.slice none 0 0,.slice none 0 0,.slice none 0 0,.slice none 0 0,.map none,.map none]⟩,
 some ⟨.struct [(0,9,true),(9,1,false),(10,1,false)],11,[.int .i64 0,.slice none 0 0,.slice none 0 0,.slice none 0 0,.slice none 0 0,.slice none 0 0,.slice none 0 0,.slice none 0 0,.slice none 0 0,.map none,.map none]⟩,
 some ⟨.other,1,[.nilFunc]⟩,
 some ⟨.other,1,[.nilFunc]⟩,
 some ⟨.other,1,[.nilFunc]⟩,
 some ⟨.other,1,[.nilFunc]⟩,
 some ⟨.other,1,[.nilFunc]⟩,
 some ⟨.other,1,[.nilFunc]⟩,
 some ⟨.other,1,[.nilFunc]⟩,
 some ⟨.other,1,[.nilFunc]⟩,
 some ⟨.other,1,[.nilFunc]⟩,
 some ⟨.other,1,[.nilFunc]⟩,
 some ⟨.other,1,[.nilFunc]⟩,
 some ⟨.other,1,[.nilFunc]⟩,
 some ⟨.other,1,[.nilFunc]⟩,
 some ⟨.other,1,[.nilFunc]⟩,
 some ⟨.other,1,[.nilFunc]⟩,
 some ⟨.other,1,[.nilFunc]⟩,
 some ⟨.other,1,[.nilFunc]⟩,
 some ⟨.other,1,[.map none]⟩,
 some ⟨.other,1,[.pointer none]⟩,
 some ⟨.other,1,[.nilFunc]⟩,
 some ⟨.other,1,[.nilFunc]⟩,
 some ⟨.int .i64,1,[.int .i64 0]⟩,
 some ⟨.other,1,[.pointer none]⟩,
 some ⟨.other,1,[.nilFunc]⟩,
 some ⟨.other,1,[.nilFunc]⟩,
 some ⟨.slice 4 1 1,1,[.slice none 0 0]⟩,
 some ⟨.slice 124 1 8,1,[.slice none 0 0]⟩,
 some ⟨.struct [(0,1,false),(1,1,false)],2,[.slice none 0 0,.slice none 0 0]⟩,
 some ⟨.struct [(0,1,false),(1,1,false)],2,[.slice none 0 0,.slice none 0 0]⟩,
 some ⟨.other,1,[.map none]⟩,
 some ⟨.other,1,[.pointer none]⟩,
 some ⟨.other,1,[.nilFunc]⟩,
 some ⟨.int .i64,1,[.int .i64 0]⟩,
 some ⟨.other,1,[.nilFunc]⟩,
 some ⟨.other,1,[.nilFunc]⟩,
 some ⟨.other,1,[.nilFunc]⟩,
 some ⟨.other,1,[.nilFunc]⟩,
 some ⟨.other,1,[.nilFunc]⟩,
 some ⟨.other,1,[.nilFunc]⟩,
 some ⟨.other,1,[.nilFunc]⟩,
 none,
 some ⟨.other,1,[.nilFunc]⟩,
 some ⟨.other,1,[.nilFunc]⟩,
 some ⟨.other,1,[.nilFunc]⟩,
 some ⟨.other,1,[.nilFunc]⟩,
 some ⟨.other,1,[.nilFunc]⟩,
 some ⟨.other,1,[.nilFunc]⟩,
 some ⟨.other,1,[.nilFunc]⟩,
 some ⟨.other,1,[.pointer none]⟩,
 some ⟨.struct [(0,1,false),(1,1,false),(2,9,true),(11,1,false)],12,[.slice none 0 0,.int .i64 0,.int .i64 0,.slice none 0 0,.slice none 0 0,.slice none 0 0,.slice none 0 0,.slice none 0 0,.slice none 0 0,.slice none 0 0,.slice none 0 0,.int .i64 0]⟩,
 some ⟨.struct [(0,1,false),(1,1,false),(2,9,true),(11,1,false)],12,[.slice none 0 0,.int .i64 0,.int .i64 0,.slice none 0 0,.slice none 0 0,.slice none 0 0,.slice none 0 0,.slice none 0 0,.slice none 0 0,.slice none 0 0,.slice none 0 0,.int .i64 0]⟩,
 some ⟨.other,1,[.nilFunc]⟩,
 some ⟨.slice 5 1 1,1,[.slice none 0 0]⟩,
 some ⟨.other,1,[.nilFunc]⟩,
 some ⟨.other,1,[.nilFunc]⟩,
 none,
 some ⟨.other,1,[.nilFunc]⟩,
 some ⟨.other,1,[.nilFunc]⟩,
 none,
 some ⟨.other,1,[.nilFunc]⟩,
 some ⟨.other,1,[.nilFunc]⟩,
 some ⟨.other,1,[.nilFunc]⟩,
 some ⟨.other,1,[.nilFunc]⟩,
 some ⟨.other,1,[.nilFunc]⟩,
 some ⟨.other,1,[.nilFunc]⟩,
 none,
 some ⟨.other,1,[.nilFunc]⟩,
 some ⟨.other,1,[.nilFunc]⟩,
 some ⟨.other,1,[.nilFunc]⟩,
 none,
 none,
 some ⟨.other,1,[.nilFunc]⟩,
 some ⟨.other,1,[.nilFunc]⟩,
 some ⟨.other,1,[.nilFunc]⟩,
 none,
 some ⟨.other,1,[.nilFunc]⟩,
 some ⟨.other,1,[.nilFunc]⟩,
 some ⟨.slice 184 1 8,1,[.slice none 0 0]⟩,
 some ⟨.struct [(0,9,true),(9,1,false)],10,[.int .i64 0,.slice none 0 0,.slice none 0 0,.slice none 0 0,.slice none 0 0,.slice none 0 0,.slice none 0 0,.slice none 0 0,.slice none 0 0,.slice none 0 0]⟩,
 some ⟨.struct [(0,9,true),(9,1,false)],10,[.int .i64 0,.slice none 0 0,.slice none 0 0,.slice none 0 0,.slice none 0 0,.slice none 0 0,.slice none 0 0,.slice none 0 0,.slice none 0 0,.slice none 0 0]⟩,
 some ⟨.other,1,[.nilFunc]⟩,
 some ⟨.other,1,[.pointer none]⟩,
 some ⟨.struct [(0,6,true),(6,1,false),(7,1,false),(8,1,false)],9,[.slice none 0 0,.slice none 0 0,.slice none 0 0,.slice none 0 0,.slice none 0 0,.int .i64 0,.int .i64 0,.bool false,.slice none 0 0]⟩,
 some ⟨.struct [(0,6,true),(6,1,false),(7,1,false),(8,1,false)],9,[.slice none 0 0,.slice none 0 0,.slice none 0 0,.slice none 0 0,.slice none 0 0,.int .i64 0,.int .i64 0,.bool false,.slice none 0 0]⟩,
 some ⟨.other,1,[.nilFunc]⟩,
 some ⟨.other,1,[.nilFunc]⟩,
 some ⟨.other,1,[.nilFunc]⟩,
 some ⟨.other,1,[.nilFunc]⟩,
 some ⟨.other,1,[.nilFunc]⟩,
 some ⟨.other,1,[.nilFunc]⟩,
 some ⟨.other,1,[.nilFunc]⟩,
 some ⟨.slice 135 1 8,1,[.slice none 0 0]⟩,
 some ⟨.struct [(0,1,false),(1,1,false)],2,[.slice none 0 0,.slice none 0 0]⟩,
 some ⟨.struct [(0,1,false),(1,1,false)],2,[.slice none 0 0,.slice none 0 0]⟩,
 some ⟨.other,1,[.nilFunc]⟩,
 some ⟨.other,1,[.nilFunc]⟩,
 none,
 some ⟨.other,1,[.nilFunc]⟩,
 some ⟨.other,1,[.nilFunc]⟩,
 some ⟨.other,1,[.nilFunc]⟩,
 some ⟨.arr 2 3 1,2,[.int .i64 0,.int .i64 0]⟩,
 some ⟨.slice 203 2 16,1,[.slice none 0 0]⟩,
 some ⟨.other,1,[.nilFunc]⟩,
 none,
 none,
 some ⟨.other,1,[.nilFunc]⟩,
 some ⟨.other,1,[.nilFunc]⟩,
 some ⟨.other,1,[.nilFunc]⟩,
 some ⟨.other,1,[.nilFunc]⟩,
 some ⟨.arr 3 78 1,3,[.slice none 0 0,.slice none 0 0,.slice none 0 0]⟩,
 some ⟨.other,1,[.nilFunc]⟩,
 some ⟨.other,1,[.nilFunc]⟩,
 some ⟨.other,1,[.nilFunc]⟩,
 some ⟨.other,1,[.nilFunc]⟩,
 none,
 some ⟨.other,1,[.map none]⟩,
 some ⟨.other,1,[.nilFunc]⟩,
 some ⟨.other,1,[.nilFunc]⟩,
 some ⟨.other,1,[.nilFunc]⟩,
 some ⟨.other,1,[.nilFunc]⟩,
 some ⟨.other,1,[.nilFunc]⟩,
 some ⟨.other,1,[.nilFunc]⟩,
 some ⟨.other,1,[.nilFunc]⟩,
 some ⟨.other,1,[.nilFunc]⟩,
 some ⟨.other,1,[.nilFunc]⟩,
 some ⟨.other,1,[.nilFunc]⟩,
 some ⟨.other,1,[.nilFunc]⟩,
 some ⟨.other,1,[.nilFunc]⟩,
 some ⟨.other,1,[.nilFunc]⟩,
 some ⟨.other,1,[.nilFunc]⟩,
 some ⟨.other,1,[.nilFunc]⟩,
 some ⟨.other,1,[.nilFunc]⟩,
 some ⟨.other,1,[.nilFunc]⟩,
 some ⟨.other,1,[.nilFunc]⟩,
 some ⟨.other,1,[.nilFunc]⟩,
 some ⟨.other,1,[.nilFunc]⟩,
 some ⟨.other,1,[.nilFunc]⟩,
 some ⟨.other,1,[.nilFunc]⟩,
 some ⟨.other,1,[.nilFunc]⟩,
 some ⟨.other,1,[.nilFunc]⟩,
 some ⟨.other,1,[.nilFunc]⟩,
 some ⟨.other,1,[.nilFunc]⟩,
 some ⟨.other,1,[.nilFunc]⟩,
 some ⟨.other,1,[.nilFunc]⟩,
 some ⟨.other,1,[.nilFunc]⟩,
 some ⟨.other,1,[.nilFunc]⟩,
 some ⟨.other,1,[.nilFunc]⟩,
 some ⟨.other,1,[.nilFunc]⟩,
 some ⟨.other,1,[.nilFunc]⟩,
 some ⟨.other,1,[.nilFunc]⟩,
 some ⟨.other,1,[.nilFunc]⟩,
 some ⟨.other,1,[.nilFunc]⟩,
 some ⟨.slice 78 1 24,1,[.slice none 0 0]⟩,
 some ⟨.other,1,[.nilFunc]⟩,
 some ⟨.other,1,[.nilFunc]⟩,
 some ⟨.other,1,[.nilFunc]⟩,
 some ⟨.other,1,[.nilFunc]⟩,
 some ⟨.other,1,[.nilFunc]⟩,
 some ⟨.int .u64,1,[.int .u64 0]⟩,
 some ⟨.other,1,[.nilFunc]⟩,
 some ⟨.other,1,[.nilFunc]⟩,
 none,
 some ⟨.other,1,[.nilFunc]⟩,
 none,
 some ⟨.slice 227 1 8,1,[.slice none 0 0]⟩,
 some ⟨.other,1,[.nilFunc]⟩,
 some ⟨.other,1,[.nilFunc]⟩,
 some ⟨.other,1,[.nilFunc]⟩,
 some ⟨.other,1,[.nilFunc]⟩,
 some ⟨.other,1,[.nilFunc]⟩,
 some ⟨.other,1,[.nilFunc]⟩,
 some ⟨.other,1,[.nilFunc]⟩,
 some ⟨.other,1,[.nilFunc]⟩,
 some ⟨.other,1,[.nilFunc]⟩,
 some ⟨.other,1,[.nilFunc]⟩,
 some ⟨.other,1,[.nilFunc]⟩,
 some ⟨.other,1,[.nilFunc]⟩,
 some ⟨.other,1,[.nilFunc]⟩,
 some ⟨.other,1,[.nilFunc]⟩,
 none,
 some ⟨.other,1,[.nilFunc]⟩,
 some ⟨.other,1,[.nilFunc]⟩,
 some ⟨.other,1,[.nilFunc]⟩,
 some ⟨.other,1,[.nilFunc]⟩,
 some ⟨.other,1,[.nilFunc]⟩,
 some ⟨.other,1,[.nilFunc]⟩,
 some ⟨.other,1,[.nilFunc]⟩,
 some ⟨.other,1,[.nilFunc]⟩,
 some ⟨.other,1,[.nilFunc]⟩,
 some ⟨.other,1,[.nilFunc]⟩,
 some ⟨.other,1,[.nilFunc]⟩,
 some ⟨.other,1,[.nilFunc]⟩,
 some ⟨.other,1,[.nilFunc]⟩,
 some ⟨.other,1,[.nilFunc]⟩,
 some ⟨.other,1,[.nilFunc]⟩,
 some ⟨.other,1,[.nilFunc]⟩,
 some ⟨.other,1,[.nilFunc]⟩,
 some ⟨.int .i64,1,[.int .i64 0]⟩,
 none,
 some ⟨.other,1,[.nilFunc]⟩,
 some ⟨.other,1,[.nilFunc]⟩,
 some ⟨.other,1,[.nilFunc]⟩,
 some ⟨.other,1,[.nilFunc]⟩,
 some ⟨.other,1,[.nilFunc]⟩,
 some ⟨.other,1,[.nilFunc]⟩,
 some ⟨.other,1,[.nilFunc]⟩,
 some ⟨.int .u64,1,[.int .u64 0]⟩,
 some ⟨.other,1,[.nilFunc]⟩,
 some ⟨.other,1,[.nilFunc]⟩,
 some ⟨.other,1,[.nilFunc]⟩,
 some ⟨.other,1,[.nilFunc]⟩,
 some ⟨.other,1,[.nilFunc]⟩,
 some ⟨.other,1,[.nilFunc]⟩,
 some ⟨.other,1,[.map none]⟩,
 some ⟨.struct [(0,1,false),(1,1,false)],2,[.int .i64 0,.int .i64 0]⟩,
 some ⟨.struct [(0,1,false),(1,1,false)],2,[.int .i64 0,.int .i64 0]⟩,
 some ⟨.other,1,[.nilFunc]⟩,
 some ⟨.struct [(0,1,false),(1,1,false)],2,[.int .i64 0,.int .i64 0]⟩,
 some ⟨.struct [(0,1,false),(1,1,false)],2,[.int .i64 0,.int .i64 0]⟩,
 some ⟨.other,1,[.nilFunc]⟩,
 some ⟨.other,1,[.nilFunc]⟩,
 some ⟨.other,1,[.nilFunc]⟩,
 some ⟨.other,1,[.nilFunc]⟩,
 some ⟨.other,1,[.nilFunc]⟩,
 some ⟨.other,1,[.nilFunc]⟩,
 some ⟨.other,1,[.nilFunc]⟩,
 some ⟨.other,1,[.nilFunc]⟩,
 some ⟨.int .u64,1,[.int .u64 0]⟩,
 some ⟨.other,1,[.nilFunc]⟩,
 some ⟨.other,1,[.nilFunc]⟩,
 some ⟨.other,1,[.nilFunc]⟩,
 some ⟨.other,1,[.pointer none]⟩,
 some ⟨.other,1,[.nilFunc]⟩,
 some ⟨.other,1,[.map none]⟩,
 some ⟨.slice 3 1 8,1,[.slice none 0 0]⟩,
 some ⟨.other,1,[.nilFunc]⟩,
 some ⟨.other,1,[.nilFunc]⟩,
 some ⟨.other,1,[.nilFunc]⟩,
 some ⟨.other,1,[.nilFunc]⟩,
 some ⟨.other,1,[.pointer none]⟩,
 some ⟨.other,1,[.nilFunc]⟩,
 some ⟨.other,1,[.nilFunc]⟩,
 some ⟨.other,1,[.nilFunc]⟩,
 some ⟨.other,1,[.nilFunc]⟩,
 some ⟨.other,1,[.nilFunc]⟩,
 some ⟨.other,1,[.nilFunc]⟩,
 some ⟨.other,1,[.nilFunc]⟩,
 some ⟨.other,1,[.nilFunc]⟩,
 some ⟨.other,1,[.nilFunc]⟩,
 some ⟨.other,1,[.pointer none]⟩,
 none,
 some ⟨.other,1,[.nilFunc]⟩,
 some ⟨.other,1,[.nilFunc]⟩,
 some ⟨.other,1,[.nilIface]⟩,
 some ⟨.other,1,[.nilIface]⟩,
 some ⟨.other,1,[.nilFunc]⟩,
 some ⟨.other,1,[.nilFunc]⟩,
 some ⟨.other,1,[.nilFunc]⟩,
 some ⟨.other,1,[.nilFunc]⟩,
 some ⟨.other,1,[.nilFunc]⟩,
 some ⟨.other,1,[.nilFunc]⟩,
 some ⟨.slice 366 2 16,1,[.slice none 0 0]⟩,
 some ⟨.struct [(0,1,false),(1,1,false)],2,[.int .i64 0,.int .i64 0]⟩,
 some ⟨.struct [(0,1,false),(1,1,false)],2,[.int .i64 0,.int .i64 0]⟩,
 some ⟨.other,1,[.pointer none]⟩,
 some ⟨.other,1,[.nilFunc]⟩,
 some ⟨.struct [(0,1,false),(1,1,false),(2,1,false),(3,1,false)],4,[.pointer none,.pointer none,.pointer none,.string ⟨#[]⟩]⟩,
 some ⟨.struct [(0,1,false),(1,1,false),(2,1,false),(3,1,false)],4,[.pointer none,.pointer none,.pointer none,.string ⟨#[]⟩]⟩,
 none,
 none,
 none,
 some ⟨.int .u8,1,[.int .u8 0]⟩,
 some ⟨.int .u8,1,[.int .u8 0]⟩,
 some ⟨.other,1,[.nilFunc]⟩,
 some ⟨.other,1,[.pointer none]⟩,
 some ⟨.int .i32,1,[.int .i32 0]⟩,
 some ⟨.int .i32,1,[.int .i32 0]⟩,
 some ⟨.struct [(0,1,false),(1,1,false),(2,1,false),(3,1,false),(4,1,false),(5,1,false),(6,1,false),(7,1,false),(8,1,false),(9,1,false),(10,1,false)],11,[.int .u64 0,.int .u64 0,.int .u32 0,.int .u8 0,.int .u8 0,.int .u8 0,.int .u8 0,.nilFunc,.pointer none,.int .i32 0,.int .i32 0]⟩,
 some ⟨.struct [(0,1,false),(1,1,false),(2,1,false),(3,1,false),(4,1,false),(5,1,false),(6,1,false),(7,1,false),(8,1,false),(9,1,false),(10,1,false)],11,[.int .u64 0,.int .u64 0,.int .u32 0,.int .u8 0,.int .u8 0,.int .u8 0,.int .u8 0,.nilFunc,.pointer none,.int .i32 0,.int .i32 0]⟩,
 none,
 none,
 none,
 none,
 none,
 none,
 none,
 none,
 none,
 none,
 none,
 none,
 none,
 none,
 none,
 none,
 none,
 none,
 none,
 none,
 none,
 none,
 none,
 none,
 none,
 none,
 none,
 none,
 none,
 none,
 none,
 none,
 none,
 none,
 none,
 none,
 none,
 none]
theorem a6:f6 Tryz.prog tt:=GA (by kernel_rfl)
theorem Jj {P:Program} {f:FuncId} {fn:Func} {c:Code} (hf:P.funcs[f]?=some fn) (hn:(fn.name== "runtime.NumGoroutine")=false:=by kernel_rfl) (hb:fn.body=some c:=by rfl):bT P f:=⟨ar hf hn hb⟩
instance:bT Tryz.prog 7:=Jj Tryz.func7
instance:bT Tryz.prog 8:=Jj Tryz.func8
instance:bT Tryz.prog 9:=Jj Tryz.func9
instance:bT Tryz.prog 10:=Jj Tryz.func10
instance:bT Tryz.prog 11:=Jj Tryz.func11
instance:bT Tryz.prog 12:=Jj Tryz.func12
instance:bT Tryz.prog 13:=Jj Tryz.func13
instance:bT Tryz.prog 14:=Jj Tryz.func14
instance:bT Tryz.prog 15:=Jj Tryz.func15
instance:bT Tryz.prog 16:=Jj Tryz.func16
instance:bT Tryz.prog 17:=Jj Tryz.func17
instance:bT Tryz.prog 18:=Jj Tryz.func18
instance:bT Tryz.prog 19:=Jj Tryz.func19
instance:bT Tryz.prog 21:=Jj Tryz.func21
instance:bT Tryz.prog 22:=Jj Tryz.func22
instance:bT Tryz.prog 23:=Jj Tryz.func23
instance:bT Tryz.prog 24:=Jj Tryz.func24
instance:bT Tryz.prog 25:=Jj Tryz.func25
instance:bT Tryz.prog 26:=Jj Tryz.func26
instance:bT Tryz.prog 27:=Jj Tryz.func27
instance:bT Tryz.prog 28:=Jj Tryz.func28
instance:bT Tryz.prog 29:=Jj Tryz.func29
instance:bT Tryz.prog 30:=Jj Tryz.func30
instance:bT Tryz.prog 31:=Jj Tryz.func31
instance:bT Tryz.prog 32:=Jj Tryz.func32
instance:bT Tryz.prog 33:=Jj Tryz.func33
instance:bT Tryz.prog 34:=Jj Tryz.func34
instance:bT Tryz.prog 35:=Jj Tryz.func35
instance:bT Tryz.prog 36:=Jj Tryz.func36
instance:bT Tryz.prog 37:=Jj Tryz.func37
instance:bT Tryz.prog 38:=Jj Tryz.func38
instance:bT Tryz.prog 39:=Jj Tryz.func39
instance:bT Tryz.prog 40:=Jj Tryz.func40
instance:bT Tryz.prog 41:=Jj Tryz.func41
instance:bT Tryz.prog 42:=Jj Tryz.func42
instance:bT Tryz.prog 43:=Jj Tryz.func43
instance:bT Tryz.prog 44:=Jj Tryz.func44
instance:bT Tryz.prog 45:=Jj Tryz.func45
instance:bT Tryz.prog 46:=Jj Tryz.func46
instance:bT Tryz.prog 47:=Jj Tryz.func47
instance:bT Tryz.prog 48:=Jj Tryz.func48
instance:bT Tryz.prog 49:=Jj Tryz.func49
instance:bT Tryz.prog 50:=Jj Tryz.func50
instance:bT Tryz.prog 51:=Jj Tryz.func51
instance:bT Tryz.prog 52:=Jj Tryz.func52
instance:bT Tryz.prog 53:=Jj Tryz.func53
instance:bT Tryz.prog 54:=Jj Tryz.func54
instance:bT Tryz.prog 55:=Jj Tryz.func55
instance:bT Tryz.prog 56:=Jj Tryz.func56
instance:bT Tryz.prog 57:=Jj Tryz.func57
instance:bT Tryz.prog 58:=Jj Tryz.func58
instance:bT Tryz.prog 59:=Jj Tryz.func59
instance:bT Tryz.prog 60:=Jj Tryz.func60
instance:bT Tryz.prog 61:=Jj Tryz.func61
instance:bT Tryz.prog 63:=Jj Tryz.func63
instance:bT Tryz.prog 64:=Jj Tryz.func64
instance:bT Tryz.prog 65:=Jj Tryz.func65
instance:bT Tryz.prog 66:=Jj Tryz.func66
instance:bT Tryz.prog 67:=Jj Tryz.func67
instance:bT Tryz.prog 68:=Jj Tryz.func68
instance:bT Tryz.prog 69:=Jj Tryz.func69
instance:bT Tryz.prog 70:=Jj Tryz.func70
instance:bT Tryz.prog 71:=Jj Tryz.func71
instance:bT Tryz.prog 72:=Jj Tryz.func72
instance:bT Tryz.prog 73:=Jj Tryz.func73
instance:bT Tryz.prog 74:=Jj Tryz.func74
instance:bT Tryz.prog 75:=Jj Tryz.func75
instance:bT Tryz.prog 76:=Jj Tryz.func76
instance:bT Tryz.prog 77:=Jj Tryz.func77
instance:bT Tryz.prog 78:=Jj Tryz.func78
instance:bT Tryz.prog 79:=Jj Tryz.func79
instance:bT Tryz.prog 80:=Jj Tryz.func80
instance:bT Tryz.prog 81:=Jj Tryz.func81
instance:bT Tryz.prog 82:=Jj Tryz.func82
instance:bT Tryz.prog 83:=Jj Tryz.func83
instance:bT Tryz.prog 84:=Jj Tryz.func84
instance:bT Tryz.prog 85:=Jj Tryz.func85
instance:bT Tryz.prog 86:=Jj Tryz.func86
instance:bT Tryz.prog 87:=Jj Tryz.func87
instance:bT Tryz.prog 88:=Jj Tryz.func88
instance:bT Tryz.prog 89:=Jj Tryz.func89
instance:bT Tryz.prog 90:=Jj Tryz.func90
instance:bT Tryz.prog 91:=Jj Tryz.func91
instance:bT Tryz.prog 92:=Jj Tryz.func92
instance:bT Tryz.prog 93:=Jj Tryz.func93
instance:bT Tryz.prog 94:=Jj Tryz.func94
instance:bT Tryz.prog 95:=Jj Tryz.func95
instance:bT Tryz.prog 96:=Jj Tryz.func96
instance:bT Tryz.prog 97:=Jj Tryz.func97
instance:bT Tryz.prog 98:=Jj Tryz.func98
instance:bT Tryz.prog 99:=Jj Tryz.func99
instance:bT Tryz.prog 100:=Jj Tryz.func100
instance:bT Tryz.prog 101:=Jj Tryz.func101
instance:bT Tryz.prog 102:=Jj Tryz.func102
instance:bT Tryz.prog 103:=Jj Tryz.func103
instance:bT Tryz.prog 104:=Jj Tryz.func104
instance:bT Tryz.prog 105:=Jj Tryz.func105
instance:bT Tryz.prog 106:=Jj Tryz.func106
instance:bT Tryz.prog 107:=Jj Tryz.func107
instance:bT Tryz.prog 108:=Jj Tryz.func108
instance:bT Tryz.prog 109:=Jj Tryz.func109
instance:bT Tryz.prog 110:=Jj Tryz.func110
instance:bT Tryz.prog 111:=Jj Tryz.func111
instance:bT Tryz.prog 112:=Jj Tryz.func112
instance:bT Tryz.prog 113:=Jj Tryz.func113
instance:bT Tryz.prog 114:=Jj Tryz.func114
instance:bT Tryz.prog 115:=Jj Tryz.func115
instance:bT Tryz.prog 116:=Jj Tryz.func116
instance:bT Tryz.prog 117:=Jj Tryz.func117
instance:bT Tryz.prog 118:=Jj Tryz.func118
instance:bT Tryz.prog 119:=Jj Tryz.func119
instance:bT Tryz.prog 120:=Jj Tryz.func120
instance:bT Tryz.prog 121:=Jj Tryz.func121
instance:bT Tryz.prog 122:=Jj Tryz.func122
instance:bT Tryz.prog 123:=Jj Tryz.func123
instance:bT Tryz.prog 124:=Jj Tryz.func124
instance:bT Tryz.prog 125:=Jj Tryz.func125
instance:bT Tryz.prog 126:=Jj Tryz.func126
instance:bT Tryz.prog 127:=Jj Tryz.func127
instance:bT Tryz.prog 128:=Jj Tryz.func128
instance:bT Tryz.prog 129:=Jj Tryz.func129
instance:bT Tryz.prog 130:=Jj Tryz.func130
instance:bT Tryz.prog 131:=Jj Tryz.func131
instance:bT Tryz.prog 132:=Jj Tryz.func132
instance:bT Tryz.prog 133:=Jj Tryz.func133
instance:bT Tryz.prog 134:=Jj Tryz.func134
instance:bT Tryz.prog 135:=Jj Tryz.func135
instance:bT Tryz.prog 136:=Jj Tryz.func136
instance:bT Tryz.prog 137:=Jj Tryz.func137
instance:bT Tryz.prog 138:=Jj Tryz.func138
instance:bT Tryz.prog 139:=Jj Tryz.func139
instance:bT Tryz.prog 140:=Jj Tryz.func140
instance:bT Tryz.prog 141:=Jj Tryz.func141
instance:bT Tryz.prog 142:=Jj Tryz.func142
instance:bT Tryz.prog 143:=Jj Tryz.func143
instance:bT Tryz.prog 144:=Jj Tryz.func144
instance:bT Tryz.prog 145:=Jj Tryz.func145
instance:bT Tryz.prog 146:=Jj Tryz.func146
instance:bT Tryz.prog 147:=Jj Tryz.func147
instance:bT Tryz.prog 148:=Jj Tryz.func148
instance:bT Tryz.prog 151:=Jj Tryz.func151
instance:bT Tryz.prog 152:=Jj Tryz.func152
instance:bT Tryz.prog 153:=Jj Tryz.func153
instance:bT Tryz.prog 154:=Jj Tryz.func154
instance:bT Tryz.prog 155:=Jj Tryz.func155
instance:bT Tryz.prog 156:=Jj Tryz.func156
instance:bT Tryz.prog 157:=Jj Tryz.func157
instance:bT Tryz.prog 158:=Jj Tryz.func158
instance:bT Tryz.prog 159:=Jj Tryz.func159
instance:bT Tryz.prog 160:=Jj Tryz.func160
instance:bT Tryz.prog 161:=Jj Tryz.func161
instance:bT Tryz.prog 162:=Jj Tryz.func162
instance:bT Tryz.prog 163:=Jj Tryz.func163
instance:bT Tryz.prog 164:=Jj Tryz.func164
instance:bT Tryz.prog 165:=Jj Tryz.func165
instance:bT Tryz.prog 166:=Jj Tryz.func166
instance:bT Tryz.prog 167:=Jj Tryz.func167
instance:bT Tryz.prog 168:=Jj Tryz.func168
instance:bT Tryz.prog 169:=Jj Tryz.func169
instance:bT Tryz.prog 170:=Jj Tryz.func170
instance:bT Tryz.prog 171:=Jj Tryz.func171
instance:bT Tryz.prog 172:=Jj Tryz.func172
instance:bT Tryz.prog 173:=Jj Tryz.func173
instance:bT Tryz.prog 174:=Jj Tryz.func174
instance:bT Tryz.prog 175:=Jj Tryz.func175
instance:bT Tryz.prog 176:=Jj Tryz.func176
instance:bT Tryz.prog 177:=Jj Tryz.func177
instance:bT Tryz.prog 178:=Jj Tryz.func178
instance:bT Tryz.prog 179:=Jj Tryz.func179
instance:bT Tryz.prog 180:=Jj Tryz.func180
instance:bT Tryz.prog 181:=Jj Tryz.func181
instance:bT Tryz.prog 182:=Jj Tryz.func182
instance:bT Tryz.prog 183:=Jj Tryz.func183
instance:bT Tryz.prog 184:=Jj Tryz.func184
instance:bT Tryz.prog 185:=Jj Tryz.func185
instance:bT Tryz.prog 186:=Jj Tryz.func186
instance:bT Tryz.prog 187:=Jj Tryz.func187
instance:bT Tryz.prog 188:=Jj Tryz.func188
instance:bT Tryz.prog 189:=Jj Tryz.func189
instance:bT Tryz.prog 190:=Jj Tryz.func190
instance:bT Tryz.prog 191:=Jj Tryz.func191
instance:bT Tryz.prog 192:=Jj Tryz.func192
instance:bT Tryz.prog 193:=Jj Tryz.func193
instance:bT Tryz.prog 194:=Jj Tryz.func194
instance:bT Tryz.prog 195:=Jj Tryz.func195
instance:bT Tryz.prog 196:=Jj Tryz.func196
instance:bT Tryz.prog 197:=Jj Tryz.func197
instance:bT Tryz.prog 198:=Jj Tryz.func198
instance:bT Tryz.prog 199:=Jj Tryz.func199
instance:bT Tryz.prog 200:=Jj Tryz.func200
instance:bT Tryz.prog 201:=Jj Tryz.func201
instance:bT Tryz.prog 213:=Jj Tryz.func213
instance:bT Tryz.prog 214:=Jj Tryz.func214
instance:bT Tryz.prog 215:=Jj Tryz.func215
instance:bT Tryz.prog 216:=Jj Tryz.func216
instance:bT Tryz.prog 217:=Jj Tryz.func217
instance:bT Tryz.prog 218:=Jj Tryz.func218
instance:bT Tryz.prog 219:=Jj Tryz.func219
instance:bT Tryz.prog 220:=Jj Tryz.func220
instance:bT Tryz.prog 221:=Jj Tryz.func221
instance:bT Tryz.prog 222:=Jj Tryz.func222
instance:bT Tryz.prog 223:=Jj Tryz.func223
instance:bT Tryz.prog 224:=Jj Tryz.func224
instance:bT Tryz.prog 225:=Jj Tryz.func225
instance:bT Tryz.prog 226:=Jj Tryz.func226
instance:bT Tryz.prog 227:=Jj Tryz.func227
instance:bT Tryz.prog 228:=Jj Tryz.func228
instance:bT Tryz.prog 229:=Jj Tryz.func229
instance:bT Tryz.prog 230:=Jj Tryz.func230
instance:bT Tryz.prog 231:=Jj Tryz.func231
instance:bT Tryz.prog 232:=Jj Tryz.func232
instance:bT Tryz.prog 233:=Jj Tryz.func233
instance:bT Tryz.prog 234:=Jj Tryz.func234
instance:bT Tryz.prog 235:=Jj Tryz.func235
instance:bT Tryz.prog 236:=Jj Tryz.func236
instance:bT Tryz.prog 237:=Jj Tryz.func237
instance:bT Tryz.prog 238:=Jj Tryz.func238
instance:bT Tryz.prog 239:=Jj Tryz.func239
instance:bT Tryz.prog 240:=Jj Tryz.func240
instance:bT Tryz.prog 241:=Jj Tryz.func241
instance:bT Tryz.prog 242:=Jj Tryz.func242
instance:bT Tryz.prog 243:=Jj Tryz.func243
instance:bT Tryz.prog 250:=Jj Tryz.func250
instance:bT Tryz.prog 251:=Jj Tryz.func251
instance:bT Tryz.prog 252:=Jj Tryz.func252
instance:bT Tryz.prog 253:=Jj Tryz.func253
instance:bT Tryz.prog 254:=Jj Tryz.func254
instance:bT Tryz.prog 255:=Jj Tryz.func255
instance:bT Tryz.prog 256:=Jj Tryz.func256
instance:bT Tryz.prog 257:=Jj Tryz.func257
instance:bT Tryz.prog 258:=Jj Tryz.func258
instance:bT Tryz.prog 259:=Jj Tryz.func259
instance:bT Tryz.prog 260:=Jj Tryz.func260
instance:bT Tryz.prog 262:=Jj Tryz.func262
instance:bT Tryz.prog 263:=Jj Tryz.func263
instance:bT Tryz.prog 264:=Jj Tryz.func264
instance:bT Tryz.prog 265:=Jj Tryz.func265
instance:bT Tryz.prog 266:=Jj Tryz.func266
instance:bT Tryz.prog 267:=Jj Tryz.func267
section
variable {P:Program} {r:Option Nat} {ops:Array Oper} {Q:Exit→Act→World→Prop} {nt:Nat} {D:List Deferred} {fr:cw} {B:Bs} {L:AL} {rest:List Oper} {cd:Code} {φ:Prop}
theorem FN (hφ:∀σ a w,jp σ nt D fr a→dQ B σ L w→φ) (h:φ→AT P r cd Q nt D fr B L):AT P r cd Q nt D fr B L:=fun σ a w ha hw=>h (hφ σ a w ha hw) σ a w ha hw
theorem Dh (hφ:∀σ a w,jp σ nt D fr a→dQ B σ L w→φ) (h:φ→cg P r ops Q nt D rest fr B L):cg P r ops Q nt D rest fr B L:=fun σ a w ha hw=>h (hφ σ a w ha hw) σ a w ha hw
theorem Bz {σ:cP} {u:AV} {v:Value} {s:Nat} {l:List (List AV)} (h:VR σ u v) (hu:gZ u=some (s,l)):l.length≤9223372036854775807∧∀e∈l,e.length=s:=by
 have h1:=h.im
 rw [cS hu] at h1
 obtain ⟨_,_,_,h2,h3,h4,_⟩:=h1.imm_inv
 unfold maxLen at h3
 exact ⟨by omega,h4⟩
theorem cN (t:Nat) {u:AV} {s:Nat} {l:List (List AV)} (hl:cF fr t=some u) (hu:gZ u=some (s,l)) (h:l.length≤9223372036854775807→AT P r cd Q nt D fr B L):AT P r cd Q nt D fr B L:=
 FN (fun σ a w ha _=>(Bz (ha.look t u hl) hu).1) h
end
section
variable {P:Program} {nt:Nat} {fr:cw} {B:Bs} {L:AL}
theorem pD {fn:Func} {Post:AV→AL→Prop} {t:Tmp} {c:AV} {s:Nat} {l:List (List AV)} (hr:fn.results=#[.tmp t]) (hv:cF fr t=some c) (hi:gZ c=some (s,l)) (h:Post (.imm s l) L):AX P .ret (bodyPost P fn (jW B Post)) nt [] fr B L:=
 fun σ a w ha hw=>⟨ha.defers,_,results_tmp hr _ _ _,_,σ,.imm s l,L,rfl,by rw [←cS hi];exact (ha.look t c hv).im,hw,h⟩
end
section
variable {P:Program} {r:Option Nat} {ops:Array Oper} {Q:Exit→Act→World→Prop} {nt:Nat} {D:List Deferred} {fr:cw} {B:Bs} {L:AL} {rest:List Oper} {d:Nat} {ty:TypeId} {pos:String} {af:Array Edge}
def to (P:Program) (f:FuncId) (args:List AV) (e s:Nat) (l:List (List AV)):Prop:=AC P f args [] fun c L=>∃k,c= .vec k s l∧L=_root_.Go.Proofs.YtjjpkibjffmceaaGreat.tok k e s l.length
theorem to.det {f:FuncId} {args:List AV} {e s:Nat} {l:List (List AV)} (h:to P f args e s l):bZ P f args (.imm s l):=fun σ w vs hv hs=>(h σ w vs hv hs).mono fun _ _ ⟨v,τ,c,L',h1,h2,h3,k,h4,h5⟩=>⟨v,τ,.imm s l,L',h1,by subst h4;exact h2.im,h3,rfl⟩
theorem xG {f:FuncId} {args:Array Operand} {ts:Array TypeId} {cs ds:List AV} {e s:Nat} {l:List (List AV)} [bT P f] (hc:to P f ds e s l) (hv:eN fr args.toList=some cs) (hi:l6 cs=some ds) (hd:Nat.ble nt d=false) (h:∀k,cg P r ops Q nt D rest ((d,.vec k s l)::fr) B (_root_.Go.Proofs.YtjjpkibjffmceaaGreat.tok k e s l.length++L)):
  cg P r ops Q nt D (⟨some d,.call ⟨.value (.func f),args,ts⟩,ty,pos,af,none⟩::rest) fr B L:=by
 have hc':=hc
 rw [←iI hi] at hc'
 refine dE hd rfl (mO [] L hv (fun σ vs h=>h.im) (Jn _) hc') fun c L' hh=>?_
 obtain ⟨L1,⟨k,h1,h2⟩,h3⟩:=hh
 subst h1;subst h2;subst h3
 exact h k
end
def aS (l:List Int):List (List AV):=l.map fun z=>[.sc (.int .i64 z)]
theorem aF (l:List Int):(aS l).length=l.length:=by simp [aS]
theorem bQ {l:List Int} {i:Nat} {z:Int} (h:l[i]?=some z):(aS l)[i]?=some [.sc (.int .i64 z)]:=by simp [aS,h]
end Go.Proofs.YtjjpkibjffmceaaGreat
namespace Go.Proofs.YtjjpkibjffmceaaGreat
open Go.RowKit
section
variable {P:Program} {tt:TT} {r:Option Nat} {Q:Exit→Act→World→Prop} {nt:Nat} {D:List Deferred} {fr:cw} {B:Bs} {L:AL} {l:List Oper} {fin:jb}
variable {k j:Nat} {s:Ak} {sk:lL} {acc:cw} {dd:Option Tmp} {op:Op} {ty t t':TypeId} {pos:String} {af:Array Edge} {g:Option (Nat×Bool)} {x y c:Operand} {u:AV} {want b:Bool}
def du (P:Program) (l:List Oper) (fr:cw) (fin:jb) (k:Nat) (s:Ak) (o:Oper) (sk:lL) (acc:cw) (L:AL):Prop:=l[k]?=some o→DA P l fr fin ((k,s)::sk) acc L
theorem aC {o:Oper} (h:du P l fr fin k s o sk acc L) (ho:l[k]?=some o:=by rfl):DA P l fr fin ((k,s)::sk) acc L:=h ho
def iL (o:Oper) (acc:cw):Prop:=match o.guard with
 | none=>True
 | some (j,want)=>p8 acc j= .sc (.bool want)
theorem nN {o:Oper} {R:AV→AL→Prop} (hg:iL o acc) (h:∀B,AO P o (da l.toArray acc fr o.after.toList) B L R):y8 P l fr o acc L R:=by
 unfold y8
 unfold iL at hg
 split
 ·exact h
 ·rename_i j want hq
  rw [hq] at hg
  exact .inl ⟨hg,h⟩
theorem gq {o:Oper} (hg:iL o acc) (h:∀B L,AO P o (da l.toArray acc fr o.after.toList) B L (fun c L'=>c=u∧L'=L)) (hn:DA P l fr fin sk ((k,u)::acc) L):du P l fr fin k .v o sk acc L:=by
 intro ho
 obtain ⟨pl,hpl⟩:=hn
 exact ⟨.val k u pl,.v,sk,o,rfl,ho,.inl ⟨rfl,fun L=>nN hg fun B=>h B L⟩,hpl⟩
theorem Bc {o:Oper} (hg:iL o acc) (h:∀B,AO P o (da l.toArray acc fr o.after.toList) B L (fun c L'=>c=u∧L'=L)) (hn:DA P l fr fin sk ((k,u)::acc) L):du P l fr fin k .l o sk acc L:=by
 intro ho
 obtain ⟨pl,hpl⟩:=hn
 exact ⟨.val k u pl,.l,sk,o,rfl,ho,.inr (.inl ⟨rfl,nN hg fun B=>h B⟩),hpl⟩
theorem iy {o:Oper} {R:AV→AL→Prop} (hg:iL o acc) (h:∀B,AO P o (da l.toArray acc fr o.after.toList) B L R) (hn:∀c L',R c L'→DA P l fr fin sk ((k,c)::acc) L'):du P l fr fin k .e o sk acc L:=by
 intro ho
 have hn':∀c L',∃pl,R c L'→eC P l fr fin pl sk ((k,c)::acc) L':=fun c L'=>by
  by_cases hr:R c L'
  ·obtain ⟨pl,hpl⟩:=hn c L' hr
   exact ⟨pl,fun _=>hpl⟩
  ·exact ⟨.fin,fun h=>absurd h hr⟩
 exact ⟨.eff k R fun c L'=>Classical.choose (hn' c L'),.e,sk,o,.inl rfl,rfl,ho,nN hg h,fun c L' hr=>Classical.choose_spec (hn' c L') hr⟩
theorem Bb {o:Oper} (hK:eT fin.gs L) (hg:iL o acc) (h:∀B L,eT fin.gs L→AO P o (da l.toArray acc fr o.after.toList) B L (fun c L'=>c=u∧L'=L)) (hn:DA P l fr fin sk ((k,u)::acc) L):du P l fr fin k .k o sk acc L:=by
 intro ho
 obtain ⟨pl,hpl⟩:=hn
 exact ⟨.val k u pl,.k,sk,o,rfl,ho,.inr (.inr ⟨rfl,hK,fun L hL=>nN hg fun B=>h B L hL⟩),hpl⟩
theorem sl {o:Oper} {R:AV→AL→Prop} (hX:∀c L',R c L'→eT fin.gs L→eT fin.gs L') (hg:iL o acc) (h:∀B,AO P o (da l.toArray acc fr o.after.toList) B L R) (hn:∀c L',R c L'→DA P l fr fin sk ((k,c)::acc) L'):du P l fr fin k .f o sk acc L:=by
 intro ho
 have hn':∀c L',∃pl,R c L'→eC P l fr fin pl sk ((k,c)::acc) L':=fun c L'=>by
  by_cases hr:R c L'
  ·obtain ⟨pl,hpl⟩:=hn c L' hr
   exact ⟨pl,fun _=>hpl⟩
  ·exact ⟨.fin,fun h=>absurd h hr⟩
 exact ⟨.eff k R fun c L'=>Classical.choose (hn' c L'),.f,sk,o,.inr (.inr ⟨rfl,hX⟩),rfl,ho,nN hg h,fun c L' hr=>Classical.choose_spec (hn' c L') hr⟩
theorem vH {o:Oper} {R:AV→AL→Prop} (hX:∀c L',R c L'→∃X,L'=X++L) (hg:iL o acc) (h:∀B,AO P o (da l.toArray acc fr o.after.toList) B L R) (hn:∀c L',R c L'→DA P l fr fin sk ((k,c)::acc) L'):du P l fr fin k .a o sk acc L:=by
 intro ho
 have hn':∀c L',∃pl,R c L'→eC P l fr fin pl sk ((k,c)::acc) L':=fun c L'=>by
  by_cases hr:R c L'
  ·obtain ⟨pl,hpl⟩:=hn c L' hr
   exact ⟨pl,fun _=>hpl⟩
  ·exact ⟨.fin,fun h=>absurd h hr⟩
 exact ⟨.eff k R fun c L'=>Classical.choose (hn' c L'),.a,sk,o,.inr (.inl ⟨rfl,hX⟩),rfl,ho,nN hg h,fun c L' hr=>Classical.choose_spec (hn' c L') hr⟩
theorem iU {op:Op} (hj:p8 acc j= .sc (.bool b)) (hb:(b==want)=false) (hn:DA P l fr fin sk ((k,.sc undef)::acc) L):du P l fr fin k .v ⟨dd,op,ty,pos,af,some (j,want)⟩ sk acc L:=by
 intro ho
 obtain ⟨pl,hpl⟩:=hn
 exact ⟨.val k (.sc undef) pl,.v,sk,_,rfl,ho,.inl ⟨rfl,fun L=> .inr ⟨⟨_,hj,fun e=>by injection e with e;subst e;simp at hb⟩,rfl,rfl⟩⟩,hpl⟩
theorem He {op:Op} (hj:p8 acc j= .sc undef) (hn:DA P l fr fin sk ((k,.sc undef)::acc) L):du P l fr fin k .v ⟨dd,op,ty,pos,af,some (j,want)⟩ sk acc L:=by
 intro ho
 obtain ⟨pl,hpl⟩:=hn
 exact ⟨.val k (.sc undef) pl,.v,sk,_,rfl,ho,.inl ⟨rfl,fun L=> .inr ⟨⟨_,hj,fun e=>by simp [undef] at e⟩,rfl,rfl⟩⟩,hpl⟩
theorem CT {o:Oper} {fr:cw} (h:Av P o fr u):∀B L,AO P o fr B L (fun c L'=>c=u∧L'=L):=fun _ _=>h.ao
theorem aY (ok:f6 P tt) (h:DA P l fr fin sk ((k,u)::acc) L) (hu:qH tt (da l.toArray acc fr af.toList) op=some u:=by rfl) (hg:iL ⟨dd,op,ty,pos,af,g⟩ acc:=by first | trivial | rfl):du P l fr fin k .v ⟨dd,op,ty,pos,af,g⟩ sk acc L:=gq hg (CT (qI ok hu)) h
theorem fk {bop:BinOp} (h:du P l fr fin k .v ⟨dd,.binOp bop t x y t',ty,pos,af,g⟩ sk acc L):du P l fr fin k .v ⟨dd,.binOp bop t x y t',ty,pos,af,g⟩ sk acc L:=h
theorem gF {bop:BinOp} (h:DA P l fr fin sk ((k,u)::acc) L) (ho:Av P ⟨dd,.binOp bop t x y t',ty,pos,af,g⟩ (da l.toArray acc fr af.toList) u:=by first | exact wW rfl rfl (by omega) | exact xb rfl rfl (by omega) | exact x9 rfl rfl (by omega)) (hg:iL ⟨dd,.binOp bop t x y t',ty,pos,af,g⟩ acc:=by first | trivial | rfl):du P l fr fin k .v ⟨dd,.binOp bop t x y t',ty,pos,af,g⟩ sk acc L:=gq hg (CT ho) h
theorem bS (h:du P l fr fin k .v ⟨dd,.indexAddr t x y,ty,pos,af,g⟩ sk acc L):du P l fr fin k .v ⟨dd,.indexAddr t x y,ty,pos,af,g⟩ sk acc L:=h
theorem ce (ok:f6 P tt) {e sz by_ s:Nat} {ll:List (List AV)} {ik:IntKind} {i:Int} {es:List AV} (h:DA P l fr fin sk ((k,.iptr es)::acc) L) (ht:kN tt t=some (e,sz,by_):=by rfl) (hx:bU (da l.toArray acc fr af.toList) x=some u:=by rfl) (hu:gZ u=some (s,ll):=by rfl) (hs:Nat.beq s sz=true:=by rfl) (hy:bU (da l.toArray acc fr af.toList) y=some (.sc (.int ik i)):=by rfl) (h0:0≤i:=by omega) (hl:ll[i.toNat]?=some es:=by first | assumption | (simp only [Int.toNat_natCast];assumption)) (hg:iL ⟨dd,.indexAddr t x y,ty,pos,af,g⟩ acc:=by first | trivial | rfl):du P l fr fin k .v ⟨dd,.indexAddr t x y,ty,pos,af,g⟩ sk acc L:=gq hg (CT (wY (bW ok ht).1 hx (cS hu) hs hy h0 hl)) h
theorem bK {f:FuncId} {args:Array Operand} {ts:Array TypeId} (h:du P l fr fin k .v ⟨dd,.call ⟨.value (.func f),args,ts⟩,ty,pos,af,g⟩ sk acc L):du P l fr fin k .v ⟨dd,.call ⟨.value (.func f),args,ts⟩,ty,pos,af,g⟩ sk acc L:=h
theorem bR {f:FuncId} {args:Array Operand} {ts:Array TypeId} {cs ds:List AV} [bT P f] (h:DA P l fr fin sk ((k,u)::acc) L) (hv:eN (da l.toArray acc fr af.toList) args.toList=some cs:=by rfl) (hi:l6 cs=some ds:=by rfl) (hc:AD P f ds u:=by infer_instance) (hg:iL ⟨dd,.call ⟨.value (.func f),args,ts⟩,ty,pos,af,g⟩ acc:=by first | trivial | rfl):du P l fr fin k .v ⟨dd,.call ⟨.value (.func f),args,ts⟩,ty,pos,af,g⟩ sk acc L:=gq hg (fun _ _=>AJ hv (by rw [iI hi];exact hc.det)) h
theorem dg (ok:f6 P tt) (i:Nat) {b kk:Nat} {cs:List AV} {e:TypeId} (ht:Gu tt t=true) (hx:bU (da l.toArray acc fr af.toList) x=some (.sc (.pointer (some ⟨b,kk,none⟩)))) (hL:L[i]?=some (b,.box cs e)) (hc:cs[kk]?=some u) (hg:iL ⟨dd,.load t x,ty,pos,af,g⟩ acc) (h:DA P l fr fin sk ((k,u)::acc) L):du P l fr fin k .l ⟨dd,.load t x,ty,pos,af,g⟩ sk acc L:=Bc hg (fun _=>s9 i (dk ok ht) hx hL hc) h
theorem xm (ok:f6 P tt) (i:Nat) {b kk n:Nat} {cs:List AV} {e:TypeId} (ht:H6 tt t=some n) (hx:bU (da l.toArray acc fr af.toList) x=some (.sc (.pointer (some ⟨b,kk,none⟩)))) (hL:L[i]?=some (b,.box cs e)) (hc:Nat.ble (kk+n) cs.length=true) (hg:iL ⟨dd,.load t x,ty,pos,af,g⟩ acc) (h:DA P l fr fin sk ((k,.agg ((cs.drop kk).take n))::acc) L):du P l fr fin k .l ⟨dd,.load t x,ty,pos,af,g⟩ sk acc L:=Bc hg (fun _=>tH i (cV ok ht) hx hL hc) h
theorem za {gs:KpL} {i b kk:Nat} {v:AV} (hi:gs[i]?=some (.cell (b,kk,v))) {L:AL} (h:eT gs L):∃(j:Nat) (cs:List AV) (e:TypeId),L[j]?=some (b,.box cs e)∧cs[kk]?=some v:=by
 obtain ⟨cs,e,h1,h2⟩:=h _ (Jw hi)
 obtain ⟨j,hj⟩:=List.mem_iff_getElem?.1 h1
 exact ⟨j,cs,e,hj,h2⟩
theorem eR (ok:f6 P tt) (i:Nat) {b kk:Nat} (ht:Gu tt t=true) (hx:bU (da l.toArray acc fr af.toList) x=some (.sc (.pointer (some ⟨b,kk,none⟩)))) (hi:fin.gs[i]?=some (.cell (b,kk,u))) (hK:eT fin.gs L) (hg:iL ⟨dd,.load t x,ty,pos,af,g⟩ acc) (h:DA P l fr fin sk ((k,u)::acc) L):du P l fr fin k .k ⟨dd,.load t x,ty,pos,af,g⟩ sk acc L:=
 Bb hK hg (fun _ L' hL'=>by
  obtain ⟨j,cs,e,h1,h2⟩:=za hi hL'
  exact s9 j (dk ok ht) hx h1 h2) h
theorem xc {d:Option Tmp} {e sz by_ n:Nat} {parts:Array (Nat×Operand)} {vs:List AV} {xs:List (List AV)} (hc:mI P t e sz by_) (hsz:0 < sz) (hv:eN fr (parts.toList.map (·.2))=some vs) (hxs:iR vs=some xs) (hn:Nat.beq xs.length n=true) (hi:parts.toList.map (·.1)=List.range' 0 n) (hz:xs.all (fun q=>Nat.beq q.length sz)=true) (h24:Nat.ble (n * sz) 16777216=true):
  AO P ⟨d,.buildSlice t n parts,ty,pos,af,g⟩ fr B L (fun c L'=>c= .imm sz xs∧L'=L):=by
 intro σ ρ w hρ hw
 refine (s8 hc hsz hv hxs hn hi hz h24 σ ρ w hρ hw).mono fun v w' hh=>?_
 obtain ⟨τ,c,L',h1,h2,h3,b,rfl,rfl⟩:=hh
 exact ⟨τ,_,L,h1,h2.im,h3.sublist (.cons _ (List.Sublist.refl _)),rfl,rfl⟩
theorem dU (ok:f6 P tt) {e sz by_ n:Nat} {parts:Array (Nat×Operand)} {vs:List AV} {xs:List (List AV)} (h:DA P l fr fin sk ((k,.imm sz xs)::acc) L) (ht:kN tt t=some (e,sz,by_):=by rfl) (hv:eN (da l.toArray acc fr af.toList) (parts.toList.map (·.2))=some vs:=by rfl) (hxs:iR vs=some xs:=by rfl) (hn:Nat.beq xs.length n=true:=by rfl) (hi:parts.toList.map (·.1)=List.range' 0 n:=by rfl) (hz:xs.all (fun q=>Nat.beq q.length sz)=true:=by rfl) (h24:Nat.ble (n * sz) 16777216=true:=by rfl) (hg:iL ⟨dd,.buildSlice t n parts,ty,pos,af,g⟩ acc:=by first | trivial | rfl):
  du P l fr fin k .v ⟨dd,.buildSlice t n parts,ty,pos,af,g⟩ sk acc L:=gq hg (fun _ _=>xc (bW ok ht).1 (bW ok ht).2 hv hxs hn hi hz h24) h
theorem bG (ok:f6 P tt) {r:Option Nat} {ops:Array Oper} {Q:Exit→Act→World→Prop} {nt:Nat} {D:List Deferred} {rest:List Oper} {d e sz by_ n:Nat} {parts:Array (Nat×Operand)} {vs:List AV} {xs:List (List AV)} (h:cg P r ops Q nt D rest ((d,.imm sz xs)::fr) B L) (ht:kN tt t=some (e,sz,by_):=by rfl) (hv:eN fr (parts.toList.map (·.2))=some vs:=by rfl) (hxs:iR vs=some xs:=by rfl) (hn:Nat.beq xs.length n=true:=by rfl) (hi:parts.toList.map (·.1)=List.range' 0 n:=by rfl) (hz:xs.all (fun q=>Nat.beq q.length sz)=true:=by rfl) (h24:Nat.ble (n * sz) 16777216=true:=by rfl) (hd:Nat.ble nt d=false:=by rfl):
  cg P r ops Q nt D (⟨some d,.buildSlice t n parts,ty,pos,af,none⟩::rest) fr B L:=by
 obtain ⟨h1,h2⟩:=bW ok ht
 refine dE hd rfl (xc h1 h2 hv hxs hn hi hz h24) fun c L' hh=>?_
 obtain ⟨h1,h2⟩:=hh
 subst h1;subst h2
 exact h
theorem bt {gs:KpL} {n0:Nat} {fr0:cw} {rest:List Oper} (ks:List Nat) (hk:gE (iY l.toArray acc fr n0) ks=some fr0) (hr:l.drop n0=rest) (h:cg P r l.toArray Q nt D rest fr0 B L):DA P l fr ⟨Bl P r l n0 Q nt D fr B none,gs⟩ [] acc L:=
 ⟨.fin,rfl,by rw [←hr] at h;exact tM (eH ks hk) (fun _ _ h=>h) h⟩
theorem IQ {gs:KpL} {n0:Nat} {fr0:cw} {rest:List Oper} (ks:List Nat) (zz:gE (iY l.toArray acc fr n0) ks=some fr0∧l.drop n0=rest) (h:cg P r l.toArray Q nt D rest fr0 B L):DA P l fr ⟨Bl P r l n0 Q nt D fr B none,gs⟩ [] acc L:=bt ks zz.1 zz.2 h
theorem ji {gs:KpL} {n0 kk:Nat} {ab:AB} {rest:List Oper} (ks:List Nat) (fr0:Nat→cw) (hk:∀b,gE (iY l.toArray ((kk,.sc (.pointer (some ⟨b,0,none⟩)))::acc) fr n0) ks=some (fr0 b)) (hr:l.drop n0=rest) (h:∀b,cg P r l.toArray Q nt D rest (fr0 b) B (L++[(b,ab)])):DA P l fr ⟨Bl P r l n0 Q nt D fr B (some (kk,ab)),gs⟩ [] acc L:=
 ⟨.fin,rfl,fun b=>by have:=h b;rw [←hr] at this;exact tM (eH ks (hk b)) (fun _ _ h=>h) this⟩
end
end Go.Proofs.YtjjpkibjffmceaaGreat
namespace Go.Proofs.YtjjpkibjffmceaaGreat
open Go.RowKit
attribute [local irreducible] AT cg AX AO Av Kt bJ eC DA du
end Go.Proofs.YtjjpkibjffmceaaGreat
