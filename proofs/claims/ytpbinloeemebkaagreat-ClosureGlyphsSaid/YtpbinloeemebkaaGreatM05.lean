/-
  The table of the types of the seat's program, and the functions that are entered, written by a program (wip/typesA.py).
-/
import Derived.Test.YtpbinloeemebkaaGreatM04
import Derived.Test.YtpbinloeemebkaaGreatProg
import Derived.KernelRfl
namespace Go.Proofs.YtpbinloeemebkaaGreat
open Go.RowKit
theorem ay {P : Program} {f : FuncId} {fn : Func} {c : Code} (hf : P.funcs[f]? = some fn) (hname : (fn.name == "runtime.NumGoroutine") = false) (hb : fn.body = some c) : ∀ args w, (callFunc f args).run P w = .ok (.enter f args) w := by
 intro args w
 have hne : ¬ fn.name = "runtime.NumGoroutine" := by simpa using hname
 simp [callFunc, hf, hne, hb]
theorem mixed : Tryz.prog.follows .mixedOrders = true := by kernel_rfl
def tt : TT := [none,
 some ⟨.other, 1, [.nilFunc]⟩,
 some ⟨.int .i64, 1, [.int .i64 0]⟩,
 some ⟨.int .i64, 1, [.int .i64 0]⟩,
 some ⟨.bool, 1, [.bool false]⟩,
 some ⟨.int .u8, 1, [.int .u8 0]⟩,
 some ⟨.int .u8, 1, [.int .u8 0]⟩,
 some ⟨.struct [(0, 1, false), (1, 1, false), (2, 1, false), (3, 1, false)], 4, [.int .i64 0, .int .i64 0, .bool false, .int .u8 0]⟩,
 some ⟨.struct [(0, 1, false), (1, 1, false), (2, 1, false), (3, 1, false)], 4, [.int .i64 0, .int .i64 0, .bool false, .int .u8 0]⟩,
 some ⟨.str, 1, [.string ⟨#[]⟩]⟩,
 some ⟨.str, 1, [.string ⟨#[]⟩]⟩,
 some ⟨.str, 1, [.string ⟨#[]⟩]⟩,
 some ⟨.int .u64, 1, [.int .u64 0]⟩,
 some ⟨.struct [(0, 1, false), (1, 1, false)], 2, [.string ⟨#[]⟩, .int .u64 0]⟩,
 some ⟨.struct [(0, 1, false), (1, 1, false)], 2, [.string ⟨#[]⟩, .int .u64 0]⟩,
 some ⟨.other, 1, [.pointer none]⟩,
 some ⟨.other, 1, [.pointer none]⟩,
 some ⟨.other, 1, [.pointer none]⟩,
 some ⟨.struct [(0, 1, false)], 1, [.pointer none]⟩,
 some ⟨.struct [(0, 1, false)], 1, [.pointer none]⟩,
 some ⟨.other, 1, [.nilIface]⟩,
 some ⟨.int .i32, 1, [.int .i32 0]⟩,
 some ⟨.slice 64 9 176, 1, [.slice none 0 0]⟩,
 some ⟨.slice 50 2 16, 1, [.slice none 0 0]⟩,
 some ⟨.slice 70 3 40, 1, [.slice none 0 0]⟩,
 some ⟨.slice 72 2 40, 1, [.slice none 0 0]⟩,
 some ⟨.slice 149 4 40, 1, [.slice none 0 0]⟩,
 some ⟨.slice 75 1 24, 1, [.slice none 0 0]⟩,
 some ⟨.slice 62 1 24, 1, [.slice none 0 0]⟩,
 some ⟨.slice 3 1 8, 1, [.slice none 0 0]⟩,
 some ⟨.struct [(0, 1, false), (1, 1, false), (2, 1, false), (3, 1, false), (4, 1, false), (5, 1, false), (6, 1, false), (7, 1, false), (8, 1, false)], 9, [.int .i64 0, .slice none 0 0, .slice none 0 0, .slice none 0 0, .slice none 0 0, .slice none 0 0, .slice none 0 0, .slice none 0 0, .slice none 0 0]⟩,
 some ⟨.struct [(0, 1, false), (1, 1, false), (2, 1, false), (3, 1, false), (4, 1, false), (5, 1, false), (6, 1, false), (7, 1, false), (8, 1, false)], 9, [.int .i64 0, .slice none 0 0, .slice none 0 0, .slice none 0 0, .slice none 0 0, .slice none 0 0, .slice none 0 0, .slice none 0 0, .slice none 0 0]⟩,
 some ⟨.slice 9 1 16, 1, [.slice none 0 0]⟩,
 some ⟨.other, 1, [.nilFunc]⟩,
 some ⟨.other, 1, [.nilFunc]⟩,
 some ⟨.other, 1, [.nilFunc]⟩,
 some ⟨.other, 1, [.nilFunc]⟩,
 some ⟨.other, 1, [.nilFunc]⟩,
 some ⟨.struct [(0, 1, false), (1, 1, false)], 2, [.slice none 0 0, .slice none 0 0]⟩,
 some ⟨.struct [(0, 1, false), (1, 1, false)], 2, [.slice none 0 0, .slice none 0 0]⟩,
 some ⟨.int .i64, 1, [.int .i64 0]⟩,
 none,
 some ⟨.other, 1, [.nilFunc]⟩,
 some ⟨.other, 1, [.nilFunc]⟩,
 none,
 some ⟨.other, 1, [.nilFunc]⟩,
 some ⟨.other, 1, [.nilFunc]⟩,
 some ⟨.other, 1, [.nilFunc]⟩,
 some ⟨.other, 1, [.nilFunc]⟩,
 some ⟨.struct [(0, 1, false), (1, 1, false)], 2, [.int .i64 0, .int .i64 0]⟩,
 some ⟨.struct [(0, 1, false), (1, 1, false)], 2, [.int .i64 0, .int .i64 0]⟩,
 some ⟨.other, 1, [.nilFunc]⟩,
 some ⟨.slice 54 6 48, 1, [.slice none 0 0]⟩,
 some ⟨.struct [(0, 1, false), (1, 1, false), (2, 1, false), (3, 1, false), (4, 1, false), (5, 1, false)], 6, [.int .i64 0, .int .i64 0, .int .i64 0, .int .i64 0, .int .i64 0, .int .i64 0]⟩,
 some ⟨.struct [(0, 1, false), (1, 1, false), (2, 1, false), (3, 1, false), (4, 1, false), (5, 1, false)], 6, [.int .i64 0, .int .i64 0, .int .i64 0, .int .i64 0, .int .i64 0, .int .i64 0]⟩,
 some ⟨.other, 1, [.nilFunc]⟩,
 some ⟨.slice 282 3 24, 1, [.slice none 0 0]⟩,
 some ⟨.struct [(0, 1, false), (1, 1, false)], 2, [.slice none 0 0, .slice none 0 0]⟩,
 some ⟨.struct [(0, 1, false), (1, 1, false)], 2, [.slice none 0 0, .slice none 0 0]⟩,
 some ⟨.slice 66 3 24, 1, [.slice none 0 0]⟩,
 some ⟨.slice 210 4 32, 1, [.slice none 0 0]⟩,
 some ⟨.slice 212 4 32, 1, [.slice none 0 0]⟩,
 some ⟨.slice 273 2 16, 1, [.slice none 0 0]⟩,
 some ⟨.struct [(0, 1, false), (1, 1, false), (2, 1, false), (3, 2, true), (5, 1, false), (6, 1, false), (7, 1, false), (8, 1, false)], 9, [.string ⟨#[]⟩, .int .i64 0, .bool false, .slice none 0 0, .slice none 0 0, .slice none 0 0, .slice none 0 0, .slice none 0 0, .slice none 0 0]⟩,
 some ⟨.struct [(0, 1, false), (1, 1, false), (2, 1, false), (3, 2, true), (5, 1, false), (6, 1, false), (7, 1, false), (8, 1, false)], 9, [.string ⟨#[]⟩, .int .i64 0, .bool false, .slice none 0 0, .slice none 0 0, .slice none 0 0, .slice none 0 0, .slice none 0 0, .slice none 0 0]⟩,
 some ⟨.struct [(0, 1, false), (1, 1, false), (2, 1, false)], 3, [.int .i64 0, .int .i64 0, .int .i64 0]⟩,
 some ⟨.struct [(0, 1, false), (1, 1, false), (2, 1, false)], 3, [.int .i64 0, .int .i64 0, .int .i64 0]⟩,
 some ⟨.other, 1, [.nilFunc]⟩,
 some ⟨.slice 89 6 128, 1, [.slice none 0 0]⟩,
 some ⟨.struct [(0, 1, false), (1, 1, false), (2, 1, false)], 3, [.int .i64 0, .bool false, .slice none 0 0]⟩,
 some ⟨.struct [(0, 1, false), (1, 1, false), (2, 1, false)], 3, [.int .i64 0, .bool false, .slice none 0 0]⟩,
 some ⟨.struct [(0, 1, false), (1, 1, false)], 2, [.string ⟨#[]⟩, .slice none 0 0]⟩,
 some ⟨.struct [(0, 1, false), (1, 1, false)], 2, [.string ⟨#[]⟩, .slice none 0 0]⟩,
 some ⟨.slice 151 3 24, 1, [.slice none 0 0]⟩,
 some ⟨.struct [(0, 1, false)], 1, [.slice none 0 0]⟩,
 some ⟨.struct [(0, 1, false)], 1, [.slice none 0 0]⟩,
 some ⟨.other, 1, [.nilFunc]⟩,
 some ⟨.other, 1, [.nilFunc]⟩,
 some ⟨.other, 1, [.map none]⟩,
 some ⟨.other, 1, [.pointer none]⟩,
 some ⟨.other, 1, [.nilFunc]⟩,
 some ⟨.int .i64, 1, [.int .i64 0]⟩,
 some ⟨.other, 1, [.nilFunc]⟩,
 some ⟨.other, 1, [.nilFunc]⟩,
 some ⟨.other, 1, [.nilFunc]⟩,
 some ⟨.other, 1, [.nilFunc]⟩,
 some ⟨.slice 29 1 24, 1, [.slice none 0 0]⟩,
 some ⟨.slice 91 2 16, 1, [.slice none 0 0]⟩,
 some ⟨.struct [(0, 1, false), (1, 1, false), (2, 1, false), (3, 1, false), (4, 1, false), (5, 1, false)], 6, [.slice none 0 0, .slice none 0 0, .slice none 0 0, .slice none 0 0, .slice none 0 0, .int .i64 0]⟩,
 some ⟨.struct [(0, 1, false), (1, 1, false), (2, 1, false), (3, 1, false), (4, 1, false), (5, 1, false)], 6, [.slice none 0 0, .slice none 0 0, .slice none 0 0, .slice none 0 0, .slice none 0 0, .int .i64 0]⟩,
 some ⟨.struct [(0, 1, false), (1, 1, false)], 2, [.int .i64 0, .int .i64 0]⟩,
 some ⟨.struct [(0, 1, false), (1, 1, false)], 2, [.int .i64 0, .int .i64 0]⟩,
 some ⟨.other, 1, [.nilFunc]⟩,
 some ⟨.other, 1, [.nilFunc]⟩,
 some ⟨.other, 1, [.nilFunc]⟩,
 some ⟨.other, 1, [.nilFunc]⟩,
 some ⟨.other, 1, [.map none]⟩,
 some ⟨.other, 1, [.pointer none]⟩,
 some ⟨.other, 1, [.nilFunc]⟩,
 some ⟨.int .i64, 1, [.int .i64 0]⟩,
 some ⟨.other, 1, [.pointer none]⟩,
 some ⟨.other, 1, [.nilFunc]⟩,
 some ⟨.other, 1, [.nilFunc]⟩,
 some ⟨.slice 4 1 1, 1, [.slice none 0 0]⟩,
 some ⟨.slice 99 1 8, 1, [.slice none 0 0]⟩,
 some ⟨.struct [(0, 1, false), (1, 1, false)], 2, [.slice none 0 0, .slice none 0 0]⟩,
 some ⟨.struct [(0, 1, false), (1, 1, false)], 2, [.slice none 0 0, .slice none 0 0]⟩,
 some ⟨.other, 1, [.nilFunc]⟩,
 some ⟨.other, 1, [.nilFunc]⟩,
 some ⟨.other, 1, [.nilFunc]⟩,
 some ⟨.other, 1, [.nilFunc]⟩,
 some ⟨.other, 1, [.nilFunc]⟩,
 some ⟨.other, 1, [.nilFunc]⟩,
 some ⟨.other, 1, [.nilFunc]⟩,
 some ⟨.other, 1, [.pointer none]⟩,
 some ⟨.other, 1, [.nilFunc]⟩,
 some ⟨.other, 1, [.map none]⟩,
 some ⟨.struct [(0, 9, true), (9, 1, false), (10, 1, false)], 11, [.int .i64 0, .slice none 0 0, .slice none 0 0, .slice none 0 0, .slice none 0 0, .slice none 0 0, .slice none 0 0, .slice none 0 0, .slice none 0 0, .slice none 0 0, .map none]⟩,
 some ⟨.struct [(0, 9, true), (9, 1, false), (10, 1, false)], 11, [.int .i64 0, .slice none 0 0, .slice none 0 0, .slice none 0 0, .slice none 0 0, .slice none 0 0, .slice none 0 0, .slice none 0 0, .slice none 0 0, .slice none 0 0, .map none]⟩,
 some ⟨.other, 1, [.nilFunc]⟩,
 some ⟨.slice 86 1 24, 1, [.slice none 0 0]⟩,
 some ⟨.slice 81 1 8, 1, [.slice none 0 0]⟩,
 some ⟨.struct [(0, 1, false), (1, 1, false)], 2, [.slice none 0 0, .slice none 0 0]⟩,
 some ⟨.struct [(0, 1, false), (1, 1, false)], 2, [.slice none 0 0, .slice none 0 0]⟩,
 some ⟨.other, 1, [.nilFunc]⟩,
 some ⟨.other, 1, [.nilFunc]⟩,
 none,
 some ⟨.other, 1, [.nilFunc]⟩,
 some ⟨.other, 1, [.nilFunc]⟩,
 some ⟨.slice 133 1 8, 1, [.slice none 0 0]⟩,
 some ⟨.struct [(0, 9, true), (9, 1, false)], 10, [.int .i64 0, .slice none 0 0, .slice none 0 0, .slice none 0 0, .slice none 0 0, .slice none 0 0, .slice none 0 0, .slice none 0 0, .slice none 0 0, .slice none 0 0]⟩,
 some ⟨.struct [(0, 9, true), (9, 1, false)], 10, [.int .i64 0, .slice none 0 0, .slice none 0 0, .slice none 0 0, .slice none 0 0, .slice none 0 0, .slice none 0 0, .slice none 0 0, .slice none 0 0, .slice none 0 0]⟩,
 some ⟨.other, 1, [.nilFunc]⟩,
 some ⟨.other, 1, [.pointer none]⟩,
 some ⟨.struct [(0, 6, true), (6, 1, false), (7, 1, false), (8, 1, false)], 9, [.slice none 0 0, .slice none 0 0, .slice none 0 0, .slice none 0 0, .slice none 0 0, .int .i64 0, .int .i64 0, .bool false, .slice none 0 0]⟩,
 some ⟨.struct [(0, 6, true), (6, 1, false), (7, 1, false), (8, 1, false)], 9, [.slice none 0 0, .slice none 0 0, .slice none 0 0, .slice none 0 0, .slice none 0 0, .int .i64 0, .int .i64 0, .bool false, .slice none 0 0]⟩,
 some ⟨.other, 1, [.nilFunc]⟩,
 some ⟨.other, 1, [.nilFunc]⟩,
 some ⟨.struct [(0, 1, false), (1, 1, false)], 2, [.int .i64 0, .int .i64 0]⟩,
 some ⟨.struct [(0, 1, false), (1, 1, false)], 2, [.int .i64 0, .int .i64 0]⟩,
 some ⟨.other, 1, [.nilFunc]⟩,
 some ⟨.other, 1, [.nilFunc]⟩,
 some ⟨.other, 1, [.nilFunc]⟩,
 some ⟨.other, 1, [.pointer none]⟩,
 some ⟨.struct [(0, 1, false), (1, 1, false), (2, 9, true), (11, 1, false)], 12, [.slice none 0 0, .int .i64 0, .int .i64 0, .slice none 0 0, .slice none 0 0, .slice none 0 0, .slice none 0 0, .slice none 0 0, .slice none 0 0, .slice none 0 0, .slice none 0 0, .int .i64 0]⟩,
 some ⟨.struct [(0, 1, false), (1, 1, false), (2, 9, true), (11, 1, false)], 12, [.slice none 0 0, .int .i64 0, .int .i64 0, .slice none 0 0, .slice none 0 0, .slice none 0 0, .slice none 0 0, .slice none 0 0, .slice none 0 0, .slice none 0 0, .slice none 0 0, .int .i64 0]⟩,
 some ⟨.other, 1, [.nilFunc]⟩,
 some ⟨.slice 5 1 1, 1, [.slice none 0 0]⟩,
 some ⟨.struct [(0, 1, false), (1, 1, false), (2, 1, false), (3, 1, false)], 4, [.string ⟨#[]⟩, .int .i64 0, .int .i64 0, .int .i64 0]⟩,
 some ⟨.struct [(0, 1, false), (1, 1, false), (2, 1, false), (3, 1, false)], 4, [.string ⟨#[]⟩, .int .i64 0, .int .i64 0, .int .i64 0]⟩,
 some ⟨.struct [(0, 1, false), (1, 1, false), (2, 1, false)], 3, [.int .i64 0, .int .i64 0, .int .i64 0]⟩,
 some ⟨.struct [(0, 1, false), (1, 1, false), (2, 1, false)], 3, [.int .i64 0, .int .i64 0, .int .i64 0]⟩,
 some ⟨.other, 1, [.nilFunc]⟩,
 some ⟨.other, 1, [.nilFunc]⟩,
 some ⟨.other, 1, [.nilFunc]⟩,
 some ⟨.other, 1, [.nilFunc]⟩,
 some ⟨.other, 1, [.pointer none]⟩,
 some ⟨.other, 1, [.nilFunc]⟩,
 none,
 some ⟨.other, 1, [.nilFunc]⟩,
 some ⟨.other, 1, [.nilFunc]⟩,
 some ⟨.other, 1, [.nilFunc]⟩,
 some ⟨.other, 1, [.nilFunc]⟩,
 some ⟨.int .u64, 1, [.int .u64 0]⟩,
 some ⟨.other, 1, [.map none]⟩,
 some ⟨.other, 1, [.nilFunc]⟩,
 some ⟨.other, 1, [.nilFunc]⟩,
 some ⟨.other, 1, [.nilFunc]⟩,
 some ⟨.other, 1, [.nilFunc]⟩,
 some ⟨.other, 1, [.nilFunc]⟩,
 some ⟨.other, 1, [.nilFunc]⟩,
 some ⟨.other, 1, [.nilFunc]⟩,
 some ⟨.other, 1, [.nilFunc]⟩,
 some ⟨.other, 1, [.nilFunc]⟩,
 some ⟨.other, 1, [.nilFunc]⟩,
 some ⟨.other, 1, [.nilFunc]⟩,
 some ⟨.other, 1, [.nilFunc]⟩,
 some ⟨.other, 1, [.nilFunc]⟩,
 some ⟨.other, 1, [.nilFunc]⟩,
 some ⟨.other, 1, [.nilFunc]⟩,
 some ⟨.other, 1, [.nilFunc]⟩,
 some ⟨.other, 1, [.nilFunc]⟩,
 some ⟨.other, 1, [.nilFunc]⟩,
 some ⟨.other, 1, [.nilFunc]⟩,
 some ⟨.other, 1, [.nilFunc]⟩,
 some ⟨.other, 1, [.nilFunc]⟩,
 some ⟨.other, 1, [.nilFunc]⟩,
 some ⟨.other, 1, [.nilFunc]⟩,
 some ⟨.other, 1, [.nilFunc]⟩,
 some ⟨.other, 1, [.nilFunc]⟩,
 some ⟨.other, 1, [.nilFunc]⟩,
 some ⟨.other, 1, [.nilFunc]⟩,
 some ⟨.other, 1, [.nilFunc]⟩,
 some ⟨.other, 1, [.nilFunc]⟩,
 some ⟨.other, 1, [.nilFunc]⟩,
 some ⟨.other, 1, [.nilFunc]⟩,
 some ⟨.other, 1, [.nilFunc]⟩,
 some ⟨.other, 1, [.nilFunc]⟩,
 some ⟨.other, 1, [.nilFunc]⟩,
 some ⟨.other, 1, [.nilFunc]⟩,
 some ⟨.other, 1, [.nilFunc]⟩,
 some ⟨.other, 1, [.nilFunc]⟩,
 some ⟨.other, 1, [.nilFunc]⟩,
 some ⟨.other, 1, [.nilFunc]⟩,
 some ⟨.other, 1, [.nilFunc]⟩,
 some ⟨.other, 1, [.nilFunc]⟩,
 some ⟨.other, 1, [.nilFunc]⟩,
 some ⟨.arr 2 3 1, 2, [.int .i64 0, .int .i64 0]⟩,
 some ⟨.slice 207 2 16, 1, [.slice none 0 0]⟩,
 some ⟨.struct [(0, 1, false), (1, 1, false), (2, 1, false), (3, 1, false)], 4, [.int .i64 0, .int .i64 0, .int .i64 0, .int .i64 0]⟩,
 some ⟨.struct [(0, 1, false), (1, 1, false), (2, 1, false), (3, 1, false)], 4, [.int .i64 0, .int .i64 0, .int .i64 0, .int .i64 0]⟩,
 some ⟨.struct [(0, 1, false), (1, 1, false), (2, 1, false), (3, 1, false)], 4, [.int .i64 0, .int .i64 0, .int .i64 0, .int .i64 0]⟩,
 some ⟨.struct [(0, 1, false), (1, 1, false), (2, 1, false), (3, 1, false)], 4, [.int .i64 0, .int .i64 0, .int .i64 0, .int .i64 0]⟩,
 some ⟨.other, 1, [.nilFunc]⟩,
 none,
 some ⟨.other, 1, [.nilFunc]⟩,
 some ⟨.other, 1, [.nilFunc]⟩,
 none,
 some ⟨.other, 1, [.nilFunc]⟩,
 some ⟨.other, 1, [.nilFunc]⟩,
 some ⟨.other, 1, [.nilFunc]⟩,
 some ⟨.struct [(0, 1, false), (1, 1, false), (2, 1, false), (3, 1, false), (4, 1, false)], 5, [.slice none 0 0, .bool false, .nilFunc, .int .i64 0, .int .i64 0]⟩,
 some ⟨.struct [(0, 1, false), (1, 1, false), (2, 1, false), (3, 1, false), (4, 1, false)], 5, [.slice none 0 0, .bool false, .nilFunc, .int .i64 0, .int .i64 0]⟩,
 some ⟨.other, 1, [.nilFunc]⟩,
 some ⟨.other, 1, [.nilFunc]⟩,
 some ⟨.other, 1, [.nilFunc]⟩,
 some ⟨.other, 1, [.nilFunc]⟩,
 some ⟨.other, 1, [.nilFunc]⟩,
 some ⟨.other, 1, [.nilFunc]⟩,
 some ⟨.other, 1, [.nilFunc]⟩,
 some ⟨.other, 1, [.nilFunc]⟩,
 some ⟨.int .i64, 1, [.int .i64 0]⟩,
 none,
 some ⟨.other, 1, [.nilFunc]⟩,
 some ⟨.other, 1, [.nilFunc]⟩,
 some ⟨.other, 1, [.nilFunc]⟩,
 some ⟨.other, 1, [.nilFunc]⟩,
 some ⟨.other, 1, [.nilFunc]⟩,
 some ⟨.other, 1, [.nilFunc]⟩,
 some ⟨.int .u32, 1, [.int .u32 0]⟩,
 some ⟨.other, 1, [.nilFunc]⟩,
 some ⟨.int .u64, 1, [.int .u64 0]⟩,
 some ⟨.slice 174 1 8, 1, [.slice none 0 0]⟩,
 some ⟨.other, 1, [.nilFunc]⟩,
 some ⟨.other, 1, [.nilFunc]⟩,
 some ⟨.other, 1, [.nilFunc]⟩,
 some ⟨.other, 1, [.nilFunc]⟩,
 some ⟨.other, 1, [.nilFunc]⟩,
 some ⟨.other, 1, [.nilFunc]⟩,
 some ⟨.other, 1, [.nilFunc]⟩,
 some ⟨.other, 1, [.nilFunc]⟩,
 some ⟨.other, 1, [.nilFunc]⟩,
 some ⟨.other, 1, [.nilFunc]⟩,
 some ⟨.other, 1, [.nilFunc]⟩,
 some ⟨.other, 1, [.nilFunc]⟩,
 some ⟨.other, 1, [.nilFunc]⟩,
 some ⟨.other, 1, [.nilFunc]⟩,
 none,
 some ⟨.other, 1, [.nilFunc]⟩,
 some ⟨.other, 1, [.nilFunc]⟩,
 some ⟨.other, 1, [.nilFunc]⟩,
 some ⟨.other, 1, [.nilFunc]⟩,
 some ⟨.other, 1, [.nilFunc]⟩,
 some ⟨.other, 1, [.nilFunc]⟩,
 some ⟨.other, 1, [.nilFunc]⟩,
 some ⟨.other, 1, [.nilFunc]⟩,
 some ⟨.other, 1, [.nilFunc]⟩,
 some ⟨.other, 1, [.nilFunc]⟩,
 some ⟨.other, 1, [.nilFunc]⟩,
 some ⟨.other, 1, [.nilFunc]⟩,
 some ⟨.other, 1, [.nilFunc]⟩,
 some ⟨.other, 1, [.nilFunc]⟩,
 some ⟨.struct [(0, 1, false), (1, 1, false)], 2, [.int .i64 0, .int .i64 0]⟩,
 some ⟨.struct [(0, 1, false), (1, 1, false)], 2, [.int .i64 0, .int .i64 0]⟩,
 some ⟨.other, 1, [.nilFunc]⟩,
 some ⟨.other, 1, [.nilFunc]⟩,
 some ⟨.other, 1, [.nilFunc]⟩,
 some ⟨.other, 1, [.nilFunc]⟩,
 some ⟨.other, 1, [.nilFunc]⟩,
 some ⟨.other, 1, [.nilFunc]⟩,
 some ⟨.other, 1, [.nilFunc]⟩,
 some ⟨.struct [(0, 1, false), (1, 1, false), (2, 1, false)], 3, [.int .i64 0, .int .i64 0, .bool false]⟩,
 some ⟨.struct [(0, 1, false), (1, 1, false), (2, 1, false)], 3, [.int .i64 0, .int .i64 0, .bool false]⟩,
 some ⟨.other, 1, [.nilFunc]⟩,
 some ⟨.other, 1, [.nilFunc]⟩,
 some ⟨.other, 1, [.nilFunc]⟩,
 some ⟨.other, 1, [.nilFunc]⟩,
 some ⟨.other, 1, [.pointer none]⟩,
 some ⟨.other, 1, [.nilFunc]⟩,
 some ⟨.other, 1, [.nilFunc]⟩,
 some ⟨.int .u64, 1, [.int .u64 0]⟩,
 some ⟨.other, 1, [.nilFunc]⟩,
 some ⟨.other, 1, [.nilFunc]⟩,
 some ⟨.other, 1, [.nilFunc]⟩,
 some ⟨.other, 1, [.pointer none]⟩,
 some ⟨.other, 1, [.nilFunc]⟩,
 some ⟨.other, 1, [.nilFunc]⟩,
 some ⟨.other, 1, [.nilFunc]⟩,
 some ⟨.other, 1, [.nilFunc]⟩,
 some ⟨.other, 1, [.nilFunc]⟩,
 some ⟨.other, 1, [.nilFunc]⟩,
 some ⟨.other, 1, [.nilFunc]⟩,
 some ⟨.other, 1, [.map none]⟩,
 some ⟨.struct [(0, 1, false), (1, 1, false)], 2, [.int .i64 0, .int .i64 0]⟩,
 some ⟨.struct [(0, 1, false), (1, 1, false)], 2, [.int .i64 0, .int .i64 0]⟩,
 some ⟨.other, 1, [.nilFunc]⟩,
 some ⟨.struct [(0, 1, false), (1, 1, false)], 2, [.int .i64 0, .int .i64 0]⟩,
 some ⟨.struct [(0, 1, false), (1, 1, false)], 2, [.int .i64 0, .int .i64 0]⟩,
 some ⟨.other, 1, [.nilFunc]⟩,
 some ⟨.other, 1, [.nilFunc]⟩,
 some ⟨.other, 1, [.nilFunc]⟩,
 some ⟨.other, 1, [.nilFunc]⟩,
 some ⟨.other, 1, [.nilFunc]⟩,
 some ⟨.other, 1, [.nilFunc]⟩,
 some ⟨.other, 1, [.nilFunc]⟩,
 some ⟨.other, 1, [.nilFunc]⟩,
 some ⟨.other, 1, [.nilFunc]⟩,
 some ⟨.other, 1, [.nilFunc]⟩,
 some ⟨.other, 1, [.nilFunc]⟩,
 some ⟨.other, 1, [.nilFunc]⟩,
 some ⟨.other, 1, [.nilFunc]⟩,
 some ⟨.other, 1, [.nilFunc]⟩,
 some ⟨.other, 1, [.nilFunc]⟩,
 some ⟨.other, 1, [.pointer none]⟩,
 none,
 some ⟨.other, 1, [.nilFunc]⟩,
 some ⟨.other, 1, [.map none]⟩,
 some ⟨.other, 1, [.map none]⟩,
 some ⟨.slice 3 1 8, 1, [.slice none 0 0]⟩,
 some ⟨.other, 1, [.nilFunc]⟩,
 some ⟨.other, 1, [.nilFunc]⟩,
 some ⟨.other, 1, [.nilFunc]⟩,
 some ⟨.other, 1, [.nilFunc]⟩,
 some ⟨.other, 1, [.pointer none]⟩,
 some ⟨.other, 1, [.nilFunc]⟩,
 some ⟨.other, 1, [.nilFunc]⟩,
 some ⟨.other, 1, [.nilFunc]⟩,
 some ⟨.other, 1, [.nilFunc]⟩,
 some ⟨.other, 1, [.nilFunc]⟩,
 some ⟨.other, 1, [.nilFunc]⟩,
 some ⟨.other, 1, [.nilFunc]⟩,
 some ⟨.other, 1, [.nilFunc]⟩,
 some ⟨.slice 40 1 8, 1, [.slice none 0 0]⟩,
 some ⟨.other, 1, [.nilFunc]⟩,
 some ⟨.other, 1, [.nilIface]⟩,
 some ⟨.other, 1, [.nilIface]⟩,
 some ⟨.other, 1, [.nilFunc]⟩,
 some ⟨.other, 1, [.nilFunc]⟩,
 some ⟨.other, 1, [.nilFunc]⟩,
 some ⟨.other, 1, [.nilFunc]⟩,
 some ⟨.other, 1, [.nilFunc]⟩,
 some ⟨.other, 1, [.nilFunc]⟩,
 some ⟨.slice 354 2 16, 1, [.slice none 0 0]⟩,
 some ⟨.struct [(0, 1, false), (1, 1, false)], 2, [.int .i64 0, .int .i64 0]⟩,
 some ⟨.struct [(0, 1, false), (1, 1, false)], 2, [.int .i64 0, .int .i64 0]⟩,
 some ⟨.other, 1, [.pointer none]⟩,
 some ⟨.other, 1, [.nilFunc]⟩,
 some ⟨.other, 1, [.nilFunc]⟩,
 some ⟨.struct [(0, 1, false), (1, 1, false), (2, 1, false), (3, 1, false)], 4, [.pointer none, .pointer none, .pointer none, .string ⟨#[]⟩]⟩,
 some ⟨.struct [(0, 1, false), (1, 1, false), (2, 1, false), (3, 1, false)], 4, [.pointer none, .pointer none, .pointer none, .string ⟨#[]⟩]⟩,
 none,
 none,
 none,
 some ⟨.int .u8, 1, [.int .u8 0]⟩,
 some ⟨.int .u8, 1, [.int .u8 0]⟩,
 some ⟨.other, 1, [.nilFunc]⟩,
 some ⟨.other, 1, [.pointer none]⟩,
 some ⟨.int .i32, 1, [.int .i32 0]⟩,
 some ⟨.int .i32, 1, [.int .i32 0]⟩,
 some ⟨.struct [(0, 1, false), (1, 1, false), (2, 1, false), (3, 1, false), (4, 1, false), (5, 1, false), (6, 1, false), (7, 1, false), (8, 1, false), (9, 1, false), (10, 1, false)], 11, [.int .u64 0, .int .u64 0, .int .u32 0, .int .u8 0, .int .u8 0, .int .u8 0, .int .u8 0, .nilFunc, .pointer none, .int .i32 0, .int .i32 0]⟩,
 some ⟨.struct [(0, 1, false), (1, 1, false), (2, 1, false), (3, 1, false), (4, 1, false), (5, 1, false), (6, 1, false), (7, 1, false), (8, 1, false), (9, 1, false), (10, 1, false)], 11, [.int .u64 0, .int .u64 0, .int .u32 0, .int .u8 0, .int .u8 0, .int .u8 0, .int .u8 0, .nilFunc, .pointer none, .int .i32 0, .int .i32 0]⟩,
 none,
 none,
 none,
 none,
 none,
 none,
 none,
 none,
 none,
 none,
 none,
 none,
 none,
 none,
 none,
 none,
 none,
 none,
 none,
 none,
 none,
 none,
 none,
 none,
 none,
 none,
 none,
 none,
 none,
 none,
 none,
 none,
 none,
 none,
 none,
 none,
 none,
 none,
 none,
 none,
 none,
 none,
 none,
 none,
 none,
 none,
 none,
 none,
 none]
theorem a7 : eW Tryz.prog tt := Au (by kernel_rfl)
instance : bt Tryz.prog 10 := ⟨ay Tryz.func10 (by kernel_rfl) rfl⟩
instance : bt Tryz.prog 11 := ⟨ay Tryz.func11 (by kernel_rfl) rfl⟩
instance : bt Tryz.prog 12 := ⟨ay Tryz.func12 (by kernel_rfl) rfl⟩
instance : bt Tryz.prog 13 := ⟨ay Tryz.func13 (by kernel_rfl) rfl⟩
instance : bt Tryz.prog 14 := ⟨ay Tryz.func14 (by kernel_rfl) rfl⟩
instance : bt Tryz.prog 15 := ⟨ay Tryz.func15 (by kernel_rfl) rfl⟩
instance : bt Tryz.prog 16 := ⟨ay Tryz.func16 (by kernel_rfl) rfl⟩
instance : bt Tryz.prog 19 := ⟨ay Tryz.func19 (by kernel_rfl) rfl⟩
instance : bt Tryz.prog 23 := ⟨ay Tryz.func23 (by kernel_rfl) rfl⟩
instance : bt Tryz.prog 24 := ⟨ay Tryz.func24 (by kernel_rfl) rfl⟩
instance : bt Tryz.prog 25 := ⟨ay Tryz.func25 (by kernel_rfl) rfl⟩
instance : bt Tryz.prog 26 := ⟨ay Tryz.func26 (by kernel_rfl) rfl⟩
instance : bt Tryz.prog 27 := ⟨ay Tryz.func27 (by kernel_rfl) rfl⟩
instance : bt Tryz.prog 28 := ⟨ay Tryz.func28 (by kernel_rfl) rfl⟩
instance : bt Tryz.prog 29 := ⟨ay Tryz.func29 (by kernel_rfl) rfl⟩
instance : bt Tryz.prog 30 := ⟨ay Tryz.func30 (by kernel_rfl) rfl⟩
instance : bt Tryz.prog 31 := ⟨ay Tryz.func31 (by kernel_rfl) rfl⟩
instance : bt Tryz.prog 32 := ⟨ay Tryz.func32 (by kernel_rfl) rfl⟩
instance : bt Tryz.prog 33 := ⟨ay Tryz.func33 (by kernel_rfl) rfl⟩
instance : bt Tryz.prog 34 := ⟨ay Tryz.func34 (by kernel_rfl) rfl⟩
instance : bt Tryz.prog 35 := ⟨ay Tryz.func35 (by kernel_rfl) rfl⟩
instance : bt Tryz.prog 36 := ⟨ay Tryz.func36 (by kernel_rfl) rfl⟩
instance : bt Tryz.prog 37 := ⟨ay Tryz.func37 (by kernel_rfl) rfl⟩
instance : bt Tryz.prog 38 := ⟨ay Tryz.func38 (by kernel_rfl) rfl⟩
instance : bt Tryz.prog 39 := ⟨ay Tryz.func39 (by kernel_rfl) rfl⟩
instance : bt Tryz.prog 40 := ⟨ay Tryz.func40 (by kernel_rfl) rfl⟩
instance : bt Tryz.prog 41 := ⟨ay Tryz.func41 (by kernel_rfl) rfl⟩
instance : bt Tryz.prog 42 := ⟨ay Tryz.func42 (by kernel_rfl) rfl⟩
instance : bt Tryz.prog 43 := ⟨ay Tryz.func43 (by kernel_rfl) rfl⟩
instance : bt Tryz.prog 46 := ⟨ay Tryz.func46 (by kernel_rfl) rfl⟩
instance : bt Tryz.prog 47 := ⟨ay Tryz.func47 (by kernel_rfl) rfl⟩
instance : bt Tryz.prog 51 := ⟨ay Tryz.func51 (by kernel_rfl) rfl⟩
instance : bt Tryz.prog 52 := ⟨ay Tryz.func52 (by kernel_rfl) rfl⟩
instance : bt Tryz.prog 53 := ⟨ay Tryz.func53 (by kernel_rfl) rfl⟩
instance : bt Tryz.prog 54 := ⟨ay Tryz.func54 (by kernel_rfl) rfl⟩
instance : bt Tryz.prog 55 := ⟨ay Tryz.func55 (by kernel_rfl) rfl⟩
instance : bt Tryz.prog 56 := ⟨ay Tryz.func56 (by kernel_rfl) rfl⟩
instance : bt Tryz.prog 57 := ⟨ay Tryz.func57 (by kernel_rfl) rfl⟩
instance : bt Tryz.prog 58 := ⟨ay Tryz.func58 (by kernel_rfl) rfl⟩
instance : bt Tryz.prog 59 := ⟨ay Tryz.func59 (by kernel_rfl) rfl⟩
instance : bt Tryz.prog 60 := ⟨ay Tryz.func60 (by kernel_rfl) rfl⟩
instance : bt Tryz.prog 61 := ⟨ay Tryz.func61 (by kernel_rfl) rfl⟩
instance : bt Tryz.prog 68 := ⟨ay Tryz.func68 (by kernel_rfl) rfl⟩
instance : bt Tryz.prog 74 := ⟨ay Tryz.func74 (by kernel_rfl) rfl⟩
instance : bt Tryz.prog 75 := ⟨ay Tryz.func75 (by kernel_rfl) rfl⟩
instance : bt Tryz.prog 76 := ⟨ay Tryz.func76 (by kernel_rfl) rfl⟩
instance : bt Tryz.prog 77 := ⟨ay Tryz.func77 (by kernel_rfl) rfl⟩
instance : bt Tryz.prog 78 := ⟨ay Tryz.func78 (by kernel_rfl) rfl⟩
instance : bt Tryz.prog 79 := ⟨ay Tryz.func79 (by kernel_rfl) rfl⟩
instance : bt Tryz.prog 80 := ⟨ay Tryz.func80 (by kernel_rfl) rfl⟩
instance : bt Tryz.prog 81 := ⟨ay Tryz.func81 (by kernel_rfl) rfl⟩
instance : bt Tryz.prog 82 := ⟨ay Tryz.func82 (by kernel_rfl) rfl⟩
instance : bt Tryz.prog 83 := ⟨ay Tryz.func83 (by kernel_rfl) rfl⟩
instance : bt Tryz.prog 84 := ⟨ay Tryz.func84 (by kernel_rfl) rfl⟩
instance : bt Tryz.prog 85 := ⟨ay Tryz.func85 (by kernel_rfl) rfl⟩
instance : bt Tryz.prog 86 := ⟨ay Tryz.func86 (by kernel_rfl) rfl⟩
instance : bt Tryz.prog 87 := ⟨ay Tryz.func87 (by kernel_rfl) rfl⟩
instance : bt Tryz.prog 88 := ⟨ay Tryz.func88 (by kernel_rfl) rfl⟩
instance : bt Tryz.prog 89 := ⟨ay Tryz.func89 (by kernel_rfl) rfl⟩
instance : bt Tryz.prog 90 := ⟨ay Tryz.func90 (by kernel_rfl) rfl⟩
instance : bt Tryz.prog 91 := ⟨ay Tryz.func91 (by kernel_rfl) rfl⟩
instance : bt Tryz.prog 92 := ⟨ay Tryz.func92 (by kernel_rfl) rfl⟩
instance : bt Tryz.prog 93 := ⟨ay Tryz.func93 (by kernel_rfl) rfl⟩
instance : bt Tryz.prog 94 := ⟨ay Tryz.func94 (by kernel_rfl) rfl⟩
instance : bt Tryz.prog 95 := ⟨ay Tryz.func95 (by kernel_rfl) rfl⟩
instance : bt Tryz.prog 96 := ⟨ay Tryz.func96 (by kernel_rfl) rfl⟩
instance : bt Tryz.prog 97 := ⟨ay Tryz.func97 (by kernel_rfl) rfl⟩
instance : bt Tryz.prog 98 := ⟨ay Tryz.func98 (by kernel_rfl) rfl⟩
instance : bt Tryz.prog 99 := ⟨ay Tryz.func99 (by kernel_rfl) rfl⟩
instance : bt Tryz.prog 100 := ⟨ay Tryz.func100 (by kernel_rfl) rfl⟩
instance : bt Tryz.prog 101 := ⟨ay Tryz.func101 (by kernel_rfl) rfl⟩
instance : bt Tryz.prog 102 := ⟨ay Tryz.func102 (by kernel_rfl) rfl⟩
instance : bt Tryz.prog 103 := ⟨ay Tryz.func103 (by kernel_rfl) rfl⟩
instance : bt Tryz.prog 104 := ⟨ay Tryz.func104 (by kernel_rfl) rfl⟩
instance : bt Tryz.prog 105 := ⟨ay Tryz.func105 (by kernel_rfl) rfl⟩
instance : bt Tryz.prog 106 := ⟨ay Tryz.func106 (by kernel_rfl) rfl⟩
instance : bt Tryz.prog 107 := ⟨ay Tryz.func107 (by kernel_rfl) rfl⟩
instance : bt Tryz.prog 108 := ⟨ay Tryz.func108 (by kernel_rfl) rfl⟩
instance : bt Tryz.prog 109 := ⟨ay Tryz.func109 (by kernel_rfl) rfl⟩
instance : bt Tryz.prog 110 := ⟨ay Tryz.func110 (by kernel_rfl) rfl⟩
instance : bt Tryz.prog 111 := ⟨ay Tryz.func111 (by kernel_rfl) rfl⟩
instance : bt Tryz.prog 112 := ⟨ay Tryz.func112 (by kernel_rfl) rfl⟩
instance : bt Tryz.prog 113 := ⟨ay Tryz.func113 (by kernel_rfl) rfl⟩
instance : bt Tryz.prog 114 := ⟨ay Tryz.func114 (by kernel_rfl) rfl⟩
instance : bt Tryz.prog 115 := ⟨ay Tryz.func115 (by kernel_rfl) rfl⟩
instance : bt Tryz.prog 116 := ⟨ay Tryz.func116 (by kernel_rfl) rfl⟩
instance : bt Tryz.prog 117 := ⟨ay Tryz.func117 (by kernel_rfl) rfl⟩
instance : bt Tryz.prog 118 := ⟨ay Tryz.func118 (by kernel_rfl) rfl⟩
instance : bt Tryz.prog 119 := ⟨ay Tryz.func119 (by kernel_rfl) rfl⟩
instance : bt Tryz.prog 120 := ⟨ay Tryz.func120 (by kernel_rfl) rfl⟩
instance : bt Tryz.prog 147 := ⟨ay Tryz.func147 (by kernel_rfl) rfl⟩
instance : bt Tryz.prog 148 := ⟨ay Tryz.func148 (by kernel_rfl) rfl⟩
instance : bt Tryz.prog 149 := ⟨ay Tryz.func149 (by kernel_rfl) rfl⟩
instance : bt Tryz.prog 150 := ⟨ay Tryz.func150 (by kernel_rfl) rfl⟩
instance : bt Tryz.prog 151 := ⟨ay Tryz.func151 (by kernel_rfl) rfl⟩
instance : bt Tryz.prog 152 := ⟨ay Tryz.func152 (by kernel_rfl) rfl⟩
instance : bt Tryz.prog 153 := ⟨ay Tryz.func153 (by kernel_rfl) rfl⟩
instance : bt Tryz.prog 154 := ⟨ay Tryz.func154 (by kernel_rfl) rfl⟩
instance : bt Tryz.prog 155 := ⟨ay Tryz.func155 (by kernel_rfl) rfl⟩
instance : bt Tryz.prog 156 := ⟨ay Tryz.func156 (by kernel_rfl) rfl⟩
instance : bt Tryz.prog 157 := ⟨ay Tryz.func157 (by kernel_rfl) rfl⟩
instance : bt Tryz.prog 158 := ⟨ay Tryz.func158 (by kernel_rfl) rfl⟩
instance : bt Tryz.prog 159 := ⟨ay Tryz.func159 (by kernel_rfl) rfl⟩
instance : bt Tryz.prog 160 := ⟨ay Tryz.func160 (by kernel_rfl) rfl⟩
instance : bt Tryz.prog 161 := ⟨ay Tryz.func161 (by kernel_rfl) rfl⟩
instance : bt Tryz.prog 162 := ⟨ay Tryz.func162 (by kernel_rfl) rfl⟩
instance : bt Tryz.prog 163 := ⟨ay Tryz.func163 (by kernel_rfl) rfl⟩
instance : bt Tryz.prog 164 := ⟨ay Tryz.func164 (by kernel_rfl) rfl⟩
instance : bt Tryz.prog 165 := ⟨ay Tryz.func165 (by kernel_rfl) rfl⟩
instance : bt Tryz.prog 166 := ⟨ay Tryz.func166 (by kernel_rfl) rfl⟩
instance : bt Tryz.prog 167 := ⟨ay Tryz.func167 (by kernel_rfl) rfl⟩
instance : bt Tryz.prog 168 := ⟨ay Tryz.func168 (by kernel_rfl) rfl⟩
instance : bt Tryz.prog 169 := ⟨ay Tryz.func169 (by kernel_rfl) rfl⟩
instance : bt Tryz.prog 170 := ⟨ay Tryz.func170 (by kernel_rfl) rfl⟩
instance : bt Tryz.prog 171 := ⟨ay Tryz.func171 (by kernel_rfl) rfl⟩
instance : bt Tryz.prog 172 := ⟨ay Tryz.func172 (by kernel_rfl) rfl⟩
instance : bt Tryz.prog 173 := ⟨ay Tryz.func173 (by kernel_rfl) rfl⟩
instance : bt Tryz.prog 174 := ⟨ay Tryz.func174 (by kernel_rfl) rfl⟩
instance : bt Tryz.prog 175 := ⟨ay Tryz.func175 (by kernel_rfl) rfl⟩
instance : bt Tryz.prog 176 := ⟨ay Tryz.func176 (by kernel_rfl) rfl⟩
instance : bt Tryz.prog 177 := ⟨ay Tryz.func177 (by kernel_rfl) rfl⟩
instance : bt Tryz.prog 178 := ⟨ay Tryz.func178 (by kernel_rfl) rfl⟩
instance : bt Tryz.prog 179 := ⟨ay Tryz.func179 (by kernel_rfl) rfl⟩
instance : bt Tryz.prog 180 := ⟨ay Tryz.func180 (by kernel_rfl) rfl⟩
instance : bt Tryz.prog 181 := ⟨ay Tryz.func181 (by kernel_rfl) rfl⟩
instance : bt Tryz.prog 182 := ⟨ay Tryz.func182 (by kernel_rfl) rfl⟩
instance : bt Tryz.prog 183 := ⟨ay Tryz.func183 (by kernel_rfl) rfl⟩
instance : bt Tryz.prog 184 := ⟨ay Tryz.func184 (by kernel_rfl) rfl⟩
instance : bt Tryz.prog 185 := ⟨ay Tryz.func185 (by kernel_rfl) rfl⟩
instance : bt Tryz.prog 186 := ⟨ay Tryz.func186 (by kernel_rfl) rfl⟩
instance : bt Tryz.prog 187 := ⟨ay Tryz.func187 (by kernel_rfl) rfl⟩
instance : bt Tryz.prog 188 := ⟨ay Tryz.func188 (by kernel_rfl) rfl⟩
instance : bt Tryz.prog 189 := ⟨ay Tryz.func189 (by kernel_rfl) rfl⟩
instance : bt Tryz.prog 190 := ⟨ay Tryz.func190 (by kernel_rfl) rfl⟩
instance : bt Tryz.prog 191 := ⟨ay Tryz.func191 (by kernel_rfl) rfl⟩
instance : bt Tryz.prog 192 := ⟨ay Tryz.func192 (by kernel_rfl) rfl⟩
instance : bt Tryz.prog 193 := ⟨ay Tryz.func193 (by kernel_rfl) rfl⟩
instance : bt Tryz.prog 194 := ⟨ay Tryz.func194 (by kernel_rfl) rfl⟩
instance : bt Tryz.prog 195 := ⟨ay Tryz.func195 (by kernel_rfl) rfl⟩
instance : bt Tryz.prog 196 := ⟨ay Tryz.func196 (by kernel_rfl) rfl⟩
instance : bt Tryz.prog 197 := ⟨ay Tryz.func197 (by kernel_rfl) rfl⟩
instance : bt Tryz.prog 198 := ⟨ay Tryz.func198 (by kernel_rfl) rfl⟩
instance : bt Tryz.prog 199 := ⟨ay Tryz.func199 (by kernel_rfl) rfl⟩
instance : bt Tryz.prog 200 := ⟨ay Tryz.func200 (by kernel_rfl) rfl⟩
instance : bt Tryz.prog 201 := ⟨ay Tryz.func201 (by kernel_rfl) rfl⟩
instance : bt Tryz.prog 202 := ⟨ay Tryz.func202 (by kernel_rfl) rfl⟩
instance : bt Tryz.prog 203 := ⟨ay Tryz.func203 (by kernel_rfl) rfl⟩
instance : bt Tryz.prog 221 := ⟨ay Tryz.func221 (by kernel_rfl) rfl⟩
instance : bt Tryz.prog 222 := ⟨ay Tryz.func222 (by kernel_rfl) rfl⟩
instance : bt Tryz.prog 223 := ⟨ay Tryz.func223 (by kernel_rfl) rfl⟩
instance : bt Tryz.prog 224 := ⟨ay Tryz.func224 (by kernel_rfl) rfl⟩
instance : bt Tryz.prog 225 := ⟨ay Tryz.func225 (by kernel_rfl) rfl⟩
instance : bt Tryz.prog 226 := ⟨ay Tryz.func226 (by kernel_rfl) rfl⟩
instance : bt Tryz.prog 227 := ⟨ay Tryz.func227 (by kernel_rfl) rfl⟩
instance : bt Tryz.prog 228 := ⟨ay Tryz.func228 (by kernel_rfl) rfl⟩
instance : bt Tryz.prog 229 := ⟨ay Tryz.func229 (by kernel_rfl) rfl⟩
instance : bt Tryz.prog 230 := ⟨ay Tryz.func230 (by kernel_rfl) rfl⟩
instance : bt Tryz.prog 231 := ⟨ay Tryz.func231 (by kernel_rfl) rfl⟩
instance : bt Tryz.prog 232 := ⟨ay Tryz.func232 (by kernel_rfl) rfl⟩
instance : bt Tryz.prog 233 := ⟨ay Tryz.func233 (by kernel_rfl) rfl⟩
instance : bt Tryz.prog 234 := ⟨ay Tryz.func234 (by kernel_rfl) rfl⟩
instance : bt Tryz.prog 235 := ⟨ay Tryz.func235 (by kernel_rfl) rfl⟩
instance : bt Tryz.prog 236 := ⟨ay Tryz.func236 (by kernel_rfl) rfl⟩
instance : bt Tryz.prog 237 := ⟨ay Tryz.func237 (by kernel_rfl) rfl⟩
instance : bt Tryz.prog 238 := ⟨ay Tryz.func238 (by kernel_rfl) rfl⟩
instance : bt Tryz.prog 239 := ⟨ay Tryz.func239 (by kernel_rfl) rfl⟩
instance : bt Tryz.prog 240 := ⟨ay Tryz.func240 (by kernel_rfl) rfl⟩
instance : bt Tryz.prog 241 := ⟨ay Tryz.func241 (by kernel_rfl) rfl⟩
instance : bt Tryz.prog 242 := ⟨ay Tryz.func242 (by kernel_rfl) rfl⟩
instance : bt Tryz.prog 243 := ⟨ay Tryz.func243 (by kernel_rfl) rfl⟩
instance : bt Tryz.prog 244 := ⟨ay Tryz.func244 (by kernel_rfl) rfl⟩
instance : bt Tryz.prog 245 := ⟨ay Tryz.func245 (by kernel_rfl) rfl⟩
instance : bt Tryz.prog 246 := ⟨ay Tryz.func246 (by kernel_rfl) rfl⟩
instance : bt Tryz.prog 247 := ⟨ay Tryz.func247 (by kernel_rfl) rfl⟩
instance : bt Tryz.prog 248 := ⟨ay Tryz.func248 (by kernel_rfl) rfl⟩
instance : bt Tryz.prog 249 := ⟨ay Tryz.func249 (by kernel_rfl) rfl⟩
instance : bt Tryz.prog 250 := ⟨ay Tryz.func250 (by kernel_rfl) rfl⟩
instance : bt Tryz.prog 251 := ⟨ay Tryz.func251 (by kernel_rfl) rfl⟩
instance : bt Tryz.prog 252 := ⟨ay Tryz.func252 (by kernel_rfl) rfl⟩
instance : bt Tryz.prog 253 := ⟨ay Tryz.func253 (by kernel_rfl) rfl⟩
instance : bt Tryz.prog 254 := ⟨ay Tryz.func254 (by kernel_rfl) rfl⟩
instance : bt Tryz.prog 255 := ⟨ay Tryz.func255 (by kernel_rfl) rfl⟩
instance : bt Tryz.prog 256 := ⟨ay Tryz.func256 (by kernel_rfl) rfl⟩
instance : bt Tryz.prog 257 := ⟨ay Tryz.func257 (by kernel_rfl) rfl⟩
instance : bt Tryz.prog 258 := ⟨ay Tryz.func258 (by kernel_rfl) rfl⟩
instance : bt Tryz.prog 259 := ⟨ay Tryz.func259 (by kernel_rfl) rfl⟩
instance : bt Tryz.prog 267 := ⟨ay Tryz.func267 (by kernel_rfl) rfl⟩
instance : bt Tryz.prog 268 := ⟨ay Tryz.func268 (by kernel_rfl) rfl⟩
instance : bt Tryz.prog 269 := ⟨ay Tryz.func269 (by kernel_rfl) rfl⟩
instance : bt Tryz.prog 270 := ⟨ay Tryz.func270 (by kernel_rfl) rfl⟩
instance : bt Tryz.prog 271 := ⟨ay Tryz.func271 (by kernel_rfl) rfl⟩
instance : bt Tryz.prog 272 := ⟨ay Tryz.func272 (by kernel_rfl) rfl⟩
instance : bt Tryz.prog 273 := ⟨ay Tryz.func273 (by kernel_rfl) rfl⟩
instance : bt Tryz.prog 274 := ⟨ay Tryz.func274 (by kernel_rfl) rfl⟩
instance : bt Tryz.prog 275 := ⟨ay Tryz.func275 (by kernel_rfl) rfl⟩
instance : bt Tryz.prog 276 := ⟨ay Tryz.func276 (by kernel_rfl) rfl⟩
instance : bt Tryz.prog 277 := ⟨ay Tryz.func277 (by kernel_rfl) rfl⟩
instance : bt Tryz.prog 278 := ⟨ay Tryz.func278 (by kernel_rfl) rfl⟩
instance : bt Tryz.prog 280 := ⟨ay Tryz.func280 (by kernel_rfl) rfl⟩
instance : bt Tryz.prog 281 := ⟨ay Tryz.func281 (by kernel_rfl) rfl⟩
instance : bt Tryz.prog 282 := ⟨ay Tryz.func282 (by kernel_rfl) rfl⟩
instance : bt Tryz.prog 283 := ⟨ay Tryz.func283 (by kernel_rfl) rfl⟩
instance : bt Tryz.prog 284 := ⟨ay Tryz.func284 (by kernel_rfl) rfl⟩
instance : bt Tryz.prog 285 := ⟨ay Tryz.func285 (by kernel_rfl) rfl⟩
end Go.Proofs.YtpbinloeemebkaaGreat

namespace Go.Proofs.YtpbinloeemebkaaGreat
open Go.RowKit
section
variable {P : Program} {r : Option Nat} {ops : Array Oper} {Q : Exit → Act → World → Prop} {nt : Nat} {D : List Deferred} {fr : c9} {B : Bs} {L : AL} {rest : List Oper} {cd : Code} {φ : Prop}
theorem zE (hφ : ∀ σ a w, gI σ nt D fr a → cK B σ L w → φ) (h : φ → AT P r cd Q nt D fr B L) : AT P r cd Q nt D fr B L := fun σ a w ha hw => h (hφ σ a w ha hw) σ a w ha hw
theorem xA (hφ : ∀ σ a w, gI σ nt D fr a → cK B σ L w → φ) (h : φ → bN P r ops Q nt D rest fr B L) : bN P r ops Q nt D rest fr B L := fun σ a w ha hw => h (hφ σ a w ha hw) σ a w ha hw
theorem wh {σ : ce} {u : AV} {v : Value} {s : Nat} {l : List (List AV)} (h : VR σ u v) (hu : j7 u = some (s, l)) : l.length ≤ 9223372036854775807 ∧ ∀ e ∈ l, e.length = s := by
 have h1 := h.im
 rw [df hu] at h1
 obtain ⟨_, _, _, h2, h3, h4, _⟩ := h1.imm_inv
 unfold maxLen at h3
 exact ⟨by omega, h4⟩
theorem cg (t : Nat) {u : AV} {s : Nat} {l : List (List AV)} (hl : bZ fr t = some u) (hu : j7 u = some (s, l)) (h : l.length ≤ 9223372036854775807 → AT P r cd Q nt D fr B L) : AT P r cd Q nt D fr B L :=
 zE (fun σ a w ha _ => (wh (ha.look t u hl) hu).1) h
end
section
variable {P : Program} {nt : Nat} {fr : c9} {B : Bs} {L : AL}
theorem kD {fn : Func} {Post : AV → AL → Prop} {t : Tmp} {c : AV} {s : Nat} {l : List (List AV)} (hr : fn.results = #[.tmp t]) (hv : bZ fr t = some c) (hi : j7 c = some (s, l)) (h : Post (.imm s l) L) : AX P .ret (bodyPost P fn (ib B Post)) nt [] fr B L :=
 fun σ a w ha hw => ⟨ha.defers, _, results_tmp hr _ _ _, _, σ, .imm s l, L, rfl, by rw [← df hi]; exact (ha.look t c hv).im, hw, h⟩
end
section
variable {P : Program} {r : Option Nat} {ops : Array Oper} {Q : Exit → Act → World → Prop} {nt : Nat} {D : List Deferred} {fr : c9} {B : Bs} {L : AL} {rest : List Oper} {d : Nat} {ty : TypeId} {pos : String} {af : Array Edge}
def xi (P : Program) (f : FuncId) (args : List AV) (e s : Nat) (l : List (List AV)) : Prop := AC P f args [] fun c L => ∃ k, c = .vec k s l ∧ L = _root_.Go.Proofs.YtpbinloeemebkaaGreat.tok k e s l.length
theorem xi.det {f : FuncId} {args : List AV} {e s : Nat} {l : List (List AV)} (h : xi P f args e s l) : bo P f args (.imm s l) := fun σ w vs hv hs => (h σ w vs hv hs).mono fun _ _ ⟨v, τ, c, L', h1, h2, h3, k, h4, h5⟩ => ⟨v, τ, .imm s l, L', h1, by subst h4; exact h2.im, h3, rfl⟩
theorem yj {f : FuncId} {args : Array Operand} {ts : Array TypeId} {cs ds : List AV} {e s : Nat} {l : List (List AV)} [bt P f] (hc : xi P f ds e s l) (hv : eU fr args.toList = some cs) (hi : lF cs = some ds) (hd : Nat.ble nt d = false) (h : ∀ k, bN P r ops Q nt D rest ((d, .vec k s l) :: fr) B (_root_.Go.Proofs.YtpbinloeemebkaaGreat.tok k e s l.length ++ L)) :
  bN P r ops Q nt D (⟨some d, .call ⟨.value (.func f), args, ts⟩, ty, pos, af, none⟩ :: rest) fr B L := by
 have hc' := hc
 rw [← gF hi] at hc'
 refine cT hd rfl (mA [] L hv (fun σ vs h => h.im) (List.Perm.refl _) hc') fun c L' hh => ?_
 obtain ⟨L1, ⟨k, h1, h2⟩, h3⟩ := hh
 subst h1; subst h2; subst h3
 exact h k
end
def aV (l : List Int) : List (List AV) := l.map fun z => [.sc (.int .i64 z)]
theorem aM (l : List Int) : (aV l).length = l.length := by simp [aV]
theorem bk {l : List Int} {i : Nat} {z : Int} (h : l[i]? = some z) : (aV l)[i]? = some [.sc (.int .i64 z)] := by simp [aV, h]
end Go.Proofs.YtpbinloeemebkaaGreat

namespace Go.Proofs.YtpbinloeemebkaaGreat
open Go.RowKit
section
variable {P : Program} {tt : TT} {r : Option Nat} {Q : Exit → Act → World → Prop} {nt : Nat} {D : List Deferred} {fr : c9} {B : Bs} {L : AL} {l : List Oper} {fin : lj}
variable {k j : Nat} {s : Ak} {sk : mx} {acc : c9} {dd : Option Tmp} {op : Op} {ty t t' : TypeId} {pos : String} {af : Array Edge} {g : Option (Nat × Bool)} {x y c : Operand} {u : AV} {want b : Bool}
def d6 (P : Program) (l : List Oper) (fr : c9) (fin : lj) (k : Nat) (s : Ak) (o : Oper) (sk : mx) (acc : c9) (L : AL) : Prop := l[k]? = some o → DA P l fr fin ((k, s) :: sk) acc L
theorem aN {o : Oper} (h : d6 P l fr fin k s o sk acc L) (ho : l[k]? = some o := by rfl) : DA P l fr fin ((k, s) :: sk) acc L := h ho
def mp (o : Oper) (acc : c9) : Prop := match o.guard with
 | none => True
 | some (j, want) => nw acc j = .sc (.bool want)
theorem pm {o : Oper} {R : AV → AL → Prop} (hg : mp o acc) (h : ∀ B, AO P o (dp l.toArray acc fr o.after.toList) B L R) : tM P l fr o acc L R := by
 unfold tM
 unfold mp at hg
 split
 ·exact h
 ·rename_i j want hq
  rw [hq] at hg
  exact .inl ⟨hg, h⟩
theorem iX {o : Oper} (hg : mp o acc) (h : ∀ B L, AO P o (dp l.toArray acc fr o.after.toList) B L (fun c L' => c = u ∧ L' = L)) (hn : DA P l fr fin sk ((k, u) :: acc) L) : d6 P l fr fin k .v o sk acc L := by
 intro ho
 obtain ⟨pl, hpl⟩ := hn
 exact ⟨.val k u pl, .v, sk, o, rfl, ho, .inl ⟨rfl, fun L => pm hg fun B => h B L⟩, hpl⟩
theorem zM {o : Oper} (hg : mp o acc) (h : ∀ B, AO P o (dp l.toArray acc fr o.after.toList) B L (fun c L' => c = u ∧ L' = L)) (hn : DA P l fr fin sk ((k, u) :: acc) L) : d6 P l fr fin k .l o sk acc L := by
 intro ho
 obtain ⟨pl, hpl⟩ := hn
 exact ⟨.val k u pl, .l, sk, o, rfl, ho, .inr (.inl ⟨rfl, pm hg fun B => h B⟩), hpl⟩
theorem io {o : Oper} {R : AV → AL → Prop} (hg : mp o acc) (h : ∀ B, AO P o (dp l.toArray acc fr o.after.toList) B L R) (hn : ∀ c L', R c L' → DA P l fr fin sk ((k, c) :: acc) L') : d6 P l fr fin k .e o sk acc L := by
 intro ho
 have hn' : ∀ c L', ∃ pl, R c L' → dE P l fr fin pl sk ((k, c) :: acc) L' := fun c L' => by
  by_cases hr : R c L'
  ·obtain ⟨pl, hpl⟩ := hn c L' hr
   exact ⟨pl, fun _ => hpl⟩
  ·exact ⟨.fin, fun h => absurd h hr⟩
 exact ⟨.eff k R fun c L' => Classical.choose (hn' c L'), .e, sk, o, .inl rfl, rfl, ho, pm hg h, fun c L' hr => Classical.choose_spec (hn' c L') hr⟩
theorem zL {o : Oper} {R : AV → AL → Prop} (hX : ∀ c L', R c L' → ∃ X, L' = X ++ L) (hg : mp o acc) (h : ∀ B, AO P o (dp l.toArray acc fr o.after.toList) B L R) (hn : ∀ c L', R c L' → DA P l fr fin sk ((k, c) :: acc) L') : d6 P l fr fin k .a o sk acc L := by
 intro ho
 have hn' : ∀ c L', ∃ pl, R c L' → dE P l fr fin pl sk ((k, c) :: acc) L' := fun c L' => by
  by_cases hr : R c L'
  ·obtain ⟨pl, hpl⟩ := hn c L' hr
   exact ⟨pl, fun _ => hpl⟩
  ·exact ⟨.fin, fun h => absurd h hr⟩
 exact ⟨.eff k R fun c L' => Classical.choose (hn' c L'), .a, sk, o, .inr (.inl ⟨rfl, hX⟩), rfl, ho, pm hg h, fun c L' hr => Classical.choose_spec (hn' c L') hr⟩
theorem f3 {op : Op} (hj : nw acc j = .sc (.bool b)) (hb : (b == want) = false) (hn : DA P l fr fin sk ((k, .sc undef) :: acc) L) : d6 P l fr fin k .v ⟨dd, op, ty, pos, af, some (j, want)⟩ sk acc L := by
 intro ho
 obtain ⟨pl, hpl⟩ := hn
 exact ⟨.val k (.sc undef) pl, .v, sk, _, rfl, ho, .inl ⟨rfl, fun L => .inr ⟨⟨_, hj, fun e => by injection e with e; subst e; simp at hb⟩, rfl, rfl⟩⟩, hpl⟩
theorem oK {op : Op} (hj : nw acc j = .sc undef) (hn : DA P l fr fin sk ((k, .sc undef) :: acc) L) : d6 P l fr fin k .v ⟨dd, op, ty, pos, af, some (j, want)⟩ sk acc L := by
 intro ho
 obtain ⟨pl, hpl⟩ := hn
 exact ⟨.val k (.sc undef) pl, .v, sk, _, rfl, ho, .inl ⟨rfl, fun L => .inr ⟨⟨_, hj, fun e => by simp [undef] at e⟩, rfl, rfl⟩⟩, hpl⟩
theorem C5 {o : Oper} {fr : c9} (h : Av P o fr u) : ∀ B L, AO P o fr B L (fun c L' => c = u ∧ L' = L) := fun _ _ => h.ao
theorem bf (ok : eW P tt) (h : DA P l fr fin sk ((k, u) :: acc) L) (hu : o5 tt (dp l.toArray acc fr af.toList) op = some u := by rfl) (hg : mp ⟨dd, op, ty, pos, af, g⟩ acc := by first | trivial | rfl) : d6 P l fr fin k .v ⟨dd, op, ty, pos, af, g⟩ sk acc L := iX hg (C5 (o6 ok hu)) h
theorem ey {bop : BinOp} (h : d6 P l fr fin k .v ⟨dd, .binOp bop t x y t', ty, pos, af, g⟩ sk acc L) : d6 P l fr fin k .v ⟨dd, .binOp bop t x y t', ty, pos, af, g⟩ sk acc L := h
theorem fH {bop : BinOp} (h : DA P l fr fin sk ((k, u) :: acc) L) (ho : Av P ⟨dd, .binOp bop t x y t', ty, pos, af, g⟩ (dp l.toArray acc fr af.toList) u := by first | exact sQ rfl rfl (by omega) | exact sU rfl rfl (by omega) | exact sT rfl rfl (by omega)) (hg : mp ⟨dd, .binOp bop t x y t', ty, pos, af, g⟩ acc := by first | trivial | rfl) : d6 P l fr fin k .v ⟨dd, .binOp bop t x y t', ty, pos, af, g⟩ sk acc L := iX hg (C5 ho) h
theorem bs (h : d6 P l fr fin k .v ⟨dd, .indexAddr t x y, ty, pos, af, g⟩ sk acc L) : d6 P l fr fin k .v ⟨dd, .indexAddr t x y, ty, pos, af, g⟩ sk acc L := h
theorem bH (ok : eW P tt) {e sz by_ s : Nat} {ll : List (List AV)} {ik : IntKind} {i : Int} {es : List AV} (h : DA P l fr fin sk ((k, .iptr es) :: acc) L) (ht : mj tt t = some (e, sz, by_) := by rfl) (hx : bB (dp l.toArray acc fr af.toList) x = some u := by rfl) (hu : j7 u = some (s, ll) := by rfl) (hs : Nat.beq s sz = true := by rfl) (hy : bB (dp l.toArray acc fr af.toList) y = some (.sc (.int ik i)) := by rfl) (h0 : 0 ≤ i := by omega) (hl : ll[i.toNat]? = some es := by first | assumption | (simp only [Int.toNat_natCast]; assumption)) (hg : mp ⟨dd, .indexAddr t x y, ty, pos, af, g⟩ acc := by first | trivial | rfl) : d6 P l fr fin k .v ⟨dd, .indexAddr t x y, ty, pos, af, g⟩ sk acc L := iX hg (C5 (sR (bL ok ht).1 hx (df hu) hs hy h0 hl)) h
theorem cZ {f : FuncId} {args : Array Operand} {ts : Array TypeId} (h : d6 P l fr fin k .v ⟨dd, .call ⟨.value (.func f), args, ts⟩, ty, pos, af, g⟩ sk acc L) : d6 P l fr fin k .v ⟨dd, .call ⟨.value (.func f), args, ts⟩, ty, pos, af, g⟩ sk acc L := h
theorem dl {f : FuncId} {args : Array Operand} {ts : Array TypeId} {cs ds : List AV} [bt P f] (h : DA P l fr fin sk ((k, u) :: acc) L) (hv : eU (dp l.toArray acc fr af.toList) args.toList = some cs := by rfl) (hi : lF cs = some ds := by rfl) (hc : AD P f ds u := by infer_instance) (hg : mp ⟨dd, .call ⟨.value (.func f), args, ts⟩, ty, pos, af, g⟩ acc := by first | trivial | rfl) : d6 P l fr fin k .v ⟨dd, .call ⟨.value (.func f), args, ts⟩, ty, pos, af, g⟩ sk acc L := iX hg (fun _ _ => vE hv (by rw [gF hi]; exact hc.det)) h
theorem dI (ok : eW P tt) (i : Nat) {b kk : Nat} {cs : List AV} {e : TypeId} (ht : BF tt t = true) (hx : bB (dp l.toArray acc fr af.toList) x = some (.sc (.pointer (some ⟨b, kk, none⟩)))) (hL : L[i]? = some (b, .box cs e)) (hc : cs[kk]? = some u) (hg : mp ⟨dd, .load t x, ty, pos, af, g⟩ acc) (h : DA P l fr fin sk ((k, u) :: acc) L) : d6 P l fr fin k .l ⟨dd, .load t x, ty, pos, af, g⟩ sk acc L := zM hg (fun _ => sX i (co ok ht) hx hL hc) h
theorem sW {d : Option Tmp} {e sz by_ n : Nat} {parts : Array (Nat × Operand)} {vs : List AV} {xs : List (List AV)} (hc : mo P t e sz by_) (hsz : 0 < sz) (hv : eU fr (parts.toList.map (·.2)) = some vs) (hxs : gJ vs = some xs) (hn : Nat.beq xs.length n = true) (hi : parts.toList.map (·.1) = List.range' 0 n) (hz : xs.all (fun q => Nat.beq q.length sz) = true) (h24 : Nat.ble (n * sz) 16777216 = true) :
  AO P ⟨d, .buildSlice t n parts, ty, pos, af, g⟩ fr B L (fun c L' => c = .imm sz xs ∧ L' = L) := by
 intro σ ρ w hρ hw
 refine (rK hc hsz hv hxs hn hi hz h24 σ ρ w hρ hw).mono fun v w' hh => ?_
 obtain ⟨τ, c, L', h1, h2, h3, b, rfl, rfl⟩ := hh
 exact ⟨τ, _, L, h1, h2.im, h3.sublist (.cons _ (List.Sublist.refl _)), rfl, rfl⟩
theorem m7 (ok : eW P tt) {e sz by_ n : Nat} {parts : Array (Nat × Operand)} {vs : List AV} {xs : List (List AV)} (h : DA P l fr fin sk ((k, .imm sz xs) :: acc) L) (ht : mj tt t = some (e, sz, by_) := by rfl) (hv : eU (dp l.toArray acc fr af.toList) (parts.toList.map (·.2)) = some vs := by rfl) (hxs : gJ vs = some xs := by rfl) (hn : Nat.beq xs.length n = true := by rfl) (hi : parts.toList.map (·.1) = List.range' 0 n := by rfl) (hz : xs.all (fun q => Nat.beq q.length sz) = true := by rfl) (h24 : Nat.ble (n * sz) 16777216 = true := by rfl) (hg : mp ⟨dd, .buildSlice t n parts, ty, pos, af, g⟩ acc := by first | trivial | rfl) :
  d6 P l fr fin k .v ⟨dd, .buildSlice t n parts, ty, pos, af, g⟩ sk acc L := iX hg (fun _ _ => sW (bL ok ht).1 (bL ok ht).2 hv hxs hn hi hz h24) h
theorem bM (ok : eW P tt) {r : Option Nat} {ops : Array Oper} {Q : Exit → Act → World → Prop} {nt : Nat} {D : List Deferred} {rest : List Oper} {d e sz by_ n : Nat} {parts : Array (Nat × Operand)} {vs : List AV} {xs : List (List AV)} (h : bN P r ops Q nt D rest ((d, .imm sz xs) :: fr) B L) (ht : mj tt t = some (e, sz, by_) := by rfl) (hv : eU fr (parts.toList.map (·.2)) = some vs := by rfl) (hxs : gJ vs = some xs := by rfl) (hn : Nat.beq xs.length n = true := by rfl) (hi : parts.toList.map (·.1) = List.range' 0 n := by rfl) (hz : xs.all (fun q => Nat.beq q.length sz) = true := by rfl) (h24 : Nat.ble (n * sz) 16777216 = true := by rfl) (hd : Nat.ble nt d = false := by rfl) :
  bN P r ops Q nt D (⟨some d, .buildSlice t n parts, ty, pos, af, none⟩ :: rest) fr B L := by
 obtain ⟨h1, h2⟩ := bL ok ht
 refine cT hd rfl (sW h1 h2 hv hxs hn hi hz h24) fun c L' hh => ?_
 obtain ⟨h1, h2⟩ := hh
 subst h1; subst h2
 exact h
theorem bl {gs : KpL} {n0 : Nat} {fr0 : c9} {rest : List Oper} (ks : List Nat) (hk : fO (gh l.toArray acc fr n0) ks = some fr0) (hr : l.drop n0 = rest) (h : bN P r l.toArray Q nt D rest fr0 B L) : DA P l fr ⟨w5 P r l n0 Q nt D fr B none, gs⟩ [] acc L :=
 ⟨.fin, rfl, by rw [← hr] at h; exact ql (di ks hk) (fun _ _ h => h) h⟩
theorem pp {gs : KpL} {n0 kk : Nat} {ab : AB} {rest : List Oper} (ks : List Nat) (fr0 : Nat → c9) (hk : ∀ b, fO (gh l.toArray ((kk, .sc (.pointer (some ⟨b, 0, none⟩))) :: acc) fr n0) ks = some (fr0 b)) (hr : l.drop n0 = rest) (h : ∀ b, bN P r l.toArray Q nt D rest (fr0 b) B (L ++ [(b, ab)])) : DA P l fr ⟨w5 P r l n0 Q nt D fr B (some (kk, ab)), gs⟩ [] acc L :=
 ⟨.fin, rfl, fun b => by have := h b; rw [← hr] at this; exact ql (di ks (hk b)) (fun _ _ h => h) this⟩
end
end Go.Proofs.YtpbinloeemebkaaGreat

namespace Go.Proofs.YtpbinloeemebkaaGreat
open Go.RowKit
attribute [local irreducible] AT bN AX AO Av Kt bi dE DA d6

theorem y8 (l : List Int) (n : Int) : bo Tryz.prog 33 [.imm 1 (aV l), .sc (.int .i64 n)] (.sc (.bool (l.contains n))) := by
 refine aU Tryz.func33 rfl Tryz.ntmps33 rfl fun B => ?_
 refine cg 0 rfl rfl fun hlen => ?_
 rw [aM] at hlen
 (repeat' (first|refine ah ?_|refine a6 ?_|refine am ?_|refine a8 ?_|refine aa ?_|refine ae a7 rfl rfl ?_|fail))
 refine aL [0, 1] (α := Nat) (fun i => [(5, .sc (.int .i64 i))]) (fun i => i ≤ l.length ∧ (l.take i).contains n = false) (fun _ => []) (fun i => l.length - i) 0 rfl ⟨rfl, trivial⟩ ⟨Nat.zero_le _, by simp⟩ (fun _ _ h => h) fun i hi => ?_
 try dsimp only [List.cons_append, List.nil_append, List.map_cons, List.map_nil]
 (repeat' (first|refine ah ?_|refine a6 ?_|refine a8 ?_|refine aa ?_|refine ae a7 rfl rfl ?_|fail))
 refine av rfl (fun h => ?_) (fun h => ?_)
 ·have hil : i < l.length := by have := of_decide_eq_true h; rw [aM] at this; omega
  obtain ⟨z, hz⟩ : ∃ z, l[i]? = some z := ⟨_, List.getElem?_eq_getElem hil⟩
  have hzg := bk hz
  (repeat' (first|refine ah ?_|refine a6 ?_|refine am ?_|refine ak ?_|refine a8 ?_|refine aa ?_|refine ae a7 rfl rfl ?_|(apply aP; first|refine aO a7 ?_|refine aI a7 ?_)|fail))
  refine av rfl (fun h2 => ?_) (fun h2 => ?_)
  ·have h2' := of_decide_eq_true h2
   (repeat' (first|refine ah ?_|refine a6 ?_|refine au ?_|refine a8 ?_|refine ar ?_|refine aG ?_|refine aK ?_|refine aa ?_|refine ae a7 rfl rfl ?_|fail))
   refine aB rfl rfl ?_
   subst h2'
   rw [show l.contains z = true by simpa using List.mem_of_getElem? hz]
  ·have h2' := of_decide_eq_false h2
   (repeat' (first|refine a6 ?_|refine ak ?_|refine a8 ?_|refine aJ ?_|refine aa ?_|refine ae a7 rfl rfl ?_|(apply aX; refine aW ?_)|fail))
   refine aE (i + 1) rfl ⟨by rw [Int.natCast_add]; rfl, trivial⟩ ⟨by omega, ?_⟩ (by omega) (fun _ _ h => h)
   rw [List.take_add_one, hz]
   have := hi.2
   simp_all
   omega
 ·have hil : i = l.length := by have := of_decide_eq_false h; rw [aM] at this; omega
  subst hil
  rw [List.take_length] at hi
  (repeat' (first|refine ah ?_|refine a6 ?_|refine au ?_|refine aR ?_|refine a8 ?_|refine az ?_|refine aC ?_|refine aA ?_|refine aa ?_|refine ae a7 rfl rfl ?_|fail))
  refine aB rfl rfl ?_
  rw [hi.2]
instance (l : List Int) (n : Int) : AD Tryz.prog 33 [.imm 1 (aV l), .sc (.int .i64 n)] (.sc (.bool (l.contains n))) := ⟨y8 l n⟩

theorem rj (l k : List Int) : bo Tryz.prog 12 [.imm 1 (aV l), .imm 1 (aV k)] (.sc (.bool (l == k))) := by
 refine aU Tryz.func12 rfl Tryz.ntmps12 rfl fun B => ?_
 refine cg 0 rfl rfl fun hlen => ?_
 rw [aM] at hlen
 (repeat' (first|refine ah ?_|refine a6 ?_|refine a8 ?_|refine aa ?_|refine ae a7 rfl rfl ?_|fail))
 refine av rfl (fun h => ?_) (fun h => ?_)
 ·have h' := of_decide_eq_true h
  simp only [aM] at h'
  (repeat' (first|refine ah ?_|refine a6 ?_|refine au ?_|refine a8 ?_|refine ar ?_|refine aa ?_|refine ae a7 rfl rfl ?_|fail))
  refine aB rfl rfl ?_
  rw [show (l == k) = false by rw [beq_eq_false_iff_ne]; intro e; subst e; simp at h']
 ·have h' := of_decide_eq_false h
  simp only [aM] at h'
  have hlk : l.length = k.length := by omega
  (repeat' (first|refine ah ?_|refine a6 ?_|refine am ?_|refine ak ?_|refine a8 ?_|refine aa ?_|refine ae a7 rfl rfl ?_|fail))
  refine aL [0, 1] (α := Nat) (fun i => [(5, .sc (.int .i64 i))]) (fun i => i ≤ l.length ∧ l.take i = k.take i) (fun _ => []) (fun i => l.length - i) 0 rfl ⟨rfl, trivial⟩ ⟨Nat.zero_le _, by simp⟩ (fun _ _ h => h) fun i hi => ?_
  try dsimp only [List.cons_append, List.nil_append, List.map_cons, List.map_nil]
  (repeat' (first|refine ah ?_|refine a6 ?_|refine a8 ?_|refine aa ?_|refine ae a7 rfl rfl ?_|fail))
  refine av rfl (fun h => ?_) (fun h => ?_)
  ·have hil : i < l.length := by have := of_decide_eq_true h; rw [aM] at this; omega
   obtain ⟨z, hz⟩ : ∃ z, l[i]? = some z := ⟨_, List.getElem?_eq_getElem hil⟩
   obtain ⟨y, hy⟩ : ∃ z, k[i]? = some z := ⟨_, List.getElem?_eq_getElem (by omega)⟩
   have hzg := bk hz
   have hyg := bk hy
   (repeat' (first|refine ah ?_|refine am ?_|refine ak ?_|refine a8 ?_|fail))
   refine bj 8 [(0, .v), (1, .v), (2, .v), (3, .v), (4, .v), (5, .v), (6, .v), (7, .v)] none ?_ trivial rfl (by kernel_rfl) (by kernel_rfl) (by kernel_rfl) mixed (by kernel_rfl) rfl
   (repeat' (first|refine aN ?_|refine bf a7 ?_|(apply bs;refine bH a7 ?_)|fail))
   refine bl [0, 1, 5, 20, 24] rfl rfl ?_
   (repeat' (first|refine a8 ?_|refine aa ?_|refine ae a7 rfl rfl ?_|fail))
   refine av rfl (fun h2 => ?_) (fun h2 => ?_)
   ·have h2' := of_decide_eq_true h2
    (repeat' (first|refine ah ?_|refine a6 ?_|refine au ?_|refine a8 ?_|refine ar ?_|refine aG ?_|refine aK ?_|refine aa ?_|refine ae a7 rfl rfl ?_|fail))
    refine aB rfl rfl ?_
    rw [show (l == k) = false by rw [beq_eq_false_iff_ne]; intro e; subst e; rw [hz] at hy; injection hy with hy; exact h2' hy]
   ·have h2' := of_decide_eq_false h2
    (repeat' (first|refine a6 ?_|refine ak ?_|refine a8 ?_|refine aJ ?_|refine aa ?_|refine ae a7 rfl rfl ?_|(apply aX; refine aW ?_)|fail))
    refine aE (i + 1) rfl ⟨by rw [Int.natCast_add]; rfl, trivial⟩ ⟨by omega, ?_⟩ (by omega) (fun _ _ h => h)
    rw [List.take_add_one, List.take_add_one, hz, hy, hi.2, Decidable.not_not.1 h2']
  ·have hil : i = l.length := by have := of_decide_eq_false h; rw [aM] at this; omega
   subst hil
   rw [List.take_length, hlk, List.take_length] at hi
   (repeat' (first|refine ah ?_|refine a6 ?_|refine au ?_|refine aR ?_|refine a8 ?_|refine az ?_|refine aC ?_|refine aA ?_|refine aa ?_|refine ae a7 rfl rfl ?_|fail))
   refine aB rfl rfl ?_
   rw [hi.2, beq_self_eq_true]
instance (l k : List Int) : AD Tryz.prog 12 [.imm 1 (aV l), .imm 1 (aV k)] (.sc (.bool (l == k))) := ⟨rj l k⟩
end Go.Proofs.YtpbinloeemebkaaGreat
