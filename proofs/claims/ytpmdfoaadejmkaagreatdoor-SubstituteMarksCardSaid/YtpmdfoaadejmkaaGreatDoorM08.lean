/-
  The table of the types of the seat's program, and the functions that are entered, written by a program (wip/typesA.py).
-/
import Derived.Test.YtpmdfoaadejmkaaGreatDoorM04
import Derived.Test.YtpmdfoaadejmkaaGreatDoorProg
import Derived.KernelRfl
namespace Go.Proofs.YtpmdfoaadejmkaaGreatDoor
open Go.RowKit
theorem ae {P : Program} {f : FuncId} {fn : Func} {c : Code} (hf : P.funcs[f]? = some fn) (hname : (fn.name == "runtime.NumGoroutine") = false) (hb : fn.body = some c) : ∀ args w, (callFunc f args).run P w = .ok (.enter f args) w := by
 intro args w
 have hne : ¬ fn.name = "runtime.NumGoroutine" := by simpa using hname
 simp [callFunc, hf, hne, hb]
theorem c9 : Tryz.prog.follows .mixedOrders = true := by kernel_rfl
def tt : TT := [none,
 some ⟨.other, 1, [.nilFunc]⟩,
 some ⟨.int .i64, 1, [.int .i64 0]⟩,
 some ⟨.int .i64, 1, [.int .i64 0]⟩,
 some ⟨.bool, 1, [.bool false]⟩,
 some ⟨.int .u8, 1, [.int .u8 0]⟩,
 some ⟨.int .u8, 1, [.int .u8 0]⟩,
 some ⟨.struct [(0, 1, false), (1, 1, false), (2, 1, false), (3, 1, false)], 4, [.int .i64 0, .int .i64 0, .bool false, .int .u8 0]⟩,
 some ⟨.struct [(0, 1, false), (1, 1, false), (2, 1, false), (3, 1, false)], 4, [.int .i64 0, .int .i64 0, .bool false, .int .u8 0]⟩,
 some ⟨.str, 1, [.string ⟨#[]⟩]⟩,
 some ⟨.str, 1, [.string ⟨#[]⟩]⟩,
 some ⟨.str, 1, [.string ⟨#[]⟩]⟩,
 some ⟨.int .u64, 1, [.int .u64 0]⟩,
 some ⟨.struct [(0, 1, false), (1, 1, false)], 2, [.string ⟨#[]⟩, .int .u64 0]⟩,
 some ⟨.struct [(0, 1, false), (1, 1, false)], 2, [.string ⟨#[]⟩, .int .u64 0]⟩,
 some ⟨.other, 1, [.pointer none]⟩,
 some ⟨.other, 1, [.pointer none]⟩,
 some ⟨.other, 1, [.pointer none]⟩,
 some ⟨.struct [(0, 1, false)], 1, [.pointer none]⟩,
 some ⟨.struct [(0, 1, false)], 1, [.pointer none]⟩,
 some ⟨.other, 1, [.nilIface]⟩,
 some ⟨.int .i32, 1, [.int .i32 0]⟩,
 some ⟨.slice 3 1 8, 1, [.slice none 0 0]⟩,
 some ⟨.other, 1, [.nilFunc]⟩,
 some ⟨.slice 76 9 176, 1, [.slice none 0 0]⟩,
 some ⟨.slice 119 2 16, 1, [.slice none 0 0]⟩,
 some ⟨.slice 59 3 40, 1, [.slice none 0 0]⟩,
 some ⟨.slice 121 2 40, 1, [.slice none 0 0]⟩,
 some ⟨.slice 123 4 40, 1, [.slice none 0 0]⟩,
 some ⟨.slice 128 1 24, 1, [.slice none 0 0]⟩,
 some ⟨.slice 74 1 24, 1, [.slice none 0 0]⟩,
 some ⟨.struct [(0, 1, false), (1, 1, false), (2, 1, false), (3, 1, false), (4, 1, false), (5, 1, false), (6, 1, false), (7, 1, false), (8, 1, false)], 9, [.int .i64 0, .slice none 0 0, .slice none 0 0, .slice none 0 0, .slice none 0 0, .slice none 0 0, .slice none 0 0, .slice none 0 0, .slice none 0 0]⟩,
 some ⟨.struct [(0, 1, false), (1, 1, false), (2, 1, false), (3, 1, false), (4, 1, false), (5, 1, false), (6, 1, false), (7, 1, false), (8, 1, false)], 9, [.int .i64 0, .slice none 0 0, .slice none 0 0, .slice none 0 0, .slice none 0 0, .slice none 0 0, .slice none 0 0, .slice none 0 0, .slice none 0 0]⟩,
 some ⟨.other, 1, [.nilFunc]⟩,
 some ⟨.other, 1, [.pointer none]⟩,
 some ⟨.int .i64, 1, [.int .i64 0]⟩,
 none,
 some ⟨.other, 1, [.nilFunc]⟩,
 some ⟨.slice 67 6 48, 1, [.slice none 0 0]⟩,
 some ⟨.other, 1, [.nilFunc]⟩,
 some ⟨.other, 1, [.nilFunc]⟩,
 some ⟨.other, 1, [.nilFunc]⟩,
 some ⟨.other, 1, [.nilFunc]⟩,
 some ⟨.other, 1, [.nilFunc]⟩,
 some ⟨.other, 1, [.nilFunc]⟩,
 some ⟨.slice 22 1 24, 1, [.slice none 0 0]⟩,
 some ⟨.other, 1, [.nilFunc]⟩,
 some ⟨.other, 1, [.nilFunc]⟩,
 some ⟨.other, 1, [.nilFunc]⟩,
 some ⟨.other, 1, [.nilFunc]⟩,
 some ⟨.arr 3 3 1, 3, [.int .i64 0, .int .i64 0, .int .i64 0]⟩,
 some ⟨.other, 1, [.nilFunc]⟩,
 none,
 some ⟨.other, 1, [.nilFunc]⟩,
 some ⟨.struct [(0, 1, false), (1, 1, false)], 2, [.int .i64 0, .int .i64 0]⟩,
 some ⟨.struct [(0, 1, false), (1, 1, false)], 2, [.int .i64 0, .int .i64 0]⟩,
 some ⟨.other, 1, [.nilFunc]⟩,
 some ⟨.slice 79 6 128, 1, [.slice none 0 0]⟩,
 some ⟨.struct [(0, 1, false), (1, 1, false), (2, 1, false)], 3, [.int .i64 0, .bool false, .slice none 0 0]⟩,
 some ⟨.struct [(0, 1, false), (1, 1, false), (2, 1, false)], 3, [.int .i64 0, .bool false, .slice none 0 0]⟩,
 some ⟨.slice 246 1 8, 1, [.slice none 0 0]⟩,
 some ⟨.struct [(0, 1, false), (1, 1, false), (2, 1, false), (3, 1, false), (4, 1, false)], 5, [.slice none 0 0, .slice none 0 0, .slice none 0 0, .slice none 0 0, .slice none 0 0]⟩,
 some ⟨.struct [(0, 1, false), (1, 1, false), (2, 1, false), (3, 1, false), (4, 1, false)], 5, [.slice none 0 0, .slice none 0 0, .slice none 0 0, .slice none 0 0, .slice none 0 0]⟩,
 none,
 some ⟨.other, 1, [.nilFunc]⟩,
 some ⟨.other, 1, [.nilFunc]⟩,
 some ⟨.struct [(0, 1, false), (1, 1, false), (2, 1, false), (3, 1, false), (4, 1, false), (5, 1, false)], 6, [.int .i64 0, .int .i64 0, .int .i64 0, .int .i64 0, .int .i64 0, .int .i64 0]⟩,
 some ⟨.struct [(0, 1, false), (1, 1, false), (2, 1, false), (3, 1, false), (4, 1, false), (5, 1, false)], 6, [.int .i64 0, .int .i64 0, .int .i64 0, .int .i64 0, .int .i64 0, .int .i64 0]⟩,
 some ⟨.slice 286 3 24, 1, [.slice none 0 0]⟩,
 some ⟨.struct [(0, 1, false), (1, 1, false)], 2, [.slice none 0 0, .slice none 0 0]⟩,
 some ⟨.struct [(0, 1, false), (1, 1, false)], 2, [.slice none 0 0, .slice none 0 0]⟩,
 some ⟨.slice 111 3 24, 1, [.slice none 0 0]⟩,
 some ⟨.slice 113 4 32, 1, [.slice none 0 0]⟩,
 some ⟨.slice 115 4 32, 1, [.slice none 0 0]⟩,
 some ⟨.slice 117 2 16, 1, [.slice none 0 0]⟩,
 some ⟨.struct [(0, 1, false), (1, 1, false), (2, 1, false), (3, 2, true), (5, 1, false), (6, 1, false), (7, 1, false), (8, 1, false)], 9, [.string ⟨#[]⟩, .int .i64 0, .bool false, .slice none 0 0, .slice none 0 0, .slice none 0 0, .slice none 0 0, .slice none 0 0, .slice none 0 0]⟩,
 some ⟨.struct [(0, 1, false), (1, 1, false), (2, 1, false), (3, 2, true), (5, 1, false), (6, 1, false), (7, 1, false), (8, 1, false)], 9, [.string ⟨#[]⟩, .int .i64 0, .bool false, .slice none 0 0, .slice none 0 0, .slice none 0 0, .slice none 0 0, .slice none 0 0, .slice none 0 0]⟩,
 some ⟨.slice 81 2 16, 1, [.slice none 0 0]⟩,
 some ⟨.struct [(0, 1, false), (1, 1, false), (2, 1, false), (3, 1, false), (4, 1, false), (5, 1, false)], 6, [.slice none 0 0, .slice none 0 0, .slice none 0 0, .slice none 0 0, .slice none 0 0, .int .i64 0]⟩,
 some ⟨.struct [(0, 1, false), (1, 1, false), (2, 1, false), (3, 1, false), (4, 1, false), (5, 1, false)], 6, [.slice none 0 0, .slice none 0 0, .slice none 0 0, .slice none 0 0, .slice none 0 0, .int .i64 0]⟩,
 some ⟨.struct [(0, 1, false), (1, 1, false)], 2, [.int .i64 0, .int .i64 0]⟩,
 some ⟨.struct [(0, 1, false), (1, 1, false)], 2, [.int .i64 0, .int .i64 0]⟩,
 some ⟨.other, 1, [.nilFunc]⟩,
 some ⟨.slice 97 10 176, 1, [.slice none 0 0]⟩,
 some ⟨.slice 4 1 1, 1, [.slice none 0 0]⟩,
 some ⟨.struct [(0, 1, false), (1, 1, false)], 2, [.slice none 0 0, .slice none 0 0]⟩,
 some ⟨.struct [(0, 1, false), (1, 1, false)], 2, [.slice none 0 0, .slice none 0 0]⟩,
 some ⟨.other, 1, [.nilFunc]⟩,
 some ⟨.arr 3 5 1, 3, [.int .u8 0, .int .u8 0, .int .u8 0]⟩,
 some ⟨.other, 1, [.nilFunc]⟩,
 some ⟨.other, 1, [.nilFunc]⟩,
 some ⟨.other, 1, [.nilFunc]⟩,
 some ⟨.other, 1, [.nilFunc]⟩,
 some ⟨.other, 1, [.nilFunc]⟩,
 some ⟨.other, 1, [.nilFunc]⟩,
 some ⟨.other, 1, [.nilFunc]⟩,
 some ⟨.struct [(0, 3, true), (3, 5, true), (8, 1, false), (9, 1, false)], 10, [.int .i64 0, .bool false, .slice none 0 0, .slice none 0 0, .slice none 0 0, .slice none 0 0, .slice none 0 0, .slice none 0 0, .int .i64 0, .int .i64 0]⟩,
 some ⟨.struct [(0, 3, true), (3, 5, true), (8, 1, false), (9, 1, false)], 10, [.int .i64 0, .bool false, .slice none 0 0, .slice none 0 0, .slice none 0 0, .slice none 0 0, .slice none 0 0, .slice none 0 0, .int .i64 0, .int .i64 0]⟩,
 some ⟨.other, 1, [.nilFunc]⟩,
 some ⟨.other, 1, [.pointer none]⟩,
 some ⟨.other, 1, [.nilFunc]⟩,
 some ⟨.struct [(0, 1, false), (1, 1, false)], 2, [.pointer none, .slice none 0 0]⟩,
 some ⟨.struct [(0, 1, false), (1, 1, false)], 2, [.pointer none, .slice none 0 0]⟩,
 some ⟨.other, 1, [.nilFunc]⟩,
 some ⟨.other, 1, [.pointer none]⟩,
 none,
 some ⟨.other, 1, [.nilFunc]⟩,
 none,
 some ⟨.other, 1, [.nilFunc]⟩,
 some ⟨.slice 9 1 16, 1, [.slice none 0 0]⟩,
 some ⟨.struct [(0, 1, false), (1, 1, false), (2, 1, false)], 3, [.int .i64 0, .int .i64 0, .int .i64 0]⟩,
 some ⟨.struct [(0, 1, false), (1, 1, false), (2, 1, false)], 3, [.int .i64 0, .int .i64 0, .int .i64 0]⟩,
 some ⟨.struct [(0, 1, false), (1, 1, false), (2, 1, false), (3, 1, false)], 4, [.int .i64 0, .int .i64 0, .int .i64 0, .int .i64 0]⟩,
 some ⟨.struct [(0, 1, false), (1, 1, false), (2, 1, false), (3, 1, false)], 4, [.int .i64 0, .int .i64 0, .int .i64 0, .int .i64 0]⟩,
 some ⟨.struct [(0, 1, false), (1, 1, false), (2, 1, false), (3, 1, false)], 4, [.int .i64 0, .int .i64 0, .int .i64 0, .int .i64 0]⟩,
 some ⟨.struct [(0, 1, false), (1, 1, false), (2, 1, false), (3, 1, false)], 4, [.int .i64 0, .int .i64 0, .int .i64 0, .int .i64 0]⟩,
 some ⟨.struct [(0, 1, false), (1, 1, false)], 2, [.int .i64 0, .int .i64 0]⟩,
 some ⟨.struct [(0, 1, false), (1, 1, false)], 2, [.int .i64 0, .int .i64 0]⟩,
 some ⟨.struct [(0, 1, false), (1, 1, false)], 2, [.int .i64 0, .int .i64 0]⟩,
 some ⟨.struct [(0, 1, false), (1, 1, false)], 2, [.int .i64 0, .int .i64 0]⟩,
 some ⟨.struct [(0, 1, false), (1, 1, false)], 2, [.string ⟨#[]⟩, .slice none 0 0]⟩,
 some ⟨.struct [(0, 1, false), (1, 1, false)], 2, [.string ⟨#[]⟩, .slice none 0 0]⟩,
 some ⟨.struct [(0, 1, false), (1, 1, false), (2, 1, false), (3, 1, false)], 4, [.string ⟨#[]⟩, .int .i64 0, .int .i64 0, .int .i64 0]⟩,
 some ⟨.struct [(0, 1, false), (1, 1, false), (2, 1, false), (3, 1, false)], 4, [.string ⟨#[]⟩, .int .i64 0, .int .i64 0, .int .i64 0]⟩,
 some ⟨.struct [(0, 1, false), (1, 1, false), (2, 1, false)], 3, [.int .i64 0, .int .i64 0, .int .i64 0]⟩,
 some ⟨.struct [(0, 1, false), (1, 1, false), (2, 1, false)], 3, [.int .i64 0, .int .i64 0, .int .i64 0]⟩,
 some ⟨.slice 125 3 24, 1, [.slice none 0 0]⟩,
 some ⟨.struct [(0, 1, false)], 1, [.slice none 0 0]⟩,
 some ⟨.struct [(0, 1, false)], 1, [.slice none 0 0]⟩,
 some ⟨.other, 1, [.map none]⟩,
 some ⟨.other, 1, [.nilFunc]⟩,
 some ⟨.other, 1, [.nilFunc]⟩,
 some ⟨.other, 1, [.nilFunc]⟩,
 some ⟨.other, 1, [.nilFunc]⟩,
 some ⟨.other, 1, [.nilFunc]⟩,
 some ⟨.other, 1, [.nilFunc]⟩,
 some ⟨.other, 1, [.nilFunc]⟩,
 some ⟨.other, 1, [.nilFunc]⟩,
 some ⟨.other, 1, [.nilFunc]⟩,
 some ⟨.other, 1, [.nilFunc]⟩,
 some ⟨.other, 1, [.nilFunc]⟩,
 some ⟨.other, 1, [.nilFunc]⟩,
 some ⟨.other, 1, [.nilFunc]⟩,
 some ⟨.other, 1, [.nilFunc]⟩,
 some ⟨.other, 1, [.nilFunc]⟩,
 some ⟨.other, 1, [.nilFunc]⟩,
 some ⟨.other, 1, [.nilFunc]⟩,
 some ⟨.other, 1, [.nilFunc]⟩,
 some ⟨.other, 1, [.nilFunc]⟩,
 some ⟨.other, 1, [.nilFunc]⟩,
 some ⟨.other, 1, [.nilFunc]⟩,
 some ⟨.other, 1, [.nilFunc]⟩,
 some ⟨.other, 1, [.nilFunc]⟩,
 some ⟨.other, 1, [.nilFunc]⟩,
 some ⟨.other, 1, [.nilFunc]⟩,
 some ⟨.other, 1, [.nilFunc]⟩,
 some ⟨.other, 1, [.nilFunc]⟩,
 some ⟨.other, 1, [.nilFunc]⟩,
 some ⟨.other, 1, [.nilFunc]⟩,
 some ⟨.other, 1, [.nilFunc]⟩,
 some ⟨.other, 1, [.nilFunc]⟩,
 some ⟨.other, 1, [.nilFunc]⟩,
 some ⟨.other, 1, [.nilFunc]⟩,
 some ⟨.other, 1, [.nilFunc]⟩,
 some ⟨.other, 1, [.nilFunc]⟩,
 some ⟨.other, 1, [.nilFunc]⟩,
 some ⟨.other, 1, [.nilFunc]⟩,
 some ⟨.other, 1, [.nilFunc]⟩,
 none,
 some ⟨.other, 1, [.nilFunc]⟩,
 some ⟨.other, 1, [.pointer none]⟩,
 some ⟨.other, 1, [.map none]⟩,
 some ⟨.struct [(0, 9, true), (9, 1, false), (10, 1, false)], 11, [.int .i64 0, .slice none 0 0, .slice none 0 0, .slice none 0 0, .slice none 0 0, .slice none 0 0, .slice none 0 0, .slice none 0 0, .slice none 0 0, .slice none 0 0, .map none]⟩,
 some ⟨.struct [(0, 9, true), (9, 1, false), (10, 1, false)], 11, [.int .i64 0, .slice none 0 0, .slice none 0 0, .slice none 0 0, .slice none 0 0, .slice none 0 0, .slice none 0 0, .slice none 0 0, .slice none 0 0, .slice none 0 0, .map none]⟩,
 some ⟨.other, 1, [.nilFunc]⟩,
 some ⟨.other, 1, [.pointer none]⟩,
 some ⟨.struct [(0, 1, false), (1, 1, false), (2, 9, true), (11, 1, false)], 12, [.slice none 0 0, .int .i64 0, .int .i64 0, .slice none 0 0, .slice none 0 0, .slice none 0 0, .slice none 0 0, .slice none 0 0, .slice none 0 0, .slice none 0 0, .slice none 0 0, .int .i64 0]⟩,
 some ⟨.struct [(0, 1, false), (1, 1, false), (2, 9, true), (11, 1, false)], 12, [.slice none 0 0, .int .i64 0, .int .i64 0, .slice none 0 0, .slice none 0 0, .slice none 0 0, .slice none 0 0, .slice none 0 0, .slice none 0 0, .slice none 0 0, .slice none 0 0, .int .i64 0]⟩,
 some ⟨.other, 1, [.nilFunc]⟩,
 some ⟨.slice 5 1 1, 1, [.slice none 0 0]⟩,
 some ⟨.other, 1, [.nilFunc]⟩,
 some ⟨.other, 1, [.nilFunc]⟩,
 some ⟨.other, 1, [.nilFunc]⟩,
 some ⟨.other, 1, [.nilFunc]⟩,
 some ⟨.other, 1, [.nilFunc]⟩,
 some ⟨.other, 1, [.nilFunc]⟩,
 some ⟨.struct [(0, 1, false), (1, 1, false)], 2, [.slice none 0 0, .slice none 0 0]⟩,
 some ⟨.struct [(0, 1, false), (1, 1, false)], 2, [.slice none 0 0, .slice none 0 0]⟩,
 some ⟨.other, 1, [.nilFunc]⟩,
 some ⟨.other, 1, [.nilFunc]⟩,
 some ⟨.other, 1, [.pointer none]⟩,
 none,
 some ⟨.other, 1, [.nilFunc]⟩,
 some ⟨.other, 1, [.nilFunc]⟩,
 some ⟨.other, 1, [.nilFunc]⟩,
 none,
 some ⟨.other, 1, [.nilFunc]⟩,
 none,
 some ⟨.other, 1, [.nilFunc]⟩,
 some ⟨.other, 1, [.nilFunc]⟩,
 some ⟨.other, 1, [.nilFunc]⟩,
 some ⟨.other, 1, [.nilFunc]⟩,
 some ⟨.other, 1, [.nilFunc]⟩,
 some ⟨.slice 139 1 8, 1, [.slice none 0 0]⟩,
 some ⟨.other, 1, [.nilFunc]⟩,
 some ⟨.other, 1, [.nilFunc]⟩,
 some ⟨.other, 1, [.nilFunc]⟩,
 some ⟨.other, 1, [.nilFunc]⟩,
 some ⟨.other, 1, [.nilFunc]⟩,
 some ⟨.other, 1, [.nilFunc]⟩,
 some ⟨.other, 1, [.nilFunc]⟩,
 some ⟨.other, 1, [.nilFunc]⟩,
 some ⟨.other, 1, [.nilFunc]⟩,
 some ⟨.other, 1, [.nilFunc]⟩,
 some ⟨.other, 1, [.nilFunc]⟩,
 some ⟨.other, 1, [.nilFunc]⟩,
 some ⟨.other, 1, [.nilFunc]⟩,
 some ⟨.other, 1, [.nilFunc]⟩,
 none,
 some ⟨.other, 1, [.nilFunc]⟩,
 some ⟨.other, 1, [.nilFunc]⟩,
 some ⟨.other, 1, [.nilFunc]⟩,
 some ⟨.other, 1, [.nilFunc]⟩,
 some ⟨.other, 1, [.nilFunc]⟩,
 some ⟨.other, 1, [.nilFunc]⟩,
 some ⟨.other, 1, [.nilFunc]⟩,
 some ⟨.other, 1, [.nilFunc]⟩,
 some ⟨.other, 1, [.nilFunc]⟩,
 some ⟨.other, 1, [.nilFunc]⟩,
 some ⟨.other, 1, [.nilFunc]⟩,
 some ⟨.other, 1, [.nilFunc]⟩,
 some ⟨.other, 1, [.nilFunc]⟩,
 some ⟨.other, 1, [.nilFunc]⟩,
 some ⟨.other, 1, [.nilFunc]⟩,
 some ⟨.other, 1, [.nilFunc]⟩,
 some ⟨.other, 1, [.nilFunc]⟩,
 some ⟨.other, 1, [.nilFunc]⟩,
 some ⟨.other, 1, [.nilFunc]⟩,
 some ⟨.other, 1, [.nilFunc]⟩,
 some ⟨.other, 1, [.nilFunc]⟩,
 some ⟨.struct [(0, 1, false), (1, 1, false)], 2, [.int .i64 0, .slice none 0 0]⟩,
 some ⟨.struct [(0, 1, false), (1, 1, false)], 2, [.int .i64 0, .slice none 0 0]⟩,
 some ⟨.other, 1, [.nilFunc]⟩,
 some ⟨.slice 241 2 32, 1, [.slice none 0 0]⟩,
 some ⟨.other, 1, [.nilFunc]⟩,
 some ⟨.other, 1, [.nilFunc]⟩,
 some ⟨.int .u64, 1, [.int .u64 0]⟩,
 some ⟨.other, 1, [.nilFunc]⟩,
 some ⟨.other, 1, [.pointer none]⟩,
 some ⟨.other, 1, [.nilFunc]⟩,
 some ⟨.other, 1, [.nilFunc]⟩,
 some ⟨.other, 1, [.nilFunc]⟩,
 some ⟨.other, 1, [.nilFunc]⟩,
 some ⟨.other, 1, [.nilFunc]⟩,
 some ⟨.arr 2 3 1, 2, [.int .i64 0, .int .i64 0]⟩,
 some ⟨.slice 254 2 16, 1, [.slice none 0 0]⟩,
 some ⟨.other, 1, [.nilFunc]⟩,
 some ⟨.other, 1, [.map none]⟩,
 some ⟨.other, 1, [.pointer none]⟩,
 some ⟨.slice 261 2 16, 1, [.slice none 0 0]⟩,
 some ⟨.struct [(0, 1, false), (1, 1, false)], 2, [.int .i64 0, .int .u64 0]⟩,
 some ⟨.struct [(0, 1, false), (1, 1, false)], 2, [.int .i64 0, .int .u64 0]⟩,
 some ⟨.other, 1, [.nilFunc]⟩,
 some ⟨.other, 1, [.nilFunc]⟩,
 some ⟨.other, 1, [.nilFunc]⟩,
 some ⟨.slice 45 1 24, 1, [.slice none 0 0]⟩,
 some ⟨.slice 330 2 32, 1, [.slice none 0 0]⟩,
 some ⟨.struct [(0, 1, false), (1, 1, false), (2, 1, false), (3, 1, false), (4, 1, false)], 5, [.slice none 0 0, .int .u64 0, .slice none 0 0, .int .i64 0, .slice none 0 0]⟩,
 some ⟨.struct [(0, 1, false), (1, 1, false), (2, 1, false), (3, 1, false), (4, 1, false)], 5, [.slice none 0 0, .int .u64 0, .slice none 0 0, .int .i64 0, .slice none 0 0]⟩,
 some ⟨.other, 1, [.nilFunc]⟩,
 some ⟨.other, 1, [.nilFunc]⟩,
 some ⟨.other, 1, [.nilFunc]⟩,
 some ⟨.other, 1, [.nilFunc]⟩,
 some ⟨.other, 1, [.nilFunc]⟩,
 some ⟨.other, 1, [.nilFunc]⟩,
 none,
 some ⟨.other, 1, [.nilFunc]⟩,
 some ⟨.other, 1, [.nilFunc]⟩,
 some ⟨.other, 1, [.nilFunc]⟩,
 some ⟨.other, 1, [.nilFunc]⟩,
 some ⟨.other, 1, [.nilFunc]⟩,
 some ⟨.other, 1, [.nilFunc]⟩,
 some ⟨.other, 1, [.nilFunc]⟩,
 some ⟨.other, 1, [.nilFunc]⟩,
 some ⟨.other, 1, [.nilFunc]⟩,
 some ⟨.struct [(0, 1, false), (1, 1, false), (2, 1, false)], 3, [.int .i64 0, .int .i64 0, .bool false]⟩,
 some ⟨.struct [(0, 1, false), (1, 1, false), (2, 1, false)], 3, [.int .i64 0, .int .i64 0, .bool false]⟩,
 some ⟨.other, 1, [.nilFunc]⟩,
 some ⟨.other, 1, [.nilFunc]⟩,
 some ⟨.other, 1, [.nilFunc]⟩,
 some ⟨.other, 1, [.nilFunc]⟩,
 some ⟨.other, 1, [.map none]⟩,
 some ⟨.struct [(0, 1, false), (1, 1, false)], 2, [.int .i64 0, .int .i64 0]⟩,
 some ⟨.struct [(0, 1, false), (1, 1, false)], 2, [.int .i64 0, .int .i64 0]⟩,
 some ⟨.other, 1, [.nilFunc]⟩,
 some ⟨.struct [(0, 1, false), (1, 1, false)], 2, [.int .i64 0, .int .i64 0]⟩,
 some ⟨.struct [(0, 1, false), (1, 1, false)], 2, [.int .i64 0, .int .i64 0]⟩,
 some ⟨.other, 1, [.nilFunc]⟩,
 some ⟨.other, 1, [.nilFunc]⟩,
 some ⟨.other, 1, [.nilFunc]⟩,
 some ⟨.other, 1, [.nilFunc]⟩,
 some ⟨.other, 1, [.nilFunc]⟩,
 some ⟨.other, 1, [.nilFunc]⟩,
 some ⟨.other, 1, [.nilFunc]⟩,
 some ⟨.other, 1, [.nilFunc]⟩,
 some ⟨.other, 1, [.nilFunc]⟩,
 some ⟨.other, 1, [.nilFunc]⟩,
 some ⟨.other, 1, [.nilFunc]⟩,
 some ⟨.other, 1, [.nilFunc]⟩,
 none,
 some ⟨.other, 1, [.nilFunc]⟩,
 some ⟨.other, 1, [.nilFunc]⟩,
 some ⟨.int .u64, 1, [.int .u64 0]⟩,
 none,
 some ⟨.other, 1, [.nilFunc]⟩,
 some ⟨.other, 1, [.nilFunc]⟩,
 some ⟨.other, 1, [.nilFunc]⟩,
 some ⟨.other, 1, [.nilFunc]⟩,
 some ⟨.struct [(0, 1, false), (1, 1, false), (2, 1, false), (3, 1, false), (4, 1, false)], 5, [.slice none 0 0, .bool false, .nilFunc, .int .i64 0, .int .i64 0]⟩,
 some ⟨.struct [(0, 1, false), (1, 1, false), (2, 1, false), (3, 1, false), (4, 1, false)], 5, [.slice none 0 0, .bool false, .nilFunc, .int .i64 0, .int .i64 0]⟩,
 some ⟨.other, 1, [.nilFunc]⟩,
 some ⟨.other, 1, [.nilFunc]⟩,
 some ⟨.other, 1, [.nilFunc]⟩,
 some ⟨.other, 1, [.nilFunc]⟩,
 some ⟨.other, 1, [.nilFunc]⟩,
 some ⟨.other, 1, [.nilFunc]⟩,
 some ⟨.other, 1, [.nilFunc]⟩,
 some ⟨.other, 1, [.nilFunc]⟩,
 some ⟨.arr 16 5 1, 16, [.int .u8 0, .int .u8 0, .int .u8 0, .int .u8 0, .int .u8 0, .int .u8 0, .int .u8 0, .int .u8 0, .int .u8 0, .int .u8 0, .int .u8 0, .int .u8 0, .int .u8 0, .int .u8 0, .int .u8 0, .int .u8 0]⟩,
 some ⟨.struct [(0, 1, false), (1, 1, false)], 2, [.slice none 0 0, .int .u64 0]⟩,
 some ⟨.struct [(0, 1, false), (1, 1, false)], 2, [.slice none 0 0, .int .u64 0]⟩,
 some ⟨.other, 1, [.nilFunc]⟩,
 some ⟨.other, 1, [.nilFunc]⟩,
 some ⟨.other, 1, [.nilFunc]⟩,
 some ⟨.other, 1, [.nilFunc]⟩,
 some ⟨.other, 1, [.pointer none]⟩,
 some ⟨.other, 1, [.nilFunc]⟩,
 some ⟨.other, 1, [.nilFunc]⟩,
 some ⟨.other, 1, [.map none]⟩,
 some ⟨.slice 3 1 8, 1, [.slice none 0 0]⟩,
 some ⟨.other, 1, [.nilFunc]⟩,
 some ⟨.other, 1, [.nilFunc]⟩,
 some ⟨.other, 1, [.nilFunc]⟩,
 some ⟨.other, 1, [.nilFunc]⟩,
 some ⟨.other, 1, [.pointer none]⟩,
 some ⟨.other, 1, [.nilFunc]⟩,
 some ⟨.other, 1, [.nilFunc]⟩,
 some ⟨.other, 1, [.map none]⟩,
 some ⟨.other, 1, [.nilFunc]⟩,
 some ⟨.other, 1, [.nilFunc]⟩,
 some ⟨.other, 1, [.nilFunc]⟩,
 some ⟨.other, 1, [.nilFunc]⟩,
 some ⟨.other, 1, [.nilFunc]⟩,
 some ⟨.other, 1, [.nilFunc]⟩,
 some ⟨.other, 1, [.nilFunc]⟩,
 some ⟨.slice 35 1 8, 1, [.slice none 0 0]⟩,
 some ⟨.other, 1, [.nilFunc]⟩,
 some ⟨.other, 1, [.nilFunc]⟩,
 some ⟨.other, 1, [.nilFunc]⟩,
 some ⟨.other, 1, [.nilFunc]⟩,
 some ⟨.other, 1, [.nilFunc]⟩,
 some ⟨.struct [(0, 1, false), (1, 1, false), (2, 1, false)], 3, [.slice none 0 0, .slice none 0 0, .slice none 0 0]⟩,
 some ⟨.struct [(0, 1, false), (1, 1, false), (2, 1, false)], 3, [.slice none 0 0, .slice none 0 0, .slice none 0 0]⟩,
 some ⟨.other, 1, [.nilFunc]⟩,
 some ⟨.arr 64 5 1, 64, [.int .u8 0, .int .u8 0, .int .u8 0, .int .u8 0, .int .u8 0, .int .u8 0, .int .u8 0, .int .u8 0, .int .u8 0, .int .u8 0, .int .u8 0, .int .u8 0, .int .u8 0, .int .u8 0, .int .u8 0, .int .u8 0, .int .u8 0, .int .u8 0, .int .u8 0, .int .u8 0, .int .u8 0, .int .u8 0, .int .u8 0, .int .u8 0, .int .u8 0, .int .u8 0, .int .u8 0, .int .u8 0, .int .u8 0, .int .u8 0, .int .u8 0, .int .u8 0, .int .u8 0, .int .u8 0, .int .u8 0, .int .u8 0, .int .u8 0, .int .u8 0, .int .u8 0, .int .u8 0, .int .u8 0, .int .u8 0, .int .u8 0, .int .u8 0, .int .u8 0, .int .u8 0, .int .u8 0, .int .u8 0, .int .u8 0, .int .u8 0, .int .u8 0, .int .u8 0, .int .u8 0, .int .u8 0, .int .u8 0, .int .u8 0, .int .u8 0, .int .u8 0, .int .u8 0, .int .u8 0, .int .u8 0, .int .u8 0, .int .u8 0, .int .u8 0]⟩,
 some ⟨.other, 1, [.nilFunc]⟩,
 some ⟨.other, 1, [.nilIface]⟩,
 some ⟨.other, 1, [.nilIface]⟩,
 some ⟨.other, 1, [.nilFunc]⟩,
 some ⟨.other, 1, [.nilFunc]⟩,
 some ⟨.other, 1, [.nilFunc]⟩,
 some ⟨.other, 1, [.nilFunc]⟩,
 some ⟨.other, 1, [.nilFunc]⟩,
 some ⟨.other, 1, [.nilFunc]⟩,
 some ⟨.slice 376 2 16, 1, [.slice none 0 0]⟩,
 some ⟨.struct [(0, 1, false), (1, 1, false)], 2, [.int .i64 0, .int .i64 0]⟩,
 some ⟨.struct [(0, 1, false), (1, 1, false)], 2, [.int .i64 0, .int .i64 0]⟩,
 some ⟨.other, 1, [.pointer none]⟩,
 some ⟨.other, 1, [.nilFunc]⟩,
 some ⟨.other, 1, [.nilFunc]⟩,
 some ⟨.other, 1, [.nilFunc]⟩,
 some ⟨.other, 1, [.nilFunc]⟩,
 some ⟨.other, 1, [.nilFunc]⟩,
 some ⟨.other, 1, [.nilFunc]⟩,
 some ⟨.other, 1, [.nilFunc]⟩,
 some ⟨.other, 1, [.nilFunc]⟩,
 some ⟨.int .i64, 1, [.int .i64 0]⟩,
 none,
 some ⟨.other, 1, [.nilFunc]⟩,
 some ⟨.other, 1, [.nilFunc]⟩,
 some ⟨.other, 1, [.nilFunc]⟩,
 some ⟨.other, 1, [.nilFunc]⟩,
 some ⟨.other, 1, [.nilFunc]⟩,
 some ⟨.int .u32, 1, [.int .u32 0]⟩,
 some ⟨.other, 1, [.nilFunc]⟩,
 some ⟨.int .u64, 1, [.int .u64 0]⟩,
 some ⟨.other, 1, [.nilFunc]⟩,
 some ⟨.other, 1, [.nilFunc]⟩,
 some ⟨.other, 1, [.nilFunc]⟩,
 some ⟨.other, 1, [.pointer none]⟩,
 some ⟨.other, 1, [.nilFunc]⟩,
 some ⟨.other, 1, [.pointer none]⟩,
 none,
 some ⟨.other, 1, [.nilFunc]⟩,
 some ⟨.struct [(0, 1, false), (1, 1, false), (2, 1, false), (3, 1, false)], 4, [.pointer none, .pointer none, .pointer none, .string ⟨#[]⟩]⟩,
 some ⟨.struct [(0, 1, false), (1, 1, false), (2, 1, false), (3, 1, false)], 4, [.pointer none, .pointer none, .pointer none, .string ⟨#[]⟩]⟩,
 none,
 none,
 none,
 some ⟨.int .u8, 1, [.int .u8 0]⟩,
 some ⟨.int .u8, 1, [.int .u8 0]⟩,
 some ⟨.other, 1, [.nilFunc]⟩,
 some ⟨.other, 1, [.pointer none]⟩,
 some ⟨.int .i32, 1, [.int .i32 0]⟩,
 some ⟨.int .i32, 1, [.int .i32 0]⟩,
 some ⟨.struct [(0, 1, false), (1, 1, false), (2, 1, false), (3, 1, false), (4, 1, false), (5, 1, false), (6, 1, false), (7, 1, false), (8, 1, false), (9, 1, false), (10, 1, false)], 11, [.int .u64 0, .int .u64 0, .int .u32 0, .int .u8 0, .int .u8 0, .int .u8 0, .int .u8 0, .nilFunc, .pointer none, .int .i32 0, .int .i32 0]⟩,
 some ⟨.struct [(0, 1, false), (1, 1, false), (2, 1, false), (3, 1, false), (4, 1, false), (5, 1, false), (6, 1, false), (7, 1, false), (8, 1, false), (9, 1, false), (10, 1, false)], 11, [.int .u64 0, .int .u64 0, .int .u32 0, .int .u8 0, .int .u8 0, .int .u8 0, .int .u8 0, .nilFunc, .pointer none, .int .i32 0, .int .i32 0]⟩,
 none]
theorem a5 : dl Tryz.prog tt := Bl (by kernel_rfl)
theorem Ez {P : Program} {f : FuncId} {fn : Func} {c : Code} (hf : P.funcs[f]? = some fn) (hn : (fn.name == "runtime.NumGoroutine") = false := by kernel_rfl) (hb : fn.body = some c := by rfl) : bj P f := ⟨ae hf hn hb⟩
instance : bj Tryz.prog 13 := Ez Tryz.func13
instance : bj Tryz.prog 15 := Ez Tryz.func15
instance : bj Tryz.prog 18 := Ez Tryz.func18
instance : bj Tryz.prog 22 := Ez Tryz.func22
instance : bj Tryz.prog 25 := Ez Tryz.func25
instance : bj Tryz.prog 28 := Ez Tryz.func28
instance : bj Tryz.prog 29 := Ez Tryz.func29
instance : bj Tryz.prog 30 := Ez Tryz.func30
instance : bj Tryz.prog 33 := Ez Tryz.func33
instance : bj Tryz.prog 34 := Ez Tryz.func34
instance : bj Tryz.prog 35 := Ez Tryz.func35
instance : bj Tryz.prog 36 := Ez Tryz.func36
instance : bj Tryz.prog 37 := Ez Tryz.func37
instance : bj Tryz.prog 38 := Ez Tryz.func38
instance : bj Tryz.prog 41 := Ez Tryz.func41
instance : bj Tryz.prog 42 := Ez Tryz.func42
instance : bj Tryz.prog 43 := Ez Tryz.func43
instance : bj Tryz.prog 44 := Ez Tryz.func44
instance : bj Tryz.prog 45 := Ez Tryz.func45
instance : bj Tryz.prog 46 := Ez Tryz.func46
instance : bj Tryz.prog 47 := Ez Tryz.func47
instance : bj Tryz.prog 48 := Ez Tryz.func48
instance : bj Tryz.prog 49 := Ez Tryz.func49
instance : bj Tryz.prog 50 := Ez Tryz.func50
instance : bj Tryz.prog 51 := Ez Tryz.func51
instance : bj Tryz.prog 52 := Ez Tryz.func52
instance : bj Tryz.prog 53 := Ez Tryz.func53
instance : bj Tryz.prog 54 := Ez Tryz.func54
instance : bj Tryz.prog 55 := Ez Tryz.func55
instance : bj Tryz.prog 56 := Ez Tryz.func56
instance : bj Tryz.prog 57 := Ez Tryz.func57
instance : bj Tryz.prog 58 := Ez Tryz.func58
instance : bj Tryz.prog 59 := Ez Tryz.func59
instance : bj Tryz.prog 60 := Ez Tryz.func60
instance : bj Tryz.prog 61 := Ez Tryz.func61
instance : bj Tryz.prog 62 := Ez Tryz.func62
instance : bj Tryz.prog 63 := Ez Tryz.func63
instance : bj Tryz.prog 64 := Ez Tryz.func64
instance : bj Tryz.prog 65 := Ez Tryz.func65
instance : bj Tryz.prog 66 := Ez Tryz.func66
instance : bj Tryz.prog 67 := Ez Tryz.func67
instance : bj Tryz.prog 68 := Ez Tryz.func68
instance : bj Tryz.prog 69 := Ez Tryz.func69
instance : bj Tryz.prog 70 := Ez Tryz.func70
instance : bj Tryz.prog 71 := Ez Tryz.func71
instance : bj Tryz.prog 72 := Ez Tryz.func72
instance : bj Tryz.prog 73 := Ez Tryz.func73
instance : bj Tryz.prog 74 := Ez Tryz.func74
instance : bj Tryz.prog 75 := Ez Tryz.func75
instance : bj Tryz.prog 76 := Ez Tryz.func76
instance : bj Tryz.prog 77 := Ez Tryz.func77
instance : bj Tryz.prog 78 := Ez Tryz.func78
instance : bj Tryz.prog 79 := Ez Tryz.func79
instance : bj Tryz.prog 95 := Ez Tryz.func95
instance : bj Tryz.prog 96 := Ez Tryz.func96
instance : bj Tryz.prog 97 := Ez Tryz.func97
instance : bj Tryz.prog 98 := Ez Tryz.func98
instance : bj Tryz.prog 99 := Ez Tryz.func99
instance : bj Tryz.prog 100 := Ez Tryz.func100
instance : bj Tryz.prog 101 := Ez Tryz.func101
instance : bj Tryz.prog 102 := Ez Tryz.func102
instance : bj Tryz.prog 103 := Ez Tryz.func103
instance : bj Tryz.prog 111 := Ez Tryz.func111
instance : bj Tryz.prog 112 := Ez Tryz.func112
instance : bj Tryz.prog 113 := Ez Tryz.func113
instance : bj Tryz.prog 114 := Ez Tryz.func114
instance : bj Tryz.prog 115 := Ez Tryz.func115
instance : bj Tryz.prog 116 := Ez Tryz.func116
instance : bj Tryz.prog 117 := Ez Tryz.func117
instance : bj Tryz.prog 118 := Ez Tryz.func118
instance : bj Tryz.prog 119 := Ez Tryz.func119
instance : bj Tryz.prog 120 := Ez Tryz.func120
instance : bj Tryz.prog 121 := Ez Tryz.func121
instance : bj Tryz.prog 122 := Ez Tryz.func122
instance : bj Tryz.prog 123 := Ez Tryz.func123
instance : bj Tryz.prog 124 := Ez Tryz.func124
instance : bj Tryz.prog 125 := Ez Tryz.func125
instance : bj Tryz.prog 126 := Ez Tryz.func126
instance : bj Tryz.prog 127 := Ez Tryz.func127
instance : bj Tryz.prog 128 := Ez Tryz.func128
instance : bj Tryz.prog 129 := Ez Tryz.func129
instance : bj Tryz.prog 130 := Ez Tryz.func130
instance : bj Tryz.prog 131 := Ez Tryz.func131
instance : bj Tryz.prog 132 := Ez Tryz.func132
instance : bj Tryz.prog 133 := Ez Tryz.func133
instance : bj Tryz.prog 134 := Ez Tryz.func134
instance : bj Tryz.prog 135 := Ez Tryz.func135
instance : bj Tryz.prog 136 := Ez Tryz.func136
instance : bj Tryz.prog 137 := Ez Tryz.func137
instance : bj Tryz.prog 138 := Ez Tryz.func138
instance : bj Tryz.prog 139 := Ez Tryz.func139
instance : bj Tryz.prog 140 := Ez Tryz.func140
instance : bj Tryz.prog 141 := Ez Tryz.func141
instance : bj Tryz.prog 142 := Ez Tryz.func142
instance : bj Tryz.prog 143 := Ez Tryz.func143
instance : bj Tryz.prog 144 := Ez Tryz.func144
instance : bj Tryz.prog 145 := Ez Tryz.func145
instance : bj Tryz.prog 146 := Ez Tryz.func146
instance : bj Tryz.prog 147 := Ez Tryz.func147
instance : bj Tryz.prog 148 := Ez Tryz.func148
instance : bj Tryz.prog 149 := Ez Tryz.func149
instance : bj Tryz.prog 150 := Ez Tryz.func150
instance : bj Tryz.prog 151 := Ez Tryz.func151
instance : bj Tryz.prog 152 := Ez Tryz.func152
instance : bj Tryz.prog 153 := Ez Tryz.func153
instance : bj Tryz.prog 154 := Ez Tryz.func154
instance : bj Tryz.prog 155 := Ez Tryz.func155
instance : bj Tryz.prog 177 := Ez Tryz.func177
instance : bj Tryz.prog 178 := Ez Tryz.func178
instance : bj Tryz.prog 179 := Ez Tryz.func179
instance : bj Tryz.prog 180 := Ez Tryz.func180
instance : bj Tryz.prog 181 := Ez Tryz.func181
instance : bj Tryz.prog 182 := Ez Tryz.func182
instance : bj Tryz.prog 183 := Ez Tryz.func183
instance : bj Tryz.prog 184 := Ez Tryz.func184
instance : bj Tryz.prog 185 := Ez Tryz.func185
instance : bj Tryz.prog 186 := Ez Tryz.func186
instance : bj Tryz.prog 187 := Ez Tryz.func187
instance : bj Tryz.prog 188 := Ez Tryz.func188
instance : bj Tryz.prog 189 := Ez Tryz.func189
instance : bj Tryz.prog 190 := Ez Tryz.func190
instance : bj Tryz.prog 191 := Ez Tryz.func191
instance : bj Tryz.prog 192 := Ez Tryz.func192
instance : bj Tryz.prog 193 := Ez Tryz.func193
instance : bj Tryz.prog 197 := Ez Tryz.func197
instance : bj Tryz.prog 198 := Ez Tryz.func198
instance : bj Tryz.prog 199 := Ez Tryz.func199
instance : bj Tryz.prog 200 := Ez Tryz.func200
instance : bj Tryz.prog 201 := Ez Tryz.func201
instance : bj Tryz.prog 202 := Ez Tryz.func202
instance : bj Tryz.prog 203 := Ez Tryz.func203
instance : bj Tryz.prog 204 := Ez Tryz.func204
instance : bj Tryz.prog 205 := Ez Tryz.func205
instance : bj Tryz.prog 206 := Ez Tryz.func206
instance : bj Tryz.prog 207 := Ez Tryz.func207
instance : bj Tryz.prog 208 := Ez Tryz.func208
instance : bj Tryz.prog 209 := Ez Tryz.func209
instance : bj Tryz.prog 210 := Ez Tryz.func210
instance : bj Tryz.prog 211 := Ez Tryz.func211
instance : bj Tryz.prog 212 := Ez Tryz.func212
instance : bj Tryz.prog 213 := Ez Tryz.func213
instance : bj Tryz.prog 214 := Ez Tryz.func214
instance : bj Tryz.prog 215 := Ez Tryz.func215
instance : bj Tryz.prog 216 := Ez Tryz.func216
instance : bj Tryz.prog 217 := Ez Tryz.func217
instance : bj Tryz.prog 218 := Ez Tryz.func218
instance : bj Tryz.prog 219 := Ez Tryz.func219
instance : bj Tryz.prog 220 := Ez Tryz.func220
instance : bj Tryz.prog 221 := Ez Tryz.func221
instance : bj Tryz.prog 222 := Ez Tryz.func222
instance : bj Tryz.prog 223 := Ez Tryz.func223
instance : bj Tryz.prog 224 := Ez Tryz.func224
instance : bj Tryz.prog 225 := Ez Tryz.func225
instance : bj Tryz.prog 226 := Ez Tryz.func226
instance : bj Tryz.prog 227 := Ez Tryz.func227
instance : bj Tryz.prog 228 := Ez Tryz.func228
instance : bj Tryz.prog 253 := Ez Tryz.func253
instance : bj Tryz.prog 255 := Ez Tryz.func255
instance : bj Tryz.prog 256 := Ez Tryz.func256
instance : bj Tryz.prog 257 := Ez Tryz.func257
instance : bj Tryz.prog 258 := Ez Tryz.func258
instance : bj Tryz.prog 259 := Ez Tryz.func259
instance : bj Tryz.prog 260 := Ez Tryz.func260
instance : bj Tryz.prog 261 := Ez Tryz.func261
instance : bj Tryz.prog 263 := Ez Tryz.func263
instance : bj Tryz.prog 264 := Ez Tryz.func264
instance : bj Tryz.prog 265 := Ez Tryz.func265
instance : bj Tryz.prog 266 := Ez Tryz.func266
instance : bj Tryz.prog 267 := Ez Tryz.func267
instance : bj Tryz.prog 271 := Ez Tryz.func271
instance : bj Tryz.prog 272 := Ez Tryz.func272
instance : bj Tryz.prog 273 := Ez Tryz.func273
instance : bj Tryz.prog 285 := Ez Tryz.func285
instance : bj Tryz.prog 286 := Ez Tryz.func286
instance : bj Tryz.prog 287 := Ez Tryz.func287
instance : bj Tryz.prog 288 := Ez Tryz.func288
instance : bj Tryz.prog 289 := Ez Tryz.func289
instance : bj Tryz.prog 290 := Ez Tryz.func290
instance : bj Tryz.prog 301 := Ez Tryz.func301
instance : bj Tryz.prog 302 := Ez Tryz.func302
end Go.Proofs.YtpmdfoaadejmkaaGreatDoor
