/-
  The table of the types of the seat's program, and the functions that are entered, written by a program (wip/typesA.py).
-/
import Derived.Test.YtpmdfoaadejmkaaGreatDoorM04
import Derived.Test.YtpmdfoaadejmkaaGreatDoorProg
import Derived.KernelRfl
namespace Go.Proofs.YtpmdfoaadejmkaaGreatDoor
open Go.RowKit
theorem ad {P : Program} {f : FuncId} {fn : Func} {c : Code} (hf : P.funcs[f]? = some fn) (hname : (fn.name == "runtime.NumGoroutine") = false) (hb : fn.body = some c) : ∀ args w, (callFunc f args).run P w = .ok (.enter f args) w := by
 intro args w
 have hne : ¬ fn.name = "runtime.NumGoroutine" := by simpa using hname
 simp [callFunc, hf, hne, hb]
theorem c9 : Tryz.prog.follows .mixedOrders = true := by kernel_rfl
def tt : TT := [none,
 some ⟨.other, 1, [.nilFunc]⟩,
 some ⟨.int .i64, 1, [.int .i64 0]⟩,
 some ⟨.int .i64, 1, [.int .i64 0]⟩,
 some ⟨.bool, 1, [.bool false]⟩,
 some ⟨.int .u8, 1, [.int .u8 0]⟩,
 some ⟨.int .u8, 1, [.int .u8 0]⟩,
 some ⟨.struct [(0, 1, false), (1, 1, false), (2, 1, false), (3, 1, false)], 4, [.int .i64 0, .int .i64 0, .bool false, .int .u8 0]⟩,
 some ⟨.struct [(0, 1, false), (1, 1, false), (2, 1, false), (3, 1, false)], 4, [.int .i64 0, .int .i64 0, .bool false, .int .u8 0]⟩,
 some ⟨.str, 1, [.string ⟨#[]⟩]⟩,
 some ⟨.str, 1, [.string ⟨#[]⟩]⟩,
 some ⟨.str, 1, [.string ⟨#[]⟩]⟩,
 some ⟨.int .u64, 1, [.int .u64 0]⟩,
 some ⟨.struct [(0, 1, false), (1, 1, false)], 2, [.string ⟨#[]⟩, .int .u64 0]⟩,
 some ⟨.struct [(0, 1, false), (1, 1, false)], 2, [.string ⟨#[]⟩, .int .u64 0]⟩,
 some ⟨.other, 1, [.pointer none]⟩,
 some ⟨.other, 1, [.pointer none]⟩,
 some ⟨.other, 1, [.pointer none]⟩,
 some ⟨.struct [(0, 1, false)], 1, [.pointer none]⟩,
 some ⟨.struct [(0, 1, false)], 1, [.pointer none]⟩,
 some ⟨.other, 1, [.nilIface]⟩,
 some ⟨.int .i32, 1, [.int .i32 0]⟩,
 some ⟨.slice 3 1 8, 1, [.slice none 0 0]⟩,
 some ⟨.other, 1, [.nilFunc]⟩,
 some ⟨.slice 76 9 176, 1, [.slice none 0 0]⟩,
 some ⟨.slice 119 2 16, 1, [.slice none 0 0]⟩,
 some ⟨.slice 59 3 40, 1, [.slice none 0 0]⟩,
 some ⟨.slice 121 2 40, 1, [.slice none 0 0]⟩,
 some ⟨.slice 123 4 40, 1, [.slice none 0 0]⟩,
 some ⟨.slice 128 1 24, 1, [.slice none 0 0]⟩,
 some ⟨.slice 74 1 24, 1, [.slice none 0 0]⟩,
 some ⟨.struct [(0, 1, false), (1, 1, false), (2, 1, false), (3, 1, false), (4, 1, false), (5, 1, false), (6, 1, false), (7, 1, false), (8, 1, false)], 9, [.int .i64 0, .slice none 0 0, .slice none 0 0, .slice none 0 0, .slice none 0 0, .slice none 0 0, .slice none 0 0, .slice none 0 0, .slice none 0 0]⟩,
 some ⟨.struct [(0, 1, false), (1, 1, false), (2, 1, false), (3, 1, false), (4, 1, false), (5, 1, false), (6, 1, false), (7, 1, false), (8, 1, false)], 9, [.int .i64 0, .slice none 0 0, .slice none 0 0, .slice none 0 0, .slice none 0 0, .slice none 0 0, .slice none 0 0, .slice none 0 0, .slice none 0 0]⟩,
 some ⟨.other, 1, [.nilFunc]⟩,
 some ⟨.other, 1, [.pointer none]⟩,
 some ⟨.int .i64, 1, [.int .i64 0]⟩,
 none,
 some ⟨.other, 1, [.nilFunc]⟩,
 some ⟨.slice 67 6 48, 1, [.slice none 0 0]⟩,
 some ⟨.other, 1, [.nilFunc]⟩,
 some ⟨.other, 1, [.nilFunc]⟩,
 some ⟨.other, 1, [.nilFunc]⟩,
 some ⟨.other, 1, [.nilFunc]⟩,
 some ⟨.other, 1, [.nilFunc]⟩,
 some ⟨.other, 1, [.nilFunc]⟩,
 some ⟨.slice 22 1 24, 1, [.slice none 0 0]⟩,
 some ⟨.other, 1, [.nilFunc]⟩,
 some ⟨.other, 1, [.nilFunc]⟩,
 some ⟨.other, 1, [.nilFunc]⟩,
 some ⟨.other, 1, [.nilFunc]⟩,
 some ⟨.arr 3 3 1, 3, [.int .i64 0, .int .i64 0, .int .i64 0]⟩,
 some ⟨.other, 1, [.nilFunc]⟩,
 none,
 some ⟨.other, 1, [.nilFunc]⟩,
 some ⟨.struct [(0, 1, false), (1, 1, false)], 2, [.int .i64 0, .int .i64 0]⟩,
 some ⟨.struct [(0, 1, false), (1, 1, false)], 2, [.int .i64 0, .int .i64 0]⟩,
 some ⟨.other, 1, [.nilFunc]⟩,
 some ⟨.slice 79 6 128, 1, [.slice none 0 0]⟩,
 some ⟨.struct [(0, 1, false), (1, 1, false), (2, 1, false)], 3, [.int .i64 0, .bool false, .slice none 0 0]⟩,
 some ⟨.struct [(0, 1, false), (1, 1, false), (2, 1, false)], 3, [.int .i64 0, .bool false, .slice none 0 0]⟩,
 some ⟨.slice 246 1 8, 1, [.slice none 0 0]⟩,
 some ⟨.struct [(0, 1, false), (1, 1, false), (2, 1, false), (3, 1, false), (4, 1, false)], 5, [.slice none 0 0, .slice none 0 0, .slice none 0 0, .slice none 0 0, .slice none 0 0]⟩,
 some ⟨.struct [(0, 1, false), (1, 1, false), (2, 1, false), (3, 1, false), (4, 1, false)], 5, [.slice none 0 0, .slice none 0 0, .slice none 0 0, .slice none 0 0, .slice none 0 0]⟩,
 none,
 some ⟨.other, 1, [.nilFunc]⟩,
 some ⟨.other, 1, [.nilFunc]⟩,
 some ⟨.struct [(0, 1, false), (1, 1, false), (2, 1, false), (3, 1, false), (4, 1, false), (5, 1, false)], 6, [.int .i64 0, .int .i64 0, .int .i64 0, .int .i64 0, .int .i64 0, .int .i64 0]⟩,
 some ⟨.struct [(0, 1, false), (1, 1, false), (2, 1, false), (3, 1, false), (4, 1, false), (5, 1, false)], 6, [.int .i64 0, .int .i64 0, .int .i64 0, .int .i64 0, .int .i64 0, .int .i64 0]⟩,
 some ⟨.slice 286 3 24, 1, [.slice none 0 0]⟩,
 some ⟨.struct [(0, 1, false), (1, 1, false)], 2, [.slice none 0 0, .slice none 0 0]⟩,
 some ⟨.struct [(0, 1, false), (1, 1, false)], 2, [.slice none 0 0, .slice none 0 0]⟩,
 some ⟨.slice 111 3 24, 1, [.slice none 0 0]⟩,
 some ⟨.slice 113 4 32, 1, [.slice none 0 0]⟩,
 some ⟨.slice 115 4 32, 1, [.slice none 0 0]⟩,
 some ⟨.slice 117 2 16, 1, [.slice none 0 0]⟩,
 some ⟨.struct [(0, 1, false), (1, 1, false), (2, 1, false), (3, 2, true), (5, 1, false), (6, 1, false), (7, 1, false), (8, 1, false)], 9, [.string ⟨#[]⟩, .int .i64 0, .bool false, .slice none 0 0, .slice none 0 0, .slice none 0 0, .slice none 0 0, .slice none 0 0, .slice none 0 0]⟩,
 some ⟨.struct [(0, 1, false), (1, 1, false), (2, 1, false), (3, 2, true), (5, 1, false), (6, 1, false), (7, 1, false), (8, 1, false)], 9, [.string ⟨#[]⟩, .int .i64 0, .bool false, .slice none 0 0, .slice none 0 0, .slice none 0 0, .slice none 0 0, .slice none 0 0, .slice none 0 0]⟩,
 some ⟨.slice 81 2 16, 1, [.slice none 0 0]⟩,
 some ⟨.struct [(0, 1, false), (1, 1, false), (2, 1, false), (3, 1, false), (4, 1, false), (5, 1, false)], 6, [.slice none 0 0, .slice none 0 0, .slice none 0 0, .slice none 0 0, .slice none 0 0, .int .i64 0]⟩,
 some ⟨.struct [(0, 1, false), (1, 1, false), (2, 1, false), (3, 1, false), (4, 1, false), (5, 1, false)], 6, [.slice none 0 0, .slice none 0 0, .slice none 0 0, .slice none 0 0, .slice none 0 0, .int .i64 0]⟩,
 some ⟨.struct [(0, 1, false), (1, 1, false)], 2, [.int .i64 0, .int .i64 0]⟩,
 some ⟨.struct [(0, 1, false), (1, 1, false)], 2, [.int .i64 0, .int .i64 0]⟩,
 some ⟨.other, 1, [.nilFunc]⟩,
 some ⟨.slice 97 10 176, 1, [.slice none 0 0]⟩,
 some ⟨.slice 4 1 1, 1, [.slice none 0 0]⟩,
 some ⟨.struct [(0, 1, false), (1, 1, false)], 2, [.slice none 0 0, .slice none 0 0]⟩,
 some ⟨.struct [(0, 1, false), (1, 1, false)], 2, [.slice none 0 0, .slice none 0 0]⟩,
 some ⟨.other, 1, [.nilFunc]⟩,
 some ⟨.arr 3 5 1, 3, [.int .u8 0, .int .u8 0, .int .u8 0]⟩,
 some ⟨.other, 1, [.nilFunc]⟩,
 some ⟨.other, 1, [.nilFunc]⟩,
 some ⟨.other, 1, [.nilFunc]⟩,
 some ⟨.other, 1, [.nilFunc]⟩,
 some ⟨.other, 1, [.nilFunc]⟩,
 some ⟨.other, 1, [.nilFunc]⟩,
 some ⟨.other, 1, [.nilFunc]⟩,
 some ⟨.struct [(0, 3, true), (3, 5, true), (8, 1, false), (9, 1, false)], 10, [.int .i64 0, .bool false, .slice none 0 0, .slice none 0 0, .slice none 0 0, .slice none 0 0, .slice none 0 0, .slice none 0 0, .int .i64 0, .int .i64 0]⟩,
 some ⟨.struct [(0, 3, true), (3, 5, true), (8, 1, false), (9, 1, false)], 10, [.int .i64 0, .bool false, .slice none 0 0, .slice none 0 0, .slice none 0 0, .slice none 0 0, .slice none 0 0, .slice none 0 0, .int .i64 0, .int .i64 0]⟩,
 some ⟨.other, 1, [.nilFunc]⟩,
 some ⟨.other, 1, [.pointer none]⟩,
 some ⟨.other, 1, [.nilFunc]⟩,
 some ⟨.struct [(0, 1, false), (1, 1, false)], 2, [.pointer none, .slice none 0 0]⟩,
 some ⟨.struct [(0, 1, false), (1, 1, false)], 2, [.pointer none, .slice none 0 0]⟩,
 some ⟨.other, 1, [.nilFunc]⟩,
 some ⟨.other, 1, [.pointer none]⟩,
 none,
 some ⟨.other, 1, [.nilFunc]⟩,
 none,
 some ⟨.other, 1, [.nilFunc]⟩,
 some ⟨.slice 9 1 16, 1, [.slice none 0 0]⟩,
 some ⟨.struct [(0, 1, false), (1, 1, false), (2, 1, false)], 3, [.int .i64 0, .int .i64 0, .int .i64 0]⟩,
 some ⟨.struct [(0, 1, false), (1, 1, false), (2, 1, false)], 3, [.int .i64 0, .int .i64 0, .int .i64 0]⟩,
 some ⟨.struct [(0, 1, false), (1, 1, false), (2, 1, false), (3, 1, false)], 4, [.int .i64 0, .int .i64 0, .int .i64 0, .int .i64 0]⟩,
 some ⟨.struct [(0, 1, false), (1, 1, false), (2, 1, false), (3, 1, false)], 4, [.int .i64 0, .int .i64 0, .int .i64 0, .int .i64 0]⟩,
 some ⟨.struct [(0, 1, false), (1, 1, false), (2, 1, false), (3, 1, false)], 4, [.int .i64 0, .int .i64 0, .int .i64 0, .int .i64 0]⟩,
 some ⟨.struct [(0, 1, false), (1, 1, false), (2, 1, false), (3, 1, false)], 4, [.int .i64 0, .int .i64 0, .int .i64 0, .int .i64 0]⟩,
 some ⟨.struct [(0, 1, false), (1, 1, false)], 2, [.int .i64 0, .int .i64 0]⟩,
 some ⟨.struct [(0, 1, false), (1, 1, false)], 2, [.int .i64 0, .int .i64 0]⟩,
 some ⟨.struct [(0, 1, false), (1, 1, false)], 2, [.int .i64 0, .int .i64 0]⟩,
 some ⟨.struct [(0, 1, false), (1, 1, false)], 2, [.int .i64 0, .int .i64 0]⟩,
 some ⟨.struct [(0, 1, false), (1, 1, false)], 2, [.string ⟨#[]⟩, .slice none 0 0]⟩,
 some ⟨.struct [(0, 1, false), (1, 1, false)], 2, [.string ⟨#[]⟩, .slice none 0 0]⟩,
 some ⟨.struct [(0, 1, false), (1, 1, false), (2, 1, false), (3, 1, false)], 4, [.string ⟨#[]⟩, .int .i64 0, .int .i64 0, .int .i64 0]⟩,
 some ⟨.struct [(0, 1, false), (1, 1, false), (2, 1, false), (3, 1, false)], 4, [.string ⟨#[]⟩, .int .i64 0, .int .i64 0, .int .i64 0]⟩,
 some ⟨.struct [(0, 1, false), (1, 1, false), (2, 1, false)], 3, [.int .i64 0, .int .i64 0, .int .i64 0]⟩,
 some ⟨.struct [(0, 1, false), (1, 1, false), (2, 1, false)], 3, [.int .i64 0, .int .i64 0, .int .i64 0]⟩,
 some ⟨.slice 125 3 24, 1, [.slice none 0 0]⟩,
 some ⟨.struct [(0, 1, false)], 1, [.slice none 0 0]⟩,
 some ⟨.struct [(0, 1, false)], 1, [.slice none 0 0]⟩,
 some ⟨.other, 1, [.map none]⟩,
 some ⟨.other, 1, [.nilFunc]⟩,
 some ⟨.other, 1, [.nilFunc]⟩,
 some ⟨.other, 1, [.nilFunc]⟩,
 some ⟨.other, 1, [.nilFunc]⟩,
 some ⟨.other, 1, [.nilFunc]⟩,
 some ⟨.other, 1, [.nilFunc]⟩,
 some ⟨.other, 1, [.nilFunc]⟩,
 some ⟨.other, 1, [.nilFunc]⟩,
 some ⟨.other, 1, [.nilFunc]⟩,
 some ⟨.other, 1, [.nilFunc]⟩,
 some ⟨.other, 1, [.nilFunc]⟩,
 some ⟨.other, 1, [.nilFunc]⟩,
 some ⟨.other, 1, [.nilFunc]⟩,
 some ⟨.other, 1, [.nilFunc]⟩,
 some ⟨.other, 1, [.nilFunc]⟩,
 some ⟨.other, 1, [.nilFunc]⟩,
 some ⟨.other, 1, [.nilFunc]⟩,
 some ⟨.other, 1, [.nilFunc]⟩,
 some ⟨.other, 1, [.nilFunc]⟩,
 some ⟨.other, 1, [.nilFunc]⟩,
 some ⟨.other, 1, [.nilFunc]⟩,
 some ⟨.other, 1, [.nilFunc]⟩,
 some ⟨.other, 1, [.nilFunc]⟩,
 some ⟨.other, 1, [.nilFunc]⟩,
 some ⟨.other, 1, [.nilFunc]⟩,
 some ⟨.other, 1, [.nilFunc]⟩,
 some ⟨.other, 1, [.nilFunc]⟩,
 some ⟨.other, 1, [.nilFunc]⟩,
 some ⟨.other, 1, [.nilFunc]⟩,
 some ⟨.other, 1, [.nilFunc]⟩,
 some ⟨.other, 1, [.nilFunc]⟩,
 some ⟨.other, 1, [.nilFunc]⟩,
 some ⟨.other, 1, [.nilFunc]⟩,
 some ⟨.other, 1, [.nilFunc]⟩,
 some ⟨.other, 1, [.nilFunc]⟩,
 some ⟨.other, 1, [.nilFunc]⟩,
 some ⟨.other, 1, [.nilFunc]⟩,
 some ⟨.other, 1, [.nilFunc]⟩,
 none,
 some ⟨.other, 1, [.nilFunc]⟩,
 some ⟨.other, 1, [.pointer none]⟩,
 some ⟨.other, 1, [.map none]⟩,
 some ⟨.struct [(0, 9, true), (9, 1, false), (10, 1, false)], 11, [.int .i64 0, .slice none 0 0, .slice none 0 0, .slice none 0 0, .slice none 0 0, .slice none 0 0, .slice none 0 0, .slice none 0 0, .slice none 0 0, .slice none 0 0, .map none]⟩,
 some ⟨.struct [(0, 9, true), (9, 1, false), (10, 1, false)], 11, [.int .i64 0, .slice none 0 0, .slice none 0 0, .slice none 0 0, .slice none 0 0, .slice none 0 0, .slice none 0 0, .slice none 0 0, .slice none 0 0, .slice none 0 0, .map none]⟩,
 some ⟨.other, 1, [.nilFunc]⟩,
 some ⟨.other, 1, [.pointer none]⟩,
 some ⟨.struct [(0, 1, false), (1, 1, false), (2, 9, true), (11, 1, false)], 12, [.slice none 0 0, .int .i64 0, .int .i64 0, .slice none 0 0, .slice none 0 0, .slice none 0 0, .slice none 0 0, .slice none 0 0, .slice none 0 0, .slice none 0 0, .slice none 0 0, .int .i64 0]⟩,
 some ⟨.struct [(0, 1, false), (1, 1, false), (2, 9, true), (11, 1, false)], 12, [.slice none 0 0, .int .i64 0, .int .i64 0, .slice none 0 0, .slice none 0 0, .slice none 0 0, .slice none 0 0, .slice none 0 0, .slice none 0 0, .slice none 0 0, .slice none 0 0, .int .i64 0]⟩,
 some ⟨.other, 1, [.nilFunc]⟩,
 some ⟨.slice 5 1 1, 1, [.slice none 0 0]⟩,
 some ⟨.other, 1, [.nilFunc]⟩,
 some ⟨.other, 1, [.nilFunc]⟩,
 some ⟨.other, 1, [.nilFunc]⟩,
 some ⟨.other, 1, [.nilFunc]⟩,
 some ⟨.other, 1, [.nilFunc]⟩,
 some ⟨.other, 1, [.nilFunc]⟩,
 some ⟨.struct [(0, 1, false), (1, 1, false)], 2, [.slice none 0 0, .slice none 0 0]⟩,
 some ⟨.struct [(0, 1, false), (1, 1, false)], 2, [.slice none 0 0, .slice none 0 0]⟩,
 some ⟨.other, 1, [.nilFunc]⟩,
 some ⟨.other, 1, [.nilFunc]⟩,
 some ⟨.other, 1, [.pointer none]⟩,
 none,
 some ⟨.other, 1, [.nilFunc]⟩,
 some ⟨.other, 1, [.nilFunc]⟩,
 some ⟨.other, 1, [.nilFunc]⟩,
 none,
 some ⟨.other, 1, [.nilFunc]⟩,
 none,
 some ⟨.other, 1, [.nilFunc]⟩,
 some ⟨.other, 1, [.nilFunc]⟩,
 some ⟨.other, 1, [.nilFunc]⟩,
 some ⟨.other, 1, [.nilFunc]⟩,
 some ⟨.other, 1, [.nilFunc]⟩,
 some ⟨.slice 139 1 8, 1, [.slice none 0 0]⟩,
 some ⟨.other, 1, [.nilFunc]⟩,
 some ⟨.other, 1, [.nilFunc]⟩,
 some ⟨.other, 1, [.nilFunc]⟩,
 some ⟨.other, 1, [.nilFunc]⟩,
 some ⟨.other, 1, [.nilFunc]⟩,
 some ⟨.other, 1, [.nilFunc]⟩,
 some ⟨.other, 1, [.nilFunc]⟩,
 some ⟨.other, 1, [.nilFunc]⟩,
 some ⟨.other, 1, [.nilFunc]⟩,
 some ⟨.other, 1, [.nilFunc]⟩,
 some ⟨.other, 1, [.nilFunc]⟩,
 some ⟨.other, 1, [.nilFunc]⟩,
 some ⟨.other, 1, [.nilFunc]⟩,
 some ⟨.other, 1, [.nilFunc]⟩,
 none,
 some ⟨.other, 1, [.nilFunc]⟩,
 some ⟨.other, 1, [.nilFunc]⟩,
 some ⟨.other, 1, [.nilFunc]⟩,
 some ⟨.other, 1, [.nilFunc]⟩,
 some ⟨.other, 1, [.nilFunc]⟩,
 some ⟨.other, 1, [.nilFunc]⟩,
 some ⟨.other, 1, [.nilFunc]⟩,
 some ⟨.other, 1, [.nilFunc]⟩,
 some ⟨.other, 1, [.nilFunc]⟩,
 some ⟨.other, 1, [.nilFunc]⟩,
 some ⟨.other, 1, [.nilFunc]⟩,
 some ⟨.other, 1, [.nilFunc]⟩,
 some ⟨.other, 1, [.nilFunc]⟩,
 some ⟨.other, 1, [.nilFunc]⟩,
 some ⟨.other, 1, [.nilFunc]⟩,
 some ⟨.other, 1, [.nilFunc]⟩,
 some ⟨.other, 1, [.nilFunc]⟩,
 some ⟨.other, 1, [.nilFunc]⟩,
 some ⟨.other, 1, [.nilFunc]⟩,
 some ⟨.other, 1, [.nilFunc]⟩,
 some ⟨.other, 1, [.nilFunc]⟩,
 some ⟨.struct [(0, 1, false), (1, 1, false)], 2, [.int .i64 0, .slice none 0 0]⟩,
 some ⟨.struct [(0, 1, false), (1, 1, false)], 2, [.int .i64 0, .slice none 0 0]⟩,
 some ⟨.other, 1, [.nilFunc]⟩,
 some ⟨.slice 241 2 32, 1, [.slice none 0 0]⟩,
 some ⟨.other, 1, [.nilFunc]⟩,
 some ⟨.other, 1, [.nilFunc]⟩,
 some ⟨.int .u64, 1, [.int .u64 0]⟩,
 some ⟨.other, 1, [.nilFunc]⟩,
 some ⟨.other, 1, [.pointer none]⟩,
 some ⟨.other, 1, [.nilFunc]⟩,
 some ⟨.other, 1, [.nilFunc]⟩,
 some ⟨.other, 1, [.nilFunc]⟩,
 some ⟨.other, 1, [.nilFunc]⟩,
 some ⟨.other, 1, [.nilFunc]⟩,
 some ⟨.arr 2 3 1, 2, [.int .i64 0, .int .i64 0]⟩,
 some ⟨.slice 254 2 16, 1, [.slice none 0 0]⟩,
 some ⟨.other, 1, [.nilFunc]⟩,
 some ⟨.other, 1, [.map none]⟩,
 some ⟨.other, 1, [.pointer none]⟩,
 some ⟨.slice 261 2 16, 1, [.slice none 0 0]⟩,
 some ⟨.struct [(0, 1, false), (1, 1, false)], 2, [.int .i64 0, .int .u64 0]⟩,
 some ⟨.struct [(0, 1, false), (1, 1, false)], 2, [.int .i64 0, .int .u64 0]⟩,
 some ⟨.other, 1, [.nilFunc]⟩,
 some ⟨.other, 1, [.nilFunc]⟩,
 some ⟨.other, 1, [.nilFunc]⟩,
 some ⟨.slice 45 1 24, 1, [.slice none 0 0]⟩,
 some ⟨.slice 330 2 32, 1, [.slice none 0 0]⟩,
 some ⟨.struct [(0, 1, false), (1, 1, false), (2, 1, false), (3, 1, false), (4, 1, false)], 5, [.slice none 0 0, .int .u64 0, .slice none 0 0, .int .i64 0, .slice none 0 0]⟩,
 some ⟨.struct [(0, 1, false), (1, 1, false), (2, 1, false), (3, 1, false), (4, 1, false)], 5, [.slice none 0 0, .int .u64 0, .slice none 0 0, .int .i64 0, .slice none 0 0]⟩,
 some ⟨.other, 1, [.nilFunc]⟩,
 some ⟨.other, 1, [.nilFunc]⟩,
 some ⟨.other, 1, [.nilFunc]⟩,
 some ⟨.other, 1, [.nilFunc]⟩,
 some ⟨.other, 1, [.nilFunc]⟩,
 some ⟨.other, 1, [.nilFunc]⟩,
 none,
 some ⟨.other, 1, [.nilFunc]⟩,
 some ⟨.other, 1, [.nilFunc]⟩,
 some ⟨.other, 1, [.nilFunc]⟩,
 some ⟨.other, 1, [.nilFunc]⟩,
 some ⟨.other, 1, [.nilFunc]⟩,
 some ⟨.other, 1, [.nilFunc]⟩,
 some ⟨.other, 1, [.nilFunc]⟩,
 some ⟨.other, 1, [.nilFunc]⟩,
 some ⟨.other, 1, [.nilFunc]⟩,
 some ⟨.struct [(0, 1, false), (1, 1, false), (2, 1, false)], 3, [.int .i64 0, .int .i64 0, .bool false]⟩,
 some ⟨.struct [(0, 1, false), (1, 1, false), (2, 1, false)], 3, [.int .i64 0, .int .i64 0, .bool false]⟩,
 some ⟨.other, 1, [.nilFunc]⟩,
 some ⟨.other, 1, [.nilFunc]⟩,
 some ⟨.other, 1, [.nilFunc]⟩,
 some ⟨.other, 1, [.nilFunc]⟩,
 some ⟨.other, 1, [.map none]⟩,
 some ⟨.struct [(0, 1, false), (1, 1, false)], 2, [.int .i64 0, .int .i64 0]⟩,
 some ⟨.struct [(0, 1, false), (1, 1, false)], 2, [.int .i64 0, .int .i64 0]⟩,
 some ⟨.other, 1, [.nilFunc]⟩,
 some ⟨.struct [(0, 1, false), (1, 1, false)], 2, [.int .i64 0, .int .i64 0]⟩,
 some ⟨.struct [(0, 1, false), (1, 1, false)], 2, [.int .i64 0, .int .i64 0]⟩,
 some ⟨.other, 1, [.nilFunc]⟩,
 some ⟨.other, 1, [.nilFunc]⟩,
 some ⟨.other, 1, [.nilFunc]⟩,
 some ⟨.other, 1, [.nilFunc]⟩,
 some ⟨.other, 1, [.nilFunc]⟩,
 some ⟨.other, 1, [.nilFunc]⟩,
 some ⟨.other, 1, [.nilFunc]⟩,
 some ⟨.other, 1, [.nilFunc]⟩,
 some ⟨.other, 1, [.nilFunc]⟩,
 some ⟨.other, 1, [.nilFunc]⟩,
 some ⟨.other, 1, [.nilFunc]⟩,
 some ⟨.other, 1, [.nilFunc]⟩,
 none,
 some ⟨.other, 1, [.nilFunc]⟩,
 some ⟨.other, 1, [.nilFunc]⟩,
 some ⟨.int .u64, 1, [.int .u64 0]⟩,
 none,
 some ⟨.other, 1, [.nilFunc]⟩,
 some ⟨.other, 1, [.nilFunc]⟩,
 some ⟨.other, 1, [.nilFunc]⟩,
 some ⟨.other, 1, [.nilFunc]⟩,
 some ⟨.struct [(0, 1, false), (1, 1, false), (2, 1, false), (3, 1, false), (4, 1, false)], 5, [.slice none 0 0, .bool false, .nilFunc, .int .i64 0, .int .i64 0]⟩,
 some ⟨.struct [(0, 1, false), (1, 1, false), (2, 1, false), (3, 1, false), (4, 1, false)], 5, [.slice none 0 0, .bool false, .nilFunc, .int .i64 0, .int .i64 0]⟩,
 some ⟨.other, 1, [.nilFunc]⟩,
 some ⟨.other, 1, [.nilFunc]⟩,
 some ⟨.other, 1, [.nilFunc]⟩,
 some ⟨.other, 1, [.nilFunc]⟩,
 some ⟨.other, 1, [.nilFunc]⟩,
 some ⟨.other, 1, [.nilFunc]⟩,
 some ⟨.other, 1, [.nilFunc]⟩,
 some ⟨.other, 1, [.nilFunc]⟩,
 some ⟨.arr 16 5 1, 16, [.int .u8 0, .int .u8 0, .int .u8 0, .int .u8 0, .int .u8 0, .int .u8 0, .int .u8 0, .int .u8 0, .int .u8 0, .int .u8 0, .int .u8 0, .int .u8 0, .int .u8 0, .int .u8 0, .int .u8 0, .int .u8 0]⟩,
 some ⟨.struct [(0, 1, false), (1, 1, false)], 2, [.slice none 0 0, .int .u64 0]⟩,
 some ⟨.struct [(0, 1, false), (1, 1, false)], 2, [.slice none 0 0, .int .u64 0]⟩,
 some ⟨.other, 1, [.nilFunc]⟩,
 some ⟨.other, 1, [.nilFunc]⟩,
 some ⟨.other, 1, [.nilFunc]⟩,
 some ⟨.other, 1, [.nilFunc]⟩,
 some ⟨.other, 1, [.pointer none]⟩,
 some ⟨.other, 1, [.nilFunc]⟩,
 some ⟨.other, 1, [.nilFunc]⟩,
 some ⟨.other, 1, [.map none]⟩,
 some ⟨.slice 3 1 8, 1, [.slice none 0 0]⟩,
 some ⟨.other, 1, [.nilFunc]⟩,
 some ⟨.other, 1, [.nilFunc]⟩,
 some ⟨.other, 1, [.nilFunc]⟩,
 some ⟨.other, 1, [.nilFunc]⟩,
 some ⟨.other, 1, [.pointer none]⟩,
 some ⟨.other, 1, [.nilFunc]⟩,
 some ⟨.other, 1, [.nilFunc]⟩,
 some ⟨.other, 1, [.map none]⟩,
 some ⟨.other, 1, [.nilFunc]⟩,
 some ⟨.other, 1, [.nilFunc]⟩,
 some ⟨.other, 1, [.nilFunc]⟩,
 some ⟨.other, 1, [.nilFunc]⟩,
 some ⟨.other, 1, [.nilFunc]⟩,
 some ⟨.other, 1, [.nilFunc]⟩,
 some ⟨.other, 1, [.nilFunc]⟩,
 some ⟨.slice 35 1 8, 1, [.slice none 0 0]⟩,
 some ⟨.other, 1, [.nilFunc]⟩,
 some ⟨.other, 1, [.nilFunc]⟩,
 some ⟨.other, 1, [.nilFunc]⟩,
 some ⟨.other, 1, [.nilFunc]⟩,
 some ⟨.other, 1, [.nilFunc]⟩,
 some ⟨.struct [(0, 1, false), (1, 1, false), (2, 1, false)], 3, [.slice none 0 0, .slice none 0 0, .slice none 0 0]⟩,
 some ⟨.struct [(0, 1, false), (1, 1, false), (2, 1, false)], 3, [.slice none 0 0, .slice none 0 0, .slice none 0 0]⟩,
 some ⟨.other, 1, [.nilFunc]⟩,
 some ⟨.arr 64 5 1, 64, [.int .u8 0, .int .u8 0, .int .u8 0, .int .u8 0, .int .u8 0, .int .u8 0, .int .u8 0, .int .u8 0, .int .u8 0, .int .u8 0, .int .u8 0, .int .u8 0, .int .u8 0, .int .u8 0, .int .u8 0, .int .u8 0, .int .u8 0, .int .u8 0, .int .u8 0, .int .u8 0, .int .u8 0, .int .u8 0, .int .u8 0, .int .u8 0, .int .u8 0, .int .u8 0, .int .u8 0, .int .u8 0, .int .u8 0, .int .u8 0, .int .u8 0, .int .u8 0, .int .u8 0, .int .u8 0, .int .u8 0, .int .u8 0, .int .u8 0, .int .u8 0, .int .u8 0, .int .u8 0, .int .u8 0, .int .u8 0, .int .u8 0, .int .u8 0, .int .u8 0, .int .u8 0, .int .u8 0, .int .u8 0, .int .u8 0, .int .u8 0, .int .u8 0, .int .u8 0, .int .u8 0, .int .u8 0, .int .u8 0, .int .u8 0, .int .u8 0, .int .u8 0, .int .u8 0, .int .u8 0, .int .u8 0, .int .u8 0, .int .u8 0, .int .u8 0]⟩,
 some ⟨.other, 1, [.nilFunc]⟩,
 some ⟨.other, 1, [.nilIface]⟩,
 some ⟨.other, 1, [.nilIface]⟩,
 some ⟨.other, 1, [.nilFunc]⟩,
 some ⟨.other, 1, [.nilFunc]⟩,
 some ⟨.other, 1, [.nilFunc]⟩,
 some ⟨.other, 1, [.nilFunc]⟩,
 some ⟨.other, 1, [.nilFunc]⟩,
 some ⟨.other, 1, [.nilFunc]⟩,
 some ⟨.slice 376 2 16, 1, [.slice none 0 0]⟩,
 some ⟨.struct [(0, 1, false), (1, 1, false)], 2, [.int .i64 0, .int .i64 0]⟩,
 some ⟨.struct [(0, 1, false), (1, 1, false)], 2, [.int .i64 0, .int .i64 0]⟩,
 some ⟨.other, 1, [.pointer none]⟩,
 some ⟨.other, 1, [.nilFunc]⟩,
 some ⟨.other, 1, [.nilFunc]⟩,
 some ⟨.other, 1, [.nilFunc]⟩,
 some ⟨.other, 1, [.nilFunc]⟩,
 some ⟨.other, 1, [.nilFunc]⟩,
 some ⟨.other, 1, [.nilFunc]⟩,
 some ⟨.other, 1, [.nilFunc]⟩,
 some ⟨.other, 1, [.nilFunc]⟩,
 some ⟨.int .i64, 1, [.int .i64 0]⟩,
 none,
 some ⟨.other, 1, [.nilFunc]⟩,
 some ⟨.other, 1, [.nilFunc]⟩,
 some ⟨.other, 1, [.nilFunc]⟩,
 some ⟨.other, 1, [.nilFunc]⟩,
 some ⟨.other, 1, [.nilFunc]⟩,
 some ⟨.int .u32, 1, [.int .u32 0]⟩,
 some ⟨.other, 1, [.nilFunc]⟩,
 some ⟨.int .u64, 1, [.int .u64 0]⟩,
 some ⟨.other, 1, [.nilFunc]⟩,
 some ⟨.other, 1, [.nilFunc]⟩,
 some ⟨.other, 1, [.nilFunc]⟩,
 some ⟨.other, 1, [.pointer none]⟩,
 some ⟨.other, 1, [.nilFunc]⟩,
 some ⟨.other, 1, [.pointer none]⟩,
 none,
 some ⟨.other, 1, [.nilFunc]⟩,
 some ⟨.struct [(0, 1, false), (1, 1, false), (2, 1, false), (3, 1, false)], 4, [.pointer none, .pointer none, .pointer none, .string ⟨#[]⟩]⟩,
 some ⟨.struct [(0, 1, false), (1, 1, false), (2, 1, false), (3, 1, false)], 4, [.pointer none, .pointer none, .pointer none, .string ⟨#[]⟩]⟩,
 none,
 none,
 none,
 some ⟨.int .u8, 1, [.int .u8 0]⟩,
 some ⟨.int .u8, 1, [.int .u8 0]⟩,
 some ⟨.other, 1, [.nilFunc]⟩,
 some ⟨.other, 1, [.pointer none]⟩,
 some ⟨.int .i32, 1, [.int .i32 0]⟩,
 some ⟨.int .i32, 1, [.int .i32 0]⟩,
 some ⟨.struct [(0, 1, false), (1, 1, false), (2, 1, false), (3, 1, false), (4, 1, false), (5, 1, false), (6, 1, false), (7, 1, false), (8, 1, false), (9, 1, false), (10, 1, false)], 11, [.int .u64 0, .int .u64 0, .int .u32 0, .int .u8 0, .int .u8 0, .int .u8 0, .int .u8 0, .nilFunc, .pointer none, .int .i32 0, .int .i32 0]⟩,
 some ⟨.struct [(0, 1, false), (1, 1, false), (2, 1, false), (3, 1, false), (4, 1, false), (5, 1, false), (6, 1, false), (7, 1, false), (8, 1, false), (9, 1, false), (10, 1, false)], 11, [.int .u64 0, .int .u64 0, .int .u32 0, .int .u8 0, .int .u8 0, .int .u8 0, .int .u8 0, .nilFunc, .pointer none, .int .i32 0, .int .i32 0]⟩,
 none]
theorem a4 : dg Tryz.prog tt := Bh (by kernel_rfl)
theorem Dm {P : Program} {f : FuncId} {fn : Func} {c : Code} (hf : P.funcs[f]? = some fn) (hn : (fn.name == "runtime.NumGoroutine") = false := by kernel_rfl) (hb : fn.body = some c := by rfl) : bi P f := ⟨ad hf hn hb⟩
instance : bi Tryz.prog 13 := Dm Tryz.func13
instance : bi Tryz.prog 15 := Dm Tryz.func15
instance : bi Tryz.prog 18 := Dm Tryz.func18
instance : bi Tryz.prog 22 := Dm Tryz.func22
instance : bi Tryz.prog 25 := Dm Tryz.func25
instance : bi Tryz.prog 28 := Dm Tryz.func28
instance : bi Tryz.prog 29 := Dm Tryz.func29
instance : bi Tryz.prog 30 := Dm Tryz.func30
instance : bi Tryz.prog 33 := Dm Tryz.func33
instance : bi Tryz.prog 34 := Dm Tryz.func34
instance : bi Tryz.prog 35 := Dm Tryz.func35
instance : bi Tryz.prog 36 := Dm Tryz.func36
instance : bi Tryz.prog 37 := Dm Tryz.func37
instance : bi Tryz.prog 38 := Dm Tryz.func38
instance : bi Tryz.prog 41 := Dm Tryz.func41
instance : bi Tryz.prog 42 := Dm Tryz.func42
instance : bi Tryz.prog 43 := Dm Tryz.func43
instance : bi Tryz.prog 44 := Dm Tryz.func44
instance : bi Tryz.prog 45 := Dm Tryz.func45
instance : bi Tryz.prog 46 := Dm Tryz.func46
instance : bi Tryz.prog 47 := Dm Tryz.func47
instance : bi Tryz.prog 48 := Dm Tryz.func48
instance : bi Tryz.prog 49 := Dm Tryz.func49
instance : bi Tryz.prog 50 := Dm Tryz.func50
instance : bi Tryz.prog 51 := Dm Tryz.func51
instance : bi Tryz.prog 52 := Dm Tryz.func52
instance : bi Tryz.prog 53 := Dm Tryz.func53
instance : bi Tryz.prog 54 := Dm Tryz.func54
instance : bi Tryz.prog 55 := Dm Tryz.func55
instance : bi Tryz.prog 56 := Dm Tryz.func56
instance : bi Tryz.prog 57 := Dm Tryz.func57
instance : bi Tryz.prog 58 := Dm Tryz.func58
instance : bi Tryz.prog 59 := Dm Tryz.func59
instance : bi Tryz.prog 60 := Dm Tryz.func60
instance : bi Tryz.prog 61 := Dm Tryz.func61
instance : bi Tryz.prog 62 := Dm Tryz.func62
instance : bi Tryz.prog 63 := Dm Tryz.func63
instance : bi Tryz.prog 64 := Dm Tryz.func64
instance : bi Tryz.prog 65 := Dm Tryz.func65
instance : bi Tryz.prog 66 := Dm Tryz.func66
instance : bi Tryz.prog 67 := Dm Tryz.func67
instance : bi Tryz.prog 68 := Dm Tryz.func68
instance : bi Tryz.prog 69 := Dm Tryz.func69
instance : bi Tryz.prog 70 := Dm Tryz.func70
instance : bi Tryz.prog 71 := Dm Tryz.func71
instance : bi Tryz.prog 72 := Dm Tryz.func72
instance : bi Tryz.prog 73 := Dm Tryz.func73
instance : bi Tryz.prog 74 := Dm Tryz.func74
instance : bi Tryz.prog 75 := Dm Tryz.func75
instance : bi Tryz.prog 76 := Dm Tryz.func76
instance : bi Tryz.prog 77 := Dm Tryz.func77
instance : bi Tryz.prog 78 := Dm Tryz.func78
instance : bi Tryz.prog 79 := Dm Tryz.func79
instance : bi Tryz.prog 95 := Dm Tryz.func95
instance : bi Tryz.prog 96 := Dm Tryz.func96
instance : bi Tryz.prog 97 := Dm Tryz.func97
instance : bi Tryz.prog 98 := Dm Tryz.func98
instance : bi Tryz.prog 99 := Dm Tryz.func99
instance : bi Tryz.prog 100 := Dm Tryz.func100
instance : bi Tryz.prog 101 := Dm Tryz.func101
instance : bi Tryz.prog 102 := Dm Tryz.func102
instance : bi Tryz.prog 103 := Dm Tryz.func103
instance : bi Tryz.prog 111 := Dm Tryz.func111
instance : bi Tryz.prog 112 := Dm Tryz.func112
instance : bi Tryz.prog 113 := Dm Tryz.func113
instance : bi Tryz.prog 114 := Dm Tryz.func114
instance : bi Tryz.prog 115 := Dm Tryz.func115
instance : bi Tryz.prog 116 := Dm Tryz.func116
instance : bi Tryz.prog 117 := Dm Tryz.func117
instance : bi Tryz.prog 118 := Dm Tryz.func118
instance : bi Tryz.prog 119 := Dm Tryz.func119
instance : bi Tryz.prog 120 := Dm Tryz.func120
instance : bi Tryz.prog 121 := Dm Tryz.func121
instance : bi Tryz.prog 122 := Dm Tryz.func122
instance : bi Tryz.prog 123 := Dm Tryz.func123
instance : bi Tryz.prog 124 := Dm Tryz.func124
instance : bi Tryz.prog 125 := Dm Tryz.func125
instance : bi Tryz.prog 126 := Dm Tryz.func126
instance : bi Tryz.prog 127 := Dm Tryz.func127
instance : bi Tryz.prog 128 := Dm Tryz.func128
instance : bi Tryz.prog 129 := Dm Tryz.func129
instance : bi Tryz.prog 130 := Dm Tryz.func130
instance : bi Tryz.prog 131 := Dm Tryz.func131
instance : bi Tryz.prog 132 := Dm Tryz.func132
instance : bi Tryz.prog 133 := Dm Tryz.func133
instance : bi Tryz.prog 134 := Dm Tryz.func134
instance : bi Tryz.prog 135 := Dm Tryz.func135
instance : bi Tryz.prog 136 := Dm Tryz.func136
instance : bi Tryz.prog 137 := Dm Tryz.func137
instance : bi Tryz.prog 138 := Dm Tryz.func138
instance : bi Tryz.prog 139 := Dm Tryz.func139
instance : bi Tryz.prog 140 := Dm Tryz.func140
instance : bi Tryz.prog 141 := Dm Tryz.func141
instance : bi Tryz.prog 142 := Dm Tryz.func142
instance : bi Tryz.prog 143 := Dm Tryz.func143
instance : bi Tryz.prog 144 := Dm Tryz.func144
instance : bi Tryz.prog 145 := Dm Tryz.func145
instance : bi Tryz.prog 146 := Dm Tryz.func146
instance : bi Tryz.prog 147 := Dm Tryz.func147
instance : bi Tryz.prog 148 := Dm Tryz.func148
instance : bi Tryz.prog 149 := Dm Tryz.func149
instance : bi Tryz.prog 150 := Dm Tryz.func150
instance : bi Tryz.prog 151 := Dm Tryz.func151
instance : bi Tryz.prog 152 := Dm Tryz.func152
instance : bi Tryz.prog 153 := Dm Tryz.func153
instance : bi Tryz.prog 154 := Dm Tryz.func154
instance : bi Tryz.prog 155 := Dm Tryz.func155
instance : bi Tryz.prog 177 := Dm Tryz.func177
instance : bi Tryz.prog 178 := Dm Tryz.func178
instance : bi Tryz.prog 179 := Dm Tryz.func179
instance : bi Tryz.prog 180 := Dm Tryz.func180
instance : bi Tryz.prog 181 := Dm Tryz.func181
instance : bi Tryz.prog 182 := Dm Tryz.func182
instance : bi Tryz.prog 183 := Dm Tryz.func183
instance : bi Tryz.prog 184 := Dm Tryz.func184
instance : bi Tryz.prog 185 := Dm Tryz.func185
instance : bi Tryz.prog 186 := Dm Tryz.func186
instance : bi Tryz.prog 187 := Dm Tryz.func187
instance : bi Tryz.prog 188 := Dm Tryz.func188
instance : bi Tryz.prog 189 := Dm Tryz.func189
instance : bi Tryz.prog 190 := Dm Tryz.func190
instance : bi Tryz.prog 191 := Dm Tryz.func191
instance : bi Tryz.prog 192 := Dm Tryz.func192
instance : bi Tryz.prog 193 := Dm Tryz.func193
instance : bi Tryz.prog 197 := Dm Tryz.func197
instance : bi Tryz.prog 198 := Dm Tryz.func198
instance : bi Tryz.prog 199 := Dm Tryz.func199
instance : bi Tryz.prog 200 := Dm Tryz.func200
instance : bi Tryz.prog 201 := Dm Tryz.func201
instance : bi Tryz.prog 202 := Dm Tryz.func202
instance : bi Tryz.prog 203 := Dm Tryz.func203
instance : bi Tryz.prog 204 := Dm Tryz.func204
instance : bi Tryz.prog 205 := Dm Tryz.func205
instance : bi Tryz.prog 206 := Dm Tryz.func206
instance : bi Tryz.prog 207 := Dm Tryz.func207
instance : bi Tryz.prog 208 := Dm Tryz.func208
instance : bi Tryz.prog 209 := Dm Tryz.func209
instance : bi Tryz.prog 210 := Dm Tryz.func210
instance : bi Tryz.prog 211 := Dm Tryz.func211
instance : bi Tryz.prog 212 := Dm Tryz.func212
instance : bi Tryz.prog 213 := Dm Tryz.func213
instance : bi Tryz.prog 214 := Dm Tryz.func214
instance : bi Tryz.prog 215 := Dm Tryz.func215
instance : bi Tryz.prog 216 := Dm Tryz.func216
instance : bi Tryz.prog 217 := Dm Tryz.func217
instance : bi Tryz.prog 218 := Dm Tryz.func218
instance : bi Tryz.prog 219 := Dm Tryz.func219
instance : bi Tryz.prog 220 := Dm Tryz.func220
instance : bi Tryz.prog 221 := Dm Tryz.func221
instance : bi Tryz.prog 222 := Dm Tryz.func222
instance : bi Tryz.prog 223 := Dm Tryz.func223
instance : bi Tryz.prog 224 := Dm Tryz.func224
instance : bi Tryz.prog 225 := Dm Tryz.func225
instance : bi Tryz.prog 226 := Dm Tryz.func226
instance : bi Tryz.prog 227 := Dm Tryz.func227
instance : bi Tryz.prog 228 := Dm Tryz.func228
instance : bi Tryz.prog 253 := Dm Tryz.func253
instance : bi Tryz.prog 255 := Dm Tryz.func255
instance : bi Tryz.prog 256 := Dm Tryz.func256
instance : bi Tryz.prog 257 := Dm Tryz.func257
instance : bi Tryz.prog 258 := Dm Tryz.func258
instance : bi Tryz.prog 259 := Dm Tryz.func259
instance : bi Tryz.prog 260 := Dm Tryz.func260
instance : bi Tryz.prog 261 := Dm Tryz.func261
instance : bi Tryz.prog 263 := Dm Tryz.func263
instance : bi Tryz.prog 264 := Dm Tryz.func264
instance : bi Tryz.prog 265 := Dm Tryz.func265
instance : bi Tryz.prog 266 := Dm Tryz.func266
instance : bi Tryz.prog 267 := Dm Tryz.func267
instance : bi Tryz.prog 271 := Dm Tryz.func271
instance : bi Tryz.prog 272 := Dm Tryz.func272
instance : bi Tryz.prog 273 := Dm Tryz.func273
instance : bi Tryz.prog 285 := Dm Tryz.func285
instance : bi Tryz.prog 286 := Dm Tryz.func286
instance : bi Tryz.prog 287 := Dm Tryz.func287
instance : bi Tryz.prog 288 := Dm Tryz.func288
instance : bi Tryz.prog 289 := Dm Tryz.func289
instance : bi Tryz.prog 290 := Dm Tryz.func290
instance : bi Tryz.prog 301 := Dm Tryz.func301
instance : bi Tryz.prog 302 := Dm Tryz.func302
end Go.Proofs.YtpmdfoaadejmkaaGreatDoor
