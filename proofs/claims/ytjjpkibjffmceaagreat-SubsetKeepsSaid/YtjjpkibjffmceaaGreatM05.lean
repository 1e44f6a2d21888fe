/-
  The table of the types of the seat's program, and the functions that are entered, written by a program (wip/typesA.py).
-/
import Derived.Test.YtjjpkibjffmceaaGreatM04
import Derived.Test.YtjjpkibjffmceaaGreatProg
import Derived.KernelRfl
namespace Go.Proofs.YtjjpkibjffmceaaGreat
open Go.RowKit
theorem am {P : Program} {f : FuncId} {fn : Func} {c : Code} (hf : P.funcs[f]? = some fn) (hname : (fn.name == "runtime.NumGoroutine") = false) (hb : fn.body = some c) : ∀ args w, (callFunc f args).run P w = .ok (.enter f args) w := by
 intro args w
 have hne : ¬ fn.name = "runtime.NumGoroutine" := by simpa using hname
 simp [callFunc, hf, hne, hb]
theorem mixed : Tryz.prog.follows .mixedOrders = true := by kernel_rfl
def tt : TT := [none,
 some ⟨.other, 1, [.nilFunc]⟩,
 some ⟨.int .i64, 1, [.int .i64 0]⟩,
 some ⟨.int .i64, 1, [.int .i64 0]⟩,
 some ⟨.bool, 1, [.bool false]⟩,
 some ⟨.int .u8, 1, [.int .u8 0]⟩,
 some ⟨.int .u8, 1, [.int .u8 0]⟩,
 some ⟨.struct [(0, 1, false), (1, 1, false), (2, 1, false), (3, 1, false)], 4, [.int .i64 0, .int .i64 0, .bool false, .int .u8 0]⟩,
 some ⟨.struct [(0, 1, false), (1, 1, false), (2, 1, false), (3, 1, false)], 4, [.int .i64 0, .int .i64 0, .bool false, .int .u8 0]⟩,
 some ⟨.str, 1, [.string ⟨#[]⟩]⟩,
 some ⟨.str, 1, [.string ⟨#[]⟩]⟩,
 some ⟨.str, 1, [.string ⟨#[]⟩]⟩,
 some ⟨.int .u64, 1, [.int .u64 0]⟩,
 some ⟨.struct [(0, 1, false), (1, 1, false)], 2, [.string ⟨#[]⟩, .int .u64 0]⟩,
 some ⟨.struct [(0, 1, false), (1, 1, false)], 2, [.string ⟨#[]⟩, .int .u64 0]⟩,
 some ⟨.other, 1, [.pointer none]⟩,
 some ⟨.other, 1, [.pointer none]⟩,
 some ⟨.other, 1, [.pointer none]⟩,
 some ⟨.struct [(0, 1, false)], 1, [.pointer none]⟩,
 some ⟨.struct [(0, 1, false)], 1, [.pointer none]⟩,
 some ⟨.other, 1, [.nilIface]⟩,
 some ⟨.int .i32, 1, [.int .i32 0]⟩,
 some ⟨.slice 3 1 8, 1, [.slice none 0 0]⟩,
 some ⟨.int .u32, 1, [.int .u32 0]⟩,
 some ⟨.struct [(0, 1, false), (1, 1, false), (2, 1, false), (3, 1, false), (4, 1, false), (5, 1, false)], 6, [.slice none 0 0, .int .u32 0, .int .u32 0, .slice none 0 0, .slice none 0 0, .int .u32 0]⟩,
 some ⟨.struct [(0, 1, false), (1, 1, false), (2, 1, false), (3, 1, false), (4, 1, false), (5, 1, false)], 6, [.slice none 0 0, .int .u32 0, .int .u32 0, .slice none 0 0, .slice none 0 0, .int .u32 0]⟩,
 some ⟨.arr 3 3 1, 3, [.int .i64 0, .int .i64 0, .int .i64 0]⟩,
 some ⟨.other, 1, [.nilFunc]⟩,
 some ⟨.slice 63 9 176, 1, [.slice none 0 0]⟩,
 some ⟨.slice 68 2 16, 1, [.slice none 0 0]⟩,
 some ⟨.slice 77 3 40, 1, [.slice none 0 0]⟩,
 some ⟨.slice 83 2 40, 1, [.slice none 0 0]⟩,
 some ⟨.slice 93 4 40, 1, [.slice none 0 0]⟩,
 some ⟨.slice 98 1 24, 1, [.slice none 0 0]⟩,
 some ⟨.slice 61 1 24, 1, [.slice none 0 0]⟩,
 some ⟨.struct [(0, 1, false), (1, 1, false), (2, 1, false), (3, 1, false), (4, 1, false), (5, 1, false), (6, 1, false), (7, 1, false), (8, 1, false)], 9, [.int .i64 0, .slice none 0 0, .slice none 0 0, .slice none 0 0, .slice none 0 0, .slice none 0 0, .slice none 0 0, .slice none 0 0, .slice none 0 0]⟩,
 some ⟨.struct [(0, 1, false), (1, 1, false), (2, 1, false), (3, 1, false), (4, 1, false), (5, 1, false), (6, 1, false), (7, 1, false), (8, 1, false)], 9, [.int .i64 0, .slice none 0 0, .slice none 0 0, .slice none 0 0, .slice none 0 0, .slice none 0 0, .slice none 0 0, .slice none 0 0, .slice none 0 0]⟩,
 some ⟨.other, 1, [.nilFunc]⟩,
 some ⟨.slice 9 1 16, 1, [.slice none 0 0]⟩,
 some ⟨.struct [(0, 1, false), (1, 1, false)], 2, [.slice none 0 0, .slice none 0 0]⟩,
 some ⟨.struct [(0, 1, false), (1, 1, false)], 2, [.slice none 0 0, .slice none 0 0]⟩,
 some ⟨.other, 1, [.nilFunc]⟩,
 some ⟨.other, 1, [.nilFunc]⟩,
 some ⟨.arr 2 36 9, 18, [.int .i64 0, .slice none 0 0, .slice none 0 0, .slice none 0 0, .slice none 0 0, .slice none 0 0, .slice none 0 0, .slice none 0 0, .slice none 0 0, .int .i64 0, .slice none 0 0, .slice none 0 0, .slice none 0 0, .slice none 0 0, .slice none 0 0, .slice none 0 0, .slice none 0 0, .slice none 0 0]⟩,
 some ⟨.int .i64, 1, [.int .i64 0]⟩,
 none,
 some ⟨.other, 1, [.nilFunc]⟩,
 none,
 some ⟨.other, 1, [.nilFunc]⟩,
 some ⟨.other, 1, [.nilFunc]⟩,
 some ⟨.other, 1, [.nilFunc]⟩,
 some ⟨.other, 1, [.nilFunc]⟩,
 some ⟨.other, 1, [.nilFunc]⟩,
 some ⟨.other, 1, [.nilFunc]⟩,
 some ⟨.other, 1, [.nilFunc]⟩,
 some ⟨.slice 72 3 24, 1, [.slice none 0 0]⟩,
 some ⟨.struct [(0, 1, false), (1, 1, false)], 2, [.slice none 0 0, .slice none 0 0]⟩,
 some ⟨.struct [(0, 1, false), (1, 1, false)], 2, [.slice none 0 0, .slice none 0 0]⟩,
 some ⟨.slice 65 3 24, 1, [.slice none 0 0]⟩,
 some ⟨.slice 87 4 32, 1, [.slice none 0 0]⟩,
 some ⟨.slice 89 4 32, 1, [.slice none 0 0]⟩,
 some ⟨.slice 74 2 16, 1, [.slice none 0 0]⟩,
 some ⟨.struct [(0, 1, false), (1, 1, false), (2, 1, false), (3, 2, true), (5, 1, false), (6, 1, false), (7, 1, false), (8, 1, false)], 9, [.string ⟨#[]⟩, .int .i64 0, .bool false, .slice none 0 0, .slice none 0 0, .slice none 0 0, .slice none 0 0, .slice none 0 0, .slice none 0 0]⟩,
 some ⟨.struct [(0, 1, false), (1, 1, false), (2, 1, false), (3, 2, true), (5, 1, false), (6, 1, false), (7, 1, false), (8, 1, false)], 9, [.string ⟨#[]⟩, .int .i64 0, .bool false, .slice none 0 0, .slice none 0 0, .slice none 0 0, .slice none 0 0, .slice none 0 0, .slice none 0 0]⟩,
 some ⟨.struct [(0, 1, false), (1, 1, false), (2, 1, false)], 3, [.int .i64 0, .int .i64 0, .int .i64 0]⟩,
 some ⟨.struct [(0, 1, false), (1, 1, false), (2, 1, false)], 3, [.int .i64 0, .int .i64 0, .int .i64 0]⟩,
 some ⟨.other, 1, [.nilFunc]⟩,
 some ⟨.struct [(0, 1, false), (1, 1, false)], 2, [.int .i64 0, .int .i64 0]⟩,
 some ⟨.struct [(0, 1, false), (1, 1, false)], 2, [.int .i64 0, .int .i64 0]⟩,
 some ⟨.other, 1, [.nilFunc]⟩,
 some ⟨.other, 1, [.nilFunc]⟩,
 some ⟨.struct [(0, 1, false), (1, 1, false), (2, 1, false)], 3, [.int .i64 0, .int .i64 0, .bool false]⟩,
 some ⟨.struct [(0, 1, false), (1, 1, false), (2, 1, false)], 3, [.int .i64 0, .int .i64 0, .bool false]⟩,
 some ⟨.struct [(0, 1, false), (1, 1, false)], 2, [.int .i64 0, .int .i64 0]⟩,
 some ⟨.struct [(0, 1, false), (1, 1, false)], 2, [.int .i64 0, .int .i64 0]⟩,
 some ⟨.slice 81 6 128, 1, [.slice none 0 0]⟩,
 some ⟨.struct [(0, 1, false), (1, 1, false), (2, 1, false)], 3, [.int .i64 0, .bool false, .slice none 0 0]⟩,
 some ⟨.struct [(0, 1, false), (1, 1, false), (2, 1, false)], 3, [.int .i64 0, .bool false, .slice none 0 0]⟩,
 some ⟨.slice 22 1 24, 1, [.slice none 0 0]⟩,
 some ⟨.slice 91 2 16, 1, [.slice none 0 0]⟩,
 some ⟨.struct [(0, 1, false), (1, 1, false), (2, 1, false), (3, 1, false), (4, 1, false), (5, 1, false)], 6, [.slice none 0 0, .slice none 0 0, .slice none 0 0, .slice none 0 0, .slice none 0 0, .int .i64 0]⟩,
 some ⟨.struct [(0, 1, false), (1, 1, false), (2, 1, false), (3, 1, false), (4, 1, false), (5, 1, false)], 6, [.slice none 0 0, .slice none 0 0, .slice none 0 0, .slice none 0 0, .slice none 0 0, .int .i64 0]⟩,
 some ⟨.struct [(0, 1, false), (1, 1, false)], 2, [.string ⟨#[]⟩, .slice none 0 0]⟩,
 some ⟨.struct [(0, 1, false), (1, 1, false)], 2, [.string ⟨#[]⟩, .slice none 0 0]⟩,
 some ⟨.other, 1, [.nilFunc]⟩,
 some ⟨.other, 1, [.nilFunc]⟩,
 some ⟨.struct [(0, 1, false), (1, 1, false), (2, 1, false), (3, 1, false)], 4, [.int .i64 0, .int .i64 0, .int .i64 0, .int .i64 0]⟩,
 some ⟨.struct [(0, 1, false), (1, 1, false), (2, 1, false), (3, 1, false)], 4, [.int .i64 0, .int .i64 0, .int .i64 0, .int .i64 0]⟩,
 some ⟨.struct [(0, 1, false), (1, 1, false), (2, 1, false), (3, 1, false)], 4, [.int .i64 0, .int .i64 0, .int .i64 0, .int .i64 0]⟩,
 some ⟨.struct [(0, 1, false), (1, 1, false), (2, 1, false), (3, 1, false)], 4, [.int .i64 0, .int .i64 0, .int .i64 0, .int .i64 0]⟩,
 some ⟨.struct [(0, 1, false), (1, 1, false)], 2, [.int .i64 0, .int .i64 0]⟩,
 some ⟨.struct [(0, 1, false), (1, 1, false)], 2, [.int .i64 0, .int .i64 0]⟩,
 some ⟨.struct [(0, 1, false), (1, 1, false), (2, 1, false), (3, 1, false)], 4, [.string ⟨#[]⟩, .int .i64 0, .int .i64 0, .int .i64 0]⟩,
 some ⟨.struct [(0, 1, false), (1, 1, false), (2, 1, false), (3, 1, false)], 4, [.string ⟨#[]⟩, .int .i64 0, .int .i64 0, .int .i64 0]⟩,
 some ⟨.struct [(0, 1, false), (1, 1, false), (2, 1, false)], 3, [.int .i64 0, .int .i64 0, .int .i64 0]⟩,
 some ⟨.struct [(0, 1, false), (1, 1, false), (2, 1, false)], 3, [.int .i64 0, .int .i64 0, .int .i64 0]⟩,
 some ⟨.slice 95 3 24, 1, [.slice none 0 0]⟩,
 some ⟨.struct [(0, 1, false)], 1, [.slice none 0 0]⟩,
 some ⟨.struct [(0, 1, false)], 1, [.slice none 0 0]⟩,
 some ⟨.other, 1, [.map none]⟩,
 some ⟨.other, 1, [.nilFunc]⟩,
 some ⟨.struct [(0, 9, true), (9, 1, false), (10, 1, false)], 11, [.int .i64 0, .slice none 0 0, .slice none 0 0, .slice none 0 0, .slice none 0 0, .slice none 0 0, .slice none 0 0, .slice none 0 0, .slice none 0 0, .map none, .map none]⟩,
 some ⟨.struct [(0, 9, true), (9, 1, false), (10, 1, false)], 11, [.int .i64 0, .slice none 0 0, .slice none 0 0, .slice none 0 0, .slice none 0 0, .slice none 0 0, .slice none 0 0, .slice none 0 0, .slice none 0 0, .map none, .map none]⟩,
 some ⟨.other, 1, [.nilFunc]⟩,
 some ⟨.other, 1, [.nilFunc]⟩,
 some ⟨.other, 1, [.nilFunc]⟩,
 some ⟨.other, 1, [.nilFunc]⟩,
 some ⟨.other, 1, [.nilFunc]⟩,
 some ⟨.other, 1, [.nilFunc]⟩,
 some ⟨.other, 1, [.nilFunc]⟩,
 some ⟨.other, 1, [.nilFunc]⟩,
 some ⟨.other, 1, [.nilFunc]⟩,
 some ⟨.other, 1, [.nilFunc]⟩,
 some ⟨.other, 1, [.nilFunc]⟩,
 some ⟨.other, 1, [.nilFunc]⟩,
 some ⟨.other, 1, [.nilFunc]⟩,
 some ⟨.other, 1, [.nilFunc]⟩,
 some ⟨.other, 1, [.nilFunc]⟩,
 some ⟨.other, 1, [.nilFunc]⟩,
 some ⟨.other, 1, [.nilFunc]⟩,
 some ⟨.other, 1, [.map none]⟩,
 some ⟨.other, 1, [.pointer none]⟩,
 some ⟨.other, 1, [.nilFunc]⟩,
 some ⟨.other, 1, [.nilFunc]⟩,
 some ⟨.int .i64, 1, [.int .i64 0]⟩,
 some ⟨.other, 1, [.pointer none]⟩,
 some ⟨.other, 1, [.nilFunc]⟩,
 some ⟨.other, 1, [.nilFunc]⟩,
 some ⟨.slice 4 1 1, 1, [.slice none 0 0]⟩,
 some ⟨.slice 124 1 8, 1, [.slice none 0 0]⟩,
 some ⟨.struct [(0, 1, false), (1, 1, false)], 2, [.slice none 0 0, .slice none 0 0]⟩,
 some ⟨.struct [(0, 1, false), (1, 1, false)], 2, [.slice none 0 0, .slice none 0 0]⟩,
 some ⟨.other, 1, [.map none]⟩,
 some ⟨.other, 1, [.pointer none]⟩,
 some ⟨.other, 1, [.nilFunc]⟩,
 some ⟨.int .i64, 1, [.int .i64 0]⟩,
 some ⟨.other, 1, [.nilFunc]⟩,
 some ⟨.other, 1, [.nilFunc]⟩,
 some ⟨.other, 1, [.nilFunc]⟩,
 some ⟨.other, 1, [.nilFunc]⟩,
 some ⟨.other, 1, [.nilFunc]⟩,
 some ⟨.other, 1, [.nilFunc]⟩,
 some ⟨.other, 1, [.nilFunc]⟩,
 none,
 some ⟨.other, 1, [.nilFunc]⟩,
 some ⟨.other, 1, [.nilFunc]⟩,
 some ⟨.other, 1, [.nilFunc]⟩,
 some ⟨.other, 1, [.nilFunc]⟩,
 some ⟨.other, 1, [.nilFunc]⟩,
 some ⟨.other, 1, [.nilFunc]⟩,
 some ⟨.other, 1, [.nilFunc]⟩,
 some ⟨.other, 1, [.pointer none]⟩,
 some ⟨.struct [(0, 1, false), (1, 1, false), (2, 9, true), (11, 1, false)], 12, [.slice none 0 0, .int .i64 0, .int .i64 0, .slice none 0 0, .slice none 0 0, .slice none 0 0, .slice none 0 0, .slice none 0 0, .slice none 0 0, .slice none 0 0, .slice none 0 0, .int .i64 0]⟩,
 some ⟨.struct [(0, 1, false), (1, 1, false), (2, 9, true), (11, 1, false)], 12, [.slice none 0 0, .int .i64 0, .int .i64 0, .slice none 0 0, .slice none 0 0, .slice none 0 0, .slice none 0 0, .slice none 0 0, .slice none 0 0, .slice none 0 0, .slice none 0 0, .int .i64 0]⟩,
 some ⟨.other, 1, [.nilFunc]⟩,
 some ⟨.slice 5 1 1, 1, [.slice none 0 0]⟩,
 some ⟨.other, 1, [.nilFunc]⟩,
 some ⟨.other, 1, [.nilFunc]⟩,
 none,
 some ⟨.other, 1, [.nilFunc]⟩,
 some ⟨.other, 1, [.nilFunc]⟩,
 none,
 some ⟨.other, 1, [.nilFunc]⟩,
 some ⟨.other, 1, [.nilFunc]⟩,
 some ⟨.other, 1, [.nilFunc]⟩,
 some ⟨.other, 1, [.nilFunc]⟩,
 some ⟨.other, 1, [.nilFunc]⟩,
 some ⟨.other, 1, [.nilFunc]⟩,
 none,
 some ⟨.other, 1, [.nilFunc]⟩,
 some ⟨.other, 1, [.nilFunc]⟩,
 some ⟨.other, 1, [.nilFunc]⟩,
 none,
 none,
 some ⟨.other, 1, [.nilFunc]⟩,
 some ⟨.other, 1, [.nilFunc]⟩,
 some ⟨.other, 1, [.nilFunc]⟩,
 none,
 some ⟨.other, 1, [.nilFunc]⟩,
 some ⟨.other, 1, [.nilFunc]⟩,
 some ⟨.slice 184 1 8, 1, [.slice none 0 0]⟩,
 some ⟨.struct [(0, 9, true), (9, 1, false)], 10, [.int .i64 0, .slice none 0 0, .slice none 0 0, .slice none 0 0, .slice none 0 0, .slice none 0 0, .slice none 0 0, .slice none 0 0, .slice none 0 0, .slice none 0 0]⟩,
 some ⟨.struct [(0, 9, true), (9, 1, false)], 10, [.int .i64 0, .slice none 0 0, .slice none 0 0, .slice none 0 0, .slice none 0 0, .slice none 0 0, .slice none 0 0, .slice none 0 0, .slice none 0 0, .slice none 0 0]⟩,
 some ⟨.other, 1, [.nilFunc]⟩,
 some ⟨.other, 1, [.pointer none]⟩,
 some ⟨.struct [(0, 6, true), (6, 1, false), (7, 1, false), (8, 1, false)], 9, [.slice none 0 0, .slice none 0 0, .slice none 0 0, .slice none 0 0, .slice none 0 0, .int .i64 0, .int .i64 0, .bool false, .slice none 0 0]⟩,
 some ⟨.struct [(0, 6, true), (6, 1, false), (7, 1, false), (8, 1, false)], 9, [.slice none 0 0, .slice none 0 0, .slice none 0 0, .slice none 0 0, .slice none 0 0, .int .i64 0, .int .i64 0, .bool false, .slice none 0 0]⟩,
 some ⟨.other, 1, [.nilFunc]⟩,
 some ⟨.other, 1, [.nilFunc]⟩,
 some ⟨.other, 1, [.nilFunc]⟩,
 some ⟨.other, 1, [.nilFunc]⟩,
 some ⟨.other, 1, [.nilFunc]⟩,
 some ⟨.other, 1, [.nilFunc]⟩,
 some ⟨.other, 1, [.nilFunc]⟩,
 some ⟨.slice 135 1 8, 1, [.slice none 0 0]⟩,
 some ⟨.struct [(0, 1, false), (1, 1, false)], 2, [.slice none 0 0, .slice none 0 0]⟩,
 some ⟨.struct [(0, 1, false), (1, 1, false)], 2, [.slice none 0 0, .slice none 0 0]⟩,
 some ⟨.other, 1, [.nilFunc]⟩,
 some ⟨.other, 1, [.nilFunc]⟩,
 none,
 some ⟨.other, 1, [.nilFunc]⟩,
 some ⟨.other, 1, [.nilFunc]⟩,
 some ⟨.other, 1, [.nilFunc]⟩,
 some ⟨.arr 2 3 1, 2, [.int .i64 0, .int .i64 0]⟩,
 some ⟨.slice 203 2 16, 1, [.slice none 0 0]⟩,
 some ⟨.other, 1, [.nilFunc]⟩,
 none,
 none,
 some ⟨.other, 1, [.nilFunc]⟩,
 some ⟨.other, 1, [.nilFunc]⟩,
 some ⟨.other, 1, [.nilFunc]⟩,
 some ⟨.other, 1, [.nilFunc]⟩,
 some ⟨.arr 3 78 1, 3, [.slice none 0 0, .slice none 0 0, .slice none 0 0]⟩,
 some ⟨.other, 1, [.nilFunc]⟩,
 some ⟨.other, 1, [.nilFunc]⟩,
 some ⟨.other, 1, [.nilFunc]⟩,
 some ⟨.other, 1, [.nilFunc]⟩,
 none,
 some ⟨.other, 1, [.map none]⟩,
 some ⟨.other, 1, [.nilFunc]⟩,
 some ⟨.other, 1, [.nilFunc]⟩,
 some ⟨.other, 1, [.nilFunc]⟩,
 some ⟨.other, 1, [.nilFunc]⟩,
 some ⟨.other, 1, [.nilFunc]⟩,
 some ⟨.other, 1, [.nilFunc]⟩,
 some ⟨.other, 1, [.nilFunc]⟩,
 some ⟨.other, 1, [.nilFunc]⟩,
 some ⟨.other, 1, [.nilFunc]⟩,
 some ⟨.other, 1, [.nilFunc]⟩,
 some ⟨.other, 1, [.nilFunc]⟩,
 some ⟨.other, 1, [.nilFunc]⟩,
 some ⟨.other, 1, [.nilFunc]⟩,
 some ⟨.other, 1, [.nilFunc]⟩,
 some ⟨.other, 1, [.nilFunc]⟩,
 some ⟨.other, 1, [.nilFunc]⟩,
 some ⟨.other, 1, [.nilFunc]⟩,
 some ⟨.other, 1, [.nilFunc]⟩,
 some ⟨.other, 1, [.nilFunc]⟩,
 some ⟨.other, 1, [.nilFunc]⟩,
 some ⟨.other, 1, [.nilFunc]⟩,
 some ⟨.other, 1, [.nilFunc]⟩,
 some ⟨.other, 1, [.nilFunc]⟩,
 some ⟨.other, 1, [.nilFunc]⟩,
 some ⟨.other, 1, [.nilFunc]⟩,
 some ⟨.other, 1, [.nilFunc]⟩,
 some ⟨.other, 1, [.nilFunc]⟩,
 some ⟨.other, 1, [.nilFunc]⟩,
 some ⟨.other, 1, [.nilFunc]⟩,
 some ⟨.other, 1, [.nilFunc]⟩,
 some ⟨.other, 1, [.nilFunc]⟩,
 some ⟨.other, 1, [.nilFunc]⟩,
 some ⟨.other, 1, [.nilFunc]⟩,
 some ⟨.other, 1, [.nilFunc]⟩,
 some ⟨.other, 1, [.nilFunc]⟩,
 some ⟨.other, 1, [.nilFunc]⟩,
 some ⟨.slice 78 1 24, 1, [.slice none 0 0]⟩,
 some ⟨.other, 1, [.nilFunc]⟩,
 some ⟨.other, 1, [.nilFunc]⟩,
 some ⟨.other, 1, [.nilFunc]⟩,
 some ⟨.other, 1, [.nilFunc]⟩,
 some ⟨.other, 1, [.nilFunc]⟩,
 some ⟨.int .u64, 1, [.int .u64 0]⟩,
 some ⟨.other, 1, [.nilFunc]⟩,
 some ⟨.other, 1, [.nilFunc]⟩,
 none,
 some ⟨.other, 1, [.nilFunc]⟩,
 none,
 some ⟨.slice 227 1 8, 1, [.slice none 0 0]⟩,
 some ⟨.other, 1, [.nilFunc]⟩,
 some ⟨.other, 1, [.nilFunc]⟩,
 some ⟨.other, 1, [.nilFunc]⟩,
 some ⟨.other, 1, [.nilFunc]⟩,
 some ⟨.other, 1, [.nilFunc]⟩,
 some ⟨.other, 1, [.nilFunc]⟩,
 some ⟨.other, 1, [.nilFunc]⟩,
 some ⟨.other, 1, [.nilFunc]⟩,
 some ⟨.other, 1, [.nilFunc]⟩,
 some ⟨.other, 1, [.nilFunc]⟩,
 some ⟨.other, 1, [.nilFunc]⟩,
 some ⟨.other, 1, [.nilFunc]⟩,
 some ⟨.other, 1, [.nilFunc]⟩,
 some ⟨.other, 1, [.nilFunc]⟩,
 none,
 some ⟨.other, 1, [.nilFunc]⟩,
 some ⟨.other, 1, [.nilFunc]⟩,
 some ⟨.other, 1, [.nilFunc]⟩,
 some ⟨.other, 1, [.nilFunc]⟩,
 some ⟨.other, 1, [.nilFunc]⟩,
 some ⟨.other, 1, [.nilFunc]⟩,
 some ⟨.other, 1, [.nilFunc]⟩,
 some ⟨.other, 1, [.nilFunc]⟩,
 some ⟨.other, 1, [.nilFunc]⟩,
 some ⟨.other, 1, [.nilFunc]⟩,
 some ⟨.other, 1, [.nilFunc]⟩,
 some ⟨.other, 1, [.nilFunc]⟩,
 some ⟨.other, 1, [.nilFunc]⟩,
 some ⟨.other, 1, [.nilFunc]⟩,
 some ⟨.other, 1, [.nilFunc]⟩,
 some ⟨.other, 1, [.nilFunc]⟩,
 some ⟨.other, 1, [.nilFunc]⟩,
 some ⟨.int .i64, 1, [.int .i64 0]⟩,
 none,
 some ⟨.other, 1, [.nilFunc]⟩,
 some ⟨.other, 1, [.nilFunc]⟩,
 some ⟨.other, 1, [.nilFunc]⟩,
 some ⟨.other, 1, [.nilFunc]⟩,
 some ⟨.other, 1, [.nilFunc]⟩,
 some ⟨.other, 1, [.nilFunc]⟩,
 some ⟨.other, 1, [.nilFunc]⟩,
 some ⟨.int .u64, 1, [.int .u64 0]⟩,
 some ⟨.other, 1, [.nilFunc]⟩,
 some ⟨.other, 1, [.nilFunc]⟩,
 some ⟨.other, 1, [.nilFunc]⟩,
 some ⟨.other, 1, [.nilFunc]⟩,
 some ⟨.other, 1, [.nilFunc]⟩,
 some ⟨.other, 1, [.nilFunc]⟩,
 some ⟨.other, 1, [.map none]⟩,
 some ⟨.struct [(0, 1, false), (1, 1, false)], 2, [.int .i64 0, .int .i64 0]⟩,
 some ⟨.struct [(0, 1, false), (1, 1, false)], 2, [.int .i64 0, .int .i64 0]⟩,
 some ⟨.other, 1, [.nilFunc]⟩,
 some ⟨.struct [(0, 1, false), (1, 1, false)], 2, [.int .i64 0, .int .i64 0]⟩,
 some ⟨.struct [(0, 1, false), (1, 1, false)], 2, [.int .i64 0, .int .i64 0]⟩,
 some ⟨.other, 1, [.nilFunc]⟩,
 some ⟨.other, 1, [.nilFunc]⟩,
 some ⟨.other, 1, [.nilFunc]⟩,
 some ⟨.other, 1, [.nilFunc]⟩,
 some ⟨.other, 1, [.nilFunc]⟩,
 some ⟨.other, 1, [.nilFunc]⟩,
 some ⟨.other, 1, [.nilFunc]⟩,
 some ⟨.other, 1, [.nilFunc]⟩,
 some ⟨.int .u64, 1, [.int .u64 0]⟩,
 some ⟨.other, 1, [.nilFunc]⟩,
 some ⟨.other, 1, [.nilFunc]⟩,
 some ⟨.other, 1, [.nilFunc]⟩,
 some ⟨.other, 1, [.pointer none]⟩,
 some ⟨.other, 1, [.nilFunc]⟩,
 some ⟨.other, 1, [.map none]⟩,
 some ⟨.slice 3 1 8, 1, [.slice none 0 0]⟩,
 some ⟨.other, 1, [.nilFunc]⟩,
 some ⟨.other, 1, [.nilFunc]⟩,
 some ⟨.other, 1, [.nilFunc]⟩,
 some ⟨.other, 1, [.nilFunc]⟩,
 some ⟨.other, 1, [.pointer none]⟩,
 some ⟨.other, 1, [.nilFunc]⟩,
 some ⟨.other, 1, [.nilFunc]⟩,
 some ⟨.other, 1, [.nilFunc]⟩,
 some ⟨.other, 1, [.nilFunc]⟩,
 some ⟨.other, 1, [.nilFunc]⟩,
 some ⟨.other, 1, [.nilFunc]⟩,
 some ⟨.other, 1, [.nilFunc]⟩,
 some ⟨.other, 1, [.nilFunc]⟩,
 some ⟨.other, 1, [.nilFunc]⟩,
 some ⟨.other, 1, [.pointer none]⟩,
 none,
 some ⟨.other, 1, [.nilFunc]⟩,
 some ⟨.other, 1, [.nilFunc]⟩,
 some ⟨.other, 1, [.nilIface]⟩,
 some ⟨.other, 1, [.nilIface]⟩,
 some ⟨.other, 1, [.nilFunc]⟩,
 some ⟨.other, 1, [.nilFunc]⟩,
 some ⟨.other, 1, [.nilFunc]⟩,
 some ⟨.other, 1, [.nilFunc]⟩,
 some ⟨.other, 1, [.nilFunc]⟩,
 some ⟨.other, 1, [.nilFunc]⟩,
 some ⟨.slice 366 2 16, 1, [.slice none 0 0]⟩,
 some ⟨.struct [(0, 1, false), (1, 1, false)], 2, [.int .i64 0, .int .i64 0]⟩,
 some ⟨.struct [(0, 1, false), (1, 1, false)], 2, [.int .i64 0, .int .i64 0]⟩,
 some ⟨.other, 1, [.pointer none]⟩,
 some ⟨.other, 1, [.nilFunc]⟩,
 some ⟨.struct [(0, 1, false), (1, 1, false), (2, 1, false), (3, 1, false)], 4, [.pointer none, .pointer none, .pointer none, .string ⟨#[]⟩]⟩,
 some ⟨.struct [(0, 1, false), (1, 1, false), (2, 1, false), (3, 1, false)], 4, [.pointer none, .pointer none, .pointer none, .string ⟨#[]⟩]⟩,
 none,
 none,
 none,
 some ⟨.int .u8, 1, [.int .u8 0]⟩,
 some ⟨.int .u8, 1, [.int .u8 0]⟩,
 some ⟨.other, 1, [.nilFunc]⟩,
 some ⟨.other, 1, [.pointer none]⟩,
 some ⟨.int .i32, 1, [.int .i32 0]⟩,
 some ⟨.int .i32, 1, [.int .i32 0]⟩,
 some ⟨.struct [(0, 1, false), (1, 1, false), (2, 1, false), (3, 1, false), (4, 1, false), (5, 1, false), (6, 1, false), (7, 1, false), (8, 1, false), (9, 1, false), (10, 1, false)], 11, [.int .u64 0, .int .u64 0, .int .u32 0, .int .u8 0, .int .u8 0, .int .u8 0, .int .u8 0, .nilFunc, .pointer none, .int .i32 0, .int .i32 0]⟩,
 some ⟨.struct [(0, 1, false), (1, 1, false), (2, 1, false), (3, 1, false), (4, 1, false), (5, 1, false), (6, 1, false), (7, 1, false), (8, 1, false), (9, 1, false), (10, 1, false)], 11, [.int .u64 0, .int .u64 0, .int .u32 0, .int .u8 0, .int .u8 0, .int .u8 0, .int .u8 0, .nilFunc, .pointer none, .int .i32 0, .int .i32 0]⟩,
 none,
 none,
 none,
 none,
 none,
 none,
 none,
 none,
 none,
 none,
 none,
 none,
 none,
 none,
 none,
 none,
 none,
 none,
 none,
 none,
 none,
 none,
 none,
 none,
 none,
 none,
 none,
 none,
 none,
 none,
 none,
 none,
 none,
 none,
 none,
 none,
 none,
 none]
theorem a6 : eW Tryz.prog tt := Dp (by kernel_rfl)
theorem Gi {P : Program} {f : FuncId} {fn : Func} {c : Code} (hf : P.funcs[f]? = some fn) (hn : (fn.name == "runtime.NumGoroutine") = false := by kernel_rfl) (hb : fn.body = some c := by rfl) : bD P f := ⟨am hf hn hb⟩
instance : bD Tryz.prog 7 := Gi Tryz.func7
instance : bD Tryz.prog 8 := Gi Tryz.func8
instance : bD Tryz.prog 9 := Gi Tryz.func9
instance : bD Tryz.prog 11 := Gi Tryz.func11
instance : bD Tryz.prog 12 := Gi Tryz.func12
instance : bD Tryz.prog 13 := Gi Tryz.func13
instance : bD Tryz.prog 14 := Gi Tryz.func14
instance : bD Tryz.prog 15 := Gi Tryz.func15
instance : bD Tryz.prog 18 := Gi Tryz.func18
instance : bD Tryz.prog 19 := Gi Tryz.func19
instance : bD Tryz.prog 21 := Gi Tryz.func21
instance : bD Tryz.prog 22 := Gi Tryz.func22
instance : bD Tryz.prog 23 := Gi Tryz.func23
instance : bD Tryz.prog 24 := Gi Tryz.func24
instance : bD Tryz.prog 25 := Gi Tryz.func25
instance : bD Tryz.prog 26 := Gi Tryz.func26
instance : bD Tryz.prog 27 := Gi Tryz.func27
instance : bD Tryz.prog 28 := Gi Tryz.func28
instance : bD Tryz.prog 29 := Gi Tryz.func29
instance : bD Tryz.prog 30 := Gi Tryz.func30
instance : bD Tryz.prog 31 := Gi Tryz.func31
instance : bD Tryz.prog 32 := Gi Tryz.func32
instance : bD Tryz.prog 33 := Gi Tryz.func33
instance : bD Tryz.prog 34 := Gi Tryz.func34
instance : bD Tryz.prog 35 := Gi Tryz.func35
instance : bD Tryz.prog 36 := Gi Tryz.func36
instance : bD Tryz.prog 37 := Gi Tryz.func37
instance : bD Tryz.prog 38 := Gi Tryz.func38
instance : bD Tryz.prog 39 := Gi Tryz.func39
instance : bD Tryz.prog 40 := Gi Tryz.func40
instance : bD Tryz.prog 41 := Gi Tryz.func41
instance : bD Tryz.prog 42 := Gi Tryz.func42
instance : bD Tryz.prog 43 := Gi Tryz.func43
instance : bD Tryz.prog 44 := Gi Tryz.func44
instance : bD Tryz.prog 45 := Gi Tryz.func45
instance : bD Tryz.prog 46 := Gi Tryz.func46
instance : bD Tryz.prog 47 := Gi Tryz.func47
instance : bD Tryz.prog 48 := Gi Tryz.func48
instance : bD Tryz.prog 49 := Gi Tryz.func49
instance : bD Tryz.prog 50 := Gi Tryz.func50
instance : bD Tryz.prog 51 := Gi Tryz.func51
instance : bD Tryz.prog 58 := Gi Tryz.func58
instance : bD Tryz.prog 59 := Gi Tryz.func59
instance : bD Tryz.prog 60 := Gi Tryz.func60
instance : bD Tryz.prog 61 := Gi Tryz.func61
instance : bD Tryz.prog 63 := Gi Tryz.func63
instance : bD Tryz.prog 64 := Gi Tryz.func64
instance : bD Tryz.prog 65 := Gi Tryz.func65
instance : bD Tryz.prog 66 := Gi Tryz.func66
instance : bD Tryz.prog 67 := Gi Tryz.func67
instance : bD Tryz.prog 68 := Gi Tryz.func68
instance : bD Tryz.prog 69 := Gi Tryz.func69
instance : bD Tryz.prog 70 := Gi Tryz.func70
instance : bD Tryz.prog 71 := Gi Tryz.func71
instance : bD Tryz.prog 72 := Gi Tryz.func72
instance : bD Tryz.prog 73 := Gi Tryz.func73
instance : bD Tryz.prog 74 := Gi Tryz.func74
instance : bD Tryz.prog 75 := Gi Tryz.func75
instance : bD Tryz.prog 76 := Gi Tryz.func76
instance : bD Tryz.prog 77 := Gi Tryz.func77
instance : bD Tryz.prog 78 := Gi Tryz.func78
instance : bD Tryz.prog 79 := Gi Tryz.func79
instance : bD Tryz.prog 80 := Gi Tryz.func80
instance : bD Tryz.prog 81 := Gi Tryz.func81
instance : bD Tryz.prog 82 := Gi Tryz.func82
instance : bD Tryz.prog 83 := Gi Tryz.func83
instance : bD Tryz.prog 84 := Gi Tryz.func84
instance : bD Tryz.prog 85 := Gi Tryz.func85
instance : bD Tryz.prog 86 := Gi Tryz.func86
instance : bD Tryz.prog 87 := Gi Tryz.func87
instance : bD Tryz.prog 88 := Gi Tryz.func88
instance : bD Tryz.prog 89 := Gi Tryz.func89
instance : bD Tryz.prog 90 := Gi Tryz.func90
instance : bD Tryz.prog 91 := Gi Tryz.func91
instance : bD Tryz.prog 95 := Gi Tryz.func95
instance : bD Tryz.prog 96 := Gi Tryz.func96
instance : bD Tryz.prog 97 := Gi Tryz.func97
instance : bD Tryz.prog 98 := Gi Tryz.func98
instance : bD Tryz.prog 99 := Gi Tryz.func99
instance : bD Tryz.prog 100 := Gi Tryz.func100
instance : bD Tryz.prog 101 := Gi Tryz.func101
instance : bD Tryz.prog 102 := Gi Tryz.func102
instance : bD Tryz.prog 103 := Gi Tryz.func103
instance : bD Tryz.prog 104 := Gi Tryz.func104
instance : bD Tryz.prog 105 := Gi Tryz.func105
instance : bD Tryz.prog 106 := Gi Tryz.func106
instance : bD Tryz.prog 107 := Gi Tryz.func107
instance : bD Tryz.prog 108 := Gi Tryz.func108
instance : bD Tryz.prog 109 := Gi Tryz.func109
instance : bD Tryz.prog 110 := Gi Tryz.func110
instance : bD Tryz.prog 111 := Gi Tryz.func111
instance : bD Tryz.prog 112 := Gi Tryz.func112
instance : bD Tryz.prog 113 := Gi Tryz.func113
instance : bD Tryz.prog 114 := Gi Tryz.func114
instance : bD Tryz.prog 115 := Gi Tryz.func115
instance : bD Tryz.prog 116 := Gi Tryz.func116
instance : bD Tryz.prog 117 := Gi Tryz.func117
instance : bD Tryz.prog 118 := Gi Tryz.func118
instance : bD Tryz.prog 119 := Gi Tryz.func119
instance : bD Tryz.prog 120 := Gi Tryz.func120
instance : bD Tryz.prog 121 := Gi Tryz.func121
instance : bD Tryz.prog 122 := Gi Tryz.func122
instance : bD Tryz.prog 123 := Gi Tryz.func123
instance : bD Tryz.prog 124 := Gi Tryz.func124
instance : bD Tryz.prog 125 := Gi Tryz.func125
instance : bD Tryz.prog 126 := Gi Tryz.func126
instance : bD Tryz.prog 127 := Gi Tryz.func127
instance : bD Tryz.prog 128 := Gi Tryz.func128
instance : bD Tryz.prog 129 := Gi Tryz.func129
instance : bD Tryz.prog 130 := Gi Tryz.func130
instance : bD Tryz.prog 131 := Gi Tryz.func131
instance : bD Tryz.prog 132 := Gi Tryz.func132
instance : bD Tryz.prog 133 := Gi Tryz.func133
instance : bD Tryz.prog 134 := Gi Tryz.func134
instance : bD Tryz.prog 135 := Gi Tryz.func135
instance : bD Tryz.prog 136 := Gi Tryz.func136
instance : bD Tryz.prog 137 := Gi Tryz.func137
instance : bD Tryz.prog 138 := Gi Tryz.func138
instance : bD Tryz.prog 139 := Gi Tryz.func139
instance : bD Tryz.prog 140 := Gi Tryz.func140
instance : bD Tryz.prog 141 := Gi Tryz.func141
instance : bD Tryz.prog 142 := Gi Tryz.func142
instance : bD Tryz.prog 143 := Gi Tryz.func143
instance : bD Tryz.prog 144 := Gi Tryz.func144
instance : bD Tryz.prog 145 := Gi Tryz.func145
instance : bD Tryz.prog 146 := Gi Tryz.func146
instance : bD Tryz.prog 147 := Gi Tryz.func147
instance : bD Tryz.prog 148 := Gi Tryz.func148
instance : bD Tryz.prog 153 := Gi Tryz.func153
instance : bD Tryz.prog 154 := Gi Tryz.func154
instance : bD Tryz.prog 155 := Gi Tryz.func155
instance : bD Tryz.prog 156 := Gi Tryz.func156
instance : bD Tryz.prog 157 := Gi Tryz.func157
instance : bD Tryz.prog 158 := Gi Tryz.func158
instance : bD Tryz.prog 159 := Gi Tryz.func159
instance : bD Tryz.prog 160 := Gi Tryz.func160
instance : bD Tryz.prog 161 := Gi Tryz.func161
instance : bD Tryz.prog 162 := Gi Tryz.func162
instance : bD Tryz.prog 163 := Gi Tryz.func163
instance : bD Tryz.prog 164 := Gi Tryz.func164
instance : bD Tryz.prog 165 := Gi Tryz.func165
instance : bD Tryz.prog 166 := Gi Tryz.func166
instance : bD Tryz.prog 167 := Gi Tryz.func167
instance : bD Tryz.prog 168 := Gi Tryz.func168
instance : bD Tryz.prog 169 := Gi Tryz.func169
instance : bD Tryz.prog 170 := Gi Tryz.func170
instance : bD Tryz.prog 171 := Gi Tryz.func171
instance : bD Tryz.prog 172 := Gi Tryz.func172
instance : bD Tryz.prog 173 := Gi Tryz.func173
instance : bD Tryz.prog 174 := Gi Tryz.func174
instance : bD Tryz.prog 175 := Gi Tryz.func175
instance : bD Tryz.prog 176 := Gi Tryz.func176
instance : bD Tryz.prog 177 := Gi Tryz.func177
instance : bD Tryz.prog 178 := Gi Tryz.func178
instance : bD Tryz.prog 179 := Gi Tryz.func179
instance : bD Tryz.prog 180 := Gi Tryz.func180
instance : bD Tryz.prog 181 := Gi Tryz.func181
instance : bD Tryz.prog 182 := Gi Tryz.func182
instance : bD Tryz.prog 183 := Gi Tryz.func183
instance : bD Tryz.prog 184 := Gi Tryz.func184
instance : bD Tryz.prog 185 := Gi Tryz.func185
instance : bD Tryz.prog 186 := Gi Tryz.func186
instance : bD Tryz.prog 187 := Gi Tryz.func187
instance : bD Tryz.prog 188 := Gi Tryz.func188
instance : bD Tryz.prog 189 := Gi Tryz.func189
instance : bD Tryz.prog 190 := Gi Tryz.func190
instance : bD Tryz.prog 191 := Gi Tryz.func191
instance : bD Tryz.prog 192 := Gi Tryz.func192
instance : bD Tryz.prog 193 := Gi Tryz.func193
instance : bD Tryz.prog 194 := Gi Tryz.func194
instance : bD Tryz.prog 195 := Gi Tryz.func195
instance : bD Tryz.prog 196 := Gi Tryz.func196
instance : bD Tryz.prog 197 := Gi Tryz.func197
instance : bD Tryz.prog 198 := Gi Tryz.func198
instance : bD Tryz.prog 199 := Gi Tryz.func199
instance : bD Tryz.prog 200 := Gi Tryz.func200
instance : bD Tryz.prog 201 := Gi Tryz.func201
instance : bD Tryz.prog 213 := Gi Tryz.func213
instance : bD Tryz.prog 214 := Gi Tryz.func214
instance : bD Tryz.prog 215 := Gi Tryz.func215
instance : bD Tryz.prog 216 := Gi Tryz.func216
instance : bD Tryz.prog 217 := Gi Tryz.func217
instance : bD Tryz.prog 218 := Gi Tryz.func218
instance : bD Tryz.prog 219 := Gi Tryz.func219
instance : bD Tryz.prog 220 := Gi Tryz.func220
instance : bD Tryz.prog 221 := Gi Tryz.func221
instance : bD Tryz.prog 222 := Gi Tryz.func222
instance : bD Tryz.prog 223 := Gi Tryz.func223
instance : bD Tryz.prog 224 := Gi Tryz.func224
instance : bD Tryz.prog 225 := Gi Tryz.func225
instance : bD Tryz.prog 226 := Gi Tryz.func226
instance : bD Tryz.prog 227 := Gi Tryz.func227
instance : bD Tryz.prog 228 := Gi Tryz.func228
instance : bD Tryz.prog 229 := Gi Tryz.func229
instance : bD Tryz.prog 230 := Gi Tryz.func230
instance : bD Tryz.prog 231 := Gi Tryz.func231
instance : bD Tryz.prog 232 := Gi Tryz.func232
instance : bD Tryz.prog 233 := Gi Tryz.func233
instance : bD Tryz.prog 234 := Gi Tryz.func234
instance : bD Tryz.prog 235 := Gi Tryz.func235
instance : bD Tryz.prog 236 := Gi Tryz.func236
instance : bD Tryz.prog 237 := Gi Tryz.func237
instance : bD Tryz.prog 238 := Gi Tryz.func238
instance : bD Tryz.prog 239 := Gi Tryz.func239
instance : bD Tryz.prog 240 := Gi Tryz.func240
instance : bD Tryz.prog 241 := Gi Tryz.func241
instance : bD Tryz.prog 242 := Gi Tryz.func242
instance : bD Tryz.prog 243 := Gi Tryz.func243
instance : bD Tryz.prog 250 := Gi Tryz.func250
instance : bD Tryz.prog 251 := Gi Tryz.func251
instance : bD Tryz.prog 252 := Gi Tryz.func252
instance : bD Tryz.prog 253 := Gi Tryz.func253
instance : bD Tryz.prog 254 := Gi Tryz.func254
instance : bD Tryz.prog 258 := Gi Tryz.func258
instance : bD Tryz.prog 259 := Gi Tryz.func259
instance : bD Tryz.prog 260 := Gi Tryz.func260
instance : bD Tryz.prog 262 := Gi Tryz.func262
instance : bD Tryz.prog 263 := Gi Tryz.func263
instance : bD Tryz.prog 264 := Gi Tryz.func264
instance : bD Tryz.prog 265 := Gi Tryz.func265
section
variable {P : Program} {r : Option Nat} {ops : Array Oper} {Q : Exit → Act → World → Prop} {nt : Nat} {D : List Deferred} {fr : ca} {B : Bs} {L : AL} {rest : List Oper} {cd : Code} {φ : Prop}
theorem Cw (hφ : ∀ σ a w, iw σ nt D fr a → dl B σ L w → φ) (h : φ → AT P r cd Q nt D fr B L) : AT P r cd Q nt D fr B L := fun σ a w ha hw => h (hφ σ a w ha hw) σ a w ha hw
theorem Ab (hφ : ∀ σ a w, iw σ nt D fr a → dl B σ L w → φ) (h : φ → bT P r ops Q nt D rest fr B L) : bT P r ops Q nt D rest fr B L := fun σ a w ha hw => h (hφ σ a w ha hw) σ a w ha hw
theorem yn {σ : cw} {u : AV} {v : Value} {s : Nat} {l : List (List AV)} (h : VR σ u v) (hu : il u = some (s, l)) : l.length ≤ 9223372036854775807 ∧ ∀ e ∈ l, e.length = s := by
 have h1 := h.im
 rw [cT hu] at h1
 obtain ⟨_, _, _, h2, h3, h4, _⟩ := h1.imm_inv
 unfold maxLen at h3
 exact ⟨by omega, h4⟩
theorem cz (t : Nat) {u : AV} {s : Nat} {l : List (List AV)} (hl : cb fr t = some u) (hu : il u = some (s, l)) (h : l.length ≤ 9223372036854775807 → AT P r cd Q nt D fr B L) : AT P r cd Q nt D fr B L :=
 Cw (fun σ a w ha _ => (yn (ha.look t u hl) hu).1) h
end
section
variable {P : Program} {nt : Nat} {fr : ca} {B : Bs} {L : AL}
theorem o9 {fn : Func} {Post : AV → AL → Prop} {t : Tmp} {c : AV} {s : Nat} {l : List (List AV)} (hr : fn.results = #[.tmp t]) (hv : cb fr t = some c) (hi : il c = some (s, l)) (h : Post (.imm s l) L) : AX P .ret (bodyPost P fn (iV B Post)) nt [] fr B L :=
 fun σ a w ha hw => ⟨ha.defers, _, results_tmp hr _ _ _, _, σ, .imm s l, L, rfl, by rw [← cT hi]; exact (ha.look t c hv).im, hw, h⟩
end
section
variable {P : Program} {r : Option Nat} {ops : Array Oper} {Q : Exit → Act → World → Prop} {nt : Nat} {D : List Deferred} {fr : ca} {B : Bs} {L : AL} {rest : List Oper} {d : Nat} {ty : TypeId} {pos : String} {af : Array Edge}
def C5 (P : Program) (f : FuncId) (args : List AV) (e s : Nat) (l : List (List AV)) : Prop := AC P f args [] fun c L => ∃ k, c = .vec k s l ∧ L = _root_.Go.Proofs.YtjjpkibjffmceaaGreat.tok k e s l.length
theorem vi {f : FuncId} {args : Array Operand} {ts : Array TypeId} {cs ds : List AV} {e s : Nat} {l : List (List AV)} [bD P f] (hc : C5 P f ds e s l) (hv : ek fr args.toList = some cs) (hi : jP cs = some ds) (hd : Nat.ble nt d = false) (h : ∀ k, bT P r ops Q nt D rest ((d, .vec k s l) :: fr) B (_root_.Go.Proofs.YtjjpkibjffmceaaGreat.tok k e s l.length ++ L)) :
  bT P r ops Q nt D (⟨some d, .call ⟨.value (.func f), args, ts⟩, ty, pos, af, none⟩ :: rest) fr B L := by
 have hc' := hc
 rw [← gQ hi] at hc'
 refine dh hd rfl (lw [] L hv (fun σ vs h => h.im) (Gm _) hc') fun c L' hh => ?_
 obtain ⟨L1, ⟨k, h1, h2⟩, h3⟩ := hh
 subst h1; subst h2; subst h3
 exact h k
end
def aU (l : List Int) : List (List AV) := l.map fun z => [.sc (.int .i64 z)]
theorem aQ (l : List Int) : (aU l).length = l.length := by simp [aU]
theorem bN {l : List Int} {i : Nat} {z : Int} (h : l[i]? = some z) : (aU l)[i]? = some [.sc (.int .i64 z)] := by simp [aU, h]
end Go.Proofs.YtjjpkibjffmceaaGreat
namespace Go.Proofs.YtjjpkibjffmceaaGreat
open Go.RowKit
section
variable {P : Program} {tt : TT} {r : Option Nat} {Q : Exit → Act → World → Prop} {nt : Nat} {D : List Deferred} {fr : ca} {B : Bs} {L : AL} {l : List Oper} {fin : jz}
variable {k j : Nat} {s : Ak} {sk : lm} {acc : ca} {dd : Option Tmp} {op : Op} {ty t t' : TypeId} {pos : String} {af : Array Edge} {g : Option (Nat × Bool)} {x y c : Operand} {u : AV} {want b : Bool}
def cX (P : Program) (l : List Oper) (fr : ca) (fin : jz) (k : Nat) (s : Ak) (o : Oper) (sk : lm) (acc : ca) (L : AL) : Prop := l[k]? = some o → DA P l fr fin ((k, s) :: sk) acc L
theorem aE {o : Oper} (h : cX P l fr fin k s o sk acc L) (ho : l[k]? = some o := by rfl) : DA P l fr fin ((k, s) :: sk) acc L := h ho
def iC (o : Oper) (acc : ca) : Prop := match o.guard with
 | none => True
 | some (j, want) => nF acc j = .sc (.bool want)
theorem mr {o : Oper} {R : AV → AL → Prop} (hg : iC o acc) (h : ∀ B, AO P o (cM l.toArray acc fr o.after.toList) B L R) : vE P l fr o acc L R := by
 unfold vE
 unfold iC at hg
 split
 ·exact h
 ·rename_i j want hq
  rw [hq] at hg
  exact .inl ⟨hg, h⟩
theorem gD {o : Oper} (hg : iC o acc) (h : ∀ B L, AO P o (cM l.toArray acc fr o.after.toList) B L (fun c L' => c = u ∧ L' = L)) (hn : DA P l fr fin sk ((k, u) :: acc) L) : cX P l fr fin k .v o sk acc L := by
 intro ho
 obtain ⟨pl, hpl⟩ := hn
 exact ⟨.val k u pl, .v, sk, o, rfl, ho, .inl ⟨rfl, fun L => mr hg fun B => h B L⟩, hpl⟩
theorem y3 {o : Oper} (hg : iC o acc) (h : ∀ B, AO P o (cM l.toArray acc fr o.after.toList) B L (fun c L' => c = u ∧ L' = L)) (hn : DA P l fr fin sk ((k, u) :: acc) L) : cX P l fr fin k .l o sk acc L := by
 intro ho
 obtain ⟨pl, hpl⟩ := hn
 exact ⟨.val k u pl, .l, sk, o, rfl, ho, .inr (.inl ⟨rfl, mr hg fun B => h B⟩), hpl⟩
theorem gY {o : Oper} {R : AV → AL → Prop} (hg : iC o acc) (h : ∀ B, AO P o (cM l.toArray acc fr o.after.toList) B L R) (hn : ∀ c L', R c L' → DA P l fr fin sk ((k, c) :: acc) L') : cX P l fr fin k .e o sk acc L := by
 intro ho
 have hn' : ∀ c L', ∃ pl, R c L' → ej P l fr fin pl sk ((k, c) :: acc) L' := fun c L' => by
  by_cases hr : R c L'
  ·obtain ⟨pl, hpl⟩ := hn c L' hr
   exact ⟨pl, fun _ => hpl⟩
  ·exact ⟨.fin, fun h => absurd h hr⟩
 exact ⟨.eff k R fun c L' => Classical.choose (hn' c L'), .e, sk, o, .inl rfl, rfl, ho, mr hg h, fun c L' hr => Classical.choose_spec (hn' c L') hr⟩
theorem y0 {o : Oper} (hK : eh fin.gs L) (hg : iC o acc) (h : ∀ B L, eh fin.gs L → AO P o (cM l.toArray acc fr o.after.toList) B L (fun c L' => c = u ∧ L' = L)) (hn : DA P l fr fin sk ((k, u) :: acc) L) : cX P l fr fin k .k o sk acc L := by
 intro ho
 obtain ⟨pl, hpl⟩ := hn
 exact ⟨.val k u pl, .k, sk, o, rfl, ho, .inr (.inr ⟨rfl, hK, fun L hL => mr hg fun B => h B L hL⟩), hpl⟩
theorem qS {o : Oper} {R : AV → AL → Prop} (hX : ∀ c L', R c L' → eh fin.gs L → eh fin.gs L') (hg : iC o acc) (h : ∀ B, AO P o (cM l.toArray acc fr o.after.toList) B L R) (hn : ∀ c L', R c L' → DA P l fr fin sk ((k, c) :: acc) L') : cX P l fr fin k .f o sk acc L := by
 intro ho
 have hn' : ∀ c L', ∃ pl, R c L' → ej P l fr fin pl sk ((k, c) :: acc) L' := fun c L' => by
  by_cases hr : R c L'
  ·obtain ⟨pl, hpl⟩ := hn c L' hr
   exact ⟨pl, fun _ => hpl⟩
  ·exact ⟨.fin, fun h => absurd h hr⟩
 exact ⟨.eff k R fun c L' => Classical.choose (hn' c L'), .f, sk, o, .inr (.inr ⟨rfl, hX⟩), rfl, ho, mr hg h, fun c L' hr => Classical.choose_spec (hn' c L') hr⟩
theorem Cx {o : Oper} {R : AV → AL → Prop} (hX : ∀ c L', R c L' → ∃ X, L' = X ++ L) (hg : iC o acc) (h : ∀ B, AO P o (cM l.toArray acc fr o.after.toList) B L R) (hn : ∀ c L', R c L' → DA P l fr fin sk ((k, c) :: acc) L') : cX P l fr fin k .a o sk acc L := by
 intro ho
 have hn' : ∀ c L', ∃ pl, R c L' → ej P l fr fin pl sk ((k, c) :: acc) L' := fun c L' => by
  by_cases hr : R c L'
  ·obtain ⟨pl, hpl⟩ := hn c L' hr
   exact ⟨pl, fun _ => hpl⟩
  ·exact ⟨.fin, fun h => absurd h hr⟩
 exact ⟨.eff k R fun c L' => Classical.choose (hn' c L'), .a, sk, o, .inr (.inl ⟨rfl, hX⟩), rfl, ho, mr hg h, fun c L' hr => Classical.choose_spec (hn' c L') hr⟩
theorem kD {op : Op} (hj : nF acc j = .sc (.bool b)) (hb : (b == want) = false) (hn : DA P l fr fin sk ((k, .sc undef) :: acc) L) : cX P l fr fin k .v ⟨dd, op, ty, pos, af, some (j, want)⟩ sk acc L := by
 intro ho
 obtain ⟨pl, hpl⟩ := hn
 exact ⟨.val k (.sc undef) pl, .v, sk, _, rfl, ho, .inl ⟨rfl, fun L => .inr ⟨⟨_, hj, fun e => by injection e with e; subst e; simp at hb⟩, rfl, rfl⟩⟩, hpl⟩
theorem E1 {op : Op} (hj : nF acc j = .sc undef) (hn : DA P l fr fin sk ((k, .sc undef) :: acc) L) : cX P l fr fin k .v ⟨dd, op, ty, pos, af, some (j, want)⟩ sk acc L := by
 intro ho
 obtain ⟨pl, hpl⟩ := hn
 exact ⟨.val k (.sc undef) pl, .v, sk, _, rfl, ho, .inl ⟨rfl, fun L => .inr ⟨⟨_, hj, fun e => by simp [undef] at e⟩, rfl, rfl⟩⟩, hpl⟩
theorem D2 {o : Oper} {fr : ca} (h : Av P o fr u) : ∀ B L, AO P o fr B L (fun c L' => c = u ∧ L' = L) := fun _ _ => h.ao
theorem aZ (ok : eW P tt) (h : DA P l fr fin sk ((k, u) :: acc) L) (hu : pi tt (cM l.toArray acc fr af.toList) op = some u := by rfl) (hg : iC ⟨dd, op, ty, pos, af, g⟩ acc := by first | trivial | rfl) : cX P l fr fin k .v ⟨dd, op, ty, pos, af, g⟩ sk acc L := gD hg (D2 (pj ok hu)) h
theorem eP {bop : BinOp} (h : cX P l fr fin k .v ⟨dd, .binOp bop t x y t', ty, pos, af, g⟩ sk acc L) : cX P l fr fin k .v ⟨dd, .binOp bop t x y t', ty, pos, af, g⟩ sk acc L := h
theorem fU {bop : BinOp} (h : DA P l fr fin sk ((k, u) :: acc) L) (ho : Av P ⟨dd, .binOp bop t x y t', ty, pos, af, g⟩ (cM l.toArray acc fr af.toList) u := by first | exact uQ rfl rfl (by omega) | exact uW rfl rfl (by omega) | exact uU rfl rfl (by omega)) (hg : iC ⟨dd, .binOp bop t x y t', ty, pos, af, g⟩ acc := by first | trivial | rfl) : cX P l fr fin k .v ⟨dd, .binOp bop t x y t', ty, pos, af, g⟩ sk acc L := gD hg (D2 ho) h
theorem bP (h : cX P l fr fin k .v ⟨dd, .indexAddr t x y, ty, pos, af, g⟩ sk acc L) : cX P l fr fin k .v ⟨dd, .indexAddr t x y, ty, pos, af, g⟩ sk acc L := h
theorem c8 (ok : eW P tt) {e sz by_ s : Nat} {ll : List (List AV)} {ik : IntKind} {i : Int} {es : List AV} (h : DA P l fr fin sk ((k, .iptr es) :: acc) L) (ht : mf tt t = some (e, sz, by_) := by rfl) (hx : bH (cM l.toArray acc fr af.toList) x = some u := by rfl) (hu : il u = some (s, ll) := by rfl) (hs : Nat.beq s sz = true := by rfl) (hy : bH (cM l.toArray acc fr af.toList) y = some (.sc (.int ik i)) := by rfl) (h0 : 0 ≤ i := by omega) (hl : ll[i.toNat]? = some es := by first | assumption | (simp only [Int.toNat_natCast]; assumption)) (hg : iC ⟨dd, .indexAddr t x y, ty, pos, af, g⟩ acc := by first | trivial | rfl) : cX P l fr fin k .v ⟨dd, .indexAddr t x y, ty, pos, af, g⟩ sk acc L := gD hg (D2 (uS (bU ok ht).1 hx (cT hu) hs hy h0 hl)) h
theorem bX {f : FuncId} {args : Array Operand} {ts : Array TypeId} (h : cX P l fr fin k .v ⟨dd, .call ⟨.value (.func f), args, ts⟩, ty, pos, af, g⟩ sk acc L) : cX P l fr fin k .v ⟨dd, .call ⟨.value (.func f), args, ts⟩, ty, pos, af, g⟩ sk acc L := h
theorem cm {f : FuncId} {args : Array Operand} {ts : Array TypeId} {cs ds : List AV} [bD P f] (h : DA P l fr fin sk ((k, u) :: acc) L) (hv : ek (cM l.toArray acc fr af.toList) args.toList = some cs := by rfl) (hi : jP cs = some ds := by rfl) (hc : AD P f ds u := by infer_instance) (hg : iC ⟨dd, .call ⟨.value (.func f), args, ts⟩, ty, pos, af, g⟩ acc := by first | trivial | rfl) : cX P l fr fin k .v ⟨dd, .call ⟨.value (.func f), args, ts⟩, ty, pos, af, g⟩ sk acc L := gD hg (fun _ _ => xD hv (by rw [gQ hi]; exact hc.det)) h
theorem cI (ok : eW P tt) (i : Nat) {b kk : Nat} {cs : List AV} {e : TypeId} (ht : Da tt t = true) (hx : bH (cM l.toArray acc fr af.toList) x = some (.sc (.pointer (some ⟨b, kk, none⟩)))) (hL : L[i]? = some (b, .box cs e)) (hc : cs[kk]? = some u) (hg : iC ⟨dd, .load t x, ty, pos, af, g⟩ acc) (h : DA P l fr fin sk ((k, u) :: acc) L) : cX P l fr fin k .l ⟨dd, .load t x, ty, pos, af, g⟩ sk acc L := y3 hg (fun _ => qJ i (cU ok ht) hx hL hc) h
theorem nL (ok : eW P tt) (i : Nat) {b kk n : Nat} {cs : List AV} {e : TypeId} (ht : DU tt t = some n) (hx : bH (cM l.toArray acc fr af.toList) x = some (.sc (.pointer (some ⟨b, kk, none⟩)))) (hL : L[i]? = some (b, .box cs e)) (hc : Nat.ble (kk + n) cs.length = true) (hg : iC ⟨dd, .load t x, ty, pos, af, g⟩ acc) (h : DA P l fr fin sk ((k, .agg ((cs.drop kk).take n)) :: acc) L) : cX P l fr fin k .l ⟨dd, .load t x, ty, pos, af, g⟩ sk acc L := y3 hg (fun _ => rP i (cY ok ht) hx hL hc) h
theorem wx {gs : KpL} {i b kk : Nat} {v : AV} (hi : gs[i]? = some (.cell (b, kk, v))) {L : AL} (h : eh gs L) : ∃ (j : Nat) (cs : List AV) (e : TypeId), L[j]? = some (b, .box cs e) ∧ cs[kk]? = some v := by
 obtain ⟨cs, e, h1, h2⟩ := h _ (Gx hi)
 obtain ⟨j, hj⟩ := List.mem_iff_getElem?.1 h1
 exact ⟨j, cs, e, hj, h2⟩
theorem eg (ok : eW P tt) (i : Nat) {b kk : Nat} (ht : Da tt t = true) (hx : bH (cM l.toArray acc fr af.toList) x = some (.sc (.pointer (some ⟨b, kk, none⟩)))) (hi : fin.gs[i]? = some (.cell (b, kk, u))) (hK : eh fin.gs L) (hg : iC ⟨dd, .load t x, ty, pos, af, g⟩ acc) (h : DA P l fr fin sk ((k, u) :: acc) L) : cX P l fr fin k .k ⟨dd, .load t x, ty, pos, af, g⟩ sk acc L :=
 y0 hK hg (fun _ L' hL' => by
  obtain ⟨j, cs, e, h1, h2⟩ := wx hi hL'
  exact qJ j (cU ok ht) hx h1 h2) h
theorem uX {d : Option Tmp} {e sz by_ n : Nat} {parts : Array (Nat × Operand)} {vs : List AV} {xs : List (List AV)} (hc : mW P t e sz by_) (hsz : 0 < sz) (hv : ek fr (parts.toList.map (·.2)) = some vs) (hxs : j4 vs = some xs) (hn : Nat.beq xs.length n = true) (hi : parts.toList.map (·.1) = List.range' 0 n) (hz : xs.all (fun q => Nat.beq q.length sz) = true) (h24 : Nat.ble (n * sz) 16777216 = true) :
  AO P ⟨d, .buildSlice t n parts, ty, pos, af, g⟩ fr B L (fun c L' => c = .imm sz xs ∧ L' = L) := by
 intro σ ρ w hρ hw
 refine (xG hc hsz hv hxs hn hi hz h24 σ ρ w hρ hw).mono fun v w' hh => ?_
 obtain ⟨τ, c, L', h1, h2, h3, b, rfl, rfl⟩ := hh
 exact ⟨τ, _, L, h1, h2.im, h3.sublist (.cons _ (List.Sublist.refl _)), rfl, rfl⟩
theorem ee (ok : eW P tt) {e sz by_ n : Nat} {parts : Array (Nat × Operand)} {vs : List AV} {xs : List (List AV)} (h : DA P l fr fin sk ((k, .imm sz xs) :: acc) L) (ht : mf tt t = some (e, sz, by_) := by rfl) (hv : ek (cM l.toArray acc fr af.toList) (parts.toList.map (·.2)) = some vs := by rfl) (hxs : j4 vs = some xs := by rfl) (hn : Nat.beq xs.length n = true := by rfl) (hi : parts.toList.map (·.1) = List.range' 0 n := by rfl) (hz : xs.all (fun q => Nat.beq q.length sz) = true := by rfl) (h24 : Nat.ble (n * sz) 16777216 = true := by rfl) (hg : iC ⟨dd, .buildSlice t n parts, ty, pos, af, g⟩ acc := by first | trivial | rfl) :
  cX P l fr fin k .v ⟨dd, .buildSlice t n parts, ty, pos, af, g⟩ sk acc L := gD hg (fun _ _ => uX (bU ok ht).1 (bU ok ht).2 hv hxs hn hi hz h24) h
theorem bz (ok : eW P tt) {r : Option Nat} {ops : Array Oper} {Q : Exit → Act → World → Prop} {nt : Nat} {D : List Deferred} {rest : List Oper} {d e sz by_ n : Nat} {parts : Array (Nat × Operand)} {vs : List AV} {xs : List (List AV)} (h : bT P r ops Q nt D rest ((d, .imm sz xs) :: fr) B L) (ht : mf tt t = some (e, sz, by_) := by rfl) (hv : ek fr (parts.toList.map (·.2)) = some vs := by rfl) (hxs : j4 vs = some xs := by rfl) (hn : Nat.beq xs.length n = true := by rfl) (hi : parts.toList.map (·.1) = List.range' 0 n := by rfl) (hz : xs.all (fun q => Nat.beq q.length sz) = true := by rfl) (h24 : Nat.ble (n * sz) 16777216 = true := by rfl) (hd : Nat.ble nt d = false := by rfl) :
  bT P r ops Q nt D (⟨some d, .buildSlice t n parts, ty, pos, af, none⟩ :: rest) fr B L := by
 obtain ⟨h1, h2⟩ := bU ok ht
 refine dh hd rfl (uX h1 h2 hv hxs hn hi hz h24) fun c L' hh => ?_
 obtain ⟨h1, h2⟩ := hh
 subst h1; subst h2
 exact h
theorem br {gs : KpL} {n0 : Nat} {fr0 : ca} {rest : List Oper} (ks : List Nat) (hk : gq (i3 l.toArray acc fr n0) ks = some fr0) (hr : l.drop n0 = rest) (h : bT P r l.toArray Q nt D rest fr0 B L) : DA P l fr ⟨ya P r l n0 Q nt D fr B none, gs⟩ [] acc L :=
 ⟨.fin, rfl, by rw [← hr] at h; exact rT (dT ks hk) (fun _ _ h => h) h⟩
theorem kj {gs : KpL} {n0 kk : Nat} {ab : AB} {rest : List Oper} (ks : List Nat) (fr0 : Nat → ca) (hk : ∀ b, gq (i3 l.toArray ((kk, .sc (.pointer (some ⟨b, 0, none⟩))) :: acc) fr n0) ks = some (fr0 b)) (hr : l.drop n0 = rest) (h : ∀ b, bT P r l.toArray Q nt D rest (fr0 b) B (L ++ [(b, ab)])) : DA P l fr ⟨ya P r l n0 Q nt D fr B (some (kk, ab)), gs⟩ [] acc L :=
 ⟨.fin, rfl, fun b => by have := h b; rw [← hr] at this; exact rT (dT ks (hk b)) (fun _ _ h => h) this⟩
end
end Go.Proofs.YtjjpkibjffmceaaGreat
namespace Go.Proofs.YtjjpkibjffmceaaGreat
open Go.RowKit
attribute [local irreducible] AT bT AX AO Av Kt bk ej DA cX
def lb (l : List Int) (n : Nat) : List Int := ((List.range n).map Int.ofNat).filter (l.contains ·)
theorem jQ (a b : List Int) : aU a ++ aU b = aU (a ++ b) := by simp [aU]
end Go.Proofs.YtjjpkibjffmceaaGreat
