/-
  The table of the types of the seat's program, and the functions that are entered, written by a program (wip/typesA.py).
-/
import Derived.Test.YtpbinloeemebkaaGreatM06
import Derived.Test.YtpbinloeemebkaaGreatProg
import Derived.KernelRfl
namespace Go.Proofs.YtpbinloeemebkaaGreat
open Go.RowKit
theorem enters_fn {P : Program} {f : FuncId} {fn : Func} {c : Code} (hf : P.funcs[f]? = some fn) (hname : (fn.name == "runtime.NumGoroutine") = false) (hb : fn.body = some c) : ∀ args w, (callFunc f args).run P w = .ok (.enter f args) w := by
  intro args w
  have hne : ¬ fn.name = "runtime.NumGoroutine" := by simpa using hname
  simp [callFunc, hf, hne, hb]
theorem mixed : Tryz.prog.follows .mixedOrders = true := by kernel_rfl
def tt : TT := [none, 
  some ⟨.other, 1, [.nilFunc]⟩, 
  some ⟨.int .i64, 1, [.int .i64 0]⟩, 
  some ⟨.int .i64, 1, [.int .i64 0]⟩, 
  some ⟨.bool, 1, [.bool false]⟩, 
  some ⟨.int .u8, 1, [.int .u8 0]⟩, 
  some ⟨.int .u8, 1, [.int .u8 0]⟩, 
  some ⟨.struct [(0, 1, false), (1, 1, false), (2, 1, false), (3, 1, false)], 4, [.int .i64 0, .int .i64 0, .bool false, .int .u8 0]⟩, 
  some ⟨.struct [(0, 1, false), (1, 1, false), (2, 1, false), (3, 1, false)], 4, [.int .i64 0, .int .i64 0, .bool false, .int .u8 0]⟩, 
  some ⟨.str, 1, [.string ⟨#[]⟩]⟩, 
  some ⟨.str, 1, [.string ⟨#[]⟩]⟩, 
  some ⟨.str, 1, [.string ⟨#[]⟩]⟩, 
  some ⟨.int .u64, 1, [.int .u64 0]⟩, 
  some ⟨.struct [(0, 1, false), (1, 1, false)], 2, [.string ⟨#[]⟩, .int .u64 0]⟩, 
  some ⟨.struct [(0, 1, false), (1, 1, false)], 2, [.string ⟨#[]⟩, .int .u64 0]⟩, 
  some ⟨.other, 1, [.pointer none]⟩, 
  some ⟨.other, 1, [.pointer none]⟩, 
  some ⟨.other, 1, [.pointer none]⟩, 
  some ⟨.struct [(0, 1, false)], 1, [.pointer none]⟩, 
  some ⟨.struct [(0, 1, false)], 1, [.pointer none]⟩, 
  some ⟨.other, 1, [.nilIface]⟩, 
  some ⟨.int .i32, 1, [.int .i32 0]⟩, 
  some ⟨.slice 64 9 176, 1, [.slice none 0 0]⟩, 
  some ⟨.slice 50 2 16, 1, [.slice none 0 0]⟩, 
  some ⟨.slice 70 3 40, 1, [.slice none 0 0]⟩, 
  some ⟨.slice 72 2 40, 1, [.slice none 0 0]⟩, 
  some ⟨.slice 149 4 40, 1, [.slice none 0 0]⟩, 
  some ⟨.slice 75 1 24, 1, [.slice none 0 0]⟩, 
  some ⟨.slice 62 1 24, 1, [.slice none 0 0]⟩, 
  some ⟨.slice 3 1 8, 1, [.slice none 0 0]⟩, 
  some ⟨.struct [(0, 1, false), (1, 1, false), (2, 1, false), (3, 1, false), (4, 1, false), (5, 1, false), (6, 1, false), (7, 1, false), (8, 1, false)], 9, [.int .i64 0, .slice none 0 0, .slice none 0 0, .slice none 0 0, .slice none 0 0, .slice none 0 0, .slice none 0 0, .slice none 0 0, .slice none 0 0]⟩, 
  some ⟨.struct [(0, 1, false), (1, 1, false), (2, 1, false), (3, 1, false), (4, 1, false), (5, 1, false), (6, 1, false), (7, 1, false), (8, 1, false)], 9, [.int .i64 0, .slice none 0 0, .slice none 0 0, .slice none 0 0, .slice none 0 0, .slice none 0 0, .slice none 0 0, .slice none 0 0, .slice none 0 0]⟩, 
  some ⟨.slice 9 1 16, 1, [.slice none 0 0]⟩, 
  some ⟨.other, 1, [.nilFunc]⟩, 
  some ⟨.other, 1, [.nilFunc]⟩, 
  some ⟨.other, 1, [.nilFunc]⟩, 
  some ⟨.other, 1, [.nilFunc]⟩, 
  some ⟨.other, 1, [.nilFunc]⟩, 
  some ⟨.struct [(0, 1, false), (1, 1, false)], 2, [.slice none 0 0, .slice none 0 0]⟩, 
  some ⟨.struct [(0, 1, false), (1, 1, false)], 2, [.slice none 0 0, .slice none 0 0]⟩, 
  some ⟨.int .i64, 1, [.int .i64 0]⟩, 
  none, 
  some ⟨.other, 1, [.nilFunc]⟩, 
  some ⟨.other, 1, [.nilFunc]⟩, 
  none, 
  some ⟨.other, 1, [.nilFunc]⟩, 
  some ⟨.other, 1, [.nilFunc]⟩, 
  some ⟨.other, 1, [.nilFunc]⟩, 
  some ⟨.other, 1, [.nilFunc]⟩, 
  some ⟨.struct [(0, 1, false), (1, 1, false)], 2, [.int .i64 0, .int .i64 0]⟩, 
  some ⟨.struct [(0, 1, false), (1, 1, false)], 2, [.int .i64 0, .int .i64 0]⟩, 
  some ⟨.other, 1, [.nilFunc]⟩, 
  some ⟨.slice 54 6 48, 1, [.slice none 0 0]⟩, 
  some ⟨.struct [(0, 1, false), (1, 1, false), (2, 1, false), (3, 1, false), (4, 1, false), (5, 1, false)], 6, [.int .i64 0, .int .i64 0, .int .i64 0, .int .i64 0, .int .i64 0, .int .i64 0]⟩, 
  some ⟨.struct [(0, 1, false), (1, 1, false), (2, 1, false), (3, 1, false), (4, 1, false), (5, 1, false)], 6, [.int .i64 0, .int .i64 0, .int .i64 0, .int .i64 0, .int .i64 0, .int .i64 0]⟩, 
  some ⟨.other, 1, [.nilFunc]⟩, 
  some ⟨.slice 282 3 24, 1, [.slice none 0 0]⟩, 
  some ⟨.struct [(0, 1, false), (1, 1, false)], 2, [.slice none 0 0, .slice none 0 0]⟩, 
  some ⟨.struct [(0, 1, false), (1, 1, false)], 2, [.slice none 0 0, .slice none 0 0]⟩, 
  some ⟨.slice 66 3 24, 1, [.slice none 0 0]⟩, 
  some ⟨.slice 210 4 32, 1, [.slice none 0 0]⟩, 
  some ⟨.slice 212 4 32, 1, [.slice none 0 0]⟩, 
  some ⟨.slice 273 2 16, 1, [.slice none 0 0]⟩, 
  some ⟨.struct [(0, 1, false), (1, 1, false), (2, 1, false), (3, 2, true), (5, 1, false), (6, 1, false), (7, 1, false), (8, 1, false)], 9, [.string ⟨#[]⟩, .int .i64 0, .bool false, .slice none 0 0, .slice none 0 0, .slice none 0 0, .slice none 0 0, .slice none 0 0, .slice none 0 0]⟩, 
  some ⟨.struct [(0, 1, false), (1, 1, false), (2, 1, false), (3, 2, true), (5, 1, false), (6, 1, false), (7, 1, false), (8, 1, false)], 9, [.string ⟨#[]⟩, .int .i64 0, .bool false, .slice none 0 0, .slice none 0 0, .slice none 0 0, .slice none 0 0, .slice none 0 0, .slice none 0 0]⟩, 
  some ⟨.struct [(0, 1, false), (1, 1, false), (2, 1, false)], 3, [.int .i64 0, .int .i64 0, .int .i64 0]⟩, 
  some ⟨.struct [(0, 1, false), (1, 1, false), (2, 1, false)], 3, [.int .i64 0, .int .i64 0, .int .i64 0]⟩, 
  some ⟨.other, 1, [.nilFunc]⟩, 
  some ⟨.slice 89 6 128, 1, [.slice none 0 0]⟩, 
  some ⟨.struct [(0, 1, false), (1, 1, false), (2, 1, false)], 3, [.int .i64 0, .bool false, .slice none 0 0]⟩, 
  some ⟨.struct [(0, 1, false), (1, 1, false), (2, 1, false)], 3, [.int .i64 0, .bool false, .slice none 0 0]⟩, 
  some ⟨.struct [(0, 1, false), (1, 1, false)], 2, [.string ⟨#[]⟩, .slice none 0 0]⟩, 
  some ⟨.struct [(0, 1, false), (1, 1, false)], 2, [.string ⟨#[]⟩, .slice none 0 0]⟩, 
  some ⟨.slice 151 3 24, 1, [.slice none 0 0]⟩, 
  some ⟨.struct [(0, 1, false)], 1, [.slice none 0 0]⟩, 
  some ⟨.struct [(0, 1, false)], 1, [.slice none 0 0]⟩, 
  some ⟨.other, 1, [.nilFunc]⟩, 
  some ⟨.other, 1, [.nilFunc]⟩, 
  some ⟨.other, 1, [.map none]⟩, 
  some ⟨.other, 1, [.pointer none]⟩, 
  some ⟨.other, 1, [.nilFunc]⟩, 
  some ⟨.int .i64, 1, [.int .i64 0]⟩, 
  some ⟨.other, 1, [.nilFunc]⟩, 
  some ⟨.other, 1, [.nilFunc]⟩, 
  some ⟨.other, 1, [.nilFunc]⟩, 
  some ⟨.other, 1, [.nilFunc]⟩, 
  some ⟨.slice 29 1 24, 1, [.slice none 0 0]⟩, 
  some ⟨.slice 91 2 16, 1, [.slice none 0 0]⟩, 
  some ⟨.struct [(0, 1, false), (1, 1, false), (2, 1, false), (3, 1, false), (4, 1, false), (5, 1, false)], 6, [.slice none 0 0, .slice none 0 0, .slice none 0 0, .slice none 0 0, .slice none 0 0, .int .i64 0]⟩, 
  some ⟨.struct [(0, 1, false), (1, 1, false), (2, 1, false), (3, 1, false), (4, 1, false), (5, 1, false)], 6, [.slice none 0 0, .slice none 0 0, .slice none 0 0, .slice none 0 0, .slice none 0 0, .int .i64 0]⟩, 
  some ⟨.struct [(0, 1, false), (1, 1, false)], 2, [.int .i64 0, .int .i64 0]⟩, 
  some ⟨.struct [(0, 1, false), (1, 1, false)], 2, [.int .i64 0, .int .i64 0]⟩, 
  some ⟨.other, 1, [.nilFunc]⟩, 
  some ⟨.other, 1, [.nilFunc]⟩, 
  some ⟨.other, 1, [.nilFunc]⟩, 
  some ⟨.other, 1, [.nilFunc]⟩, 
  some ⟨.other, 1, [.map none]⟩, 
  some ⟨.other, 1, [.pointer none]⟩, 
  some ⟨.other, 1, [.nilFunc]⟩, 
  some ⟨.int .i64, 1, [.int .i64 0]⟩, 
  some ⟨.other, 1, [.pointer none]⟩, 
  some ⟨.other, 1, [.nilFunc]⟩, 
  some ⟨.other, 1, [.nilFunc]⟩, 
  some ⟨.slice 4 1 1, 1, [.slice none 0 0]⟩, 
  some ⟨.slice 99 1 8, 1, [.slice none 0 0]⟩, 
  some ⟨.struct [(0, 1, false), (1, 1, false)], 2, [.slice none 0 0, .slice none 0 0]⟩, 
  some ⟨.struct [(0, 1, false), (1, 1, false)], 2, [.slice none 0 0, .slice none 0 0]⟩, 
  some ⟨.other, 1, [.nilFunc]⟩, 
  some ⟨.other, 1, [.nilFunc]⟩, 
  some ⟨.other, 1, [.nilFunc]⟩, 
  some ⟨.other, 1, [.nilFunc]⟩, 
  some ⟨.other, 1, [.nilFunc]⟩, 
  some ⟨.other, 1, [.nilFunc]⟩, 
  some ⟨.other, 1, [.nilFunc]⟩, 
  some ⟨.other, 1, [.pointer none]⟩, 
  some ⟨.other, 1, [.nilFunc]⟩, 
  some ⟨.other, 1, [.map none]⟩, 
  some ⟨.struct [(0, 9, true), (9, 1, false), (10, 1, false)], 11, [.int .i64 0, .slice none 0 0, .slice none 0 0, .slice none 0 0, .slice none 0 0, .slice none 0 0, .slice none 0 0, .slice none 0 0, .slice none 0 0, .slice none 0 0, .map none]⟩, 
  some ⟨.struct [(0, 9, true), (9, 1, false), (10, 1, false)], 11, [.int .i64 0, .slice none 0 0, .slice none 0 0, .slice none 0 0, .slice none 0 0, .slice none 0 0, .slice none 0 0, .slice none 0 0, .slice none 0 0, .slice none 0 0, .map none]⟩, 
  some ⟨.other, 1, [.nilFunc]⟩, 
  some ⟨.slice 86 1 24, 1, [.slice none 0 0]⟩, 
  some ⟨.slice 81 1 8, 1, [.slice none 0 0]⟩, 
  some ⟨.struct [(0, 1, false), (1, 1, false)], 2, [.slice none 0 0, .slice none 0 0]⟩, 
  some ⟨.struct [(0, 1, false), (1, 1, false)], 2, [.slice none 0 0, .slice none 0 0]⟩, 
  some ⟨.other, 1, [.nilFunc]⟩, 
  some ⟨.other, 1, [.nilFunc]⟩, 
  none, 
  some ⟨.other, 1, [.nilFunc]⟩, 
  some ⟨.other, 1, [.nilFunc]⟩, 
  some ⟨.slice 133 1 8, 1, [.slice none 0 0]⟩, 
  some ⟨.struct [(0, 9, true), (9, 1, false)], 10, [.int .i64 0, .slice none 0 0, .slice none 0 0, .slice none 0 0, .slice none 0 0, .slice none 0 0, .slice none 0 0, .slice none 0 0, .slice none 0 0, .slice none 0 0]⟩, 
  some ⟨.struct [(0, 9, true), (9, 1, false)], 10, [.int .i64 0, .slice none 0 0, .slice none 0 0, .slice none 0 0, .slice none 0 0, .slice none 0 0, .slice none 0 0, .slice none 0 0, .slice none 0 0, .slice none 0 0]⟩, 
  some ⟨.other, 1, [.nilFunc]⟩, 
  some ⟨.other, 1, [.pointer none]⟩, 
  some ⟨.struct [(0, 6, true), (6, 1, false), (7, 1, false), (8, 1, false)], 9, [.slice none 0 0, .slice none 0 0, .slice none 0 0, .slice none 0 0, .slice none 0 0, .int .i64 0, .int .i64 0, .bool false, .slice none 0 0]⟩, 
  some ⟨.struct [(0, 6, true), (6, 1, false), (7, 1, false), (8, 1, false)], 9, [.slice none 0 0, .slice none 0 0, .slice none 0 0, .slice none 0 0, .slice none 0 0, .int .i64 0, .int .i64 0, .bool false, .slice none 0 0]⟩, 
  some ⟨.other, 1, [.nilFunc]⟩, 
  some ⟨.other, 1, [.nilFunc]⟩, 
  some ⟨.struct [(0, 1, false), (1, 1, false)], 2, [.int .i64 0, .int .i64 0]⟩, 
  some ⟨.struct [(0, 1, false), (1, 1, false)], 2, [.int .i64 0, .int .i64 0]⟩, 
  some ⟨.other, 1, [.nilFunc]⟩, 
  some ⟨.other, 1, [.nilFunc]⟩, 
  some ⟨.other, 1, [.nilFunc]⟩, 
  some ⟨.other, 1, [.pointer none]⟩, 
  some ⟨.struct [(0, 1, false), (1, 1, false), (2, 9, true), (11, 1, false)], 12, [.slice none 0 0, .int .i64 0, .int .i64 0, .slice none 0 0, .slice none 0 0, .slice none 0 0, .slice none 0 0, .slice none 0 0, .slice none 0 0, .slice none 0 0, .slice none 0 0, .int .i64 0]⟩, 
  some ⟨.struct [(0, 1, false), (1, 1, false), (2, 9, true), (11, 1, false)], 12, [.slice none 0 0, .int .i64 0, .int .i64 0, .slice none 0 0, .slice none 0 0, .slice none 0 0, .slice none 0 0, .slice none 0 0, .slice none 0 0, .slice none 0 0, .slice none 0 0, .int .i64 0]⟩, 
  some ⟨.other, 1, [.nilFunc]⟩, 
  some ⟨.slice 5 1 1, 1, [.slice none 0 0]⟩, 
  some ⟨.struct [(0, 1, false), (1, 1, false), (2, 1, false), (3, 1, false)], 4, [.string ⟨#[]⟩, .int .i64 0, .int .i64 0, .int .i64 0]⟩, 
  some ⟨.struct [(0, 1, false), (1, 1, false), (2, 1, false), (3, 1, false)], 4, [.string ⟨#[]⟩, .int .i64 0, .int .i64 0, .int .i64 0]⟩, 
  some ⟨.struct [(0, 1, false), (1, 1, false), (2, 1, false)], 3, [.int .i64 0, .int .i64 0, .int .i64 0]⟩, 
  some ⟨.struct [(0, 1, false), (1, 1, false), (2, 1, false)], 3, [.int .i64 0, .int .i64 0, .int .i64 0]⟩, 
  some ⟨.other, 1, [.nilFunc]⟩, 
  some ⟨.other, 1, [.nilFunc]⟩, 
  some ⟨.other, 1, [.nilFunc]⟩, 
  some ⟨.other, 1, [.nilFunc]⟩, 
  some ⟨.other, 1, [.pointer none]⟩, 
  some ⟨.other, 1, [.nilFunc]⟩, 
  none, 
  some ⟨.other, 1, [.nilFunc]⟩, 
  some ⟨.other, 1, [.nilFunc]⟩, 
  some ⟨.other, 1, [.nilFunc]⟩, 
  some ⟨.other, 1, [.nilFunc]⟩, 
  some ⟨.int .u64, 1, [.int .u64 0]⟩, 
  some ⟨.other, 1, [.map none]⟩, 
  some ⟨.other, 1, [.nilFunc]⟩, 
  some ⟨.other, 1, [.nilFunc]⟩, 
  some ⟨.other, 1, [.nilFunc]⟩, 
  some ⟨.other, 1, [.nilFunc]⟩, 
  some ⟨.other, 1, [.nilFunc]⟩, 
  some ⟨.other, 1, [.nilFunc]⟩, 
  some ⟨.other, 1, [.nilFunc]⟩, 
  some ⟨.other, 1, [.nilFunc]⟩, 
  some ⟨.other, 1, [.nilFunc]⟩, 
  some ⟨.other, 1, [.nilFunc]⟩, 
  some ⟨.other, 1, [.nilFunc]⟩, 
  some ⟨.other, 1, [.nilFunc]⟩, 
  some ⟨.other, 1, [.nilFunc]⟩, 
  some ⟨.other, 1, [.nilFunc]⟩, 
  some ⟨.other, 1, [.nilFunc]⟩, 
  some ⟨.other, 1, [.nilFunc]⟩, 
  some ⟨.other, 1, [.nilFunc]⟩, 
  some ⟨.other, 1, [.nilFunc]⟩, 
  some ⟨.other, 1, [.nilFunc]⟩, 
  some ⟨.other, 1, [.nilFunc]⟩, 
  some ⟨.other, 1, [.nilFunc]⟩, 
  some ⟨.other, 1, [.nilFunc]⟩, 
  some ⟨.other, 1, [.nilFunc]⟩, 
  some ⟨.other, 1, [.nilFunc]⟩, 
  some ⟨.other, 1, [.nilFunc]⟩, 
  some ⟨.other, 1, [.nilFunc]⟩, 
  some ⟨.other, 1, [.nilFunc]⟩, 
  some ⟨.other, 1, [.nilFunc]⟩, 
  some ⟨.other, 1, [.nilFunc]⟩, 
  some ⟨.other, 1, [.nilFunc]⟩, 
  some ⟨.other, 1, [.nilFunc]⟩, 
  some ⟨.other, 1, [.nilFunc]⟩, 
  some ⟨.other, 1, [.nilFunc]⟩, 
  some ⟨.other, 1, [.nilFunc]⟩, 
  some ⟨.other, 1, [.nilFunc]⟩, 
  some ⟨.other, 1, [.nilFunc]⟩, 
  some ⟨.other, 1, [.nilFunc]⟩, 
  some ⟨.other, 1, [.nilFunc]⟩, 
  some ⟨.other, 1, [.nilFunc]⟩, 
  some ⟨.other, 1, [.nilFunc]⟩, 
  some ⟨.other, 1, [.nilFunc]⟩, 
  some ⟨.other, 1, [.nilFunc]⟩, 
  some ⟨.arr 2 3 1, 2, [.int .i64 0, .int .i64 0]⟩, 
  some ⟨.slice 207 2 16, 1, [.slice none 0 0]⟩, 
  some ⟨.struct [(0, 1, false), (1, 1, false), (2, 1, false), (3, 1, false)], 4, [.int .i64 0, .int .i64 0, .int .i64 0, .int .i64 0]⟩, 
  some ⟨.struct [(0, 1, false), (1, 1, false), (2, 1, false), (3, 1, false)], 4, [.int .i64 0, .int .i64 0, .int .i64 0, .int .i64 0]⟩, 
  some ⟨.struct [(0, 1, false), (1, 1, false), (2, 1, false), (3, 1, false)], 4, [.int .i64 0, .int .i64 0, .int .i64 0, .int .i64 0]⟩, 
  some ⟨.struct [(0, 1, false), (1, 1, false), (2, 1, false), (3, 1, false)], 4, [.int .i64 0, .int .i64 0, .int .i64 0, .int .i64 0]⟩, 
  some ⟨.other, 1, [.nilFunc]⟩, 
  none, 
  some ⟨.other, 1, [.nilFunc]⟩, 
  some ⟨.other, 1, [.nilFunc]⟩, 
  none, 
  some ⟨.other, 1, [.nilFunc]⟩, 
  some ⟨.other, 1, [.nilFunc]⟩, 
  some ⟨.other, 1, [.nilFunc]⟩, 
  some ⟨.struct [(0, 1, false), (1, 1, false), (2, 1, false), (3, 1, false), (4, 1, false)], 5, [.slice none 0 0, .bool false, .nilFunc, .int .i64 0, .int .i64 0]⟩, 
  some ⟨.struct [(0, 1, false), (1, 1, false), (2, 1, false), (3, 1, false), (4, 1, false)], 5, [.slice none 0 0, .bool false, .nilFunc, .int .i64 0, .int .i64 0]⟩, 
  some ⟨.other, 1, [.nilFunc]⟩, 
  some ⟨.other, 1, [.nilFunc]⟩, 
  some ⟨.other, 1, [.nilFunc]⟩, 
  some ⟨.other, 1, [.nilFunc]⟩, 
  some ⟨.other, 1, [.nilFunc]⟩, 
  some ⟨.other, 1, [.nilFunc]⟩, 
  some ⟨.other, 1, [.nilFunc]⟩, 
  some ⟨.other, 1, [.nilFunc]⟩, 
  some ⟨.int .i64, 1, [.int .i64 0]⟩, 
  none, 
  some ⟨.other, 1, [.nilFunc]⟩, 
  some ⟨.other, 1, [.nilFunc]⟩, 
  some ⟨.other, 1, [.nilFunc]⟩, 
  some ⟨.other, 1, [.nilFunc]⟩, 
  some ⟨.other, 1, [.nilFunc]⟩, 
  some ⟨.other, 1, [.nilFunc]⟩, 
  some ⟨.int .u32, 1, [.int .u32 0]⟩, 
  some ⟨.other, 1, [.nilFunc]⟩, 
  some ⟨.int .u64, 1, [.int .u64 0]⟩, 
  some ⟨.slice 174 1 8, 1, [.slice none 0 0]⟩, 
  some ⟨.other, 1, [.nilFunc]⟩, 
  some ⟨.other, 1, [.nilFunc]⟩, 
  some ⟨.other, 1, [.nilFunc]⟩, 
  some ⟨.other, 1, [.nilFunc]⟩, 
  some ⟨.other, 1, [.nilFunc]⟩, 
  some ⟨.other, 1, [.nilFunc]⟩, 
  some ⟨.other, 1, [.nilFunc]⟩, 
  some ⟨.other, 1, [.nilFunc]⟩, 
  some ⟨.other, 1, [.nilFunc]⟩, 
  some ⟨.other, 1, [.nilFunc]⟩, 
  some ⟨.other, 1, [.nilFunc]⟩, 
  some ⟨.other, 1, [.nilFunc]⟩, 
  some ⟨.other, 1, [.nilFunc]⟩, 
  some ⟨.other, 1, [.nilFunc]⟩, 
  none, 
  some ⟨.other, 1, [.nilFunc]⟩, 
  some ⟨.other, 1, [.nilFunc]⟩, 
  some ⟨.other, 1, [.nilFunc]⟩, 
  some ⟨.other, 1, [.nilFunc]⟩, 
  some ⟨.other, 1, [.nilFunc]⟩, 
  some ⟨.other, 1, [.nilFunc]⟩, 
  some ⟨.other, 1, [.nilFunc]⟩, 
  some ⟨.other, 1, [.nilFunc]⟩, 
  some ⟨.other, 1, [.nilFunc]⟩, 
  some ⟨.other, 1, [.nilFunc]⟩, 
  some ⟨.other, 1, [.nilFunc]⟩, 
  some ⟨.other, 1, [.nilFunc]⟩, 
  some ⟨.other, 1, [.nilFunc]⟩, 
  some ⟨.other, 1, [.nilFunc]⟩, 
  some ⟨.struct [(0, 1, false), (1, 1, false)], 2, [.int .i64 0, .int .i64 0]⟩, 
  some ⟨.struct [(0, 1, false), (1, 1, false)], 2, [.int .i64 0, .int .i64 0]⟩, 
  some ⟨.other, 1, [.nilFunc]⟩, 
  some ⟨.other, 1, [.nilFunc]⟩, 
  some ⟨.other, 1, [.nilFunc]⟩, 
  some ⟨.other, 1, [.nilFunc]⟩, 
  some ⟨.other, 1, [.nilFunc]⟩, 
  some ⟨.other, 1, [.nilFunc]⟩, 
  some ⟨.other, 1, [.nilFunc]⟩, 
  some ⟨.struct [(0, 1, false), (1, 1, false), (2, 1, false)], 3, [.int .i64 0, .int .i64 0, .bool false]⟩, 
  some ⟨.struct [(0, 1, false), (1, 1, false), (2, 1, false)], 3, [.int .i64 0, .int .i64 0, .bool false]⟩, 
  some ⟨.other, 1, [.nilFunc]⟩, 
  some ⟨.other, 1, [.nilFunc]⟩, 
  some ⟨.other, 1, [.nilFunc]⟩, 
  some ⟨.other, 1, [.nilFunc]⟩, 
  some ⟨.other, 1, [.pointer none]⟩, 
  some ⟨.other, 1, [.nilFunc]⟩, 
  some ⟨.other, 1, [.nilFunc]⟩, 
  some ⟨.int .u64, 1, [.int .u64 0]⟩, 
  some ⟨.other, 1, [.nilFunc]⟩, 
  some ⟨.other, 1, [.nilFunc]⟩, 
  some ⟨.other, 1, [.nilFunc]⟩, 
  some ⟨.other, 1, [.pointer none]⟩, 
  some ⟨.other, 1, [.nilFunc]⟩, 
  some ⟨.other, 1, [.nilFunc]⟩, 
  some ⟨.other, 1, [.nilFunc]⟩, 
  some ⟨.other, 1, [.nilFunc]⟩, 
  some ⟨.other, 1, [.nilFunc]⟩, 
  some ⟨.other, 1, [.nilFunc]⟩, 
  some ⟨.other, 1, [.nilFunc]⟩, 
  some ⟨.other, 1, [.map none]⟩, 
  some ⟨.struct [(0, 1, false), (1, 1, false)], 2, [.int .i64 0, .int .i64 0]⟩, 
  some ⟨.struct [(0, 1, false), (1, 1, false)], 2, [.int .i64 0, .int .i64 0]⟩, 
  some ⟨.other, 1, [.nilFunc]⟩, 
  some ⟨.struct [(0, 1, false), (1, 1, false)], 2, [.int .i64 0, .int .i64 0]⟩, 
  some ⟨.struct [(0, 1, false), (1, 1, false)], 2, [.int .i64 0, .int .i64 0]⟩, 
  some ⟨.other, 1, [.nilFunc]⟩, 
  some ⟨.other, 1, [.nilFunc]⟩, 
  some ⟨.other, 1, [.nilFunc]⟩, 
  some ⟨.other, 1, [.nilFunc]⟩, 
  some ⟨.other, 1, [.nilFunc]⟩, 
  some ⟨.other, 1, [.nilFunc]⟩, 
  some ⟨.other, 1, [.nilFunc]⟩, 
  some ⟨.other, 1, [.nilFunc]⟩, 
  some ⟨.other, 1, [.nilFunc]⟩, 
  some ⟨.other, 1, [.nilFunc]⟩, 
  some ⟨.other, 1, [.nilFunc]⟩, 
  some ⟨.other, 1, [.nilFunc]⟩, 
  some ⟨.other, 1, [.nilFunc]⟩, 
  some ⟨.other, 1, [.nilFunc]⟩, 
  some ⟨.other, 1, [.nilFunc]⟩, 
  some ⟨.other, 1, [.pointer none]⟩, 
  none, 
  some ⟨.other, 1, [.nilFunc]⟩, 
  some ⟨.other, 1, [.map none]⟩, 
  some ⟨.other, 1, [.map none]⟩, 
  some ⟨.slice 3 1 8, 1, [.slice none 0 0]⟩, 
  some ⟨.other, 1, [.nilFunc]⟩, 
  some ⟨.other, 1, [.nilFunc]⟩, 
  some ⟨.other, 1, [.nilFunc]⟩, 
  some ⟨.other, 1, [.nilFunc]⟩, 
  some ⟨.other, 1, [.pointer none]⟩, 
  some ⟨.other, 1, [.nilFunc]⟩, 
  some ⟨.other, 1, [.nilFunc]⟩, 
  some ⟨.other, 1, [.nilFunc]⟩, 
  some ⟨.other, 1, [.nilFunc]⟩, 
  some ⟨.other, 1, [.nilFunc]⟩, 
  some ⟨.other, 1, [.nilFunc]⟩, 
  some ⟨.other, 1, [.nilFunc]⟩, 
  some ⟨.other, 1, [.nilFunc]⟩, 
  some ⟨.slice 40 1 8, 1, [.slice none 0 0]⟩, 
  some ⟨.other, 1, [.nilFunc]⟩, 
  some ⟨.other, 1, [.nilIface]⟩, 
  some ⟨.other, 1, [.nilIface]⟩, 
  some ⟨.other, 1, [.nilFunc]⟩, 
  some ⟨.other, 1, [.nilFunc]⟩, 
  some ⟨.other, 1, [.nilFunc]⟩, 
  some ⟨.other, 1, [.nilFunc]⟩, 
  some ⟨.other, 1, [.nilFunc]⟩, 
  some ⟨.other, 1, [.nilFunc]⟩, 
  some ⟨.slice 354 2 16, 1, [.slice none 0 0]⟩, 
  some ⟨.struct [(0, 1, false), (1, 1, false)], 2, [.int .i64 0, .int .i64 0]⟩, 
  some ⟨.struct [(0, 1, false), (1, 1, false)], 2, [.int .i64 0, .int .i64 0]⟩, 
  some ⟨.other, 1, [.pointer none]⟩, 
  some ⟨.other, 1, [.nilFunc]⟩, 
  some ⟨.other, 1, [.nilFunc]⟩, 
  some ⟨.struct [(0, 1, false), (1, 1, false), (2, 1, false), (3, 1, false)], 4, [.pointer none, .pointer none, .pointer none, .string ⟨#[]⟩]⟩, 
  some ⟨.struct [(0, 1, false), (1, 1, false), (2, 1, false), (3, 1, false)], 4, [.pointer none, .pointer none, .pointer none, .string ⟨#[]⟩]⟩, 
  none, 
  none, 
  none, 
  some ⟨.int .u8, 1, [.int .u8 0]⟩, 
  some ⟨.int .u8, 1, [.int .u8 0]⟩, 
  some ⟨.other, 1, [.nilFunc]⟩, 
  some ⟨.other, 1, [.pointer none]⟩, 
  some ⟨.int .i32, 1, [.int .i32 0]⟩, 
  some ⟨.int .i32, 1, [.int .i32 0]⟩, 
  some ⟨.struct [(0, 1, false), (1, 1, false), (2, 1, false), (3, 1, false), (4, 1, false), (5, 1, false), (6, 1, false), (7, 1, false), (8, 1, false), (9, 1, false), (10, 1, false)], 11, [.int .u64 0, .int .u64 0, .int .u32 0, .int .u8 0, .int .u8 0, .int .u8 0, .int .u8 0, .nilFunc, .pointer none, .int .i32 0, .int .i32 0]⟩, 
  some ⟨.struct [(0, 1, false), (1, 1, false), (2, 1, false), (3, 1, false), (4, 1, false), (5, 1, false), (6, 1, false), (7, 1, false), (8, 1, false), (9, 1, false), (10, 1, false)], 11, [.int .u64 0, .int .u64 0, .int .u32 0, .int .u8 0, .int .u8 0, .int .u8 0, .int .u8 0, .nilFunc, .pointer none, .int .i32 0, .int .i32 0]⟩, 
  none, 
  none, 
  none, 
  none, 
  none, 
  none, 
  none, 
  none, 
  none, 
  none, 
  none, 
  none, 
  none, 
  none, 
  none, 
  none, 
  none, 
  none, 
  none, 
  none, 
  none, 
  none, 
  none, 
  none, 
  none, 
  none, 
  none, 
  none, 
  none, 
  none, 
  none, 
  none, 
  none, 
  none, 
  none, 
  none, 
  none, 
  none, 
  none, 
  none, 
  none, 
  none, 
  none, 
  none, 
  none, 
  none, 
  none, 
  none, 
  none]
theorem ttok : TOk Tryz.prog tt := tok_of (by kernel_rfl)
instance : CFn Tryz.prog 3 := ⟨enters_fn Tryz.func3 (by kernel_rfl) rfl⟩
instance : CFn Tryz.prog 4 := ⟨enters_fn Tryz.func4 (by kernel_rfl) rfl⟩
instance : CFn Tryz.prog 5 := ⟨enters_fn Tryz.func5 (by kernel_rfl) rfl⟩
instance : CFn Tryz.prog 6 := ⟨enters_fn Tryz.func6 (by kernel_rfl) rfl⟩
instance : CFn Tryz.prog 7 := ⟨enters_fn Tryz.func7 (by kernel_rfl) rfl⟩
instance : CFn Tryz.prog 8 := ⟨enters_fn Tryz.func8 (by kernel_rfl) rfl⟩
instance : CFn Tryz.prog 9 := ⟨enters_fn Tryz.func9 (by kernel_rfl) rfl⟩
instance : CFn Tryz.prog 10 := ⟨enters_fn Tryz.func10 (by kernel_rfl) rfl⟩
instance : CFn Tryz.prog 11 := ⟨enters_fn Tryz.func11 (by kernel_rfl) rfl⟩
instance : CFn Tryz.prog 12 := ⟨enters_fn Tryz.func12 (by kernel_rfl) rfl⟩
instance : CFn Tryz.prog 13 := ⟨enters_fn Tryz.func13 (by kernel_rfl) rfl⟩
instance : CFn Tryz.prog 14 := ⟨enters_fn Tryz.func14 (by kernel_rfl) rfl⟩
instance : CFn Tryz.prog 15 := ⟨enters_fn Tryz.func15 (by kernel_rfl) rfl⟩
instance : CFn Tryz.prog 16 := ⟨enters_fn Tryz.func16 (by kernel_rfl) rfl⟩
instance : CFn Tryz.prog 17 := ⟨enters_fn Tryz.func17 (by kernel_rfl) rfl⟩
instance : CFn Tryz.prog 18 := ⟨enters_fn Tryz.func18 (by kernel_rfl) rfl⟩
instance : CFn Tryz.prog 19 := ⟨enters_fn Tryz.func19 (by kernel_rfl) rfl⟩
instance : CFn Tryz.prog 20 := ⟨enters_fn Tryz.func20 (by kernel_rfl) rfl⟩
instance : CFn Tryz.prog 21 := ⟨enters_fn Tryz.func21 (by kernel_rfl) rfl⟩
instance : CFn Tryz.prog 22 := ⟨enters_fn Tryz.func22 (by kernel_rfl) rfl⟩
instance : CFn Tryz.prog 23 := ⟨enters_fn Tryz.func23 (by kernel_rfl) rfl⟩
instance : CFn Tryz.prog 24 := ⟨enters_fn Tryz.func24 (by kernel_rfl) rfl⟩
instance : CFn Tryz.prog 25 := ⟨enters_fn Tryz.func25 (by kernel_rfl) rfl⟩
instance : CFn Tryz.prog 26 := ⟨enters_fn Tryz.func26 (by kernel_rfl) rfl⟩
instance : CFn Tryz.prog 27 := ⟨enters_fn Tryz.func27 (by kernel_rfl) rfl⟩
instance : CFn Tryz.prog 28 := ⟨enters_fn Tryz.func28 (by kernel_rfl) rfl⟩
instance : CFn Tryz.prog 29 := ⟨enters_fn Tryz.func29 (by kernel_rfl) rfl⟩
instance : CFn Tryz.prog 30 := ⟨enters_fn Tryz.func30 (by kernel_rfl) rfl⟩
instance : CFn Tryz.prog 31 := ⟨enters_fn Tryz.func31 (by kernel_rfl) rfl⟩
instance : CFn Tryz.prog 32 := ⟨enters_fn Tryz.func32 (by kernel_rfl) rfl⟩
instance : CFn Tryz.prog 33 := ⟨enters_fn Tryz.func33 (by kernel_rfl) rfl⟩
instance : CFn Tryz.prog 34 := ⟨enters_fn Tryz.func34 (by kernel_rfl) rfl⟩
instance : CFn Tryz.prog 35 := ⟨enters_fn Tryz.func35 (by kernel_rfl) rfl⟩
instance : CFn Tryz.prog 36 := ⟨enters_fn Tryz.func36 (by kernel_rfl) rfl⟩
instance : CFn Tryz.prog 37 := ⟨enters_fn Tryz.func37 (by kernel_rfl) rfl⟩
instance : CFn Tryz.prog 38 := ⟨enters_fn Tryz.func38 (by kernel_rfl) rfl⟩
instance : CFn Tryz.prog 39 := ⟨enters_fn Tryz.func39 (by kernel_rfl) rfl⟩
instance : CFn Tryz.prog 40 := ⟨enters_fn Tryz.func40 (by kernel_rfl) rfl⟩
instance : CFn Tryz.prog 41 := ⟨enters_fn Tryz.func41 (by kernel_rfl) rfl⟩
instance : CFn Tryz.prog 42 := ⟨enters_fn Tryz.func42 (by kernel_rfl) rfl⟩
instance : CFn Tryz.prog 43 := ⟨enters_fn Tryz.func43 (by kernel_rfl) rfl⟩
instance : CFn Tryz.prog 44 := ⟨enters_fn Tryz.func44 (by kernel_rfl) rfl⟩
instance : CFn Tryz.prog 45 := ⟨enters_fn Tryz.func45 (by kernel_rfl) rfl⟩
instance : CFn Tryz.prog 46 := ⟨enters_fn Tryz.func46 (by kernel_rfl) rfl⟩
instance : CFn Tryz.prog 47 := ⟨enters_fn Tryz.func47 (by kernel_rfl) rfl⟩
instance : CFn Tryz.prog 48 := ⟨enters_fn Tryz.func48 (by kernel_rfl) rfl⟩
instance : CFn Tryz.prog 49 := ⟨enters_fn Tryz.func49 (by kernel_rfl) rfl⟩
instance : CFn Tryz.prog 50 := ⟨enters_fn Tryz.func50 (by kernel_rfl) rfl⟩
instance : CFn Tryz.prog 51 := ⟨enters_fn Tryz.func51 (by kernel_rfl) rfl⟩
instance : CFn Tryz.prog 52 := ⟨enters_fn Tryz.func52 (by kernel_rfl) rfl⟩
instance : CFn Tryz.prog 53 := ⟨enters_fn Tryz.func53 (by kernel_rfl) rfl⟩
instance : CFn Tryz.prog 54 := ⟨enters_fn Tryz.func54 (by kernel_rfl) rfl⟩
instance : CFn Tryz.prog 55 := ⟨enters_fn Tryz.func55 (by kernel_rfl) rfl⟩
instance : CFn Tryz.prog 56 := ⟨enters_fn Tryz.func56 (by kernel_rfl) rfl⟩
instance : CFn Tryz.prog 57 := ⟨enters_fn Tryz.func57 (by kernel_rfl) rfl⟩
instance : CFn Tryz.prog 58 := ⟨enters_fn Tryz.func58 (by kernel_rfl) rfl⟩
instance : CFn Tryz.prog 59 := ⟨enters_fn Tryz.func59 (by kernel_rfl) rfl⟩
instance : CFn Tryz.prog 60 := ⟨enters_fn Tryz.func60 (by kernel_rfl) rfl⟩
instance : CFn Tryz.prog 61 := ⟨enters_fn Tryz.func61 (by kernel_rfl) rfl⟩
instance : CFn Tryz.prog 62 := ⟨enters_fn Tryz.func62 (by kernel_rfl) rfl⟩
instance : CFn Tryz.prog 63 := ⟨enters_fn Tryz.func63 (by kernel_rfl) rfl⟩
instance : CFn Tryz.prog 64 := ⟨enters_fn Tryz.func64 (by kernel_rfl) rfl⟩
instance : CFn Tryz.prog 65 := ⟨enters_fn Tryz.func65 (by kernel_rfl) rfl⟩
instance : CFn Tryz.prog 66 := ⟨enters_fn Tryz.func66 (by kernel_rfl) rfl⟩
instance : CFn Tryz.prog 67 := ⟨enters_fn Tryz.func67 (by kernel_rfl) rfl⟩
instance : CFn Tryz.prog 68 := ⟨enters_fn Tryz.func68 (by kernel_rfl) rfl⟩
instance : CFn Tryz.prog 69 := ⟨enters_fn Tryz.func69 (by kernel_rfl) rfl⟩
instance : CFn Tryz.prog 70 := ⟨enters_fn Tryz.func70 (by kernel_rfl) rfl⟩
instance : CFn Tryz.prog 71 := ⟨enters_fn Tryz.func71 (by kernel_rfl) rfl⟩
instance : CFn Tryz.prog 72 := ⟨enters_fn Tryz.func72 (by kernel_rfl) rfl⟩
instance : CFn Tryz.prog 73 := ⟨enters_fn Tryz.func73 (by kernel_rfl) rfl⟩
instance : CFn Tryz.prog 74 := ⟨enters_fn Tryz.func74 (by kernel_rfl) rfl⟩
instance : CFn Tryz.prog 75 := ⟨enters_fn Tryz.func75 (by kernel_rfl) rfl⟩
instance : CFn Tryz.prog 76 := ⟨enters_fn Tryz.func76 (by kernel_rfl) rfl⟩
instance : CFn Tryz.prog 77 := ⟨enters_fn Tryz.func77 (by kernel_rfl) rfl⟩
instance : CFn Tryz.prog 78 := ⟨enters_fn Tryz.func78 (by kernel_rfl) rfl⟩
instance : CFn Tryz.prog 79 := ⟨enters_fn Tryz.func79 (by kernel_rfl) rfl⟩
instance : CFn Tryz.prog 80 := ⟨enters_fn Tryz.func80 (by kernel_rfl) rfl⟩
instance : CFn Tryz.prog 81 := ⟨enters_fn Tryz.func81 (by kernel_rfl) rfl⟩
instance : CFn Tryz.prog 82 := ⟨enters_fn Tryz.func82 (by kernel_rfl) rfl⟩
instance : CFn Tryz.prog 83 := ⟨enters_fn Tryz.func83 (by kernel_rfl) rfl⟩
instance : CFn Tryz.prog 84 := ⟨enters_fn Tryz.func84 (by kernel_rfl) rfl⟩
instance : CFn Tryz.prog 85 := ⟨enters_fn Tryz.func85 (by kernel_rfl) rfl⟩
instance : CFn Tryz.prog 86 := ⟨enters_fn Tryz.func86 (by kernel_rfl) rfl⟩
instance : CFn Tryz.prog 87 := ⟨enters_fn Tryz.func87 (by kernel_rfl) rfl⟩
instance : CFn Tryz.prog 88 := ⟨enters_fn Tryz.func88 (by kernel_rfl) rfl⟩
instance : CFn Tryz.prog 89 := ⟨enters_fn Tryz.func89 (by kernel_rfl) rfl⟩
instance : CFn Tryz.prog 90 := ⟨enters_fn Tryz.func90 (by kernel_rfl) rfl⟩
instance : CFn Tryz.prog 91 := ⟨enters_fn Tryz.func91 (by kernel_rfl) rfl⟩
instance : CFn Tryz.prog 92 := ⟨enters_fn Tryz.func92 (by kernel_rfl) rfl⟩
instance : CFn Tryz.prog 93 := ⟨enters_fn Tryz.func93 (by kernel_rfl) rfl⟩
instance : CFn Tryz.prog 94 := ⟨enters_fn Tryz.func94 (by kernel_rfl) rfl⟩
instance : CFn Tryz.prog 95 := ⟨enters_fn Tryz.func95 (by kernel_rfl) rfl⟩
instance : CFn Tryz.prog 96 := ⟨enters_fn Tryz.func96 (by kernel_rfl) rfl⟩
instance : CFn Tryz.prog 97 := ⟨enters_fn Tryz.func97 (by kernel_rfl) rfl⟩
instance : CFn Tryz.prog 98 := ⟨enters_fn Tryz.func98 (by kernel_rfl) rfl⟩
instance : CFn Tryz.prog 99 := ⟨enters_fn Tryz.func99 (by kernel_rfl) rfl⟩
instance : CFn Tryz.prog 100 := ⟨enters_fn Tryz.func100 (by kernel_rfl) rfl⟩
instance : CFn Tryz.prog 101 := ⟨enters_fn Tryz.func101 (by kernel_rfl) rfl⟩
instance : CFn Tryz.prog 102 := ⟨enters_fn Tryz.func102 (by kernel_rfl) rfl⟩
instance : CFn Tryz.prog 103 := ⟨enters_fn Tryz.func103 (by kernel_rfl) rfl⟩
instance : CFn Tryz.prog 104 := ⟨enters_fn Tryz.func104 (by kernel_rfl) rfl⟩
instance : CFn Tryz.prog 105 := ⟨enters_fn Tryz.func105 (by kernel_rfl) rfl⟩
instance : CFn Tryz.prog 106 := ⟨enters_fn Tryz.func106 (by kernel_rfl) rfl⟩
instance : CFn Tryz.prog 107 := ⟨enters_fn Tryz.func107 (by kernel_rfl) rfl⟩
instance : CFn Tryz.prog 108 := ⟨enters_fn Tryz.func108 (by kernel_rfl) rfl⟩
instance : CFn Tryz.prog 109 := ⟨enters_fn Tryz.func109 (by kernel_rfl) rfl⟩
instance : CFn Tryz.prog 110 := ⟨enters_fn Tryz.func110 (by kernel_rfl) rfl⟩
instance : CFn Tryz.prog 111 := ⟨enters_fn Tryz.func111 (by kernel_rfl) rfl⟩
instance : CFn Tryz.prog 112 := ⟨enters_fn Tryz.func112 (by kernel_rfl) rfl⟩
instance : CFn Tryz.prog 113 := ⟨enters_fn Tryz.func113 (by kernel_rfl) rfl⟩
instance : CFn Tryz.prog 114 := ⟨enters_fn Tryz.func114 (by kernel_rfl) rfl⟩
instance : CFn Tryz.prog 115 := ⟨enters_fn Tryz.func115 (by kernel_rfl) rfl⟩
instance : CFn Tryz.prog 116 := ⟨enters_fn Tryz.func116 (by kernel_rfl) rfl⟩
instance : CFn Tryz.prog 117 := ⟨enters_fn Tryz.func117 (by kernel_rfl) rfl⟩
instance : CFn Tryz.prog 118 := ⟨enters_fn Tryz.func118 (by kernel_rfl) rfl⟩
instance : CFn Tryz.prog 119 := ⟨enters_fn Tryz.func119 (by kernel_rfl) rfl⟩
instance : CFn Tryz.prog 120 := ⟨enters_fn Tryz.func120 (by kernel_rfl) rfl⟩
instance : CFn Tryz.prog 121 := ⟨enters_fn Tryz.func121 (by kernel_rfl) rfl⟩
instance : CFn Tryz.prog 122 := ⟨enters_fn Tryz.func122 (by kernel_rfl) rfl⟩
instance : CFn Tryz.prog 123 := ⟨enters_fn Tryz.func123 (by kernel_rfl) rfl⟩
instance : CFn Tryz.prog 124 := ⟨enters_fn Tryz.func124 (by kernel_rfl) rfl⟩
instance : CFn Tryz.prog 125 := ⟨enters_fn Tryz.func125 (by kernel_rfl) rfl⟩
instance : CFn Tryz.prog 126 := ⟨enters_fn Tryz.func126 (by kernel_rfl) rfl⟩
instance : CFn Tryz.prog 127 := ⟨enters_fn Tryz.func127 (by kernel_rfl) rfl⟩
instance : CFn Tryz.prog 128 := ⟨enters_fn Tryz.func128 (by kernel_rfl) rfl⟩
instance : CFn Tryz.prog 129 := ⟨enters_fn Tryz.func129 (by kernel_rfl) rfl⟩
instance : CFn Tryz.prog 130 := ⟨enters_fn Tryz.func130 (by kernel_rfl) rfl⟩
instance : CFn Tryz.prog 131 := ⟨enters_fn Tryz.func131 (by kernel_rfl) rfl⟩
instance : CFn Tryz.prog 132 := ⟨enters_fn Tryz.func132 (by kernel_rfl) rfl⟩
instance : CFn Tryz.prog 133 := ⟨enters_fn Tryz.func133 (by kernel_rfl) rfl⟩
instance : CFn Tryz.prog 134 := ⟨enters_fn Tryz.func134 (by kernel_rfl) rfl⟩
instance : CFn Tryz.prog 135 := ⟨enters_fn Tryz.func135 (by kernel_rfl) rfl⟩
instance : CFn Tryz.prog 136 := ⟨enters_fn Tryz.func136 (by kernel_rfl) rfl⟩
instance : CFn Tryz.prog 137 := ⟨enters_fn Tryz.func137 (by kernel_rfl) rfl⟩
instance : CFn Tryz.prog 138 := ⟨enters_fn Tryz.func138 (by kernel_rfl) rfl⟩
instance : CFn Tryz.prog 139 := ⟨enters_fn Tryz.func139 (by kernel_rfl) rfl⟩
instance : CFn Tryz.prog 140 := ⟨enters_fn Tryz.func140 (by kernel_rfl) rfl⟩
instance : CFn Tryz.prog 141 := ⟨enters_fn Tryz.func141 (by kernel_rfl) rfl⟩
instance : CFn Tryz.prog 142 := ⟨enters_fn Tryz.func142 (by kernel_rfl) rfl⟩
instance : CFn Tryz.prog 143 := ⟨enters_fn Tryz.func143 (by kernel_rfl) rfl⟩
instance : CFn Tryz.prog 144 := ⟨enters_fn Tryz.func144 (by kernel_rfl) rfl⟩
instance : CFn Tryz.prog 145 := ⟨enters_fn Tryz.func145 (by kernel_rfl) rfl⟩
instance : CFn Tryz.prog 146 := ⟨enters_fn Tryz.func146 (by kernel_rfl) rfl⟩
instance : CFn Tryz.prog 147 := ⟨enters_fn Tryz.func147 (by kernel_rfl) rfl⟩
instance : CFn Tryz.prog 148 := ⟨enters_fn Tryz.func148 (by kernel_rfl) rfl⟩
instance : CFn Tryz.prog 149 := ⟨enters_fn Tryz.func149 (by kernel_rfl) rfl⟩
instance : CFn Tryz.prog 150 := ⟨enters_fn Tryz.func150 (by kernel_rfl) rfl⟩
instance : CFn Tryz.prog 151 := ⟨enters_fn Tryz.func151 (by kernel_rfl) rfl⟩
instance : CFn Tryz.prog 152 := ⟨enters_fn Tryz.func152 (by kernel_rfl) rfl⟩
instance : CFn Tryz.prog 153 := ⟨enters_fn Tryz.func153 (by kernel_rfl) rfl⟩
instance : CFn Tryz.prog 154 := ⟨enters_fn Tryz.func154 (by kernel_rfl) rfl⟩
instance : CFn Tryz.prog 155 := ⟨enters_fn Tryz.func155 (by kernel_rfl) rfl⟩
instance : CFn Tryz.prog 156 := ⟨enters_fn Tryz.func156 (by kernel_rfl) rfl⟩
instance : CFn Tryz.prog 157 := ⟨enters_fn Tryz.func157 (by kernel_rfl) rfl⟩
instance : CFn Tryz.prog 158 := ⟨enters_fn Tryz.func158 (by kernel_rfl) rfl⟩
instance : CFn Tryz.prog 159 := ⟨enters_fn Tryz.func159 (by kernel_rfl) rfl⟩
instance : CFn Tryz.prog 160 := ⟨enters_fn Tryz.func160 (by kernel_rfl) rfl⟩
instance : CFn Tryz.prog 161 := ⟨enters_fn Tryz.func161 (by kernel_rfl) rfl⟩
instance : CFn Tryz.prog 162 := ⟨enters_fn Tryz.func162 (by kernel_rfl) rfl⟩
instance : CFn Tryz.prog 163 := ⟨enters_fn Tryz.func163 (by kernel_rfl) rfl⟩
instance : CFn Tryz.prog 164 := ⟨enters_fn Tryz.func164 (by kernel_rfl) rfl⟩
instance : CFn Tryz.prog 165 := ⟨enters_fn Tryz.func165 (by kernel_rfl) rfl⟩
instance : CFn Tryz.prog 166 := ⟨enters_fn Tryz.func166 (by kernel_rfl) rfl⟩
instance : CFn Tryz.prog 167 := ⟨enters_fn Tryz.func167 (by kernel_rfl) rfl⟩
instance : CFn Tryz.prog 168 := ⟨enters_fn Tryz.func168 (by kernel_rfl) rfl⟩
instance : CFn Tryz.prog 169 := ⟨enters_fn Tryz.func169 (by kernel_rfl) rfl⟩
instance : CFn Tryz.prog 170 := ⟨enters_fn Tryz.func170 (by kernel_rfl) rfl⟩
instance : CFn Tryz.prog 171 := ⟨enters_fn Tryz.func171 (by kernel_rfl) rfl⟩
instance : CFn Tryz.prog 172 := ⟨enters_fn Tryz.func172 (by kernel_rfl) rfl⟩
instance : CFn Tryz.prog 173 := ⟨enters_fn Tryz.func173 (by kernel_rfl) rfl⟩
instance : CFn Tryz.prog 174 := ⟨enters_fn Tryz.func174 (by kernel_rfl) rfl⟩
instance : CFn Tryz.prog 175 := ⟨enters_fn Tryz.func175 (by kernel_rfl) rfl⟩
instance : CFn Tryz.prog 176 := ⟨enters_fn Tryz.func176 (by kernel_rfl) rfl⟩
instance : CFn Tryz.prog 177 := ⟨enters_fn Tryz.func177 (by kernel_rfl) rfl⟩
instance : CFn Tryz.prog 178 := ⟨enters_fn Tryz.func178 (by kernel_rfl) rfl⟩
instance : CFn Tryz.prog 179 := ⟨enters_fn Tryz.func179 (by kernel_rfl) rfl⟩
instance : CFn Tryz.prog 180 := ⟨enters_fn Tryz.func180 (by kernel_rfl) rfl⟩
instance : CFn Tryz.prog 181 := ⟨enters_fn Tryz.func181 (by kernel_rfl) rfl⟩
instance : CFn Tryz.prog 182 := ⟨enters_fn Tryz.func182 (by kernel_rfl) rfl⟩
instance : CFn Tryz.prog 183 := ⟨enters_fn Tryz.func183 (by kernel_rfl) rfl⟩
instance : CFn Tryz.prog 184 := ⟨enters_fn Tryz.func184 (by kernel_rfl) rfl⟩
instance : CFn Tryz.prog 185 := ⟨enters_fn Tryz.func185 (by kernel_rfl) rfl⟩
instance : CFn Tryz.prog 186 := ⟨enters_fn Tryz.func186 (by kernel_rfl) rfl⟩
instance : CFn Tryz.prog 187 := ⟨enters_fn Tryz.func187 (by kernel_rfl) rfl⟩
instance : CFn Tryz.prog 188 := ⟨enters_fn Tryz.func188 (by kernel_rfl) rfl⟩
instance : CFn Tryz.prog 189 := ⟨enters_fn Tryz.func189 (by kernel_rfl) rfl⟩
instance : CFn Tryz.prog 190 := ⟨enters_fn Tryz.func190 (by kernel_rfl) rfl⟩
instance : CFn Tryz.prog 191 := ⟨enters_fn Tryz.func191 (by kernel_rfl) rfl⟩
instance : CFn Tryz.prog 192 := ⟨enters_fn Tryz.func192 (by kernel_rfl) rfl⟩
instance : CFn Tryz.prog 193 := ⟨enters_fn Tryz.func193 (by kernel_rfl) rfl⟩
instance : CFn Tryz.prog 194 := ⟨enters_fn Tryz.func194 (by kernel_rfl) rfl⟩
instance : CFn Tryz.prog 195 := ⟨enters_fn Tryz.func195 (by kernel_rfl) rfl⟩
instance : CFn Tryz.prog 196 := ⟨enters_fn Tryz.func196 (by kernel_rfl) rfl⟩
instance : CFn Tryz.prog 197 := ⟨enters_fn Tryz.func197 (by kernel_rfl) rfl⟩
instance : CFn Tryz.prog 198 := ⟨enters_fn Tryz.func198 (by kernel_rfl) rfl⟩
instance : CFn Tryz.prog 199 := ⟨enters_fn Tryz.func199 (by kernel_rfl) rfl⟩
instance : CFn Tryz.prog 200 := ⟨enters_fn Tryz.func200 (by kernel_rfl) rfl⟩
instance : CFn Tryz.prog 201 := ⟨enters_fn Tryz.func201 (by kernel_rfl) rfl⟩
instance : CFn Tryz.prog 202 := ⟨enters_fn Tryz.func202 (by kernel_rfl) rfl⟩
instance : CFn Tryz.prog 203 := ⟨enters_fn Tryz.func203 (by kernel_rfl) rfl⟩
instance : CFn Tryz.prog 204 := ⟨enters_fn Tryz.func204 (by kernel_rfl) rfl⟩
instance : CFn Tryz.prog 205 := ⟨enters_fn Tryz.func205 (by kernel_rfl) rfl⟩
instance : CFn Tryz.prog 206 := ⟨enters_fn Tryz.func206 (by kernel_rfl) rfl⟩
instance : CFn Tryz.prog 207 := ⟨enters_fn Tryz.func207 (by kernel_rfl) rfl⟩
instance : CFn Tryz.prog 208 := ⟨enters_fn Tryz.func208 (by kernel_rfl) rfl⟩
instance : CFn Tryz.prog 209 := ⟨enters_fn Tryz.func209 (by kernel_rfl) rfl⟩
instance : CFn Tryz.prog 210 := ⟨enters_fn Tryz.func210 (by kernel_rfl) rfl⟩
instance : CFn Tryz.prog 211 := ⟨enters_fn Tryz.func211 (by kernel_rfl) rfl⟩
instance : CFn Tryz.prog 212 := ⟨enters_fn Tryz.func212 (by kernel_rfl) rfl⟩
instance : CFn Tryz.prog 213 := ⟨enters_fn Tryz.func213 (by kernel_rfl) rfl⟩
instance : CFn Tryz.prog 214 := ⟨enters_fn Tryz.func214 (by kernel_rfl) rfl⟩
instance : CFn Tryz.prog 215 := ⟨enters_fn Tryz.func215 (by kernel_rfl) rfl⟩
instance : CFn Tryz.prog 216 := ⟨enters_fn Tryz.func216 (by kernel_rfl) rfl⟩
instance : CFn Tryz.prog 217 := ⟨enters_fn Tryz.func217 (by kernel_rfl) rfl⟩
instance : CFn Tryz.prog 218 := ⟨enters_fn Tryz.func218 (by kernel_rfl) rfl⟩
instance : CFn Tryz.prog 219 := ⟨enters_fn Tryz.func219 (by kernel_rfl) rfl⟩
instance : CFn Tryz.prog 220 := ⟨enters_fn Tryz.func220 (by kernel_rfl) rfl⟩
instance : CFn Tryz.prog 221 := ⟨enters_fn Tryz.func221 (by kernel_rfl) rfl⟩
instance : CFn Tryz.prog 222 := ⟨enters_fn Tryz.func222 (by kernel_rfl) rfl⟩
instance : CFn Tryz.prog 223 := ⟨enters_fn Tryz.func223 (by kernel_rfl) rfl⟩
instance : CFn Tryz.prog 224 := ⟨enters_fn Tryz.func224 (by kernel_rfl) rfl⟩
instance : CFn Tryz.prog 225 := ⟨enters_fn Tryz.func225 (by kernel_rfl) rfl⟩
instance : CFn Tryz.prog 226 := ⟨enters_fn Tryz.func226 (by kernel_rfl) rfl⟩
instance : CFn Tryz.prog 227 := ⟨enters_fn Tryz.func227 (by kernel_rfl) rfl⟩
instance : CFn Tryz.prog 228 := ⟨enters_fn Tryz.func228 (by kernel_rfl) rfl⟩
instance : CFn Tryz.prog 229 := ⟨enters_fn Tryz.func229 (by kernel_rfl) rfl⟩
instance : CFn Tryz.prog 230 := ⟨enters_fn Tryz.func230 (by kernel_rfl) rfl⟩
instance : CFn Tryz.prog 231 := ⟨enters_fn Tryz.func231 (by kernel_rfl) rfl⟩
instance : CFn Tryz.prog 232 := ⟨enters_fn Tryz.func232 (by kernel_rfl) rfl⟩
instance : CFn Tryz.prog 233 := ⟨enters_fn Tryz.func233 (by kernel_rfl) rfl⟩
instance : CFn Tryz.prog 234 := ⟨enters_fn Tryz.func234 (by kernel_rfl) rfl⟩
instance : CFn Tryz.prog 235 := ⟨enters_fn Tryz.func235 (by kernel_rfl) rfl⟩
instance : CFn Tryz.prog 236 := ⟨enters_fn Tryz.func236 (by kernel_rfl) rfl⟩
instance : CFn Tryz.prog 237 := ⟨enters_fn Tryz.func237 (by kernel_rfl) rfl⟩
instance : CFn Tryz.prog 238 := ⟨enters_fn Tryz.func238 (by kernel_rfl) rfl⟩
instance : CFn Tryz.prog 239 := ⟨enters_fn Tryz.func239 (by kernel_rfl) rfl⟩
instance : CFn Tryz.prog 240 := ⟨enters_fn Tryz.func240 (by kernel_rfl) rfl⟩
instance : CFn Tryz.prog 241 := ⟨enters_fn Tryz.func241 (by kernel_rfl) rfl⟩
instance : CFn Tryz.prog 242 := ⟨enters_fn Tryz.func242 (by kernel_rfl) rfl⟩
instance : CFn Tryz.prog 243 := ⟨enters_fn Tryz.func243 (by kernel_rfl) rfl⟩
instance : CFn Tryz.prog 244 := ⟨enters_fn Tryz.func244 (by kernel_rfl) rfl⟩
instance : CFn Tryz.prog 245 := ⟨enters_fn Tryz.func245 (by kernel_rfl) rfl⟩
instance : CFn Tryz.prog 246 := ⟨enters_fn Tryz.func246 (by kernel_rfl) rfl⟩
instance : CFn Tryz.prog 247 := ⟨enters_fn Tryz.func247 (by kernel_rfl) rfl⟩
instance : CFn Tryz.prog 248 := ⟨enters_fn Tryz.func248 (by kernel_rfl) rfl⟩
instance : CFn Tryz.prog 249 := ⟨enters_fn Tryz.func249 (by kernel_rfl) rfl⟩
instance : CFn Tryz.prog 250 := ⟨enters_fn Tryz.func250 (by kernel_rfl) rfl⟩
instance : CFn Tryz.prog 251 := ⟨enters_fn Tryz.func251 (by kernel_rfl) rfl⟩
instance : CFn Tryz.prog 252 := ⟨enters_fn Tryz.func252 (by kernel_rfl) rfl⟩
instance : CFn Tryz.prog 253 := ⟨enters_fn Tryz.func253 (by kernel_rfl) rfl⟩
instance : CFn Tryz.prog 254 := ⟨enters_fn Tryz.func254 (by kernel_rfl) rfl⟩
instance : CFn Tryz.prog 255 := ⟨enters_fn Tryz.func255 (by kernel_rfl) rfl⟩
instance : CFn Tryz.prog 256 := ⟨enters_fn Tryz.func256 (by kernel_rfl) rfl⟩
instance : CFn Tryz.prog 257 := ⟨enters_fn Tryz.func257 (by kernel_rfl) rfl⟩
instance : CFn Tryz.prog 258 := ⟨enters_fn Tryz.func258 (by kernel_rfl) rfl⟩
instance : CFn Tryz.prog 259 := ⟨enters_fn Tryz.func259 (by kernel_rfl) rfl⟩
instance : CFn Tryz.prog 260 := ⟨enters_fn Tryz.func260 (by kernel_rfl) rfl⟩
instance : CFn Tryz.prog 261 := ⟨enters_fn Tryz.func261 (by kernel_rfl) rfl⟩
instance : CFn Tryz.prog 262 := ⟨enters_fn Tryz.func262 (by kernel_rfl) rfl⟩
instance : CFn Tryz.prog 264 := ⟨enters_fn Tryz.func264 (by kernel_rfl) rfl⟩
instance : CFn Tryz.prog 265 := ⟨enters_fn Tryz.func265 (by kernel_rfl) rfl⟩
instance : CFn Tryz.prog 266 := ⟨enters_fn Tryz.func266 (by kernel_rfl) rfl⟩
instance : CFn Tryz.prog 267 := ⟨enters_fn Tryz.func267 (by kernel_rfl) rfl⟩
instance : CFn Tryz.prog 268 := ⟨enters_fn Tryz.func268 (by kernel_rfl) rfl⟩
instance : CFn Tryz.prog 269 := ⟨enters_fn Tryz.func269 (by kernel_rfl) rfl⟩
instance : CFn Tryz.prog 270 := ⟨enters_fn Tryz.func270 (by kernel_rfl) rfl⟩
instance : CFn Tryz.prog 271 := ⟨enters_fn Tryz.func271 (by kernel_rfl) rfl⟩
instance : CFn Tryz.prog 272 := ⟨enters_fn Tryz.func272 (by kernel_rfl) rfl⟩
instance : CFn Tryz.prog 273 := ⟨enters_fn Tryz.func273 (by kernel_rfl) rfl⟩
instance : CFn Tryz.prog 274 := ⟨enters_fn Tryz.func274 (by kernel_rfl) rfl⟩
instance : CFn Tryz.prog 275 := ⟨enters_fn Tryz.func275 (by kernel_rfl) rfl⟩
instance : CFn Tryz.prog 276 := ⟨enters_fn Tryz.func276 (by kernel_rfl) rfl⟩
instance : CFn Tryz.prog 277 := ⟨enters_fn Tryz.func277 (by kernel_rfl) rfl⟩
instance : CFn Tryz.prog 278 := ⟨enters_fn Tryz.func278 (by kernel_rfl) rfl⟩
instance : CFn Tryz.prog 279 := ⟨enters_fn Tryz.func279 (by kernel_rfl) rfl⟩
instance : CFn Tryz.prog 280 := ⟨enters_fn Tryz.func280 (by kernel_rfl) rfl⟩
instance : CFn Tryz.prog 281 := ⟨enters_fn Tryz.func281 (by kernel_rfl) rfl⟩
instance : CFn Tryz.prog 282 := ⟨enters_fn Tryz.func282 (by kernel_rfl) rfl⟩
instance : CFn Tryz.prog 283 := ⟨enters_fn Tryz.func283 (by kernel_rfl) rfl⟩
instance : CFn Tryz.prog 284 := ⟨enters_fn Tryz.func284 (by kernel_rfl) rfl⟩
instance : CFn Tryz.prog 285 := ⟨enters_fn Tryz.func285 (by kernel_rfl) rfl⟩
instance : CFn Tryz.prog 286 := ⟨enters_fn Tryz.func286 (by kernel_rfl) rfl⟩
end Go.Proofs.YtpbinloeemebkaaGreat

namespace Go.Proofs.YtpbinloeemebkaaGreat
open Go.RowKit
section
variable {P : Program} {r : Option Nat} {ops : Array Oper} {Q : Exit → Act → World → Prop} {nt : Nat} {D : List Deferred} {fr : AFr} {B : Bs} {L : AL} {rest : List Oper} {cd : Code} {φ : Prop}
theorem at_get (hφ : ∀ σ a w, AAg σ nt D fr a → ASt B σ L w → φ) (h : φ → AT P r cd Q nt D fr B L) : AT P r cd Q nt D fr B L := fun σ a w ha hw => h (hφ σ a w ha hw) σ a w ha hw
theorem atl_get (hφ : ∀ σ a w, AAg σ nt D fr a → ASt B σ L w → φ) (h : φ → ATL P r ops Q nt D rest fr B L) : ATL P r ops Q nt D rest fr B L := fun σ a w ha hw => h (hφ σ a w ha hw) σ a w ha hw
theorem imm_le {σ : Mem} {u : AV} {v : Value} {s : Nat} {l : List (List AV)} (h : VR σ u v) (hu : immO u = some (s, l)) : l.length ≤ 9223372036854775807 ∧ ∀ e ∈ l, e.length = s := by
  have h1 := h.im
  rw [immO_spec hu] at h1
  obtain ⟨_, _, _, h2, h3, h4, _⟩ := h1.imm_inv
  unfold maxLen at h3
  exact ⟨by omega, h4⟩
/-- a row is not too long -/
theorem at_len (t : Nat) {u : AV} {s : Nat} {l : List (List AV)} (hl : alook fr t = some u) (hu : immO u = some (s, l)) (h : l.length ≤ 9223372036854775807 → AT P r cd Q nt D fr B L) : AT P r cd Q nt D fr B L :=
  at_get (fun σ a w ha _ => (imm_le (ha.look t u hl) hu).1) h
end
section
variable {P : Program} {nt : Nat} {fr : AFr} {B : Bs} {L : AL}
/-- a row that is told back is only read -/
theorem ax_ret1I {fn : Func} {Post : AV → AL → Prop} {t : Tmp} {c : AV} {s : Nat} {l : List (List AV)} (hr : fn.results = #[.tmp t]) (hv : alook fr t = some c) (hi : immO c = some (s, l)) (h : Post (.imm s l) L) : AX P .ret (bodyPost P fn (ARet B Post)) nt [] fr B L :=
  fun σ a w ha hw => ⟨ha.defers, _, results_tmp hr _ _ _, _, σ, .imm s l, L, rfl, by rw [← immO_spec hi]; exact (ha.look t c hv).im, hw, h⟩
end
section
variable {P : Program} {r : Option Nat} {ops : Array Oper} {Q : Exit → Act → World → Prop} {nt : Nat} {D : List Deferred} {fr : AFr} {B : Bs} {L : AL} {rest : List Oper} {d : Nat} {ty : TypeId} {pos : String} {af : Array Edge}
/-- a function that makes a row, which its caller may append to -/
def AVec (P : Program) (f : FuncId) (args : List AV) (e s : Nat) (l : List (List AV)) : Prop := AC P f args [] fun c L => ∃ k, c = .vec k s l ∧ L = _root_.Go.Proofs.YtpbinloeemebkaaGreat.tok k e s l.length
theorem AVec.det {f : FuncId} {args : List AV} {e s : Nat} {l : List (List AV)} (h : AVec P f args e s l) : ADet P f args (.imm s l) := fun σ w vs hv hs => (h σ w vs hv hs).mono fun _ _ ⟨v, τ, c, L', h1, h2, h3, k, h4, h5⟩ => ⟨v, τ, .imm s l, L', h1, by subst h4; exact h2.im, h3, rfl⟩
theorem n_callV {f : FuncId} {args : Array Operand} {ts : Array TypeId} {cs ds : List AV} {e s : Nat} {l : List (List AV)} [CFn P f] (hc : AVec P f ds e s l) (hv : aevs fr args.toList = some cs) (hi : imsF cs = some ds) (hd : Nat.ble nt d = false) (h : ∀ k, ATL P r ops Q nt D rest ((d, .vec k s l) :: fr) B (_root_.Go.Proofs.YtpbinloeemebkaaGreat.tok k e s l.length ++ L)) :
    ATL P r ops Q nt D (⟨some d, .call ⟨.value (.func f), args, ts⟩, ty, pos, af, none⟩ :: rest) fr B L := by
  have hc' := hc
  rw [← imsF_eq hi] at hc'
  refine atl_op hd rfl (ao_call [] L hv (fun σ vs h => h.im) (List.Perm.refl _) hc') fun c L' hh => ?_
  obtain ⟨L1, ⟨k, h1, h2⟩, h3⟩ := hh
  subst h1; subst h2; subst h3
  exact h k
end
def ints (l : List Int) : List (List AV) := l.map fun z => [.sc (.int .i64 z)]
theorem ints_len (l : List Int) : (ints l).length = l.length := by simp [ints]
theorem ints_get {l : List Int} {i : Nat} {z : Int} (h : l[i]? = some z) : (ints l)[i]? = some [.sc (.int .i64 z)] := by simp [ints, h]
end Go.Proofs.YtpbinloeemebkaaGreat
