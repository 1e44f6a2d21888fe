/-
  The table of the types of the seat's program, and the functions that are entered, written by a program (wip/typesA.py).
-/
import Derived.Test.YtpbinloeemebkaaGreatM04
import Derived.Test.YtpbinloeemebkaaGreatProg
import Derived.KernelRfl
namespace Go.Proofs.YtpbinloeemebkaaGreat
open Go.RowKit
theorem enters_fn {P : Program} {f : FuncId} {fn : Func} {c : Code} (hf : P.funcs[f]? = some fn) (hname : (fn.name == "runtime.NumGoroutine") = false) (hb : fn.body = some c) : ∀ args w, (callFunc f args).run P w = .ok (.enter f args) w := by
  intro args w
  have hne : ¬ fn.name = "runtime.NumGoroutine" := by simpa using hname
  simp [callFunc, hf, hne, hb]
theorem mixed : Tryz.prog.follows .mixedOrders = true := by kernel_rfl
def tt : TT := [none, 
  some ⟨.other, 1, [.nilFunc]⟩, 
  some ⟨.int .i64, 1, [.int .i64 0]⟩, 
  some ⟨.int .i64, 1, [.int .i64 0]⟩, 
  some ⟨.bool, 1, [.bool false]⟩, 
  some ⟨.int .u8, 1, [.int .u8 0]⟩, 
  some ⟨.int .u8, 1, [.int .u8 0]⟩, 
  some ⟨.struct [(0, 1, false), (1, 1, false), (2, 1, false), (3, 1, false)], 4, [.int .i64 0, .int .i64 0, .bool false, .int .u8 0]⟩, 
  some ⟨.struct [(0, 1, false), (1, 1, false), (2, 1, false), (3, 1, false)], 4, [.int .i64 0, .int .i64 0, .bool false, .int .u8 0]⟩, 
  some ⟨.str, 1, [.string ⟨#[]⟩]⟩, 
  some ⟨.str, 1, [.string ⟨#[]⟩]⟩, 
  some ⟨.str, 1, [.string ⟨#[]⟩]⟩, 
  some ⟨.int .u64, 1, [.int .u64 0]⟩, 
  some ⟨.struct [(0, 1, false), (1, 1, false)], 2, [.string ⟨#[]⟩, .int .u64 0]⟩, 
  some ⟨.struct [(0, 1, false), (1, 1, false)], 2, [.string ⟨#[]⟩, .int .u64 0]⟩, 
  some ⟨.other, 1, [.pointer none]⟩, 
  some ⟨.other, 1, [.pointer none]⟩, 
  some ⟨.other, 1, [.pointer none]⟩, 
  some ⟨.struct [(0, 1, false)], 1, [.pointer none]⟩, 
  some ⟨.struct [(0, 1, false)], 1, [.pointer none]⟩, 
  some ⟨.other, 1, [.nilIface]⟩, 
  some ⟨.int .i32, 1, [.int .i32 0]⟩, 
  some ⟨.slice 64 9 176, 1, [.slice none 0 0]⟩, 
  some ⟨.slice 50 2 16, 1, [.slice none 0 0]⟩, 
  some ⟨.slice 70 3 40, 1, [.slice none 0 0]⟩, 
  some ⟨.slice 72 2 40, 1, [.slice none 0 0]⟩, 
  some ⟨.slice 149 4 40, 1, [.slice none 0 0]⟩, 
  some ⟨.slice 75 1 24, 1, [.slice none 0 0]⟩, 
  some ⟨.slice 62 1 24, 1, [.slice none 0 0]⟩, 
  some ⟨.slice 3 1 8, 1, [.slice none 0 0]⟩, 
  some ⟨.struct [(0, 1, false), (1, 1, false), (2, 1, false), (3, 1, false), (4, 1, false), (5, 1, false), (6, 1, false), (7, 1, false), (8, 1, false)], 9, [.int .i64 0, .slice none 0 0, .slice none 0 0, .slice none 0 0, .slice none 0 0, .slice none 0 0, .slice none 0 0, .slice none 0 0, .slice none 0 0]⟩, 
  some ⟨.struct [(0, 1, false), (1, 1, false), (2, 1, false), (3, 1, false), (4, 1, false), (5, 1, false), (6, 1, false), (7, 1, false), (8, 1, false)], 9, [.int .i64 0, .slice none 0 0, .slice none 0 0, .slice none 0 0, .slice none 0 0, .slice none 0 0, .slice none 0 0, .slice none 0 0, .slice none 0 0]⟩, 
  some ⟨.slice 9 1 16, 1, [.slice none 0 0]⟩, 
  some ⟨.other, 1, [.nilFunc]⟩, 
  some ⟨.other, 1, [.nilFunc]⟩, 
  some ⟨.other, 1, [.nilFunc]⟩, 
  some ⟨.other, 1, [.nilFunc]⟩, 
  some ⟨.other, 1, [.nilFunc]⟩, 
  some ⟨.struct [(0, 1, false), (1, 1, false)], 2, [.slice none 0 0, .slice none 0 0]⟩, 
  some ⟨.struct [(0, 1, false), (1, 1, false)], 2, [.slice none 0 0, .slice none 0 0]⟩, 
  some ⟨.int .i64, 1, [.int .i64 0]⟩, 
  none, 
  some ⟨.other, 1, [.nilFunc]⟩, 
  some ⟨.other, 1, [.nilFunc]⟩, 
  none, 
  some ⟨.other, 1, [.nilFunc]⟩, 
  some ⟨.other, 1, [.nilFunc]⟩, 
  some ⟨.other, 1, [.nilFunc]⟩, 
  some ⟨.other, 1, [.nilFunc]⟩, 
  some ⟨.struct [(0, 1, false), (1, 1, false)], 2, [.int .i64 0, .int .i64 0]⟩, 
  some ⟨.struct [(0, 1, false), (1, 1, false)], 2, [.int .i64 0, .int .i64 0]⟩, 
  some ⟨.other, 1, [.nilFunc]⟩, 
  some ⟨.slice 54 6 48, 1, [.slice none 0 0]⟩, 
  some ⟨.struct [(0, 1, false), (1, 1, false), (2, 1, false), (3, 1, false), (4, 1, false), (5, 1, false)], 6, [.int .i64 0, .int .i64 0, .int .i64 0, .int .i64 0, .int .i64 0, .int .i64 0]⟩, 
  some ⟨.struct [(0, 1, false), (1, 1, false), (2, 1, false), (3, 1, false), (4, 1, false), (5, 1, false)], 6, [.int .i64 0, .int .i64 0, .int .i64 0, .int .i64 0, .int .i64 0, .int .i64 0]⟩, 
  some ⟨.other, 1, [.nilFunc]⟩, 
  some ⟨.slice 282 3 24, 1, [.slice none 0 0]⟩, 
  some ⟨.struct [(0, 1, false), (1, 1, false)], 2, [.slice none 0 0, .slice none 0 0]⟩, 
  some ⟨.struct [(0, 1, false), (1, 1, false)], 2, [.slice none 0 0, .slice none 0 0]⟩, 
  some ⟨.slice 66 3 24, 1, [.slice none 0 0]⟩, 
  some ⟨.slice 210 4 32, 1, [.slice none 0 0]⟩, 
  some ⟨.slice 212 4 32, 1, [.slice none 0 0]⟩, 
  some ⟨.slice 273 2 16, 1, [.slice none 0 0]⟩, 
  some ⟨.struct [(0, 1, false), (1, 1, false), (2, 1, false), (3, 2, true), (5, 1, false), (6, 1, false), (7, 1, false), (8, 1, false)], 9, [.string ⟨#[]⟩, .int .i64 0, .bool false, .slice none 0 0, .slice none 0 0, .slice none 0 0, .slice none 0 0, .slice none 0 0, .slice none 0 0]⟩, 
  some ⟨.struct [(0, 1, false), (1, 1, false), (2, 1, false), (3, 2, true), (5, 1, false), (6, 1, false), (7, 1, false), (8, 1, false)], 9, [.string ⟨#[]⟩, .int .i64 0, .bool false, .slice none 0 0, .slice none 0 0, .slice none 0 0, .slice none 0 0, .slice none 0 0, .slice none 0 0]⟩, 
  some ⟨.struct [(0, 1, false), (1, 1, false), (2, 1, false)], 3, [.int .i64 0, .int .i64 0, .int .i64 0]⟩, 
  some ⟨.struct [(0, 1, false), (1, 1, false), (2, 1, false)], 3, [.int .i64 0, .int .i64 0, .int .i64 0]⟩, 
  some ⟨.other, 1, [.nilFunc]⟩, 
  some ⟨.slice 89 6 128, 1, [.slice none 0 0]⟩, 
  some ⟨.struct [(0, 1, false), (1, 1, false), (2, 1, false)], 3, [.int .i64 0, .bool false, .slice none 0 0]⟩, 
  some ⟨.struct [(0, 1, false), (1, 1, false), (2, 1, false)], 3, [.int .i64 0, .bool false, .slice none 0 0]⟩, 
  some ⟨.struct [(0, 1, false), (1, 1, false)], 2, [.string ⟨#[]⟩, .slice none 0 0]⟩, 
  some ⟨.struct [(0, 1, false), (1, 1, false)], 2, [.string ⟨#[]⟩, .slice none 0 0]⟩, 
  some ⟨.slice 151 3 24, 1, [.slice none 0 0]⟩, 
  some ⟨.struct [(0, 1, false)], 1, [.slice none 0 0]⟩, 
  some ⟨.struct [(0, 1, false)], 1, [.slice none 0 0]⟩, 
  some ⟨.other, 1, [.nilFunc]⟩, 
  some ⟨.other, 1, [.nilFunc]⟩, 
  some ⟨.other, 1, [.map none]⟩, 
  some ⟨.other, 1, [.pointer none]⟩, 
  some ⟨.other, 1, [.nilFunc]⟩, 
  some ⟨.int .i64, 1, [.int .i64 0]⟩, 
  some ⟨.other, 1, [.nilFunc]⟩, 
  some ⟨.other, 1, [.nilFunc]⟩, 
  some ⟨.other, 1, [.nilFunc]⟩, 
  some ⟨.other, 1, [.nilFunc]⟩, 
  some ⟨.slice 29 1 24, 1, [.slice none 0 0]⟩, 
  some ⟨.slice 91 2 16, 1, [.slice none 0 0]⟩, 
  some ⟨.struct [(0, 1, false), (1, 1, false), (2, 1, false), (3, 1, false), (4, 1, false), (5, 1, false)], 6, [.slice none 0 0, .slice none 0 0, .slice none 0 0, .slice none 0 0, .slice none 0 0, .int .i64 0]⟩, 
  some ⟨.struct [(0, 1, false), (1, 1, false), (2, 1, false), (3, 1, false), (4, 1, false), (5, 1, false)], 6, [.slice none 0 0, .slice none 0 0, .slice none 0 0, .slice none 0 0, .slice none 0 0, .int .i64 0]⟩, 
  some ⟨.struct [(0, 1, false), (1, 1, false)], 2, [.int .i64 0, .int .i64 0]⟩, 
  some ⟨.struct [(0, 1, false), (1, 1, false)], 2, [.int .i64 0, .int .i64 0]⟩, 
  some ⟨.other, 1, [.nilFunc]⟩, 
  some ⟨.other, 1, [.nilFunc]⟩, 
  some ⟨.other, 1, [.nilFunc]⟩, 
  some ⟨.other, 1, [.nilFunc]⟩, 
  some ⟨.other, 1, [.map none]⟩, 
  some ⟨.other, 1, [.pointer none]⟩, 
  some ⟨.other, 1, [.nilFunc]⟩, 
  some ⟨.int .i64, 1, [.int .i64 0]⟩, 
  some ⟨.other, 1, [.pointer none]⟩, 
  some ⟨.other, 1, [.nilFunc]⟩, 
  some ⟨.other, 1, [.nilFunc]⟩, 
  some ⟨.slice 4 1 1, 1, [.slice none 0 0]⟩, 
  some ⟨.slice 99 1 8, 1, [.slice none 0 0]⟩, 
  some ⟨.struct [(0, 1, false), (1, 1, false)], 2, [.slice none 0 0, .slice none 0 0]⟩, 
  some ⟨.struct [(0, 1, false), (1, 1, false)], 2, [.slice none 0 0, .slice none 0 0]⟩, 
  some ⟨.other, 1, [.nilFunc]⟩, 
  some ⟨.other, 1, [.nilFunc]⟩, 
  some ⟨.other, 1, [.nilFunc]⟩, 
  some ⟨.other, 1, [.nilFunc]⟩, 
  some ⟨.other, 1, [.nilFunc]⟩, 
  some ⟨.other, 1, [.nilFunc]⟩, 
  some ⟨.other, 1, [.nilFunc]⟩, 
  some ⟨.other, 1, [.pointer none]⟩, 
  some ⟨.other, 1, [.nilFunc]⟩, 
  some ⟨.other, 1, [.map none]⟩, 
  some ⟨.struct [(0, 9, true), (9, 1, false), (10, 1, false)], 11, [.int .i64 0, .slice none 0 0, .slice none 0 0, .slice none 0 0, .slice none 0 0, .slice none 0 0, .slice none 0 0, .slice none 0 0, .slice none 0 0, .slice none 0 0, .map none]⟩, 
  some ⟨.struct [(0, 9, true), (9, 1, false), (10, 1, false)], 11, [.int .i64 0, .slice none 0 0, .slice none 0 0, .slice none 0 0, .slice none 0 0, .slice none 0 0, .slice none 0 0, .slice none 0 0, .slice none 0 0, .slice none 0 0, .map none]⟩, 
  some ⟨.other, 1, [.nilFunc]⟩, 
  some ⟨.slice 86 1 24, 1, [.slice none 0 0]⟩, 
  some ⟨.slice 81 1 8, 1, [.slice none 0 0]⟩, 
  some ⟨.struct [(0, 1, false), (1, 1, false)], 2, [.slice none 0 0, .slice none 0 0]⟩, 
  some ⟨.struct [(0, 1, false), (1, 1, false)], 2, [.slice none 0 0, .slice none 0 0]⟩, 
  some ⟨.other, 1, [.nilFunc]⟩, 
  some ⟨.other, 1, [.nilFunc]⟩, 
  none, 
  some ⟨.other, 1, [.nilFunc]⟩, 
  some ⟨.other, 1, [.nilFunc]⟩, 
  some ⟨.slice 133 1 8, 1, [.slice none 0 0]⟩, 
  some ⟨.struct [(0, 9, true), (9, 1, false)], 10, [.int .i64 0, .slice none 0 0, .slice none 0 0, .slice none 0 0, .slice none 0 0, .slice none 0 0, .slice none 0 0, .slice none 0 0, .slice none 0 0, .slice none 0 0]⟩, 
  some ⟨.struct [(0, 9, true), (9, 1, false)], 10, [.int .i64 0, .slice none 0 0, .slice none 0 0, .slice none 0 0, .slice none 0 0, .slice none 0 0, .slice none 0 0, .slice none 0 0, .slice none 0 0, .slice none 0 0]⟩, 
  some ⟨.other, 1, [.nilFunc]⟩, 
  some ⟨.other, 1, [.pointer none]⟩, 
  some ⟨.struct [(0, 6, true), (6, 1, false), (7, 1, false), (8, 1, false)], 9, [.slice none 0 0, .slice none 0 0, .slice none 0 0, .slice none 0 0, .slice none 0 0, .int .i64 0, .int .i64 0, .bool false, .slice none 0 0]⟩, 
  some ⟨.struct [(0, 6, true), (6, 1, false), (7, 1, false), (8, 1, false)], 9, [.slice none 0 0, .slice none 0 0, .slice none 0 0, .slice none 0 0, .slice none 0 0, .int .i64 0, .int .i64 0, .bool false, .slice none 0 0]⟩, 
  some ⟨.other, 1, [.nilFunc]⟩, 
  some ⟨.other, 1, [.nilFunc]⟩, 
  some ⟨.struct [(0, 1, false), (1, 1, false)], 2, [.int .i64 0, .int .i64 0]⟩, 
  some ⟨.struct [(0, 1, false), (1, 1, false)], 2, [.int .i64 0, .int .i64 0]⟩, 
  some ⟨.other, 1, [.nilFunc]⟩, 
  some ⟨.other, 1, [.nilFunc]⟩, 
  some ⟨.other, 1, [.nilFunc]⟩, 
  some ⟨.other, 1, [.pointer none]⟩, 
  some ⟨.struct [(0, 1, false), (1, 1, false), (2, 9, true), (11, 1, false)], 12, [.slice none 0 0, .int .i64 0, .int .i64 0, .slice none 0 0, .slice none 0 0, .slice none 0 0, .slice none 0 0, .slice none 0 0, .slice none 0 0, .slice none 0 0, .slice none 0 0, .int .i64 0]⟩, 
  some ⟨.struct [(0, 1, false), (1, 1, false), (2, 9, true), (11, 1, false)], 12, [.slice none 0 0, .int .i64 0, .int .i64 0, .slice none 0 0, .slice none 0 0, .slice none 0 0, .slice none 0 0, .slice none 0 0, .slice none 0 0, .slice none 0 0, .slice none 0 0, .int .i64 0]⟩, 
  some ⟨.other, 1, [.nilFunc]⟩, 
  some ⟨.slice 5 1 1, 1, [.slice none 0 0]⟩, 
  some ⟨.struct [(0, 1, false), (1, 1, false), (2, 1, false), (3, 1, false)], 4, [.string ⟨#[]⟩, .int .i64 0, .int .i64 0, .int .i64 0]⟩, 
  some ⟨.struct [(0, 1, false), (1, 1, false), (2, 1, false), (3, 1, false)], 4, [.string ⟨#[]⟩, .int .i64 0, .int .i64 0, .int .i64 0]⟩, 
  some ⟨.struct [(0, 1, false), (1, 1, false), (2, 1, false)], 3, [.int .i64 0, .int .i64 0, .int .i64 0]⟩, 
  some ⟨.struct [(0, 1, false), (1, 1, false), (2, 1, false)], 3, [.int .i64 0, .int .i64 0, .int .i64 0]⟩, 
  some ⟨.other, 1, [.nilFunc]⟩, 
  some ⟨.other, 1, [.nilFunc]⟩, 
  some ⟨.other, 1, [.nilFunc]⟩, 
  some ⟨.other, 1, [.nilFunc]⟩, 
  some ⟨.other, 1, [.pointer none]⟩, 
  some ⟨.other, 1, [.nilFunc]⟩, 
  none, 
  some ⟨.other, 1, [.nilFunc]⟩, 
  some ⟨.other, 1, [.nilFunc]⟩, 
  some ⟨.other, 1, [.nilFunc]⟩, 
  some ⟨.other, 1, [.nilFunc]⟩, 
  some ⟨.int .u64, 1, [.int .u64 0]⟩, 
  some ⟨.other, 1, [.map none]⟩, 
  some ⟨.other, 1, [.nilFunc]⟩, 
  some ⟨.other, 1, [.nilFunc]⟩, 
  some ⟨.other, 1, [.nilFunc]⟩, 
  some ⟨.other, 1, [.nilFunc]⟩, 
  some ⟨.other, 1, [.nilFunc]⟩, 
  some ⟨.other, 1, [.nilFunc]⟩, 
  some ⟨.other, 1, [.nilFunc]⟩, 
  some ⟨.other, 1, [.nilFunc]⟩, 
  some ⟨.other, 1, [.nilFunc]⟩, 
  some ⟨.other, 1, [.nilFunc]⟩, 
  some ⟨.other, 1, [.nilFunc]⟩, 
  some ⟨.other, 1, [.nilFunc]⟩, 
  some ⟨.other, 1, [.nilFunc]⟩, 
  some ⟨.other, 1, [.nilFunc]⟩, 
  some ⟨.other, 1, [.nilFunc]⟩, 
  some ⟨.other, 1, [.nilFunc]⟩, 
  some ⟨.other, 1, [.nilFunc]⟩, 
  some ⟨.other, 1, [.nilFunc]⟩, 
  some ⟨.other, 1, [.nilFunc]⟩, 
  some ⟨.other, 1, [.nilFunc]⟩, 
  some ⟨.other, 1, [.nilFunc]⟩, 
  some ⟨.other, 1, [.nilFunc]⟩, 
  some ⟨.other, 1, [.nilFunc]⟩, 
  some ⟨.other, 1, [.nilFunc]⟩, 
  some ⟨.other, 1, [.nilFunc]⟩, 
  some ⟨.other, 1, [.nilFunc]⟩, 
  some ⟨.other, 1, [.nilFunc]⟩, 
  some ⟨.other, 1, [.nilFunc]⟩, 
  some ⟨.other, 1, [.nilFunc]⟩, 
  some ⟨.other, 1, [.nilFunc]⟩, 
  some ⟨.other, 1, [.nilFunc]⟩, 
  some ⟨.other, 1, [.nilFunc]⟩, 
  some ⟨.other, 1, [.nilFunc]⟩, 
  some ⟨.other, 1, [.nilFunc]⟩, 
  some ⟨.other, 1, [.nilFunc]⟩, 
  some ⟨.other, 1, [.nilFunc]⟩, 
  some ⟨.other, 1, [.nilFunc]⟩, 
  some ⟨.other, 1, [.nilFunc]⟩, 
  some ⟨.other, 1, [.nilFunc]⟩, 
  some ⟨.other, 1, [.nilFunc]⟩, 
  some ⟨.other, 1, [.nilFunc]⟩, 
  some ⟨.other, 1, [.nilFunc]⟩, 
  some ⟨.arr 2 3 1, 2, [.int .i64 0, .int .i64 0]⟩, 
  some ⟨.slice 207 2 16, 1, [.slice none 0 0]⟩, 
  some ⟨.struct [(0, 1, false), (1, 1, false), (2, 1, false), (3, 1, false)], 4, [.int .i64 0, .int .i64 0, .int .i64 0, .int .i64 0]⟩, 
  some ⟨.struct [(0, 1, false), (1, 1, false), (2, 1, false), (3, 1, false)], 4, [.int .i64 0, .int .i64 0, .int .i64 0, .int .i64 0]⟩, 
  some ⟨.struct [(0, 1, false), (1, 1, false), (2, 1, false), (3, 1, false)], 4, [.int .i64 0, .int .i64 0, .int .i64 0, .int .i64 0]⟩, 
  some ⟨.struct [(0, 1, false), (1, 1, false), (2, 1, false), (3, 1, false)], 4, [.int .i64 0, .int .i64 0, .int .i64 0, .int .i64 0]⟩, 
  some ⟨.other, 1, [.nilFunc]⟩, 
  none, 
  some ⟨.other, 1, [.nilFunc]⟩, 
  some ⟨.other, 1, [.nilFunc]⟩, 
  none, 
  some ⟨.other, 1, [.nilFunc]⟩, 
  some ⟨.other, 1, [.nilFunc]⟩, 
  some ⟨.other, 1, [.nilFunc]⟩, 
  some ⟨.struct [(0, 1, false), (1, 1, false), (2, 1, false), (3, 1, false), (4, 1, false)], 5, [.slice none 0 0, .bool false, .nilFunc, .int .i64 0, .int .i64 0]⟩, 
  some ⟨.struct [(0, 1, false), (1, 1, false), (2, 1, false), (3, 1, false), (4, 1, false)], 5, [.slice none 0 0, .bool false, .nilFunc, .int .i64 0, .int .i64 0]⟩, 
  some ⟨.other, 1, [.nilFunc]⟩, 
  some ⟨.other, 1, [.nilFunc]⟩, 
  some ⟨.other, 1, [.nilFunc]⟩, 
  some ⟨.other, 1, [.nilFunc]⟩, 
  some ⟨.other, 1, [.nilFunc]⟩, 
  some ⟨.other, 1, [.nilFunc]⟩, 
  some ⟨.other, 1, [.nilFunc]⟩, 
  some ⟨.other, 1, [.nilFunc]⟩, 
  some ⟨.int .i64, 1, [.int .i64 0]⟩, 
  none, 
  some ⟨.other, 1, [.nilFunc]⟩, 
  some ⟨.other, 1, [.nilFunc]⟩, 
  some ⟨.other, 1, [.nilFunc]⟩, 
  some ⟨.other, 1, [.nilFunc]⟩, 
  some ⟨.other, 1, [.nilFunc]⟩, 
  some ⟨.other, 1, [.nilFunc]⟩, 
  some ⟨.int .u32, 1, [.int .u32 0]⟩, 
  some ⟨.other, 1, [.nilFunc]⟩, 
  some ⟨.int .u64, 1, [.int .u64 0]⟩, 
  some ⟨.slice 174 1 8, 1, [.slice none 0 0]⟩, 
  some ⟨.other, 1, [.nilFunc]⟩, 
  some ⟨.other, 1, [.nilFunc]⟩, 
  some ⟨.other, 1, [.nilFunc]⟩, 
  some ⟨.other, 1, [.nilFunc]⟩, 
  some ⟨.other, 1, [.nilFunc]⟩, 
  some ⟨.other, 1, [.nilFunc]⟩, 
  some ⟨.other, 1, [.nilFunc]⟩, 
  some ⟨.other, 1, [.nilFunc]⟩, 
  some ⟨.other, 1, [.nilFunc]⟩, 
  some ⟨.other, 1, [.nilFunc]⟩, 
  some ⟨.other, 1, [.nilFunc]⟩, 
  some ⟨.other, 1, [.nilFunc]⟩, 
  some ⟨.other, 1, [.nilFunc]⟩, 
  some ⟨.other, 1, [.nilFunc]⟩, 
  none, 
  some ⟨.other, 1, [.nilFunc]⟩, 
  some ⟨.other, 1, [.nilFunc]⟩, 
  some ⟨.other, 1, [.nilFunc]⟩, 
  some ⟨.other, 1, [.nilFunc]⟩, 
  some ⟨.other, 1, [.nilFunc]⟩, 
  some ⟨.other, 1, [.nilFunc]⟩, 
  some ⟨.other, 1, [.nilFunc]⟩, 
  some ⟨.other, 1, [.nilFunc]⟩, 
  some ⟨.other, 1, [.nilFunc]⟩, 
  some ⟨.other, 1, [.nilFunc]⟩, 
  some ⟨.other, 1, [.nilFunc]⟩, 
  some ⟨.other, 1, [.nilFunc]⟩, 
  some ⟨.other, 1, [.nilFunc]⟩, 
  some ⟨.other, 1, [.nilFunc]⟩, 
  some ⟨.struct [(0, 1, false), (1, 1, false)], 2, [.int .i64 0, .int .i64 0]⟩, 
  some ⟨.struct [(0, 1, false), (1, 1, false)], 2, [.int .i64 0, .int .i64 0]⟩, 
  some ⟨.other, 1, [.nilFunc]⟩, 
  some ⟨.other, 1, [.nilFunc]⟩, 
  some ⟨.other, 1, [.nilFunc]⟩, 
  some ⟨.other, 1, [.nilFunc]⟩, 
  some ⟨.other, 1, [.nilFunc]⟩, 
  some ⟨.other, 1, [.nilFunc]⟩, 
  some ⟨.other, 1, [.nilFunc]⟩, 
  some ⟨.struct [(0, 1, false), (1, 1, false), (2, 1, false)], 3, [.int .i64 0, .int .i64 0, .bool false]⟩, 
  some ⟨.struct [(0, 1, false), (1, 1, false), (2, 1, false)], 3, [.int .i64 0, .int .i64 0, .bool false]⟩, 
  some ⟨.other, 1, [.nilFunc]⟩, 
  some ⟨.other, 1, [.nilFunc]⟩, 
  some ⟨.other, 1, [.nilFunc]⟩, 
  some ⟨.other, 1, [.nilFunc]⟩, 
  some ⟨.other, 1, [.pointer none]⟩, 
  some ⟨.other, 1, [.nilFunc]⟩, 
  some ⟨.other, 1, [.nilFunc]⟩, 
  some ⟨.int .u64, 1, [.int .u64 0]⟩, 
  some ⟨.other, 1, [.nilFunc]⟩, 
  some ⟨.other, 1, [.nilFunc]⟩, 
  some ⟨.other, 1, [.nilFunc]⟩, 
  some ⟨.other, 1, [.pointer none]⟩, 
  some ⟨.other, 1, [.nilFunc]⟩, 
  some ⟨.other, 1, [.nilFunc]⟩, 
  some ⟨.other, 1, [.nilFunc]⟩, 
  some ⟨.other, 1, [.nilFunc]⟩, 
  some ⟨.other, 1, [.nilFunc]⟩, 
  some ⟨.other, 1, [.nilFunc]⟩, 
  some ⟨.other, 1, [.nilFunc]⟩, 
  some ⟨.other, 1, [.map none]⟩, 
  some ⟨.struct [(0, 1, false), (1, 1, false)], 2, [.int .i64 0, .int .i64 0]⟩, 
  some ⟨.struct [(0, 1, false), (1, 1, false)], 2, [.int .i64 0, .int .i64 0]⟩, 
  some ⟨.other, 1, [.nilFunc]⟩, 
  some ⟨.struct [(0, 1, false), (1, 1, false)], 2, [.int .i64 0, .int .i64 0]⟩, 
  some ⟨.struct [(0, 1, false), (1, 1, false)], 2, [.int .i64 0, .int .i64 0]⟩, 
  some ⟨.other, 1, [.nilFunc]⟩, 
  some ⟨.other, 1, [.nilFunc]⟩, 
  some ⟨.other, 1, [.nilFunc]⟩, 
  some ⟨.other, 1, [.nilFunc]⟩, 
  some ⟨.other, 1, [.nilFunc]⟩, 
  some ⟨.other, 1, [.nilFunc]⟩, 
  some ⟨.other, 1, [.nilFunc]⟩, 
  some ⟨.other, 1, [.nilFunc]⟩, 
  some ⟨.other, 1, [.nilFunc]⟩, 
  some ⟨.other, 1, [.nilFunc]⟩, 
  some ⟨.other, 1, [.nilFunc]⟩, 
  some ⟨.other, 1, [.nilFunc]⟩, 
  some ⟨.other, 1, [.nilFunc]⟩, 
  some ⟨.other, 1, [.nilFunc]⟩, 
  some ⟨.other, 1, [.nilFunc]⟩, 
  some ⟨.other, 1, [.pointer none]⟩, 
  none, 
  some ⟨.other, 1, [.nilFunc]⟩, 
  some ⟨.other, 1, [.map none]⟩, 
  some ⟨.other, 1, [.map none]⟩, 
  some ⟨.slice 3 1 8, 1, [.slice none 0 0]⟩, 
  some ⟨.other, 1, [.nilFunc]⟩, 
  some ⟨.other, 1, [.nilFunc]⟩, 
  some ⟨.other, 1, [.nilFunc]⟩, 
  some ⟨.other, 1, [.nilFunc]⟩, 
  some ⟨.other, 1, [.pointer none]⟩, 
  some ⟨.other, 1, [.nilFunc]⟩, 
  some ⟨.other, 1, [.nilFunc]⟩, 
  some ⟨.other, 1, [.nilFunc]⟩, 
  some ⟨.other, 1, [.nilFunc]⟩, 
  some ⟨.other, 1, [.nilFunc]⟩, 
  some ⟨.other, 1, [.nilFunc]⟩, 
  some ⟨.other, 1, [.nilFunc]⟩, 
  some ⟨.other, 1, [.nilFunc]⟩, 
  some ⟨.slice 40 1 8, 1, [.slice none 0 0]⟩, 
  some ⟨.other, 1, [.nilFunc]⟩, 
  some ⟨.other, 1, [.nilIface]⟩, 
  some ⟨.other, 1, [.nilIface]⟩, 
  some ⟨.other, 1, [.nilFunc]⟩, 
  some ⟨.other, 1, [.nilFunc]⟩, 
  some ⟨.other, 1, [.nilFunc]⟩, 
  some ⟨.other, 1, [.nilFunc]⟩, 
  some ⟨.other, 1, [.nilFunc]⟩, 
  some ⟨.other, 1, [.nilFunc]⟩, 
  some ⟨.slice 354 2 16, 1, [.slice none 0 0]⟩, 
  some ⟨.struct [(0, 1, false), (1, 1, false)], 2, [.int .i64 0, .int .i64 0]⟩, 
  some ⟨.struct [(0, 1, false), (1, 1, false)], 2, [.int .i64 0, .int .i64 0]⟩, 
  some ⟨.other, 1, [.pointer none]⟩, 
  some ⟨.other, 1, [.nilFunc]⟩, 
  some ⟨.other, 1, [.nilFunc]⟩, 
  some ⟨.struct [(0, 1, false), (1, 1, false), (2, 1, false), (3, 1, false)], 4, [.pointer none, .pointer none, .pointer none, .string ⟨#[]⟩]⟩, 
  some ⟨.struct [(0, 1, false), (1, 1, false), (2, 1, false), (3, 1, false)], 4, [.pointer none, .pointer none, .pointer none, .string ⟨#[]⟩]⟩, 
  none, 
  none, 
  none, 
  some ⟨.int .u8, 1, [.int .u8 0]⟩, 
  some ⟨.int .u8, 1, [.int .u8 0]⟩, 
  some ⟨.other, 1, [.nilFunc]⟩, 
  some ⟨.other, 1, [.pointer none]⟩, 
  some ⟨.int .i32, 1, [.int .i32 0]⟩, 
  some ⟨.int .i32, 1, [.int .i32 0]⟩, 
  some ⟨.struct [(0, 1, false), (1, 1, false), (2, 1, false), (3, 1, false), (4, 1, false), (5, 1, false), (6, 1, false), (7, 1, false), (8, 1, false), (9, 1, false), (10, 1, false)], 11, [.int .u64 0, .int .u64 0, .int .u32 0, .int .u8 0, .int .u8 0, .int .u8 0, .int .u8 0, .nilFunc, .pointer none, .int .i32 0, .int .i32 0]⟩, 
  some ⟨.struct [(0, 1, false), (1, 1, false), (2, 1, false), (3, 1, false), (4, 1, false), (5, 1, false), (6, 1, false), (7, 1, false), (8, 1, false), (9, 1, false), (10, 1, false)], 11, [.int .u64 0, .int .u64 0, .int .u32 0, .int .u8 0, .int .u8 0, .int .u8 0, .int .u8 0, .nilFunc, .pointer none, .int .i32 0, .int .i32 0]⟩, 
  none, 
  none, 
  none, 
  none, 
  none, 
  none, 
  none, 
  none, 
  none, 
  none, 
  none, 
  none, 
  none, 
  none, 
  none, 
  none, 
  none, 
  none, 
  none, 
  none, 
  none, 
  none, 
  none, 
  none, 
  none, 
  none, 
  none, 
  none, 
  none, 
  none, 
  none, 
  none, 
  none, 
  none, 
  none, 
  none, 
  none, 
  none, 
  none, 
  none, 
  none, 
  none, 
  none, 
  none, 
  none, 
  none, 
  none, 
  none, 
  none]
theorem ttok : TOk Tryz.prog tt := tok_of (by kernel_rfl)
instance : CFn Tryz.prog 11 := ⟨enters_fn Tryz.func11 (by kernel_rfl) rfl⟩
instance : CFn Tryz.prog 12 := ⟨enters_fn Tryz.func12 (by kernel_rfl) rfl⟩
instance : CFn Tryz.prog 13 := ⟨enters_fn Tryz.func13 (by kernel_rfl) rfl⟩
instance : CFn Tryz.prog 15 := ⟨enters_fn Tryz.func15 (by kernel_rfl) rfl⟩
instance : CFn Tryz.prog 17 := ⟨enters_fn Tryz.func17 (by kernel_rfl) rfl⟩
instance : CFn Tryz.prog 18 := ⟨enters_fn Tryz.func18 (by kernel_rfl) rfl⟩
instance : CFn Tryz.prog 19 := ⟨enters_fn Tryz.func19 (by kernel_rfl) rfl⟩
instance : CFn Tryz.prog 20 := ⟨enters_fn Tryz.func20 (by kernel_rfl) rfl⟩
instance : CFn Tryz.prog 21 := ⟨enters_fn Tryz.func21 (by kernel_rfl) rfl⟩
instance : CFn Tryz.prog 24 := ⟨enters_fn Tryz.func24 (by kernel_rfl) rfl⟩
instance : CFn Tryz.prog 25 := ⟨enters_fn Tryz.func25 (by kernel_rfl) rfl⟩
instance : CFn Tryz.prog 26 := ⟨enters_fn Tryz.func26 (by kernel_rfl) rfl⟩
instance : CFn Tryz.prog 27 := ⟨enters_fn Tryz.func27 (by kernel_rfl) rfl⟩
instance : CFn Tryz.prog 28 := ⟨enters_fn Tryz.func28 (by kernel_rfl) rfl⟩
instance : CFn Tryz.prog 29 := ⟨enters_fn Tryz.func29 (by kernel_rfl) rfl⟩
instance : CFn Tryz.prog 30 := ⟨enters_fn Tryz.func30 (by kernel_rfl) rfl⟩
instance : CFn Tryz.prog 34 := ⟨enters_fn Tryz.func34 (by kernel_rfl) rfl⟩
instance : CFn Tryz.prog 35 := ⟨enters_fn Tryz.func35 (by kernel_rfl) rfl⟩
instance : CFn Tryz.prog 36 := ⟨enters_fn Tryz.func36 (by kernel_rfl) rfl⟩
instance : CFn Tryz.prog 37 := ⟨enters_fn Tryz.func37 (by kernel_rfl) rfl⟩
instance : CFn Tryz.prog 38 := ⟨enters_fn Tryz.func38 (by kernel_rfl) rfl⟩
instance : CFn Tryz.prog 39 := ⟨enters_fn Tryz.func39 (by kernel_rfl) rfl⟩
instance : CFn Tryz.prog 44 := ⟨enters_fn Tryz.func44 (by kernel_rfl) rfl⟩
instance : CFn Tryz.prog 45 := ⟨enters_fn Tryz.func45 (by kernel_rfl) rfl⟩
instance : CFn Tryz.prog 46 := ⟨enters_fn Tryz.func46 (by kernel_rfl) rfl⟩
instance : CFn Tryz.prog 47 := ⟨enters_fn Tryz.func47 (by kernel_rfl) rfl⟩
instance : CFn Tryz.prog 51 := ⟨enters_fn Tryz.func51 (by kernel_rfl) rfl⟩
instance : CFn Tryz.prog 52 := ⟨enters_fn Tryz.func52 (by kernel_rfl) rfl⟩
instance : CFn Tryz.prog 53 := ⟨enters_fn Tryz.func53 (by kernel_rfl) rfl⟩
instance : CFn Tryz.prog 54 := ⟨enters_fn Tryz.func54 (by kernel_rfl) rfl⟩
instance : CFn Tryz.prog 55 := ⟨enters_fn Tryz.func55 (by kernel_rfl) rfl⟩
instance : CFn Tryz.prog 56 := ⟨enters_fn Tryz.func56 (by kernel_rfl) rfl⟩
instance : CFn Tryz.prog 57 := ⟨enters_fn Tryz.func57 (by kernel_rfl) rfl⟩
instance : CFn Tryz.prog 58 := ⟨enters_fn Tryz.func58 (by kernel_rfl) rfl⟩
instance : CFn Tryz.prog 62 := ⟨enters_fn Tryz.func62 (by kernel_rfl) rfl⟩
instance : CFn Tryz.prog 63 := ⟨enters_fn Tryz.func63 (by kernel_rfl) rfl⟩
instance : CFn Tryz.prog 64 := ⟨enters_fn Tryz.func64 (by kernel_rfl) rfl⟩
instance : CFn Tryz.prog 65 := ⟨enters_fn Tryz.func65 (by kernel_rfl) rfl⟩
instance : CFn Tryz.prog 66 := ⟨enters_fn Tryz.func66 (by kernel_rfl) rfl⟩
instance : CFn Tryz.prog 67 := ⟨enters_fn Tryz.func67 (by kernel_rfl) rfl⟩
instance : CFn Tryz.prog 68 := ⟨enters_fn Tryz.func68 (by kernel_rfl) rfl⟩
instance : CFn Tryz.prog 74 := ⟨enters_fn Tryz.func74 (by kernel_rfl) rfl⟩
instance : CFn Tryz.prog 75 := ⟨enters_fn Tryz.func75 (by kernel_rfl) rfl⟩
instance : CFn Tryz.prog 76 := ⟨enters_fn Tryz.func76 (by kernel_rfl) rfl⟩
instance : CFn Tryz.prog 77 := ⟨enters_fn Tryz.func77 (by kernel_rfl) rfl⟩
instance : CFn Tryz.prog 78 := ⟨enters_fn Tryz.func78 (by kernel_rfl) rfl⟩
instance : CFn Tryz.prog 79 := ⟨enters_fn Tryz.func79 (by kernel_rfl) rfl⟩
instance : CFn Tryz.prog 80 := ⟨enters_fn Tryz.func80 (by kernel_rfl) rfl⟩
instance : CFn Tryz.prog 81 := ⟨enters_fn Tryz.func81 (by kernel_rfl) rfl⟩
instance : CFn Tryz.prog 82 := ⟨enters_fn Tryz.func82 (by kernel_rfl) rfl⟩
instance : CFn Tryz.prog 83 := ⟨enters_fn Tryz.func83 (by kernel_rfl) rfl⟩
instance : CFn Tryz.prog 84 := ⟨enters_fn Tryz.func84 (by kernel_rfl) rfl⟩
instance : CFn Tryz.prog 85 := ⟨enters_fn Tryz.func85 (by kernel_rfl) rfl⟩
instance : CFn Tryz.prog 86 := ⟨enters_fn Tryz.func86 (by kernel_rfl) rfl⟩
instance : CFn Tryz.prog 87 := ⟨enters_fn Tryz.func87 (by kernel_rfl) rfl⟩
instance : CFn Tryz.prog 88 := ⟨enters_fn Tryz.func88 (by kernel_rfl) rfl⟩
instance : CFn Tryz.prog 89 := ⟨enters_fn Tryz.func89 (by kernel_rfl) rfl⟩
instance : CFn Tryz.prog 90 := ⟨enters_fn Tryz.func90 (by kernel_rfl) rfl⟩
instance : CFn Tryz.prog 91 := ⟨enters_fn Tryz.func91 (by kernel_rfl) rfl⟩
instance : CFn Tryz.prog 92 := ⟨enters_fn Tryz.func92 (by kernel_rfl) rfl⟩
instance : CFn Tryz.prog 93 := ⟨enters_fn Tryz.func93 (by kernel_rfl) rfl⟩
instance : CFn Tryz.prog 94 := ⟨enters_fn Tryz.func94 (by kernel_rfl) rfl⟩
instance : CFn Tryz.prog 95 := ⟨enters_fn Tryz.func95 (by kernel_rfl) rfl⟩
instance : CFn Tryz.prog 96 := ⟨enters_fn Tryz.func96 (by kernel_rfl) rfl⟩
instance : CFn Tryz.prog 97 := ⟨enters_fn Tryz.func97 (by kernel_rfl) rfl⟩
instance : CFn Tryz.prog 98 := ⟨enters_fn Tryz.func98 (by kernel_rfl) rfl⟩
instance : CFn Tryz.prog 99 := ⟨enters_fn Tryz.func99 (by kernel_rfl) rfl⟩
instance : CFn Tryz.prog 100 := ⟨enters_fn Tryz.func100 (by kernel_rfl) rfl⟩
instance : CFn Tryz.prog 101 := ⟨enters_fn Tryz.func101 (by kernel_rfl) rfl⟩
instance : CFn Tryz.prog 102 := ⟨enters_fn Tryz.func102 (by kernel_rfl) rfl⟩
instance : CFn Tryz.prog 103 := ⟨enters_fn Tryz.func103 (by kernel_rfl) rfl⟩
instance : CFn Tryz.prog 104 := ⟨enters_fn Tryz.func104 (by kernel_rfl) rfl⟩
instance : CFn Tryz.prog 105 := ⟨enters_fn Tryz.func105 (by kernel_rfl) rfl⟩
instance : CFn Tryz.prog 106 := ⟨enters_fn Tryz.func106 (by kernel_rfl) rfl⟩
instance : CFn Tryz.prog 107 := ⟨enters_fn Tryz.func107 (by kernel_rfl) rfl⟩
instance : CFn Tryz.prog 108 := ⟨enters_fn Tryz.func108 (by kernel_rfl) rfl⟩
instance : CFn Tryz.prog 109 := ⟨enters_fn Tryz.func109 (by kernel_rfl) rfl⟩
instance : CFn Tryz.prog 110 := ⟨enters_fn Tryz.func110 (by kernel_rfl) rfl⟩
instance : CFn Tryz.prog 111 := ⟨enters_fn Tryz.func111 (by kernel_rfl) rfl⟩
instance : CFn Tryz.prog 112 := ⟨enters_fn Tryz.func112 (by kernel_rfl) rfl⟩
instance : CFn Tryz.prog 113 := ⟨enters_fn Tryz.func113 (by kernel_rfl) rfl⟩
instance : CFn Tryz.prog 114 := ⟨enters_fn Tryz.func114 (by kernel_rfl) rfl⟩
instance : CFn Tryz.prog 121 := ⟨enters_fn Tryz.func121 (by kernel_rfl) rfl⟩
instance : CFn Tryz.prog 122 := ⟨enters_fn Tryz.func122 (by kernel_rfl) rfl⟩
instance : CFn Tryz.prog 123 := ⟨enters_fn Tryz.func123 (by kernel_rfl) rfl⟩
instance : CFn Tryz.prog 147 := ⟨enters_fn Tryz.func147 (by kernel_rfl) rfl⟩
instance : CFn Tryz.prog 148 := ⟨enters_fn Tryz.func148 (by kernel_rfl) rfl⟩
instance : CFn Tryz.prog 149 := ⟨enters_fn Tryz.func149 (by kernel_rfl) rfl⟩
instance : CFn Tryz.prog 150 := ⟨enters_fn Tryz.func150 (by kernel_rfl) rfl⟩
instance : CFn Tryz.prog 151 := ⟨enters_fn Tryz.func151 (by kernel_rfl) rfl⟩
instance : CFn Tryz.prog 152 := ⟨enters_fn Tryz.func152 (by kernel_rfl) rfl⟩
instance : CFn Tryz.prog 153 := ⟨enters_fn Tryz.func153 (by kernel_rfl) rfl⟩
instance : CFn Tryz.prog 154 := ⟨enters_fn Tryz.func154 (by kernel_rfl) rfl⟩
instance : CFn Tryz.prog 155 := ⟨enters_fn Tryz.func155 (by kernel_rfl) rfl⟩
instance : CFn Tryz.prog 156 := ⟨enters_fn Tryz.func156 (by kernel_rfl) rfl⟩
instance : CFn Tryz.prog 157 := ⟨enters_fn Tryz.func157 (by kernel_rfl) rfl⟩
instance : CFn Tryz.prog 158 := ⟨enters_fn Tryz.func158 (by kernel_rfl) rfl⟩
instance : CFn Tryz.prog 159 := ⟨enters_fn Tryz.func159 (by kernel_rfl) rfl⟩
instance : CFn Tryz.prog 160 := ⟨enters_fn Tryz.func160 (by kernel_rfl) rfl⟩
instance : CFn Tryz.prog 161 := ⟨enters_fn Tryz.func161 (by kernel_rfl) rfl⟩
instance : CFn Tryz.prog 162 := ⟨enters_fn Tryz.func162 (by kernel_rfl) rfl⟩
instance : CFn Tryz.prog 163 := ⟨enters_fn Tryz.func163 (by kernel_rfl) rfl⟩
instance : CFn Tryz.prog 164 := ⟨enters_fn Tryz.func164 (by kernel_rfl) rfl⟩
instance : CFn Tryz.prog 165 := ⟨enters_fn Tryz.func165 (by kernel_rfl) rfl⟩
instance : CFn Tryz.prog 166 := ⟨enters_fn Tryz.func166 (by kernel_rfl) rfl⟩
instance : CFn Tryz.prog 167 := ⟨enters_fn Tryz.func167 (by kernel_rfl) rfl⟩
instance : CFn Tryz.prog 168 := ⟨enters_fn Tryz.func168 (by kernel_rfl) rfl⟩
instance : CFn Tryz.prog 169 := ⟨enters_fn Tryz.func169 (by kernel_rfl) rfl⟩
instance : CFn Tryz.prog 170 := ⟨enters_fn Tryz.func170 (by kernel_rfl) rfl⟩
instance : CFn Tryz.prog 171 := ⟨enters_fn Tryz.func171 (by kernel_rfl) rfl⟩
instance : CFn Tryz.prog 172 := ⟨enters_fn Tryz.func172 (by kernel_rfl) rfl⟩
instance : CFn Tryz.prog 173 := ⟨enters_fn Tryz.func173 (by kernel_rfl) rfl⟩
instance : CFn Tryz.prog 174 := ⟨enters_fn Tryz.func174 (by kernel_rfl) rfl⟩
instance : CFn Tryz.prog 175 := ⟨enters_fn Tryz.func175 (by kernel_rfl) rfl⟩
instance : CFn Tryz.prog 176 := ⟨enters_fn Tryz.func176 (by kernel_rfl) rfl⟩
instance : CFn Tryz.prog 177 := ⟨enters_fn Tryz.func177 (by kernel_rfl) rfl⟩
instance : CFn Tryz.prog 178 := ⟨enters_fn Tryz.func178 (by kernel_rfl) rfl⟩
instance : CFn Tryz.prog 179 := ⟨enters_fn Tryz.func179 (by kernel_rfl) rfl⟩
instance : CFn Tryz.prog 180 := ⟨enters_fn Tryz.func180 (by kernel_rfl) rfl⟩
instance : CFn Tryz.prog 181 := ⟨enters_fn Tryz.func181 (by kernel_rfl) rfl⟩
instance : CFn Tryz.prog 182 := ⟨enters_fn Tryz.func182 (by kernel_rfl) rfl⟩
instance : CFn Tryz.prog 183 := ⟨enters_fn Tryz.func183 (by kernel_rfl) rfl⟩
instance : CFn Tryz.prog 184 := ⟨enters_fn Tryz.func184 (by kernel_rfl) rfl⟩
instance : CFn Tryz.prog 185 := ⟨enters_fn Tryz.func185 (by kernel_rfl) rfl⟩
instance : CFn Tryz.prog 186 := ⟨enters_fn Tryz.func186 (by kernel_rfl) rfl⟩
instance : CFn Tryz.prog 187 := ⟨enters_fn Tryz.func187 (by kernel_rfl) rfl⟩
instance : CFn Tryz.prog 188 := ⟨enters_fn Tryz.func188 (by kernel_rfl) rfl⟩
instance : CFn Tryz.prog 189 := ⟨enters_fn Tryz.func189 (by kernel_rfl) rfl⟩
instance : CFn Tryz.prog 190 := ⟨enters_fn Tryz.func190 (by kernel_rfl) rfl⟩
instance : CFn Tryz.prog 191 := ⟨enters_fn Tryz.func191 (by kernel_rfl) rfl⟩
instance : CFn Tryz.prog 192 := ⟨enters_fn Tryz.func192 (by kernel_rfl) rfl⟩
instance : CFn Tryz.prog 204 := ⟨enters_fn Tryz.func204 (by kernel_rfl) rfl⟩
instance : CFn Tryz.prog 205 := ⟨enters_fn Tryz.func205 (by kernel_rfl) rfl⟩
instance : CFn Tryz.prog 221 := ⟨enters_fn Tryz.func221 (by kernel_rfl) rfl⟩
instance : CFn Tryz.prog 222 := ⟨enters_fn Tryz.func222 (by kernel_rfl) rfl⟩
instance : CFn Tryz.prog 223 := ⟨enters_fn Tryz.func223 (by kernel_rfl) rfl⟩
instance : CFn Tryz.prog 224 := ⟨enters_fn Tryz.func224 (by kernel_rfl) rfl⟩
instance : CFn Tryz.prog 225 := ⟨enters_fn Tryz.func225 (by kernel_rfl) rfl⟩
instance : CFn Tryz.prog 226 := ⟨enters_fn Tryz.func226 (by kernel_rfl) rfl⟩
instance : CFn Tryz.prog 227 := ⟨enters_fn Tryz.func227 (by kernel_rfl) rfl⟩
instance : CFn Tryz.prog 228 := ⟨enters_fn Tryz.func228 (by kernel_rfl) rfl⟩
instance : CFn Tryz.prog 229 := ⟨enters_fn Tryz.func229 (by kernel_rfl) rfl⟩
instance : CFn Tryz.prog 230 := ⟨enters_fn Tryz.func230 (by kernel_rfl) rfl⟩
instance : CFn Tryz.prog 231 := ⟨enters_fn Tryz.func231 (by kernel_rfl) rfl⟩
instance : CFn Tryz.prog 232 := ⟨enters_fn Tryz.func232 (by kernel_rfl) rfl⟩
instance : CFn Tryz.prog 233 := ⟨enters_fn Tryz.func233 (by kernel_rfl) rfl⟩
instance : CFn Tryz.prog 234 := ⟨enters_fn Tryz.func234 (by kernel_rfl) rfl⟩
instance : CFn Tryz.prog 235 := ⟨enters_fn Tryz.func235 (by kernel_rfl) rfl⟩
instance : CFn Tryz.prog 236 := ⟨enters_fn Tryz.func236 (by kernel_rfl) rfl⟩
instance : CFn Tryz.prog 237 := ⟨enters_fn Tryz.func237 (by kernel_rfl) rfl⟩
instance : CFn Tryz.prog 238 := ⟨enters_fn Tryz.func238 (by kernel_rfl) rfl⟩
instance : CFn Tryz.prog 239 := ⟨enters_fn Tryz.func239 (by kernel_rfl) rfl⟩
instance : CFn Tryz.prog 240 := ⟨enters_fn Tryz.func240 (by kernel_rfl) rfl⟩
instance : CFn Tryz.prog 241 := ⟨enters_fn Tryz.func241 (by kernel_rfl) rfl⟩
instance : CFn Tryz.prog 242 := ⟨enters_fn Tryz.func242 (by kernel_rfl) rfl⟩
instance : CFn Tryz.prog 243 := ⟨enters_fn Tryz.func243 (by kernel_rfl) rfl⟩
instance : CFn Tryz.prog 244 := ⟨enters_fn Tryz.func244 (by kernel_rfl) rfl⟩
instance : CFn Tryz.prog 245 := ⟨enters_fn Tryz.func245 (by kernel_rfl) rfl⟩
instance : CFn Tryz.prog 246 := ⟨enters_fn Tryz.func246 (by kernel_rfl) rfl⟩
instance : CFn Tryz.prog 247 := ⟨enters_fn Tryz.func247 (by kernel_rfl) rfl⟩
instance : CFn Tryz.prog 248 := ⟨enters_fn Tryz.func248 (by kernel_rfl) rfl⟩
instance : CFn Tryz.prog 249 := ⟨enters_fn Tryz.func249 (by kernel_rfl) rfl⟩
instance : CFn Tryz.prog 250 := ⟨enters_fn Tryz.func250 (by kernel_rfl) rfl⟩
instance : CFn Tryz.prog 251 := ⟨enters_fn Tryz.func251 (by kernel_rfl) rfl⟩
instance : CFn Tryz.prog 267 := ⟨enters_fn Tryz.func267 (by kernel_rfl) rfl⟩
instance : CFn Tryz.prog 268 := ⟨enters_fn Tryz.func268 (by kernel_rfl) rfl⟩
instance : CFn Tryz.prog 269 := ⟨enters_fn Tryz.func269 (by kernel_rfl) rfl⟩
instance : CFn Tryz.prog 270 := ⟨enters_fn Tryz.func270 (by kernel_rfl) rfl⟩
instance : CFn Tryz.prog 271 := ⟨enters_fn Tryz.func271 (by kernel_rfl) rfl⟩
instance : CFn Tryz.prog 275 := ⟨enters_fn Tryz.func275 (by kernel_rfl) rfl⟩
instance : CFn Tryz.prog 276 := ⟨enters_fn Tryz.func276 (by kernel_rfl) rfl⟩
instance : CFn Tryz.prog 277 := ⟨enters_fn Tryz.func277 (by kernel_rfl) rfl⟩
instance : CFn Tryz.prog 280 := ⟨enters_fn Tryz.func280 (by kernel_rfl) rfl⟩
instance : CFn Tryz.prog 281 := ⟨enters_fn Tryz.func281 (by kernel_rfl) rfl⟩
instance : CFn Tryz.prog 282 := ⟨enters_fn Tryz.func282 (by kernel_rfl) rfl⟩
instance : CFn Tryz.prog 283 := ⟨enters_fn Tryz.func283 (by kernel_rfl) rfl⟩
end Go.Proofs.YtpbinloeemebkaaGreat

namespace Go.Proofs.YtpbinloeemebkaaGreat
open Go.RowKit
section
variable {P : Program} {r : Option Nat} {ops : Array Oper} {Q : Exit → Act → World → Prop} {nt : Nat} {D : List Deferred} {fr : AFr} {B : Bs} {L : AL} {rest : List Oper} {cd : Code} {φ : Prop}
theorem at_get (hφ : ∀ σ a w, AAg σ nt D fr a → ASt B σ L w → φ) (h : φ → AT P r cd Q nt D fr B L) : AT P r cd Q nt D fr B L := fun σ a w ha hw => h (hφ σ a w ha hw) σ a w ha hw
theorem atl_get (hφ : ∀ σ a w, AAg σ nt D fr a → ASt B σ L w → φ) (h : φ → ATL P r ops Q nt D rest fr B L) : ATL P r ops Q nt D rest fr B L := fun σ a w ha hw => h (hφ σ a w ha hw) σ a w ha hw
theorem imm_le {σ : Mem} {u : AV} {v : Value} {s : Nat} {l : List (List AV)} (h : VR σ u v) (hu : immO u = some (s, l)) : l.length ≤ 9223372036854775807 ∧ ∀ e ∈ l, e.length = s := by
  have h1 := h.im
  rw [immO_spec hu] at h1
  obtain ⟨_, _, _, h2, h3, h4, _⟩ := h1.imm_inv
  unfold maxLen at h3
  exact ⟨by omega, h4⟩
theorem at_len (t : Nat) {u : AV} {s : Nat} {l : List (List AV)} (hl : alook fr t = some u) (hu : immO u = some (s, l)) (h : l.length ≤ 9223372036854775807 → AT P r cd Q nt D fr B L) : AT P r cd Q nt D fr B L :=
  at_get (fun σ a w ha _ => (imm_le (ha.look t u hl) hu).1) h
end
section
variable {P : Program} {nt : Nat} {fr : AFr} {B : Bs} {L : AL}
theorem ax_ret1I {fn : Func} {Post : AV → AL → Prop} {t : Tmp} {c : AV} {s : Nat} {l : List (List AV)} (hr : fn.results = #[.tmp t]) (hv : alook fr t = some c) (hi : immO c = some (s, l)) (h : Post (.imm s l) L) : AX P .ret (bodyPost P fn (ARet B Post)) nt [] fr B L :=
  fun σ a w ha hw => ⟨ha.defers, _, results_tmp hr _ _ _, _, σ, .imm s l, L, rfl, by rw [← immO_spec hi]; exact (ha.look t c hv).im, hw, h⟩
end
section
variable {P : Program} {r : Option Nat} {ops : Array Oper} {Q : Exit → Act → World → Prop} {nt : Nat} {D : List Deferred} {fr : AFr} {B : Bs} {L : AL} {rest : List Oper} {d : Nat} {ty : TypeId} {pos : String} {af : Array Edge}
def AVec (P : Program) (f : FuncId) (args : List AV) (e s : Nat) (l : List (List AV)) : Prop := AC P f args [] fun c L => ∃ k, c = .vec k s l ∧ L = _root_.Go.Proofs.YtpbinloeemebkaaGreat.tok k e s l.length
theorem n_callV {f : FuncId} {args : Array Operand} {ts : Array TypeId} {cs ds : List AV} {e s : Nat} {l : List (List AV)} [CFn P f] (hc : AVec P f ds e s l) (hv : aevs fr args.toList = some cs) (hi : imsF cs = some ds) (hd : Nat.ble nt d = false) (h : ∀ k, ATL P r ops Q nt D rest ((d, .vec k s l) :: fr) B (_root_.Go.Proofs.YtpbinloeemebkaaGreat.tok k e s l.length ++ L)) :
    ATL P r ops Q nt D (⟨some d, .call ⟨.value (.func f), args, ts⟩, ty, pos, af, none⟩ :: rest) fr B L := by
  have hc' := hc
  rw [← imsF_eq hi] at hc'
  refine atl_op hd rfl (ao_call [] L hv (fun σ vs h => h.im) (List.Perm.refl _) hc') fun c L' hh => ?_
  obtain ⟨L1, ⟨k, h1, h2⟩, h3⟩ := hh
  subst h1; subst h2; subst h3
  exact h k
end
def ints (l : List Int) : List (List AV) := l.map fun z => [.sc (.int .i64 z)]
theorem ints_len (l : List Int) : (ints l).length = l.length := by simp [ints]
theorem ints_get {l : List Int} {i : Nat} {z : Int} (h : l[i]? = some z) : (ints l)[i]? = some [.sc (.int .i64 z)] := by simp [ints, h]
end Go.Proofs.YtpbinloeemebkaaGreat

namespace Go.Proofs.YtpbinloeemebkaaGreat
open Go.RowKit
section
variable {P : Program} {tt : TT} {r : Option Nat} {Q : Exit → Act → World → Prop} {nt : Nat} {D : List Deferred} {fr : AFr} {B : Bs} {L : AL} {l : List Oper} {fin : FinA}
variable {k j : Nat} {s : Ak} {sk : AkL} {acc : AFr} {dd : Option Tmp} {op : Op} {ty t t' : TypeId} {pos : String} {af : Array Edge} {g : Option (Nat × Bool)} {x y c : Operand} {u : AV} {want b : Bool}
def DA1 (P : Program) (l : List Oper) (fr : AFr) (fin : FinA) (k : Nat) (s : Ak) (o : Oper) (sk : AkL) (acc : AFr) (L : AL) : Prop := l[k]? = some o → DA P l fr fin ((k, s) :: sk) acc L
theorem da_open {o : Oper} (h : DA1 P l fr fin k s o sk acc L) (ho : l[k]? = some o := by rfl) : DA P l fr fin ((k, s) :: sk) acc L := h ho
def GOA (o : Oper) (acc : AFr) : Prop := match o.guard with
  | none => True
  | some (j, want) => lvA acc j = .sc (.bool want)
theorem aok_of {o : Oper} {R : AV → AL → Prop} (hg : GOA o acc) (h : ∀ B, AO P o (frkA l.toArray acc fr o.after.toList) B L R) : AOk P l fr o acc L R := by
  unfold AOk
  unfold GOA at hg
  split
  · exact h
  · rename_i j want hq
    rw [hq] at hg
    exact .inl ⟨hg, h⟩
theorem da_val {o : Oper} (hg : GOA o acc) (h : ∀ B L, AO P o (frkA l.toArray acc fr o.after.toList) B L (fun c L' => c = u ∧ L' = L)) (hn : DA P l fr fin sk ((k, u) :: acc) L) : DA1 P l fr fin k .v o sk acc L := by
  intro ho
  obtain ⟨pl, hpl⟩ := hn
  exact ⟨.val k u pl, .v, sk, o, rfl, ho, .inl ⟨rfl, fun L => aok_of hg fun B => h B L⟩, hpl⟩
theorem da_lod {o : Oper} (hg : GOA o acc) (h : ∀ B, AO P o (frkA l.toArray acc fr o.after.toList) B L (fun c L' => c = u ∧ L' = L)) (hn : DA P l fr fin sk ((k, u) :: acc) L) : DA1 P l fr fin k .l o sk acc L := by
  intro ho
  obtain ⟨pl, hpl⟩ := hn
  exact ⟨.val k u pl, .l, sk, o, rfl, ho, .inr (.inl ⟨rfl, aok_of hg fun B => h B⟩), hpl⟩
theorem da_eff {o : Oper} {R : AV → AL → Prop} (hg : GOA o acc) (h : ∀ B, AO P o (frkA l.toArray acc fr o.after.toList) B L R) (hn : ∀ c L', R c L' → DA P l fr fin sk ((k, c) :: acc) L') : DA1 P l fr fin k .e o sk acc L := by
  intro ho
  have hn' : ∀ c L', ∃ pl, R c L' → OkA P l fr fin pl sk ((k, c) :: acc) L' := fun c L' => by
    by_cases hr : R c L'
    · obtain ⟨pl, hpl⟩ := hn c L' hr
      exact ⟨pl, fun _ => hpl⟩
    · exact ⟨.fin, fun h => absurd h hr⟩
  exact ⟨.eff k R fun c L' => Classical.choose (hn' c L'), .e, sk, o, .inl rfl, rfl, ho, aok_of hg h, fun c L' hr => Classical.choose_spec (hn' c L') hr⟩
theorem da_kpt {o : Oper} (hK : keptA fin.gs L) (hg : GOA o acc) (h : ∀ B L, keptA fin.gs L → AO P o (frkA l.toArray acc fr o.after.toList) B L (fun c L' => c = u ∧ L' = L)) (hn : DA P l fr fin sk ((k, u) :: acc) L) : DA1 P l fr fin k .k o sk acc L := by
  intro ho
  obtain ⟨pl, hpl⟩ := hn
  exact ⟨.val k u pl, .k, sk, o, rfl, ho, .inr (.inr ⟨rfl, hK, fun L hL => aok_of hg fun B => h B L hL⟩), hpl⟩
theorem da_keff {o : Oper} {R : AV → AL → Prop} (hX : ∀ c L', R c L' → keptA fin.gs L → keptA fin.gs L') (hg : GOA o acc) (h : ∀ B, AO P o (frkA l.toArray acc fr o.after.toList) B L R) (hn : ∀ c L', R c L' → DA P l fr fin sk ((k, c) :: acc) L') : DA1 P l fr fin k .f o sk acc L := by
  intro ho
  have hn' : ∀ c L', ∃ pl, R c L' → OkA P l fr fin pl sk ((k, c) :: acc) L' := fun c L' => by
    by_cases hr : R c L'
    · obtain ⟨pl, hpl⟩ := hn c L' hr
      exact ⟨pl, fun _ => hpl⟩
    · exact ⟨.fin, fun h => absurd h hr⟩
  exact ⟨.eff k R fun c L' => Classical.choose (hn' c L'), .f, sk, o, .inr (.inr ⟨rfl, hX⟩), rfl, ho, aok_of hg h, fun c L' hr => Classical.choose_spec (hn' c L') hr⟩
theorem da_add {o : Oper} {R : AV → AL → Prop} (hX : ∀ c L', R c L' → ∃ X, L' = X ++ L) (hg : GOA o acc) (h : ∀ B, AO P o (frkA l.toArray acc fr o.after.toList) B L R) (hn : ∀ c L', R c L' → DA P l fr fin sk ((k, c) :: acc) L') : DA1 P l fr fin k .a o sk acc L := by
  intro ho
  have hn' : ∀ c L', ∃ pl, R c L' → OkA P l fr fin pl sk ((k, c) :: acc) L' := fun c L' => by
    by_cases hr : R c L'
    · obtain ⟨pl, hpl⟩ := hn c L' hr
      exact ⟨pl, fun _ => hpl⟩
    · exact ⟨.fin, fun h => absurd h hr⟩
  exact ⟨.eff k R fun c L' => Classical.choose (hn' c L'), .a, sk, o, .inr (.inl ⟨rfl, hX⟩), rfl, ho, aok_of hg h, fun c L' hr => Classical.choose_spec (hn' c L') hr⟩
theorem da_no {op : Op} (hj : lvA acc j = .sc (.bool b)) (hb : (b == want) = false) (hn : DA P l fr fin sk ((k, .sc undef) :: acc) L) : DA1 P l fr fin k .v ⟨dd, op, ty, pos, af, some (j, want)⟩ sk acc L := by
  intro ho
  obtain ⟨pl, hpl⟩ := hn
  exact ⟨.val k (.sc undef) pl, .v, sk, _, rfl, ho, .inl ⟨rfl, fun L => .inr ⟨⟨_, hj, fun e => by injection e with e; subst e; simp at hb⟩, rfl, rfl⟩⟩, hpl⟩
theorem ofv {o : Oper} {fr : AFr} (h : Av P o fr u) : ∀ B L, AO P o fr B L (fun c L' => c = u ∧ L' = L) := fun _ _ => h.ao
theorem d_run (ok : TOk P tt) (h : DA P l fr fin sk ((k, u) :: acc) L) (hu : stepB tt (frkA l.toArray acc fr af.toList) op = some u := by rfl) (hg : GOA ⟨dd, op, ty, pos, af, g⟩ acc := by first | trivial | rfl) : DA1 P l fr fin k .v ⟨dd, op, ty, pos, af, g⟩ sk acc L := da_val hg (ofv (stepB_spec ok hu)) h
theorem ds_bin {bop : BinOp} (h : DA1 P l fr fin k .v ⟨dd, .binOp bop t x y t', ty, pos, af, g⟩ sk acc L) : DA1 P l fr fin k .v ⟨dd, .binOp bop t x y t', ty, pos, af, g⟩ sk acc L := h
theorem d_bin {bop : BinOp} (h : DA P l fr fin sk ((k, u) :: acc) L) (ho : Av P ⟨dd, .binOp bop t x y t', ty, pos, af, g⟩ (frkA l.toArray acc fr af.toList) u := by first | exact a_add64 rfl rfl (by omega) | exact a_sub64 rfl rfl (by omega) | exact a_mul64 rfl rfl (by omega)) (hg : GOA ⟨dd, .binOp bop t x y t', ty, pos, af, g⟩ acc := by first | trivial | rfl) : DA1 P l fr fin k .v ⟨dd, .binOp bop t x y t', ty, pos, af, g⟩ sk acc L := da_val hg (ofv ho) h
theorem ds_index (h : DA1 P l fr fin k .v ⟨dd, .indexAddr t x y, ty, pos, af, g⟩ sk acc L) : DA1 P l fr fin k .v ⟨dd, .indexAddr t x y, ty, pos, af, g⟩ sk acc L := h
theorem d_index (ok : TOk P tt) {e sz by_ s : Nat} {ll : List (List AV)} {ik : IntKind} {i : Int} {es : List AV} (h : DA P l fr fin sk ((k, .iptr es) :: acc) L) (ht : slI tt t = some (e, sz, by_) := by rfl) (hx : aev (frkA l.toArray acc fr af.toList) x = some u := by rfl) (hu : immO u = some (s, ll) := by rfl) (hs : Nat.beq s sz = true := by rfl) (hy : aev (frkA l.toArray acc fr af.toList) y = some (.sc (.int ik i)) := by rfl) (h0 : 0 ≤ i := by omega) (hl : ll[i.toNat]? = some es := by first | assumption | (simp only [Int.toNat_natCast]; assumption)) (hg : GOA ⟨dd, .indexAddr t x y, ty, pos, af, g⟩ acc := by first | trivial | rfl) : DA1 P l fr fin k .v ⟨dd, .indexAddr t x y, ty, pos, af, g⟩ sk acc L := da_val hg (ofv (a_index (slI_spec ok ht).1 hx (immO_spec hu) hs hy h0 hl)) h
theorem ds_call {f : FuncId} {args : Array Operand} {ts : Array TypeId} (h : DA1 P l fr fin k .v ⟨dd, .call ⟨.value (.func f), args, ts⟩, ty, pos, af, g⟩ sk acc L) : DA1 P l fr fin k .v ⟨dd, .call ⟨.value (.func f), args, ts⟩, ty, pos, af, g⟩ sk acc L := h
theorem d_call {f : FuncId} {args : Array Operand} {ts : Array TypeId} {cs ds : List AV} [CFn P f] (h : DA P l fr fin sk ((k, u) :: acc) L) (hv : aevs (frkA l.toArray acc fr af.toList) args.toList = some cs := by rfl) (hi : imsF cs = some ds := by rfl) (hc : AD P f ds u := by infer_instance) (hg : GOA ⟨dd, .call ⟨.value (.func f), args, ts⟩, ty, pos, af, g⟩ acc := by first | trivial | rfl) : DA1 P l fr fin k .v ⟨dd, .call ⟨.value (.func f), args, ts⟩, ty, pos, af, g⟩ sk acc L := da_val hg (fun _ _ => ao_det hv (by rw [imsF_eq hi]; exact hc.det)) h
theorem d_load (ok : TOk P tt) (i : Nat) {b kk : Nat} {cs : List AV} {e : TypeId} (ht : scI tt t = true) (hx : aev (frkA l.toArray acc fr af.toList) x = some (.sc (.pointer (some ⟨b, kk, none⟩)))) (hL : L[i]? = some (b, .box cs e)) (hc : cs[kk]? = some u) (hg : GOA ⟨dd, .load t x, ty, pos, af, g⟩ acc) (h : DA P l fr fin sk ((k, u) :: acc) L) : DA1 P l fr fin k .l ⟨dd, .load t x, ty, pos, af, g⟩ sk acc L := da_lod hg (fun _ => ao_load i (scI_spec ok ht) hx hL hc) h
theorem d_loadA (ok : TOk P tt) (i : Nat) {b kk n : Nat} {cs : List AV} {e : TypeId} (ht : agI tt t = some n) (hx : aev (frkA l.toArray acc fr af.toList) x = some (.sc (.pointer (some ⟨b, kk, none⟩)))) (hL : L[i]? = some (b, .box cs e)) (hc : Nat.ble (kk + n) cs.length = true) (hg : GOA ⟨dd, .load t x, ty, pos, af, g⟩ acc) (h : DA P l fr fin sk ((k, .agg ((cs.drop kk).take n)) :: acc) L) : DA1 P l fr fin k .l ⟨dd, .load t x, ty, pos, af, g⟩ sk acc L := da_lod hg (fun _ => ao_loadA i (agI_spec ok ht) hx hL hc) h
theorem keptA_box {gs : KpL} {i b kk : Nat} {v : AV} (hi : gs[i]? = some (b, kk, v)) {L : AL} (h : keptA gs L) : ∃ (j : Nat) (cs : List AV) (e : TypeId), L[j]? = some (b, .box cs e) ∧ cs[kk]? = some v := by
  obtain ⟨cs, e, h1, h2⟩ := h _ (List.mem_of_getElem? hi)
  obtain ⟨j, hj⟩ := List.mem_iff_getElem?.1 h1
  exact ⟨j, cs, e, hj, h2⟩
theorem d_loadK (ok : TOk P tt) (i : Nat) {b kk : Nat} (ht : scI tt t = true) (hx : aev (frkA l.toArray acc fr af.toList) x = some (.sc (.pointer (some ⟨b, kk, none⟩)))) (hi : fin.gs[i]? = some (b, kk, u)) (hK : keptA fin.gs L) (hg : GOA ⟨dd, .load t x, ty, pos, af, g⟩ acc) (h : DA P l fr fin sk ((k, u) :: acc) L) : DA1 P l fr fin k .k ⟨dd, .load t x, ty, pos, af, g⟩ sk acc L :=
  da_kpt hK hg (fun _ L' hL' => by
    obtain ⟨j, cs, e, h1, h2⟩ := keptA_box hi hL'
    exact ao_load j (scI_spec ok ht) hx h1 h2) h
theorem ao_litI {d : Option Tmp} {e sz by_ n : Nat} {parts : Array (Nat × Operand)} {vs : List AV} {xs : List (List AV)} (hc : CSl P t e sz by_) (hsz : 0 < sz) (hv : aevs fr (parts.toList.map (·.2)) = some vs) (hxs : acells vs = some xs) (hn : Nat.beq xs.length n = true) (hi : parts.toList.map (·.1) = List.range' 0 n) (hz : xs.all (fun q => Nat.beq q.length sz) = true) (h24 : Nat.ble (n * sz) 16777216 = true) :
    AO P ⟨d, .buildSlice t n parts, ty, pos, af, g⟩ fr B L (fun c L' => c = .imm sz xs ∧ L' = L) := by
  intro σ ρ w hρ hw
  refine (ao_lit hc hsz hv hxs hn hi hz h24 σ ρ w hρ hw).mono fun v w' hh => ?_
  obtain ⟨τ, c, L', h1, h2, h3, b, rfl, rfl⟩ := hh
  exact ⟨τ, _, L, h1, h2.im, h3.sublist (.cons _ (List.Sublist.refl _)), rfl, rfl⟩
theorem d_lit (ok : TOk P tt) {e sz by_ n : Nat} {parts : Array (Nat × Operand)} {vs : List AV} {xs : List (List AV)} (h : DA P l fr fin sk ((k, .imm sz xs) :: acc) L) (ht : slI tt t = some (e, sz, by_) := by rfl) (hv : aevs (frkA l.toArray acc fr af.toList) (parts.toList.map (·.2)) = some vs := by rfl) (hxs : acells vs = some xs := by rfl) (hn : Nat.beq xs.length n = true := by rfl) (hi : parts.toList.map (·.1) = List.range' 0 n := by rfl) (hz : xs.all (fun q => Nat.beq q.length sz) = true := by rfl) (h24 : Nat.ble (n * sz) 16777216 = true := by rfl) (hg : GOA ⟨dd, .buildSlice t n parts, ty, pos, af, g⟩ acc := by first | trivial | rfl) :
    DA1 P l fr fin k .v ⟨dd, .buildSlice t n parts, ty, pos, af, g⟩ sk acc L := da_val hg (fun _ _ => ao_litI (slI_spec ok ht).1 (slI_spec ok ht).2 hv hxs hn hi hz h24) h
theorem n_litI (ok : TOk P tt) {r : Option Nat} {ops : Array Oper} {Q : Exit → Act → World → Prop} {nt : Nat} {D : List Deferred} {rest : List Oper} {d e sz by_ n : Nat} {parts : Array (Nat × Operand)} {vs : List AV} {xs : List (List AV)} (h : ATL P r ops Q nt D rest ((d, .imm sz xs) :: fr) B L) (ht : slI tt t = some (e, sz, by_) := by rfl) (hv : aevs fr (parts.toList.map (·.2)) = some vs := by rfl) (hxs : acells vs = some xs := by rfl) (hn : Nat.beq xs.length n = true := by rfl) (hi : parts.toList.map (·.1) = List.range' 0 n := by rfl) (hz : xs.all (fun q => Nat.beq q.length sz) = true := by rfl) (h24 : Nat.ble (n * sz) 16777216 = true := by rfl) (hd : Nat.ble nt d = false := by rfl) :
    ATL P r ops Q nt D (⟨some d, .buildSlice t n parts, ty, pos, af, none⟩ :: rest) fr B L := by
  obtain ⟨h1, h2⟩ := slI_spec ok ht
  refine atl_op hd rfl (ao_litI h1 h2 hv hxs hn hi hz h24) fun c L' hh => ?_
  obtain ⟨h1, h2⟩ := hh
  subst h1; subst h2
  exact h
theorem da_end {gs : KpL} {n0 : Nat} {fr0 : AFr} {rest : List Oper} (ks : List Nat) (hk : akeep (frAllA l.toArray acc fr n0) ks = some fr0) (hr : l.drop n0 = rest) (h : ATL P r l.toArray Q nt D rest fr0 B L) : DA P l fr ⟨finA P r l n0 Q nt D fr B none, gs⟩ [] acc L :=
  ⟨.fin, rfl, by rw [← hr] at h; exact atl_weak (akeep_afle ks hk) (fun _ _ h => h) h⟩
theorem da_endA {gs : KpL} {n0 kk : Nat} {ab : AB} {rest : List Oper} (ks : List Nat) (fr0 : Nat → AFr) (hk : ∀ b, akeep (frAllA l.toArray ((kk, .sc (.pointer (some ⟨b, 0, none⟩))) :: acc) fr n0) ks = some (fr0 b)) (hr : l.drop n0 = rest) (h : ∀ b, ATL P r l.toArray Q nt D rest (fr0 b) B (L ++ [(b, ab)])) : DA P l fr ⟨finA P r l n0 Q nt D fr B (some (kk, ab)), gs⟩ [] acc L :=
  ⟨.fin, rfl, fun b => by have := h b; rw [← hr] at this; exact atl_weak (akeep_afle ks (hk b)) (fun _ _ h => h) this⟩
end
end Go.Proofs.YtpbinloeemebkaaGreat

namespace Go.Proofs.YtpbinloeemebkaaGreat
open Go.RowKit
attribute [local irreducible] AT ATL AX AO Av Kt ALoopK OkA DA DA1

theorem same_det (l k : List Int) : ADet Tryz.prog 12 [.imm 1 (ints l), .imm 1 (ints k)] (.sc (.bool (l == k))) := by
  refine ac_of Tryz.func12 rfl Tryz.ntmps12 rfl fun B => ?_
  refine at_len 0 rfl rfl fun hlen => ?_
  rw [ints_len] at hlen
  (repeat' (first|refine at_seq ?_|refine at_region ?_|refine ax_then ?_|refine atl_nil ?_|refine n_run ttok rfl rfl ?_|fail))
  refine at_cond rfl (fun h => ?_) (fun h => ?_)
  · have h' := of_decide_eq_true h
    simp only [ints_len] at h'
    (repeat' (first|refine at_seq ?_|refine at_region ?_|refine at_ret ?_|refine ax_then ?_|refine ax_then_ret ?_|refine atl_nil ?_|refine n_run ttok rfl rfl ?_|fail))
    refine ax_ret1 rfl rfl ?_
    rw [show (l == k) = false by rw [beq_eq_false_iff_ne]; intro e; subst e; simp at h']
  · have h' := of_decide_eq_false h
    simp only [ints_len] at h'
    have hlk : l.length = k.length := by omega
    (repeat' (first|refine at_seq ?_|refine at_region ?_|refine at_block ?_|refine at_skip ?_|refine ax_then ?_|refine atl_nil ?_|refine n_run ttok rfl rfl ?_|fail))
    refine at_loopK [0, 1] (α := Nat) (fun i => [(5, .sc (.int .i64 i))]) (fun i => i ≤ l.length ∧ l.take i = k.take i) (fun _ => []) (fun i => l.length - i) 0 rfl ⟨rfl, trivial⟩ ⟨Nat.zero_le _, by simp⟩ (fun _ _ h => h) fun i hi => ?_
    try dsimp only [List.cons_append, List.nil_append, List.map_cons, List.map_nil]
    (repeat' (first|refine at_seq ?_|refine at_region ?_|refine ax_then ?_|refine atl_nil ?_|refine n_run ttok rfl rfl ?_|fail))
    refine at_cond rfl (fun h => ?_) (fun h => ?_)
    · have hil : i < l.length := by have := of_decide_eq_true h; rw [ints_len] at this; omega
      obtain ⟨z, hz⟩ : ∃ z, l[i]? = some z := ⟨_, List.getElem?_eq_getElem hil⟩
      obtain ⟨y, hy⟩ : ∃ z, k[i]? = some z := ⟨_, List.getElem?_eq_getElem (by omega)⟩
      have hzg := ints_get hz
      have hyg := ints_get hy
      (repeat' (first|refine at_seq ?_|refine at_block ?_|refine at_skip ?_|refine ax_then ?_|fail))
      refine at_draw 8 [(0, .v), (1, .v), (2, .v), (3, .v), (4, .v), (5, .v), (6, .v), (7, .v)] none ?_ trivial rfl (by kernel_rfl) (by kernel_rfl) (by kernel_rfl) mixed (by kernel_rfl) rfl
      (repeat' (first|refine da_open ?_|refine d_run ttok ?_|(apply ds_index;refine d_index ttok ?_)|fail))
      refine da_end [0, 1, 5, 20, 24] rfl rfl ?_
      (repeat' (first|refine ax_then ?_|refine atl_nil ?_|refine n_run ttok rfl rfl ?_|fail))
      refine at_cond rfl (fun h2 => ?_) (fun h2 => ?_)
      · have h2' := of_decide_eq_true h2
        (repeat' (first|refine at_seq ?_|refine at_region ?_|refine at_ret ?_|refine ax_then ?_|refine ax_then_ret ?_|refine ax_blk_ret ?_|refine ax_loop_ret ?_|refine atl_nil ?_|refine n_run ttok rfl rfl ?_|fail))
        refine ax_ret1 rfl rfl ?_
        rw [show (l == k) = false by rw [beq_eq_false_iff_ne]; intro e; subst e; rw [hz] at hy; injection hy with hy; exact h2' hy]
      · have h2' := of_decide_eq_false h2
        (repeat' (first|refine at_region ?_|refine at_skip ?_|refine ax_then ?_|refine ax_blk ?_|refine atl_nil ?_|refine n_run ttok rfl rfl ?_|(apply s_bin; refine n_bin ?_)|fail))
        refine ax_roundK (i + 1) rfl ⟨by rw [Int.natCast_add]; rfl, trivial⟩ ⟨by omega, ?_⟩ (by omega) (fun _ _ h => h)
        rw [List.take_add_one, List.take_add_one, hz, hy, hi.2, Decidable.not_not.1 h2']
    · have hil : i = l.length := by have := of_decide_eq_false h; rw [ints_len] at this; omega
      subst hil
      rw [List.take_length, hlk, List.take_length] at hi
      (repeat' (first|refine at_seq ?_|refine at_region ?_|refine at_ret ?_|refine at_exit ?_|refine ax_then ?_|refine ax_then_exit ?_|refine ax_blk_exit ?_|refine ax_loop_exit ?_|refine atl_nil ?_|refine n_run ttok rfl rfl ?_|fail))
      refine ax_ret1 rfl rfl ?_
      rw [hi.2, beq_self_eq_true]
instance (l k : List Int) : AD Tryz.prog 12 [.imm 1 (ints l), .imm 1 (ints k)] (.sc (.bool (l == k))) := ⟨same_det l k⟩
end Go.Proofs.YtpbinloeemebkaaGreat

namespace Go.Proofs.YtpbinloeemebkaaGreat
open Go.RowKit
attribute [local irreducible] AT ATL AX AO Av Kt ALoopK OkA DA DA1
def setN (l : List Int) (n : Nat) : List Int := ((List.range n).map Int.ofNat).filter (l.contains ·)
theorem ints_app (a b : List Int) : ints a ++ ints b = ints (a ++ b) := by simp [ints]

end Go.Proofs.YtpbinloeemebkaaGreat
