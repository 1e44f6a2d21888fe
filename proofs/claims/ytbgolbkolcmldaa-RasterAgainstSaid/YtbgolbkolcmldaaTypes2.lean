/-
  Closed facts on structs that are built, written by a program (wip/types2.py).
-/
import Derived.Test.YtbgolbkolcmldaaAuto
import Derived.Test.YtbgolbkolcmldaaTypes
import Derived.KernelRfl
namespace Go.Proofs.Ytbgolbkolcmldaa
open Go.RowKit

def bdsem (places : List (Nat × Nat)) (z : List Value) (parts : List (Nat × Value)) : Sem Value := do
  let some cells := Instr.fill (places.toArray[·]?) z.toArray parts | stuck "build: no such field, or a part of the wrong size"
  pure (.agg cells)
theorem bdrun {P : Program} {t : TypeId} {places : List (Nat × Nat)} {z : List Value} {parts : List (Nat × Value)} {cs : Array Value} {w : World} (h : (Instr.build t parts.toArray).run P w = (bdsem places z parts).run P w) (hf : Instr.fill (places[·]?) z.toArray parts = some cs) : (Instr.build t parts.toArray).run P w = .ok (.agg cs) w := by
  rw [h, bdsem]
  have e : (fun (i : Nat) => places.toArray[i]?) = (fun (i : Nat) => places[i]?) := by funext i; simp
  rw [e, hf]
  rfl

instance : CBd Try.prog 7 [(0, 1), (1, 1), (2, 1), (3, 1)] [.int .i64 0, .int .i64 0, .bool false, .int .u8 0] := ⟨fun _ _ _ => bdrun (by kernel_rfl)⟩
instance : CBd Try.prog 8 [(0, 1), (1, 1), (2, 1), (3, 1)] [.int .i64 0, .int .i64 0, .bool false, .int .u8 0] := ⟨fun _ _ _ => bdrun (by kernel_rfl)⟩
instance : CBd Try.prog 13 [(0, 1), (1, 1)] [.string ⟨#[]⟩, .int .u64 0] := ⟨fun _ _ _ => bdrun (by kernel_rfl)⟩
instance : CBd Try.prog 14 [(0, 1), (1, 1)] [.string ⟨#[]⟩, .int .u64 0] := ⟨fun _ _ _ => bdrun (by kernel_rfl)⟩
instance : CBd Try.prog 18 [(0, 1)] [.pointer none] := ⟨fun _ _ _ => bdrun (by kernel_rfl)⟩
instance : CBd Try.prog 19 [(0, 1)] [.pointer none] := ⟨fun _ _ _ => bdrun (by kernel_rfl)⟩
instance : CBd Try.prog 23 [(0, 1), (1, 1)] [.int .i64 0, .int .i64 0] := ⟨fun _ _ _ => bdrun (by kernel_rfl)⟩
instance : CBd Try.prog 24 [(0, 1), (1, 1)] [.int .i64 0, .int .i64 0] := ⟨fun _ _ _ => bdrun (by kernel_rfl)⟩
instance : CBd Try.prog 29 [(0, 1), (1, 1), (2, 1), (3, 1), (4, 1)] [.int .i64 0, .int .i64 0, .int .i64 0, .int .i64 0, .slice none 0 0] := ⟨fun _ _ _ => bdrun (by kernel_rfl)⟩
instance : CBd Try.prog 30 [(0, 1), (1, 1), (2, 1), (3, 1), (4, 1)] [.int .i64 0, .int .i64 0, .int .i64 0, .int .i64 0, .slice none 0 0] := ⟨fun _ _ _ => bdrun (by kernel_rfl)⟩
instance : CBd Try.prog 51 [(0, 1), (1, 1), (2, 1), (3, 1)] [.slice none 0 0, .slice none 0 0, .slice none 0 0, .slice none 0 0] := ⟨fun _ _ _ => bdrun (by kernel_rfl)⟩
instance : CBd Try.prog 52 [(0, 1), (1, 1), (2, 1), (3, 1)] [.slice none 0 0, .slice none 0 0, .slice none 0 0, .slice none 0 0] := ⟨fun _ _ _ => bdrun (by kernel_rfl)⟩
instance : CBd Try.prog 70 [(0, 1), (1, 1)] [.int .i64 0, .int .i64 0] := ⟨fun _ _ _ => bdrun (by kernel_rfl)⟩
instance : CBd Try.prog 71 [(0, 1), (1, 1)] [.int .i64 0, .int .i64 0] := ⟨fun _ _ _ => bdrun (by kernel_rfl)⟩
instance : CBd Try.prog 74 [(0, 1), (1, 1), (2, 1)] [.int .i64 0, .int .i64 0, .string ⟨#[]⟩] := ⟨fun _ _ _ => bdrun (by kernel_rfl)⟩
instance : CBd Try.prog 75 [(0, 1), (1, 1), (2, 1)] [.int .i64 0, .int .i64 0, .string ⟨#[]⟩] := ⟨fun _ _ _ => bdrun (by kernel_rfl)⟩
instance : CBd Try.prog 82 [(0, 1), (1, 1), (2, 1), (3, 1), (4, 1)] [.int .i64 0, .int .i64 0, .int .i64 0, .int .i64 0, .int .i64 0] := ⟨fun _ _ _ => bdrun (by kernel_rfl)⟩
instance : CBd Try.prog 83 [(0, 1), (1, 1), (2, 1), (3, 1), (4, 1)] [.int .i64 0, .int .i64 0, .int .i64 0, .int .i64 0, .int .i64 0] := ⟨fun _ _ _ => bdrun (by kernel_rfl)⟩
instance : CBd Try.prog 88 [(0, 1), (1, 1), (2, 1)] [.int .i64 0, .int .i64 0, .int .i64 0] := ⟨fun _ _ _ => bdrun (by kernel_rfl)⟩
instance : CBd Try.prog 89 [(0, 1), (1, 1), (2, 1)] [.int .i64 0, .int .i64 0, .int .i64 0] := ⟨fun _ _ _ => bdrun (by kernel_rfl)⟩
instance : CBd Try.prog 107 [(0, 2), (2, 1)] [.int .i64 0, .int .i64 0, .int .i64 0] := ⟨fun _ _ _ => bdrun (by kernel_rfl)⟩
instance : CBd Try.prog 108 [(0, 2), (2, 1)] [.int .i64 0, .int .i64 0, .int .i64 0] := ⟨fun _ _ _ => bdrun (by kernel_rfl)⟩
instance : CBd Try.prog 122 [(0, 2), (2, 1)] [.int .i64 0, .int .i64 0, .bool false] := ⟨fun _ _ _ => bdrun (by kernel_rfl)⟩
instance : CBd Try.prog 123 [(0, 2), (2, 1)] [.int .i64 0, .int .i64 0, .bool false] := ⟨fun _ _ _ => bdrun (by kernel_rfl)⟩
instance : CBd Try.prog 144 [(0, 2), (2, 1)] [.int .i64 0, .int .i64 0, .bool false] := ⟨fun _ _ _ => bdrun (by kernel_rfl)⟩
instance : CBd Try.prog 145 [(0, 2), (2, 1)] [.int .i64 0, .int .i64 0, .bool false] := ⟨fun _ _ _ => bdrun (by kernel_rfl)⟩
instance : CBd Try.prog 173 [(0, 1), (1, 1), (2, 1), (3, 1)] [.pointer none, .pointer none, .pointer none, .string ⟨#[]⟩] := ⟨fun _ _ _ => bdrun (by kernel_rfl)⟩
instance : CBd Try.prog 174 [(0, 1), (1, 1), (2, 1), (3, 1)] [.pointer none, .pointer none, .pointer none, .string ⟨#[]⟩] := ⟨fun _ _ _ => bdrun (by kernel_rfl)⟩
instance : CBd Try.prog 185 [(0, 1), (1, 1), (2, 1), (3, 1), (4, 1), (5, 1), (6, 1), (7, 1), (8, 1), (9, 1), (10, 1)] [.int .u64 0, .int .u64 0, .int .u32 0, .int .u8 0, .int .u8 0, .int .u8 0, .int .u8 0, .nilFunc, .pointer none, .int .i32 0, .int .i32 0] := ⟨fun _ _ _ => bdrun (by kernel_rfl)⟩
instance : CBd Try.prog 186 [(0, 1), (1, 1), (2, 1), (3, 1), (4, 1), (5, 1), (6, 1), (7, 1), (8, 1), (9, 1), (10, 1)] [.int .u64 0, .int .u64 0, .int .u32 0, .int .u8 0, .int .u8 0, .int .u8 0, .int .u8 0, .nilFunc, .pointer none, .int .i32 0, .int .i32 0] := ⟨fun _ _ _ => bdrun (by kernel_rfl)⟩

end Go.Proofs.Ytbgolbkolcmldaa
