/-
  Closed facts on the types and functions of the seat's program, written by a program (wip/types.py).
-/
import Derived.Test.YtbgolbkolcmldaaGB
import Derived.Test.YtbgolbkolcmldaaProg
import Derived.KernelRfl

namespace Go.Proofs.Ytbgolbkolcmldaa
open Go.RowKit

theorem zfact {P : Program} {t : TypeId} {v : Value} {z : List Value} (hc : v.cells = z.toArray) (h : (P.info? t).map (·.zero) = some (some v)) : ∃ v : Value, v.cells = z.toArray ∧ ∀ w, (zeroValue t).run P w = .ok v w := by
  refine ⟨v, hc, fun w => ?_⟩
  cases hq : P.info? t with
  | none => rw [hq] at h; cases h
  | some i =>
    rw [hq] at h
    simp only [Option.map_some, Option.some.injEq] at h
    simp [zeroValue, typeInfo, hq, h]
theorem slfact {P : Program} {e sz bytes : Nat} {z : Value} (hz : z.cells.size = sz) (h : (P.info? e).map (fun i => (i.size, i.bytes, i.zero)) = some (sz, bytes, some z)) : ∃ i z, P.info? e = some i ∧ i.size = sz ∧ i.bytes = bytes ∧ i.zero = some z ∧ z.cells.size = sz := by
  cases hq : P.info? e with
  | none => rw [hq] at h; cases h
  | some i =>
    rw [hq] at h
    simp only [Option.map_some, Option.some.injEq, Prod.mk.injEq] at h
    exact ⟨i, z, rfl, h.1, h.2.1, h.2.2, hz⟩
theorem enters_fn {P : Program} {f : FuncId} {fn : Func} {c : Code} (hf : P.funcs[f]? = some fn) (hname : (fn.name == "runtime.NumGoroutine") = false) (hb : fn.body = some c) : ∀ args w, (callFunc f args).run P w = .ok (.enter f args) w := by
  intro args w
  have hne : ¬ fn.name = "runtime.NumGoroutine" := by simpa using hname
  simp [callFunc, hf, hne, hb]
theorem aggfact {P : Program} {t : TypeId} {dd : TypeDesc} {b : Bool} (hu : P.underlying t = some dd) (hd : (match dd with | .struct _ | .array _ _ => true | _ => false) = b) (w : World) : (isAgg t).run P w = .ok b w := by
  subst hd
  simp only [isAgg, Sem.run_bind, run_underlying hu, Result.andThen]
  cases dd <;> rfl

instance : CSc Try.prog 1 := ⟨aggfact Try.underlying1 rfl, by kernel_rfl⟩
instance : CZ Try.prog 1 [.nilFunc] := ⟨zfact (v := .nilFunc) rfl (by kernel_rfl)⟩
instance : CSc Try.prog 2 := ⟨aggfact Try.underlying2 rfl, by kernel_rfl⟩
instance : CZ Try.prog 2 [.int .i64 0] := ⟨zfact (v := .int .i64 0) rfl (by kernel_rfl)⟩
instance : CInt Try.prog 2 .i64 := ⟨Try.underlying2⟩
instance : CSc Try.prog 3 := ⟨aggfact Try.underlying3 rfl, by kernel_rfl⟩
instance : CZ Try.prog 3 [.int .i64 0] := ⟨zfact (v := .int .i64 0) rfl (by kernel_rfl)⟩
instance : CInt Try.prog 3 .i64 := ⟨Try.underlying3⟩
instance : CSc Try.prog 4 := ⟨aggfact Try.underlying4 rfl, by kernel_rfl⟩
instance : CZ Try.prog 4 [.bool false] := ⟨zfact (v := .bool false) rfl (by kernel_rfl)⟩
instance : CSc Try.prog 5 := ⟨aggfact Try.underlying5 rfl, by kernel_rfl⟩
instance : CZ Try.prog 5 [.int .u8 0] := ⟨zfact (v := .int .u8 0) rfl (by kernel_rfl)⟩
instance : CInt Try.prog 5 .u8 := ⟨Try.underlying5⟩
instance : CSc Try.prog 6 := ⟨aggfact Try.underlying6 rfl, by kernel_rfl⟩
instance : CZ Try.prog 6 [.int .u8 0] := ⟨zfact (v := .int .u8 0) rfl (by kernel_rfl)⟩
instance : CInt Try.prog 6 .u8 := ⟨Try.underlying6⟩
instance : CAg Try.prog 7 4 := ⟨aggfact Try.underlying7 rfl, by kernel_rfl⟩
instance : CFd Try.prog 7 0 0 := ⟨fun _ _ => by kernel_rfl⟩
instance : CFd Try.prog 7 1 1 := ⟨fun _ _ => by kernel_rfl⟩
instance : CFd Try.prog 7 2 2 := ⟨fun _ _ => by kernel_rfl⟩
instance : CFd Try.prog 7 3 3 := ⟨fun _ _ => by kernel_rfl⟩
instance : CZ Try.prog 7 [.int .i64 0, .int .i64 0, .bool false, .int .u8 0] := ⟨zfact (v := .agg #[.int .i64 0, .int .i64 0, .bool false, .int .u8 0]) rfl (by kernel_rfl)⟩
instance : CAg Try.prog 8 4 := ⟨aggfact Try.underlying8 rfl, by kernel_rfl⟩
instance : CFd Try.prog 8 0 0 := ⟨fun _ _ => by kernel_rfl⟩
instance : CFd Try.prog 8 1 1 := ⟨fun _ _ => by kernel_rfl⟩
instance : CFd Try.prog 8 2 2 := ⟨fun _ _ => by kernel_rfl⟩
instance : CFd Try.prog 8 3 3 := ⟨fun _ _ => by kernel_rfl⟩
instance : CZ Try.prog 8 [.int .i64 0, .int .i64 0, .bool false, .int .u8 0] := ⟨zfact (v := .agg #[.int .i64 0, .int .i64 0, .bool false, .int .u8 0]) rfl (by kernel_rfl)⟩
instance : CSc Try.prog 9 := ⟨aggfact Try.underlying9 rfl, by kernel_rfl⟩
instance : CZ Try.prog 9 [.string ⟨#[]⟩] := ⟨zfact (v := .string ⟨#[]⟩) rfl (by kernel_rfl)⟩
instance : CStr Try.prog 9 := ⟨Try.underlying9⟩
instance : CSc Try.prog 10 := ⟨aggfact Try.underlying10 rfl, by kernel_rfl⟩
instance : CZ Try.prog 10 [.string ⟨#[]⟩] := ⟨zfact (v := .string ⟨#[]⟩) rfl (by kernel_rfl)⟩
instance : CStr Try.prog 10 := ⟨Try.underlying10⟩
instance : CSc Try.prog 11 := ⟨aggfact Try.underlying11 rfl, by kernel_rfl⟩
instance : CZ Try.prog 11 [.string ⟨#[]⟩] := ⟨zfact (v := .string ⟨#[]⟩) rfl (by kernel_rfl)⟩
instance : CStr Try.prog 11 := ⟨Try.underlying11⟩
instance : CSc Try.prog 12 := ⟨aggfact Try.underlying12 rfl, by kernel_rfl⟩
instance : CZ Try.prog 12 [.int .u64 0] := ⟨zfact (v := .int .u64 0) rfl (by kernel_rfl)⟩
instance : CInt Try.prog 12 .u64 := ⟨Try.underlying12⟩
instance : CAg Try.prog 13 2 := ⟨aggfact Try.underlying13 rfl, by kernel_rfl⟩
instance : CFd Try.prog 13 0 0 := ⟨fun _ _ => by kernel_rfl⟩
instance : CFd Try.prog 13 1 1 := ⟨fun _ _ => by kernel_rfl⟩
instance : CZ Try.prog 13 [.string ⟨#[]⟩, .int .u64 0] := ⟨zfact (v := .agg #[.string ⟨#[]⟩, .int .u64 0]) rfl (by kernel_rfl)⟩
instance : CAg Try.prog 14 2 := ⟨aggfact Try.underlying14 rfl, by kernel_rfl⟩
instance : CFd Try.prog 14 0 0 := ⟨fun _ _ => by kernel_rfl⟩
instance : CFd Try.prog 14 1 1 := ⟨fun _ _ => by kernel_rfl⟩
instance : CZ Try.prog 14 [.string ⟨#[]⟩, .int .u64 0] := ⟨zfact (v := .agg #[.string ⟨#[]⟩, .int .u64 0]) rfl (by kernel_rfl)⟩
instance : CSc Try.prog 15 := ⟨aggfact Try.underlying15 rfl, by kernel_rfl⟩
instance : CZ Try.prog 15 [.pointer none] := ⟨zfact (v := .pointer none) rfl (by kernel_rfl)⟩
instance : CSc Try.prog 16 := ⟨aggfact Try.underlying16 rfl, by kernel_rfl⟩
instance : CZ Try.prog 16 [.pointer none] := ⟨zfact (v := .pointer none) rfl (by kernel_rfl)⟩
instance : CSc Try.prog 17 := ⟨aggfact Try.underlying17 rfl, by kernel_rfl⟩
instance : CZ Try.prog 17 [.pointer none] := ⟨zfact (v := .pointer none) rfl (by kernel_rfl)⟩
instance : CAg Try.prog 18 1 := ⟨aggfact Try.underlying18 rfl, by kernel_rfl⟩
instance : CFd Try.prog 18 0 0 := ⟨fun _ _ => by kernel_rfl⟩
instance : CZ Try.prog 18 [.pointer none] := ⟨zfact (v := .agg #[.pointer none]) rfl (by kernel_rfl)⟩
instance : CAg Try.prog 19 1 := ⟨aggfact Try.underlying19 rfl, by kernel_rfl⟩
instance : CFd Try.prog 19 0 0 := ⟨fun _ _ => by kernel_rfl⟩
instance : CZ Try.prog 19 [.pointer none] := ⟨zfact (v := .agg #[.pointer none]) rfl (by kernel_rfl)⟩
instance : CSc Try.prog 20 := ⟨aggfact Try.underlying20 rfl, by kernel_rfl⟩
instance : CZ Try.prog 20 [.nilIface] := ⟨zfact (v := .nilIface) rfl (by kernel_rfl)⟩
instance : CSc Try.prog 21 := ⟨aggfact Try.underlying21 rfl, by kernel_rfl⟩
instance : CZ Try.prog 21 [.int .i32 0] := ⟨zfact (v := .int .i32 0) rfl (by kernel_rfl)⟩
instance : CInt Try.prog 21 .i32 := ⟨Try.underlying21⟩
instance : CSc Try.prog 22 := ⟨aggfact Try.underlying22 rfl, by kernel_rfl⟩
instance : CZ Try.prog 22 [.slice none 0 0] := ⟨zfact (v := .slice none 0 0) rfl (by kernel_rfl)⟩
instance : CSl Try.prog 22 38 1 24 := ⟨Try.underlying22, slfact (z := .slice none 0 0) rfl (by kernel_rfl)⟩
instance : CAg Try.prog 23 2 := ⟨aggfact Try.underlying23 rfl, by kernel_rfl⟩
instance : CFd Try.prog 23 0 0 := ⟨fun _ _ => by kernel_rfl⟩
instance : CFd Try.prog 23 1 1 := ⟨fun _ _ => by kernel_rfl⟩
instance : CZ Try.prog 23 [.int .i64 0, .int .i64 0] := ⟨zfact (v := .agg #[.int .i64 0, .int .i64 0]) rfl (by kernel_rfl)⟩
instance : CAg Try.prog 24 2 := ⟨aggfact Try.underlying24 rfl, by kernel_rfl⟩
instance : CFd Try.prog 24 0 0 := ⟨fun _ _ => by kernel_rfl⟩
instance : CFd Try.prog 24 1 1 := ⟨fun _ _ => by kernel_rfl⟩
instance : CZ Try.prog 24 [.int .i64 0, .int .i64 0] := ⟨zfact (v := .agg #[.int .i64 0, .int .i64 0]) rfl (by kernel_rfl)⟩
instance : CSc Try.prog 25 := ⟨aggfact Try.underlying25 rfl, by kernel_rfl⟩
instance : CZ Try.prog 25 [.nilFunc] := ⟨zfact (v := .nilFunc) rfl (by kernel_rfl)⟩
instance : CSc Try.prog 26 := ⟨aggfact Try.underlying26 rfl, by kernel_rfl⟩
instance : CZ Try.prog 26 [.nilFunc] := ⟨zfact (v := .nilFunc) rfl (by kernel_rfl)⟩
instance : CSc Try.prog 27 := ⟨aggfact Try.underlying27 rfl, by kernel_rfl⟩
instance : CZ Try.prog 27 [.nilFunc] := ⟨zfact (v := .nilFunc) rfl (by kernel_rfl)⟩
instance : CSc Try.prog 28 := ⟨aggfact Try.underlying28 rfl, by kernel_rfl⟩
instance : CZ Try.prog 28 [.slice none 0 0] := ⟨zfact (v := .slice none 0 0) rfl (by kernel_rfl)⟩
instance : CSl Try.prog 28 9 1 16 := ⟨Try.underlying28, slfact (z := .string ⟨#[]⟩) rfl (by kernel_rfl)⟩
instance : CAg Try.prog 29 5 := ⟨aggfact Try.underlying29 rfl, by kernel_rfl⟩
instance : CFd Try.prog 29 0 0 := ⟨fun _ _ => by kernel_rfl⟩
instance : CFd Try.prog 29 1 1 := ⟨fun _ _ => by kernel_rfl⟩
instance : CFd Try.prog 29 2 2 := ⟨fun _ _ => by kernel_rfl⟩
instance : CFd Try.prog 29 3 3 := ⟨fun _ _ => by kernel_rfl⟩
instance : CFd Try.prog 29 4 4 := ⟨fun _ _ => by kernel_rfl⟩
instance : CZ Try.prog 29 [.int .i64 0, .int .i64 0, .int .i64 0, .int .i64 0, .slice none 0 0] := ⟨zfact (v := .agg #[.int .i64 0, .int .i64 0, .int .i64 0, .int .i64 0, .slice none 0 0]) rfl (by kernel_rfl)⟩
instance : CAg Try.prog 30 5 := ⟨aggfact Try.underlying30 rfl, by kernel_rfl⟩
instance : CFd Try.prog 30 0 0 := ⟨fun _ _ => by kernel_rfl⟩
instance : CFd Try.prog 30 1 1 := ⟨fun _ _ => by kernel_rfl⟩
instance : CFd Try.prog 30 2 2 := ⟨fun _ _ => by kernel_rfl⟩
instance : CFd Try.prog 30 3 3 := ⟨fun _ _ => by kernel_rfl⟩
instance : CFd Try.prog 30 4 4 := ⟨fun _ _ => by kernel_rfl⟩
instance : CZ Try.prog 30 [.int .i64 0, .int .i64 0, .int .i64 0, .int .i64 0, .slice none 0 0] := ⟨zfact (v := .agg #[.int .i64 0, .int .i64 0, .int .i64 0, .int .i64 0, .slice none 0 0]) rfl (by kernel_rfl)⟩
instance : CSc Try.prog 31 := ⟨aggfact Try.underlying31 rfl, by kernel_rfl⟩
instance : CZ Try.prog 31 [.nilFunc] := ⟨zfact (v := .nilFunc) rfl (by kernel_rfl)⟩
instance : CSc Try.prog 32 := ⟨aggfact Try.underlying32 rfl, by kernel_rfl⟩
instance : CZ Try.prog 32 [.nilFunc] := ⟨zfact (v := .nilFunc) rfl (by kernel_rfl)⟩
instance : CSc Try.prog 33 := ⟨aggfact Try.underlying33 rfl, by kernel_rfl⟩
instance : CZ Try.prog 33 [.slice none 0 0] := ⟨zfact (v := .slice none 0 0) rfl (by kernel_rfl)⟩
instance : CSl Try.prog 33 89 3 24 := ⟨Try.underlying33, slfact (z := .agg #[.int .i64 0, .int .i64 0, .int .i64 0]) rfl (by kernel_rfl)⟩
instance : CSc Try.prog 34 := ⟨aggfact Try.underlying34 rfl, by kernel_rfl⟩
instance : CZ Try.prog 34 [.slice none 0 0] := ⟨zfact (v := .slice none 0 0) rfl (by kernel_rfl)⟩
instance : CSl Try.prog 34 3 1 8 := ⟨Try.underlying34, slfact (z := .int .i64 0) rfl (by kernel_rfl)⟩
instance : CSc Try.prog 36 := ⟨aggfact Try.underlying36 rfl, by kernel_rfl⟩
instance : CZ Try.prog 36 [.nilFunc] := ⟨zfact (v := .nilFunc) rfl (by kernel_rfl)⟩
instance : CSc Try.prog 37 := ⟨aggfact Try.underlying37 rfl, by kernel_rfl⟩
instance : CZ Try.prog 37 [.nilFunc] := ⟨zfact (v := .nilFunc) rfl (by kernel_rfl)⟩
instance : CSc Try.prog 38 := ⟨aggfact Try.underlying38 rfl, by kernel_rfl⟩
instance : CZ Try.prog 38 [.slice none 0 0] := ⟨zfact (v := .slice none 0 0) rfl (by kernel_rfl)⟩
instance : CSl Try.prog 38 24 2 16 := ⟨Try.underlying38, slfact (z := .agg #[.int .i64 0, .int .i64 0]) rfl (by kernel_rfl)⟩
instance : CSc Try.prog 39 := ⟨aggfact Try.underlying39 rfl, by kernel_rfl⟩
instance : CZ Try.prog 39 [.nilFunc] := ⟨zfact (v := .nilFunc) rfl (by kernel_rfl)⟩
instance : CSc Try.prog 40 := ⟨aggfact Try.underlying40 rfl, by kernel_rfl⟩
instance : CZ Try.prog 40 [.nilFunc] := ⟨zfact (v := .nilFunc) rfl (by kernel_rfl)⟩
instance : CSc Try.prog 41 := ⟨aggfact Try.underlying41 rfl, by kernel_rfl⟩
instance : CZ Try.prog 41 [.nilFunc] := ⟨zfact (v := .nilFunc) rfl (by kernel_rfl)⟩
instance : CSc Try.prog 42 := ⟨aggfact Try.underlying42 rfl, by kernel_rfl⟩
instance : CZ Try.prog 42 [.nilFunc] := ⟨zfact (v := .nilFunc) rfl (by kernel_rfl)⟩
instance : CSc Try.prog 43 := ⟨aggfact Try.underlying43 rfl, by kernel_rfl⟩
instance : CZ Try.prog 43 [.nilFunc] := ⟨zfact (v := .nilFunc) rfl (by kernel_rfl)⟩
instance : CSc Try.prog 44 := ⟨aggfact Try.underlying44 rfl, by kernel_rfl⟩
instance : CZ Try.prog 44 [.nilFunc] := ⟨zfact (v := .nilFunc) rfl (by kernel_rfl)⟩
instance : CSc Try.prog 45 := ⟨aggfact Try.underlying45 rfl, by kernel_rfl⟩
instance : CZ Try.prog 45 [.nilFunc] := ⟨zfact (v := .nilFunc) rfl (by kernel_rfl)⟩
instance : CSc Try.prog 46 := ⟨aggfact Try.underlying46 rfl, by kernel_rfl⟩
instance : CZ Try.prog 46 [.nilFunc] := ⟨zfact (v := .nilFunc) rfl (by kernel_rfl)⟩
instance : CSc Try.prog 47 := ⟨aggfact Try.underlying47 rfl, by kernel_rfl⟩
instance : CZ Try.prog 47 [.nilFunc] := ⟨zfact (v := .nilFunc) rfl (by kernel_rfl)⟩
instance : CSc Try.prog 48 := ⟨aggfact Try.underlying48 rfl, by kernel_rfl⟩
instance : CZ Try.prog 48 [.nilFunc] := ⟨zfact (v := .nilFunc) rfl (by kernel_rfl)⟩
instance : CSc Try.prog 49 := ⟨aggfact Try.underlying49 rfl, by kernel_rfl⟩
instance : CZ Try.prog 49 [.nilFunc] := ⟨zfact (v := .nilFunc) rfl (by kernel_rfl)⟩
instance : CSc Try.prog 50 := ⟨aggfact Try.underlying50 rfl, by kernel_rfl⟩
instance : CZ Try.prog 50 [.slice none 0 0] := ⟨zfact (v := .slice none 0 0) rfl (by kernel_rfl)⟩
instance : CSl Try.prog 50 4 1 1 := ⟨Try.underlying50, slfact (z := .bool false) rfl (by kernel_rfl)⟩
instance : CAg Try.prog 51 4 := ⟨aggfact Try.underlying51 rfl, by kernel_rfl⟩
instance : CFd Try.prog 51 0 0 := ⟨fun _ _ => by kernel_rfl⟩
instance : CFd Try.prog 51 1 1 := ⟨fun _ _ => by kernel_rfl⟩
instance : CFd Try.prog 51 2 2 := ⟨fun _ _ => by kernel_rfl⟩
instance : CFd Try.prog 51 3 3 := ⟨fun _ _ => by kernel_rfl⟩
instance : CZ Try.prog 51 [.slice none 0 0, .slice none 0 0, .slice none 0 0, .slice none 0 0] := ⟨zfact (v := .agg #[.slice none 0 0, .slice none 0 0, .slice none 0 0, .slice none 0 0]) rfl (by kernel_rfl)⟩
instance : CAg Try.prog 52 4 := ⟨aggfact Try.underlying52 rfl, by kernel_rfl⟩
instance : CFd Try.prog 52 0 0 := ⟨fun _ _ => by kernel_rfl⟩
instance : CFd Try.prog 52 1 1 := ⟨fun _ _ => by kernel_rfl⟩
instance : CFd Try.prog 52 2 2 := ⟨fun _ _ => by kernel_rfl⟩
instance : CFd Try.prog 52 3 3 := ⟨fun _ _ => by kernel_rfl⟩
instance : CZ Try.prog 52 [.slice none 0 0, .slice none 0 0, .slice none 0 0, .slice none 0 0] := ⟨zfact (v := .agg #[.slice none 0 0, .slice none 0 0, .slice none 0 0, .slice none 0 0]) rfl (by kernel_rfl)⟩
instance : CSc Try.prog 53 := ⟨aggfact Try.underlying53 rfl, by kernel_rfl⟩
instance : CZ Try.prog 53 [.nilFunc] := ⟨zfact (v := .nilFunc) rfl (by kernel_rfl)⟩
instance : CSc Try.prog 54 := ⟨aggfact Try.underlying54 rfl, by kernel_rfl⟩
instance : CZ Try.prog 54 [.nilFunc] := ⟨zfact (v := .nilFunc) rfl (by kernel_rfl)⟩
instance : CSc Try.prog 55 := ⟨aggfact Try.underlying55 rfl, by kernel_rfl⟩
instance : CZ Try.prog 55 [.nilFunc] := ⟨zfact (v := .nilFunc) rfl (by kernel_rfl)⟩
instance : CSc Try.prog 56 := ⟨aggfact Try.underlying56 rfl, by kernel_rfl⟩
instance : CZ Try.prog 56 [.nilFunc] := ⟨zfact (v := .nilFunc) rfl (by kernel_rfl)⟩
instance : CSc Try.prog 58 := ⟨aggfact Try.underlying58 rfl, by kernel_rfl⟩
instance : CZ Try.prog 58 [.nilFunc] := ⟨zfact (v := .nilFunc) rfl (by kernel_rfl)⟩
instance : CSc Try.prog 59 := ⟨aggfact Try.underlying59 rfl, by kernel_rfl⟩
instance : CZ Try.prog 59 [.nilFunc] := ⟨zfact (v := .nilFunc) rfl (by kernel_rfl)⟩
instance : CSc Try.prog 60 := ⟨aggfact Try.underlying60 rfl, by kernel_rfl⟩
instance : CZ Try.prog 60 [.slice none 0 0] := ⟨zfact (v := .slice none 0 0) rfl (by kernel_rfl)⟩
instance : CSl Try.prog 60 75 3 32 := ⟨Try.underlying60, slfact (z := .agg #[.int .i64 0, .int .i64 0, .string ⟨#[]⟩]) rfl (by kernel_rfl)⟩
instance : CSc Try.prog 61 := ⟨aggfact Try.underlying61 rfl, by kernel_rfl⟩
instance : CZ Try.prog 61 [.nilFunc] := ⟨zfact (v := .nilFunc) rfl (by kernel_rfl)⟩
instance : CSc Try.prog 62 := ⟨aggfact Try.underlying62 rfl, by kernel_rfl⟩
instance : CZ Try.prog 62 [.nilFunc] := ⟨zfact (v := .nilFunc) rfl (by kernel_rfl)⟩
instance : CSc Try.prog 63 := ⟨aggfact Try.underlying63 rfl, by kernel_rfl⟩
instance : CZ Try.prog 63 [.nilFunc] := ⟨zfact (v := .nilFunc) rfl (by kernel_rfl)⟩
instance : CSc Try.prog 64 := ⟨aggfact Try.underlying64 rfl, by kernel_rfl⟩
instance : CZ Try.prog 64 [.slice none 0 0] := ⟨zfact (v := .slice none 0 0) rfl (by kernel_rfl)⟩
instance : CSl Try.prog 64 108 3 24 := ⟨Try.underlying64, slfact (z := .agg #[.int .i64 0, .int .i64 0, .int .i64 0]) rfl (by kernel_rfl)⟩
instance : CSc Try.prog 65 := ⟨aggfact Try.underlying65 rfl, by kernel_rfl⟩
instance : CZ Try.prog 65 [.slice none 0 0] := ⟨zfact (v := .slice none 0 0) rfl (by kernel_rfl)⟩
instance : CSl Try.prog 65 5 1 1 := ⟨Try.underlying65, slfact (z := .int .u8 0) rfl (by kernel_rfl)⟩
instance : CSc Try.prog 66 := ⟨aggfact Try.underlying66 rfl, by kernel_rfl⟩
instance : CZ Try.prog 66 [.nilFunc] := ⟨zfact (v := .nilFunc) rfl (by kernel_rfl)⟩
instance : CSc Try.prog 67 := ⟨aggfact Try.underlying67 rfl, by kernel_rfl⟩
instance : CZ Try.prog 67 [.nilFunc] := ⟨zfact (v := .nilFunc) rfl (by kernel_rfl)⟩
instance : CSc Try.prog 68 := ⟨aggfact Try.underlying68 rfl, by kernel_rfl⟩
instance : CZ Try.prog 68 [.nilFunc] := ⟨zfact (v := .nilFunc) rfl (by kernel_rfl)⟩
instance : CSc Try.prog 69 := ⟨aggfact Try.underlying69 rfl, by kernel_rfl⟩
instance : CZ Try.prog 69 [.nilFunc] := ⟨zfact (v := .nilFunc) rfl (by kernel_rfl)⟩
instance : CAg Try.prog 70 2 := ⟨aggfact Try.underlying70 rfl, by kernel_rfl⟩
instance : CFd Try.prog 70 0 0 := ⟨fun _ _ => by kernel_rfl⟩
instance : CFd Try.prog 70 1 1 := ⟨fun _ _ => by kernel_rfl⟩
instance : CZ Try.prog 70 [.int .i64 0, .int .i64 0] := ⟨zfact (v := .agg #[.int .i64 0, .int .i64 0]) rfl (by kernel_rfl)⟩
instance : CAg Try.prog 71 2 := ⟨aggfact Try.underlying71 rfl, by kernel_rfl⟩
instance : CFd Try.prog 71 0 0 := ⟨fun _ _ => by kernel_rfl⟩
instance : CFd Try.prog 71 1 1 := ⟨fun _ _ => by kernel_rfl⟩
instance : CZ Try.prog 71 [.int .i64 0, .int .i64 0] := ⟨zfact (v := .agg #[.int .i64 0, .int .i64 0]) rfl (by kernel_rfl)⟩
instance : CSc Try.prog 73 := ⟨aggfact Try.underlying73 rfl, by kernel_rfl⟩
instance : CZ Try.prog 73 [.nilFunc] := ⟨zfact (v := .nilFunc) rfl (by kernel_rfl)⟩
instance : CAg Try.prog 74 3 := ⟨aggfact Try.underlying74 rfl, by kernel_rfl⟩
instance : CFd Try.prog 74 0 0 := ⟨fun _ _ => by kernel_rfl⟩
instance : CFd Try.prog 74 1 1 := ⟨fun _ _ => by kernel_rfl⟩
instance : CFd Try.prog 74 2 2 := ⟨fun _ _ => by kernel_rfl⟩
instance : CZ Try.prog 74 [.int .i64 0, .int .i64 0, .string ⟨#[]⟩] := ⟨zfact (v := .agg #[.int .i64 0, .int .i64 0, .string ⟨#[]⟩]) rfl (by kernel_rfl)⟩
instance : CAg Try.prog 75 3 := ⟨aggfact Try.underlying75 rfl, by kernel_rfl⟩
instance : CFd Try.prog 75 0 0 := ⟨fun _ _ => by kernel_rfl⟩
instance : CFd Try.prog 75 1 1 := ⟨fun _ _ => by kernel_rfl⟩
instance : CFd Try.prog 75 2 2 := ⟨fun _ _ => by kernel_rfl⟩
instance : CZ Try.prog 75 [.int .i64 0, .int .i64 0, .string ⟨#[]⟩] := ⟨zfact (v := .agg #[.int .i64 0, .int .i64 0, .string ⟨#[]⟩]) rfl (by kernel_rfl)⟩
instance : CSc Try.prog 77 := ⟨aggfact Try.underlying77 rfl, by kernel_rfl⟩
instance : CZ Try.prog 77 [.nilFunc] := ⟨zfact (v := .nilFunc) rfl (by kernel_rfl)⟩
instance : CSc Try.prog 78 := ⟨aggfact Try.underlying78 rfl, by kernel_rfl⟩
instance : CZ Try.prog 78 [.nilFunc] := ⟨zfact (v := .nilFunc) rfl (by kernel_rfl)⟩
instance : CSc Try.prog 79 := ⟨aggfact Try.underlying79 rfl, by kernel_rfl⟩
instance : CZ Try.prog 79 [.nilFunc] := ⟨zfact (v := .nilFunc) rfl (by kernel_rfl)⟩
instance : CSc Try.prog 80 := ⟨aggfact Try.underlying80 rfl, by kernel_rfl⟩
instance : CZ Try.prog 80 [.nilFunc] := ⟨zfact (v := .nilFunc) rfl (by kernel_rfl)⟩
instance : CSc Try.prog 81 := ⟨aggfact Try.underlying81 rfl, by kernel_rfl⟩
instance : CZ Try.prog 81 [.nilFunc] := ⟨zfact (v := .nilFunc) rfl (by kernel_rfl)⟩
instance : CAg Try.prog 82 5 := ⟨aggfact Try.underlying82 rfl, by kernel_rfl⟩
instance : CFd Try.prog 82 0 0 := ⟨fun _ _ => by kernel_rfl⟩
instance : CFd Try.prog 82 1 1 := ⟨fun _ _ => by kernel_rfl⟩
instance : CFd Try.prog 82 2 2 := ⟨fun _ _ => by kernel_rfl⟩
instance : CFd Try.prog 82 3 3 := ⟨fun _ _ => by kernel_rfl⟩
instance : CFd Try.prog 82 4 4 := ⟨fun _ _ => by kernel_rfl⟩
instance : CZ Try.prog 82 [.int .i64 0, .int .i64 0, .int .i64 0, .int .i64 0, .int .i64 0] := ⟨zfact (v := .agg #[.int .i64 0, .int .i64 0, .int .i64 0, .int .i64 0, .int .i64 0]) rfl (by kernel_rfl)⟩
instance : CAg Try.prog 83 5 := ⟨aggfact Try.underlying83 rfl, by kernel_rfl⟩
instance : CFd Try.prog 83 0 0 := ⟨fun _ _ => by kernel_rfl⟩
instance : CFd Try.prog 83 1 1 := ⟨fun _ _ => by kernel_rfl⟩
instance : CFd Try.prog 83 2 2 := ⟨fun _ _ => by kernel_rfl⟩
instance : CFd Try.prog 83 3 3 := ⟨fun _ _ => by kernel_rfl⟩
instance : CFd Try.prog 83 4 4 := ⟨fun _ _ => by kernel_rfl⟩
instance : CZ Try.prog 83 [.int .i64 0, .int .i64 0, .int .i64 0, .int .i64 0, .int .i64 0] := ⟨zfact (v := .agg #[.int .i64 0, .int .i64 0, .int .i64 0, .int .i64 0, .int .i64 0]) rfl (by kernel_rfl)⟩
instance : CSc Try.prog 84 := ⟨aggfact Try.underlying84 rfl, by kernel_rfl⟩
instance : CZ Try.prog 84 [.nilFunc] := ⟨zfact (v := .nilFunc) rfl (by kernel_rfl)⟩
instance : CSc Try.prog 85 := ⟨aggfact Try.underlying85 rfl, by kernel_rfl⟩
instance : CZ Try.prog 85 [.nilFunc] := ⟨zfact (v := .nilFunc) rfl (by kernel_rfl)⟩
instance : CSc Try.prog 86 := ⟨aggfact Try.underlying86 rfl, by kernel_rfl⟩
instance : CZ Try.prog 86 [.nilFunc] := ⟨zfact (v := .nilFunc) rfl (by kernel_rfl)⟩
instance : CSc Try.prog 87 := ⟨aggfact Try.underlying87 rfl, by kernel_rfl⟩
instance : CZ Try.prog 87 [.nilFunc] := ⟨zfact (v := .nilFunc) rfl (by kernel_rfl)⟩
instance : CAg Try.prog 88 3 := ⟨aggfact Try.underlying88 rfl, by kernel_rfl⟩
instance : CFd Try.prog 88 0 0 := ⟨fun _ _ => by kernel_rfl⟩
instance : CFd Try.prog 88 1 1 := ⟨fun _ _ => by kernel_rfl⟩
instance : CFd Try.prog 88 2 2 := ⟨fun _ _ => by kernel_rfl⟩
instance : CZ Try.prog 88 [.int .i64 0, .int .i64 0, .int .i64 0] := ⟨zfact (v := .agg #[.int .i64 0, .int .i64 0, .int .i64 0]) rfl (by kernel_rfl)⟩
instance : CAg Try.prog 89 3 := ⟨aggfact Try.underlying89 rfl, by kernel_rfl⟩
instance : CFd Try.prog 89 0 0 := ⟨fun _ _ => by kernel_rfl⟩
instance : CFd Try.prog 89 1 1 := ⟨fun _ _ => by kernel_rfl⟩
instance : CFd Try.prog 89 2 2 := ⟨fun _ _ => by kernel_rfl⟩
instance : CZ Try.prog 89 [.int .i64 0, .int .i64 0, .int .i64 0] := ⟨zfact (v := .agg #[.int .i64 0, .int .i64 0, .int .i64 0]) rfl (by kernel_rfl)⟩
instance : CSc Try.prog 91 := ⟨aggfact Try.underlying91 rfl, by kernel_rfl⟩
instance : CZ Try.prog 91 [.nilFunc] := ⟨zfact (v := .nilFunc) rfl (by kernel_rfl)⟩
instance : CSc Try.prog 92 := ⟨aggfact Try.underlying92 rfl, by kernel_rfl⟩
instance : CZ Try.prog 92 [.nilFunc] := ⟨zfact (v := .nilFunc) rfl (by kernel_rfl)⟩
instance : CSc Try.prog 93 := ⟨aggfact Try.underlying93 rfl, by kernel_rfl⟩
instance : CZ Try.prog 93 [.nilFunc] := ⟨zfact (v := .nilFunc) rfl (by kernel_rfl)⟩
instance : CSc Try.prog 94 := ⟨aggfact Try.underlying94 rfl, by kernel_rfl⟩
instance : CZ Try.prog 94 [.nilFunc] := ⟨zfact (v := .nilFunc) rfl (by kernel_rfl)⟩
instance : CSc Try.prog 95 := ⟨aggfact Try.underlying95 rfl, by kernel_rfl⟩
instance : CZ Try.prog 95 [.nilFunc] := ⟨zfact (v := .nilFunc) rfl (by kernel_rfl)⟩
instance : CSc Try.prog 96 := ⟨aggfact Try.underlying96 rfl, by kernel_rfl⟩
instance : CZ Try.prog 96 [.nilFunc] := ⟨zfact (v := .nilFunc) rfl (by kernel_rfl)⟩
instance : CSc Try.prog 97 := ⟨aggfact Try.underlying97 rfl, by kernel_rfl⟩
instance : CZ Try.prog 97 [.nilFunc] := ⟨zfact (v := .nilFunc) rfl (by kernel_rfl)⟩
instance : CSc Try.prog 98 := ⟨aggfact Try.underlying98 rfl, by kernel_rfl⟩
instance : CZ Try.prog 98 [.nilFunc] := ⟨zfact (v := .nilFunc) rfl (by kernel_rfl)⟩
instance : CSc Try.prog 99 := ⟨aggfact Try.underlying99 rfl, by kernel_rfl⟩
instance : CZ Try.prog 99 [.nilFunc] := ⟨zfact (v := .nilFunc) rfl (by kernel_rfl)⟩
instance : CAg Try.prog 100 4 := ⟨aggfact Try.underlying100 rfl, by kernel_rfl⟩
instance : CAr Try.prog 100 4 := ⟨3, Try.underlying100, aggfact Try.underlying3 rfl, by kernel_rfl⟩
instance : CZ Try.prog 100 [.int .i64 0, .int .i64 0, .int .i64 0, .int .i64 0] := ⟨zfact (v := .agg #[.int .i64 0, .int .i64 0, .int .i64 0, .int .i64 0]) rfl (by kernel_rfl)⟩
instance : CSc Try.prog 101 := ⟨aggfact Try.underlying101 rfl, by kernel_rfl⟩
instance : CZ Try.prog 101 [.nilFunc] := ⟨zfact (v := .nilFunc) rfl (by kernel_rfl)⟩
instance : CSc Try.prog 102 := ⟨aggfact Try.underlying102 rfl, by kernel_rfl⟩
instance : CZ Try.prog 102 [.nilFunc] := ⟨zfact (v := .nilFunc) rfl (by kernel_rfl)⟩
instance : CSc Try.prog 103 := ⟨aggfact Try.underlying103 rfl, by kernel_rfl⟩
instance : CZ Try.prog 103 [.slice none 0 0] := ⟨zfact (v := .slice none 0 0) rfl (by kernel_rfl)⟩
instance : CSl Try.prog 103 104 1 24 := ⟨Try.underlying103, slfact (z := .slice none 0 0) rfl (by kernel_rfl)⟩
instance : CSc Try.prog 104 := ⟨aggfact Try.underlying104 rfl, by kernel_rfl⟩
instance : CZ Try.prog 104 [.slice none 0 0] := ⟨zfact (v := .slice none 0 0) rfl (by kernel_rfl)⟩
instance : CSl Try.prog 104 83 5 40 := ⟨Try.underlying104, slfact (z := .agg #[.int .i64 0, .int .i64 0, .int .i64 0, .int .i64 0, .int .i64 0]) rfl (by kernel_rfl)⟩
instance : CSc Try.prog 105 := ⟨aggfact Try.underlying105 rfl, by kernel_rfl⟩
instance : CZ Try.prog 105 [.nilFunc] := ⟨zfact (v := .nilFunc) rfl (by kernel_rfl)⟩
instance : CSc Try.prog 106 := ⟨aggfact Try.underlying106 rfl, by kernel_rfl⟩
instance : CZ Try.prog 106 [.nilFunc] := ⟨zfact (v := .nilFunc) rfl (by kernel_rfl)⟩
instance : CAg Try.prog 107 3 := ⟨aggfact Try.underlying107 rfl, by kernel_rfl⟩
instance : CFd Try.prog 107 0 0 := ⟨fun _ _ => by kernel_rfl⟩
instance : CFd Try.prog 107 1 2 := ⟨fun _ _ => by kernel_rfl⟩
instance : CZ Try.prog 107 [.int .i64 0, .int .i64 0, .int .i64 0] := ⟨zfact (v := .agg #[.int .i64 0, .int .i64 0, .int .i64 0]) rfl (by kernel_rfl)⟩
instance : CAg Try.prog 108 3 := ⟨aggfact Try.underlying108 rfl, by kernel_rfl⟩
instance : CFd Try.prog 108 0 0 := ⟨fun _ _ => by kernel_rfl⟩
instance : CFd Try.prog 108 1 2 := ⟨fun _ _ => by kernel_rfl⟩
instance : CZ Try.prog 108 [.int .i64 0, .int .i64 0, .int .i64 0] := ⟨zfact (v := .agg #[.int .i64 0, .int .i64 0, .int .i64 0]) rfl (by kernel_rfl)⟩
instance : CSc Try.prog 109 := ⟨aggfact Try.underlying109 rfl, by kernel_rfl⟩
instance : CZ Try.prog 109 [.nilFunc] := ⟨zfact (v := .nilFunc) rfl (by kernel_rfl)⟩
instance : CSc Try.prog 110 := ⟨aggfact Try.underlying110 rfl, by kernel_rfl⟩
instance : CZ Try.prog 110 [.nilFunc] := ⟨zfact (v := .nilFunc) rfl (by kernel_rfl)⟩
instance : CSc Try.prog 111 := ⟨aggfact Try.underlying111 rfl, by kernel_rfl⟩
instance : CZ Try.prog 111 [.nilFunc] := ⟨zfact (v := .nilFunc) rfl (by kernel_rfl)⟩
instance : CSc Try.prog 112 := ⟨aggfact Try.underlying112 rfl, by kernel_rfl⟩
instance : CZ Try.prog 112 [.nilFunc] := ⟨zfact (v := .nilFunc) rfl (by kernel_rfl)⟩
instance : CSc Try.prog 113 := ⟨aggfact Try.underlying113 rfl, by kernel_rfl⟩
instance : CZ Try.prog 113 [.nilFunc] := ⟨zfact (v := .nilFunc) rfl (by kernel_rfl)⟩
instance : CSc Try.prog 114 := ⟨aggfact Try.underlying114 rfl, by kernel_rfl⟩
instance : CZ Try.prog 114 [.nilFunc] := ⟨zfact (v := .nilFunc) rfl (by kernel_rfl)⟩
instance : CSc Try.prog 115 := ⟨aggfact Try.underlying115 rfl, by kernel_rfl⟩
instance : CZ Try.prog 115 [.nilFunc] := ⟨zfact (v := .nilFunc) rfl (by kernel_rfl)⟩
instance : CSc Try.prog 116 := ⟨aggfact Try.underlying116 rfl, by kernel_rfl⟩
instance : CZ Try.prog 116 [.slice none 0 0] := ⟨zfact (v := .slice none 0 0) rfl (by kernel_rfl)⟩
instance : CSl Try.prog 116 65 1 24 := ⟨Try.underlying116, slfact (z := .slice none 0 0) rfl (by kernel_rfl)⟩
instance : CSc Try.prog 117 := ⟨aggfact Try.underlying117 rfl, by kernel_rfl⟩
instance : CZ Try.prog 117 [.nilFunc] := ⟨zfact (v := .nilFunc) rfl (by kernel_rfl)⟩
instance : CSc Try.prog 119 := ⟨aggfact Try.underlying119 rfl, by kernel_rfl⟩
instance : CZ Try.prog 119 [.nilFunc] := ⟨zfact (v := .nilFunc) rfl (by kernel_rfl)⟩
instance : CSc Try.prog 120 := ⟨aggfact Try.underlying120 rfl, by kernel_rfl⟩
instance : CZ Try.prog 120 [.nilFunc] := ⟨zfact (v := .nilFunc) rfl (by kernel_rfl)⟩
instance : CSc Try.prog 121 := ⟨aggfact Try.underlying121 rfl, by kernel_rfl⟩
instance : CZ Try.prog 121 [.slice none 0 0] := ⟨zfact (v := .slice none 0 0) rfl (by kernel_rfl)⟩
instance : CSl Try.prog 121 123 3 24 := ⟨Try.underlying121, slfact (z := .agg #[.int .i64 0, .int .i64 0, .bool false]) rfl (by kernel_rfl)⟩
instance : CAg Try.prog 122 3 := ⟨aggfact Try.underlying122 rfl, by kernel_rfl⟩
instance : CFd Try.prog 122 0 0 := ⟨fun _ _ => by kernel_rfl⟩
instance : CFd Try.prog 122 1 2 := ⟨fun _ _ => by kernel_rfl⟩
instance : CZ Try.prog 122 [.int .i64 0, .int .i64 0, .bool false] := ⟨zfact (v := .agg #[.int .i64 0, .int .i64 0, .bool false]) rfl (by kernel_rfl)⟩
instance : CAg Try.prog 123 3 := ⟨aggfact Try.underlying123 rfl, by kernel_rfl⟩
instance : CFd Try.prog 123 0 0 := ⟨fun _ _ => by kernel_rfl⟩
instance : CFd Try.prog 123 1 2 := ⟨fun _ _ => by kernel_rfl⟩
instance : CZ Try.prog 123 [.int .i64 0, .int .i64 0, .bool false] := ⟨zfact (v := .agg #[.int .i64 0, .int .i64 0, .bool false]) rfl (by kernel_rfl)⟩
instance : CSc Try.prog 124 := ⟨aggfact Try.underlying124 rfl, by kernel_rfl⟩
instance : CZ Try.prog 124 [.nilFunc] := ⟨zfact (v := .nilFunc) rfl (by kernel_rfl)⟩
instance : CSc Try.prog 125 := ⟨aggfact Try.underlying125 rfl, by kernel_rfl⟩
instance : CZ Try.prog 125 [.nilFunc] := ⟨zfact (v := .nilFunc) rfl (by kernel_rfl)⟩
instance : CSc Try.prog 126 := ⟨aggfact Try.underlying126 rfl, by kernel_rfl⟩
instance : CZ Try.prog 126 [.nilFunc] := ⟨zfact (v := .nilFunc) rfl (by kernel_rfl)⟩
instance : CSc Try.prog 127 := ⟨aggfact Try.underlying127 rfl, by kernel_rfl⟩
instance : CZ Try.prog 127 [.nilFunc] := ⟨zfact (v := .nilFunc) rfl (by kernel_rfl)⟩
instance : CSc Try.prog 128 := ⟨aggfact Try.underlying128 rfl, by kernel_rfl⟩
instance : CZ Try.prog 128 [.nilFunc] := ⟨zfact (v := .nilFunc) rfl (by kernel_rfl)⟩
instance : CSc Try.prog 129 := ⟨aggfact Try.underlying129 rfl, by kernel_rfl⟩
instance : CZ Try.prog 129 [.slice none 0 0] := ⟨zfact (v := .slice none 0 0) rfl (by kernel_rfl)⟩
instance : CSl Try.prog 129 131 2 16 := ⟨Try.underlying129, slfact (z := .agg #[.int .i64 0, .int .i64 0]) rfl (by kernel_rfl)⟩
instance : CSc Try.prog 130 := ⟨aggfact Try.underlying130 rfl, by kernel_rfl⟩
instance : CZ Try.prog 130 [.nilFunc] := ⟨zfact (v := .nilFunc) rfl (by kernel_rfl)⟩
instance : CAg Try.prog 131 2 := ⟨aggfact Try.underlying131 rfl, by kernel_rfl⟩
instance : CAr Try.prog 131 2 := ⟨3, Try.underlying131, aggfact Try.underlying3 rfl, by kernel_rfl⟩
instance : CZ Try.prog 131 [.int .i64 0, .int .i64 0] := ⟨zfact (v := .agg #[.int .i64 0, .int .i64 0]) rfl (by kernel_rfl)⟩
instance : CSc Try.prog 132 := ⟨aggfact Try.underlying132 rfl, by kernel_rfl⟩
instance : CZ Try.prog 132 [.nilFunc] := ⟨zfact (v := .nilFunc) rfl (by kernel_rfl)⟩
instance : CSc Try.prog 133 := ⟨aggfact Try.underlying133 rfl, by kernel_rfl⟩
instance : CZ Try.prog 133 [.nilFunc] := ⟨zfact (v := .nilFunc) rfl (by kernel_rfl)⟩
instance : CSc Try.prog 134 := ⟨aggfact Try.underlying134 rfl, by kernel_rfl⟩
instance : CZ Try.prog 134 [.nilFunc] := ⟨zfact (v := .nilFunc) rfl (by kernel_rfl)⟩
instance : CSc Try.prog 135 := ⟨aggfact Try.underlying135 rfl, by kernel_rfl⟩
instance : CZ Try.prog 135 [.nilFunc] := ⟨zfact (v := .nilFunc) rfl (by kernel_rfl)⟩
instance : CSc Try.prog 136 := ⟨aggfact Try.underlying136 rfl, by kernel_rfl⟩
instance : CZ Try.prog 136 [.int .u64 0] := ⟨zfact (v := .int .u64 0) rfl (by kernel_rfl)⟩
instance : CInt Try.prog 136 .u64 := ⟨Try.underlying136⟩
instance : CSc Try.prog 138 := ⟨aggfact Try.underlying138 rfl, by kernel_rfl⟩
instance : CZ Try.prog 138 [.nilFunc] := ⟨zfact (v := .nilFunc) rfl (by kernel_rfl)⟩
instance : CSc Try.prog 139 := ⟨aggfact Try.underlying139 rfl, by kernel_rfl⟩
instance : CZ Try.prog 139 [.nilFunc] := ⟨zfact (v := .nilFunc) rfl (by kernel_rfl)⟩
instance : CSc Try.prog 140 := ⟨aggfact Try.underlying140 rfl, by kernel_rfl⟩
instance : CZ Try.prog 140 [.nilFunc] := ⟨zfact (v := .nilFunc) rfl (by kernel_rfl)⟩
instance : CSc Try.prog 141 := ⟨aggfact Try.underlying141 rfl, by kernel_rfl⟩
instance : CZ Try.prog 141 [.nilFunc] := ⟨zfact (v := .nilFunc) rfl (by kernel_rfl)⟩
instance : CSc Try.prog 142 := ⟨aggfact Try.underlying142 rfl, by kernel_rfl⟩
instance : CZ Try.prog 142 [.slice none 0 0] := ⟨zfact (v := .slice none 0 0) rfl (by kernel_rfl)⟩
instance : CSl Try.prog 142 145 3 24 := ⟨Try.underlying142, slfact (z := .agg #[.int .i64 0, .int .i64 0, .bool false]) rfl (by kernel_rfl)⟩
instance : CSc Try.prog 143 := ⟨aggfact Try.underlying143 rfl, by kernel_rfl⟩
instance : CZ Try.prog 143 [.nilFunc] := ⟨zfact (v := .nilFunc) rfl (by kernel_rfl)⟩
instance : CAg Try.prog 144 3 := ⟨aggfact Try.underlying144 rfl, by kernel_rfl⟩
instance : CFd Try.prog 144 0 0 := ⟨fun _ _ => by kernel_rfl⟩
instance : CFd Try.prog 144 1 2 := ⟨fun _ _ => by kernel_rfl⟩
instance : CZ Try.prog 144 [.int .i64 0, .int .i64 0, .bool false] := ⟨zfact (v := .agg #[.int .i64 0, .int .i64 0, .bool false]) rfl (by kernel_rfl)⟩
instance : CAg Try.prog 145 3 := ⟨aggfact Try.underlying145 rfl, by kernel_rfl⟩
instance : CFd Try.prog 145 0 0 := ⟨fun _ _ => by kernel_rfl⟩
instance : CFd Try.prog 145 1 2 := ⟨fun _ _ => by kernel_rfl⟩
instance : CZ Try.prog 145 [.int .i64 0, .int .i64 0, .bool false] := ⟨zfact (v := .agg #[.int .i64 0, .int .i64 0, .bool false]) rfl (by kernel_rfl)⟩
instance : CSc Try.prog 146 := ⟨aggfact Try.underlying146 rfl, by kernel_rfl⟩
instance : CZ Try.prog 146 [.nilFunc] := ⟨zfact (v := .nilFunc) rfl (by kernel_rfl)⟩
instance : CSc Try.prog 147 := ⟨aggfact Try.underlying147 rfl, by kernel_rfl⟩
instance : CZ Try.prog 147 [.nilFunc] := ⟨zfact (v := .nilFunc) rfl (by kernel_rfl)⟩
instance : CSc Try.prog 148 := ⟨aggfact Try.underlying148 rfl, by kernel_rfl⟩
instance : CZ Try.prog 148 [.int .i64 0] := ⟨zfact (v := .int .i64 0) rfl (by kernel_rfl)⟩
instance : CInt Try.prog 148 .i64 := ⟨Try.underlying148⟩
instance : CSc Try.prog 150 := ⟨aggfact Try.underlying150 rfl, by kernel_rfl⟩
instance : CZ Try.prog 150 [.nilFunc] := ⟨zfact (v := .nilFunc) rfl (by kernel_rfl)⟩
instance : CSc Try.prog 151 := ⟨aggfact Try.underlying151 rfl, by kernel_rfl⟩
instance : CZ Try.prog 151 [.nilFunc] := ⟨zfact (v := .nilFunc) rfl (by kernel_rfl)⟩
instance : CSc Try.prog 152 := ⟨aggfact Try.underlying152 rfl, by kernel_rfl⟩
instance : CZ Try.prog 152 [.nilFunc] := ⟨zfact (v := .nilFunc) rfl (by kernel_rfl)⟩
instance : CSc Try.prog 154 := ⟨aggfact Try.underlying154 rfl, by kernel_rfl⟩
instance : CZ Try.prog 154 [.nilFunc] := ⟨zfact (v := .nilFunc) rfl (by kernel_rfl)⟩
instance : CSc Try.prog 155 := ⟨aggfact Try.underlying155 rfl, by kernel_rfl⟩
instance : CZ Try.prog 155 [.nilFunc] := ⟨zfact (v := .nilFunc) rfl (by kernel_rfl)⟩
instance : CSc Try.prog 156 := ⟨aggfact Try.underlying156 rfl, by kernel_rfl⟩
instance : CZ Try.prog 156 [.int .u32 0] := ⟨zfact (v := .int .u32 0) rfl (by kernel_rfl)⟩
instance : CInt Try.prog 156 .u32 := ⟨Try.underlying156⟩
instance : CSc Try.prog 157 := ⟨aggfact Try.underlying157 rfl, by kernel_rfl⟩
instance : CZ Try.prog 157 [.nilFunc] := ⟨zfact (v := .nilFunc) rfl (by kernel_rfl)⟩
instance : CSc Try.prog 158 := ⟨aggfact Try.underlying158 rfl, by kernel_rfl⟩
instance : CZ Try.prog 158 [.int .u64 0] := ⟨zfact (v := .int .u64 0) rfl (by kernel_rfl)⟩
instance : CInt Try.prog 158 .u64 := ⟨Try.underlying158⟩
instance : CSc Try.prog 160 := ⟨aggfact Try.underlying160 rfl, by kernel_rfl⟩
instance : CZ Try.prog 160 [.nilFunc] := ⟨zfact (v := .nilFunc) rfl (by kernel_rfl)⟩
instance : CSc Try.prog 162 := ⟨aggfact Try.underlying162 rfl, by kernel_rfl⟩
instance : CZ Try.prog 162 [.nilFunc] := ⟨zfact (v := .nilFunc) rfl (by kernel_rfl)⟩
instance : CSc Try.prog 163 := ⟨aggfact Try.underlying163 rfl, by kernel_rfl⟩
instance : CZ Try.prog 163 [.int .u64 0] := ⟨zfact (v := .int .u64 0) rfl (by kernel_rfl)⟩
instance : CInt Try.prog 163 .u64 := ⟨Try.underlying163⟩
instance : CSc Try.prog 164 := ⟨aggfact Try.underlying164 rfl, by kernel_rfl⟩
instance : CZ Try.prog 164 [.nilFunc] := ⟨zfact (v := .nilFunc) rfl (by kernel_rfl)⟩
instance : CSc Try.prog 165 := ⟨aggfact Try.underlying165 rfl, by kernel_rfl⟩
instance : CZ Try.prog 165 [.nilFunc] := ⟨zfact (v := .nilFunc) rfl (by kernel_rfl)⟩
instance : CSc Try.prog 166 := ⟨aggfact Try.underlying166 rfl, by kernel_rfl⟩
instance : CZ Try.prog 166 [.nilFunc] := ⟨zfact (v := .nilFunc) rfl (by kernel_rfl)⟩
instance : CSc Try.prog 167 := ⟨aggfact Try.underlying167 rfl, by kernel_rfl⟩
instance : CZ Try.prog 167 [.pointer none] := ⟨zfact (v := .pointer none) rfl (by kernel_rfl)⟩
instance : CSc Try.prog 168 := ⟨aggfact Try.underlying168 rfl, by kernel_rfl⟩
instance : CZ Try.prog 168 [.nilFunc] := ⟨zfact (v := .nilFunc) rfl (by kernel_rfl)⟩
instance : CSc Try.prog 169 := ⟨aggfact Try.underlying169 rfl, by kernel_rfl⟩
instance : CZ Try.prog 169 [.pointer none] := ⟨zfact (v := .pointer none) rfl (by kernel_rfl)⟩
instance : CSc Try.prog 171 := ⟨aggfact Try.underlying171 rfl, by kernel_rfl⟩
instance : CZ Try.prog 171 [.nilFunc] := ⟨zfact (v := .nilFunc) rfl (by kernel_rfl)⟩
instance : CSc Try.prog 172 := ⟨aggfact Try.underlying172 rfl, by kernel_rfl⟩
instance : CZ Try.prog 172 [.nilFunc] := ⟨zfact (v := .nilFunc) rfl (by kernel_rfl)⟩
instance : CAg Try.prog 173 4 := ⟨aggfact Try.underlying173 rfl, by kernel_rfl⟩
instance : CFd Try.prog 173 0 0 := ⟨fun _ _ => by kernel_rfl⟩
instance : CFd Try.prog 173 1 1 := ⟨fun _ _ => by kernel_rfl⟩
instance : CFd Try.prog 173 2 2 := ⟨fun _ _ => by kernel_rfl⟩
instance : CFd Try.prog 173 3 3 := ⟨fun _ _ => by kernel_rfl⟩
instance : CZ Try.prog 173 [.pointer none, .pointer none, .pointer none, .string ⟨#[]⟩] := ⟨zfact (v := .agg #[.pointer none, .pointer none, .pointer none, .string ⟨#[]⟩]) rfl (by kernel_rfl)⟩
instance : CAg Try.prog 174 4 := ⟨aggfact Try.underlying174 rfl, by kernel_rfl⟩
instance : CFd Try.prog 174 0 0 := ⟨fun _ _ => by kernel_rfl⟩
instance : CFd Try.prog 174 1 1 := ⟨fun _ _ => by kernel_rfl⟩
instance : CFd Try.prog 174 2 2 := ⟨fun _ _ => by kernel_rfl⟩
instance : CFd Try.prog 174 3 3 := ⟨fun _ _ => by kernel_rfl⟩
instance : CZ Try.prog 174 [.pointer none, .pointer none, .pointer none, .string ⟨#[]⟩] := ⟨zfact (v := .agg #[.pointer none, .pointer none, .pointer none, .string ⟨#[]⟩]) rfl (by kernel_rfl)⟩
instance : CSc Try.prog 178 := ⟨aggfact Try.underlying178 rfl, by kernel_rfl⟩
instance : CZ Try.prog 178 [.nilFunc] := ⟨zfact (v := .nilFunc) rfl (by kernel_rfl)⟩
instance : CSc Try.prog 179 := ⟨aggfact Try.underlying179 rfl, by kernel_rfl⟩
instance : CZ Try.prog 179 [.int .u8 0] := ⟨zfact (v := .int .u8 0) rfl (by kernel_rfl)⟩
instance : CInt Try.prog 179 .u8 := ⟨Try.underlying179⟩
instance : CSc Try.prog 180 := ⟨aggfact Try.underlying180 rfl, by kernel_rfl⟩
instance : CZ Try.prog 180 [.int .u8 0] := ⟨zfact (v := .int .u8 0) rfl (by kernel_rfl)⟩
instance : CInt Try.prog 180 .u8 := ⟨Try.underlying180⟩
instance : CSc Try.prog 181 := ⟨aggfact Try.underlying181 rfl, by kernel_rfl⟩
instance : CZ Try.prog 181 [.nilFunc] := ⟨zfact (v := .nilFunc) rfl (by kernel_rfl)⟩
instance : CSc Try.prog 182 := ⟨aggfact Try.underlying182 rfl, by kernel_rfl⟩
instance : CZ Try.prog 182 [.pointer none] := ⟨zfact (v := .pointer none) rfl (by kernel_rfl)⟩
instance : CSc Try.prog 183 := ⟨aggfact Try.underlying183 rfl, by kernel_rfl⟩
instance : CZ Try.prog 183 [.int .i32 0] := ⟨zfact (v := .int .i32 0) rfl (by kernel_rfl)⟩
instance : CInt Try.prog 183 .i32 := ⟨Try.underlying183⟩
instance : CSc Try.prog 184 := ⟨aggfact Try.underlying184 rfl, by kernel_rfl⟩
instance : CZ Try.prog 184 [.int .i32 0] := ⟨zfact (v := .int .i32 0) rfl (by kernel_rfl)⟩
instance : CInt Try.prog 184 .i32 := ⟨Try.underlying184⟩
instance : CAg Try.prog 185 11 := ⟨aggfact Try.underlying185 rfl, by kernel_rfl⟩
instance : CFd Try.prog 185 0 0 := ⟨fun _ _ => by kernel_rfl⟩
instance : CFd Try.prog 185 1 1 := ⟨fun _ _ => by kernel_rfl⟩
instance : CFd Try.prog 185 2 2 := ⟨fun _ _ => by kernel_rfl⟩
instance : CFd Try.prog 185 3 3 := ⟨fun _ _ => by kernel_rfl⟩
instance : CFd Try.prog 185 4 4 := ⟨fun _ _ => by kernel_rfl⟩
instance : CFd Try.prog 185 5 5 := ⟨fun _ _ => by kernel_rfl⟩
instance : CFd Try.prog 185 6 6 := ⟨fun _ _ => by kernel_rfl⟩
instance : CFd Try.prog 185 7 7 := ⟨fun _ _ => by kernel_rfl⟩
instance : CFd Try.prog 185 8 8 := ⟨fun _ _ => by kernel_rfl⟩
instance : CFd Try.prog 185 9 9 := ⟨fun _ _ => by kernel_rfl⟩
instance : CFd Try.prog 185 10 10 := ⟨fun _ _ => by kernel_rfl⟩
instance : CZ Try.prog 185 [.int .u64 0, .int .u64 0, .int .u32 0, .int .u8 0, .int .u8 0, .int .u8 0, .int .u8 0, .nilFunc, .pointer none, .int .i32 0, .int .i32 0] := ⟨zfact (v := .agg #[.int .u64 0, .int .u64 0, .int .u32 0, .int .u8 0, .int .u8 0, .int .u8 0, .int .u8 0, .nilFunc, .pointer none, .int .i32 0, .int .i32 0]) rfl (by kernel_rfl)⟩
instance : CAg Try.prog 186 11 := ⟨aggfact Try.underlying186 rfl, by kernel_rfl⟩
instance : CFd Try.prog 186 0 0 := ⟨fun _ _ => by kernel_rfl⟩
instance : CFd Try.prog 186 1 1 := ⟨fun _ _ => by kernel_rfl⟩
instance : CFd Try.prog 186 2 2 := ⟨fun _ _ => by kernel_rfl⟩
instance : CFd Try.prog 186 3 3 := ⟨fun _ _ => by kernel_rfl⟩
instance : CFd Try.prog 186 4 4 := ⟨fun _ _ => by kernel_rfl⟩
instance : CFd Try.prog 186 5 5 := ⟨fun _ _ => by kernel_rfl⟩
instance : CFd Try.prog 186 6 6 := ⟨fun _ _ => by kernel_rfl⟩
instance : CFd Try.prog 186 7 7 := ⟨fun _ _ => by kernel_rfl⟩
instance : CFd Try.prog 186 8 8 := ⟨fun _ _ => by kernel_rfl⟩
instance : CFd Try.prog 186 9 9 := ⟨fun _ _ => by kernel_rfl⟩
instance : CFd Try.prog 186 10 10 := ⟨fun _ _ => by kernel_rfl⟩
instance : CZ Try.prog 186 [.int .u64 0, .int .u64 0, .int .u32 0, .int .u8 0, .int .u8 0, .int .u8 0, .int .u8 0, .nilFunc, .pointer none, .int .i32 0, .int .i32 0] := ⟨zfact (v := .agg #[.int .u64 0, .int .u64 0, .int .u32 0, .int .u8 0, .int .u8 0, .int .u8 0, .int .u8 0, .nilFunc, .pointer none, .int .i32 0, .int .i32 0]) rfl (by kernel_rfl)⟩
instance : CSc Try.prog 187 := ⟨aggfact Try.underlying187 rfl, by kernel_rfl⟩
instance : CFn Try.prog 14 := ⟨enters_fn Try.func14 (by kernel_rfl) rfl⟩
instance : CFn Try.prog 15 := ⟨enters_fn Try.func15 (by kernel_rfl) rfl⟩
instance : CFn Try.prog 16 := ⟨enters_fn Try.func16 (by kernel_rfl) rfl⟩
instance : CFn Try.prog 17 := ⟨enters_fn Try.func17 (by kernel_rfl) rfl⟩
instance : CFn Try.prog 18 := ⟨enters_fn Try.func18 (by kernel_rfl) rfl⟩
instance : CFn Try.prog 19 := ⟨enters_fn Try.func19 (by kernel_rfl) rfl⟩
instance : CFn Try.prog 20 := ⟨enters_fn Try.func20 (by kernel_rfl) rfl⟩
instance : CFn Try.prog 21 := ⟨enters_fn Try.func21 (by kernel_rfl) rfl⟩
instance : CFn Try.prog 22 := ⟨enters_fn Try.func22 (by kernel_rfl) rfl⟩
instance : CFn Try.prog 23 := ⟨enters_fn Try.func23 (by kernel_rfl) rfl⟩
instance : CFn Try.prog 24 := ⟨enters_fn Try.func24 (by kernel_rfl) rfl⟩
instance : CFn Try.prog 25 := ⟨enters_fn Try.func25 (by kernel_rfl) rfl⟩
instance : CFn Try.prog 26 := ⟨enters_fn Try.func26 (by kernel_rfl) rfl⟩
instance : CFn Try.prog 27 := ⟨enters_fn Try.func27 (by kernel_rfl) rfl⟩
instance : CFn Try.prog 28 := ⟨enters_fn Try.func28 (by kernel_rfl) rfl⟩
instance : CFn Try.prog 29 := ⟨enters_fn Try.func29 (by kernel_rfl) rfl⟩
instance : CFn Try.prog 30 := ⟨enters_fn Try.func30 (by kernel_rfl) rfl⟩
instance : CFn Try.prog 31 := ⟨enters_fn Try.func31 (by kernel_rfl) rfl⟩
instance : CFn Try.prog 32 := ⟨enters_fn Try.func32 (by kernel_rfl) rfl⟩
instance : CFn Try.prog 33 := ⟨enters_fn Try.func33 (by kernel_rfl) rfl⟩
instance : CFn Try.prog 34 := ⟨enters_fn Try.func34 (by kernel_rfl) rfl⟩
instance : CFn Try.prog 35 := ⟨enters_fn Try.func35 (by kernel_rfl) rfl⟩
instance : CFn Try.prog 36 := ⟨enters_fn Try.func36 (by kernel_rfl) rfl⟩
instance : CFn Try.prog 37 := ⟨enters_fn Try.func37 (by kernel_rfl) rfl⟩
instance : CFn Try.prog 38 := ⟨enters_fn Try.func38 (by kernel_rfl) rfl⟩
instance : CFn Try.prog 39 := ⟨enters_fn Try.func39 (by kernel_rfl) rfl⟩
instance : CFn Try.prog 40 := ⟨enters_fn Try.func40 (by kernel_rfl) rfl⟩
instance : CFn Try.prog 41 := ⟨enters_fn Try.func41 (by kernel_rfl) rfl⟩
instance : CFn Try.prog 42 := ⟨enters_fn Try.func42 (by kernel_rfl) rfl⟩
instance : CFn Try.prog 43 := ⟨enters_fn Try.func43 (by kernel_rfl) rfl⟩
instance : CFn Try.prog 44 := ⟨enters_fn Try.func44 (by kernel_rfl) rfl⟩
instance : CFn Try.prog 45 := ⟨enters_fn Try.func45 (by kernel_rfl) rfl⟩
instance : CFn Try.prog 46 := ⟨enters_fn Try.func46 (by kernel_rfl) rfl⟩
instance : CFn Try.prog 47 := ⟨enters_fn Try.func47 (by kernel_rfl) rfl⟩
instance : CFn Try.prog 48 := ⟨enters_fn Try.func48 (by kernel_rfl) rfl⟩
instance : CFn Try.prog 49 := ⟨enters_fn Try.func49 (by kernel_rfl) rfl⟩
instance : CFn Try.prog 50 := ⟨enters_fn Try.func50 (by kernel_rfl) rfl⟩
instance : CFn Try.prog 51 := ⟨enters_fn Try.func51 (by kernel_rfl) rfl⟩
instance : CFn Try.prog 52 := ⟨enters_fn Try.func52 (by kernel_rfl) rfl⟩
instance : CFn Try.prog 53 := ⟨enters_fn Try.func53 (by kernel_rfl) rfl⟩
instance : CFn Try.prog 54 := ⟨enters_fn Try.func54 (by kernel_rfl) rfl⟩
instance : CFn Try.prog 55 := ⟨enters_fn Try.func55 (by kernel_rfl) rfl⟩
instance : CFn Try.prog 56 := ⟨enters_fn Try.func56 (by kernel_rfl) rfl⟩
instance : CFn Try.prog 57 := ⟨enters_fn Try.func57 (by kernel_rfl) rfl⟩
instance : CFn Try.prog 58 := ⟨enters_fn Try.func58 (by kernel_rfl) rfl⟩
instance : CFn Try.prog 59 := ⟨enters_fn Try.func59 (by kernel_rfl) rfl⟩
instance : CFn Try.prog 60 := ⟨enters_fn Try.func60 (by kernel_rfl) rfl⟩
instance : CFn Try.prog 61 := ⟨enters_fn Try.func61 (by kernel_rfl) rfl⟩
instance : CFn Try.prog 62 := ⟨enters_fn Try.func62 (by kernel_rfl) rfl⟩
instance : CFn Try.prog 63 := ⟨enters_fn Try.func63 (by kernel_rfl) rfl⟩
instance : CFn Try.prog 64 := ⟨enters_fn Try.func64 (by kernel_rfl) rfl⟩
instance : CFn Try.prog 65 := ⟨enters_fn Try.func65 (by kernel_rfl) rfl⟩
instance : CFn Try.prog 66 := ⟨enters_fn Try.func66 (by kernel_rfl) rfl⟩
instance : CFn Try.prog 67 := ⟨enters_fn Try.func67 (by kernel_rfl) rfl⟩
instance : CFn Try.prog 68 := ⟨enters_fn Try.func68 (by kernel_rfl) rfl⟩
instance : CFn Try.prog 69 := ⟨enters_fn Try.func69 (by kernel_rfl) rfl⟩
instance : CFn Try.prog 70 := ⟨enters_fn Try.func70 (by kernel_rfl) rfl⟩
instance : CFn Try.prog 71 := ⟨enters_fn Try.func71 (by kernel_rfl) rfl⟩
instance : CFn Try.prog 72 := ⟨enters_fn Try.func72 (by kernel_rfl) rfl⟩
instance : CFn Try.prog 73 := ⟨enters_fn Try.func73 (by kernel_rfl) rfl⟩
instance : CFn Try.prog 74 := ⟨enters_fn Try.func74 (by kernel_rfl) rfl⟩
instance : CFn Try.prog 75 := ⟨enters_fn Try.func75 (by kernel_rfl) rfl⟩
instance : CFn Try.prog 76 := ⟨enters_fn Try.func76 (by kernel_rfl) rfl⟩
instance : CFn Try.prog 77 := ⟨enters_fn Try.func77 (by kernel_rfl) rfl⟩
instance : CFn Try.prog 78 := ⟨enters_fn Try.func78 (by kernel_rfl) rfl⟩
instance : CFn Try.prog 79 := ⟨enters_fn Try.func79 (by kernel_rfl) rfl⟩
instance : CFn Try.prog 80 := ⟨enters_fn Try.func80 (by kernel_rfl) rfl⟩
instance : CFn Try.prog 81 := ⟨enters_fn Try.func81 (by kernel_rfl) rfl⟩
instance : CFn Try.prog 82 := ⟨enters_fn Try.func82 (by kernel_rfl) rfl⟩
instance : CFn Try.prog 83 := ⟨enters_fn Try.func83 (by kernel_rfl) rfl⟩
instance : CFn Try.prog 85 := ⟨enters_fn Try.func85 (by kernel_rfl) rfl⟩
instance : CFn Try.prog 86 := ⟨enters_fn Try.func86 (by kernel_rfl) rfl⟩
instance : CFn Try.prog 87 := ⟨enters_fn Try.func87 (by kernel_rfl) rfl⟩
instance : CFn Try.prog 88 := ⟨enters_fn Try.func88 (by kernel_rfl) rfl⟩
instance : CFn Try.prog 89 := ⟨enters_fn Try.func89 (by kernel_rfl) rfl⟩
instance : CFn Try.prog 90 := ⟨enters_fn Try.func90 (by kernel_rfl) rfl⟩
instance : CFn Try.prog 91 := ⟨enters_fn Try.func91 (by kernel_rfl) rfl⟩
instance : CFn Try.prog 92 := ⟨enters_fn Try.func92 (by kernel_rfl) rfl⟩
instance : CFn Try.prog 93 := ⟨enters_fn Try.func93 (by kernel_rfl) rfl⟩
instance : CFn Try.prog 94 := ⟨enters_fn Try.func94 (by kernel_rfl) rfl⟩
instance : CFn Try.prog 95 := ⟨enters_fn Try.func95 (by kernel_rfl) rfl⟩
instance : CFn Try.prog 96 := ⟨enters_fn Try.func96 (by kernel_rfl) rfl⟩
instance : CFn Try.prog 97 := ⟨enters_fn Try.func97 (by kernel_rfl) rfl⟩
instance : CFn Try.prog 98 := ⟨enters_fn Try.func98 (by kernel_rfl) rfl⟩
instance : CFn Try.prog 99 := ⟨enters_fn Try.func99 (by kernel_rfl) rfl⟩
instance : CFn Try.prog 100 := ⟨enters_fn Try.func100 (by kernel_rfl) rfl⟩
instance : CFn Try.prog 101 := ⟨enters_fn Try.func101 (by kernel_rfl) rfl⟩
instance : CFn Try.prog 102 := ⟨enters_fn Try.func102 (by kernel_rfl) rfl⟩
instance : CFn Try.prog 103 := ⟨enters_fn Try.func103 (by kernel_rfl) rfl⟩
instance : CFn Try.prog 104 := ⟨enters_fn Try.func104 (by kernel_rfl) rfl⟩
instance : CFn Try.prog 106 := ⟨enters_fn Try.func106 (by kernel_rfl) rfl⟩
instance : CFn Try.prog 107 := ⟨enters_fn Try.func107 (by kernel_rfl) rfl⟩
instance : CFn Try.prog 108 := ⟨enters_fn Try.func108 (by kernel_rfl) rfl⟩
instance : CFn Try.prog 109 := ⟨enters_fn Try.func109 (by kernel_rfl) rfl⟩
instance : CFn Try.prog 110 := ⟨enters_fn Try.func110 (by kernel_rfl) rfl⟩
instance : CFn Try.prog 111 := ⟨enters_fn Try.func111 (by kernel_rfl) rfl⟩
instance : CFn Try.prog 112 := ⟨enters_fn Try.func112 (by kernel_rfl) rfl⟩
instance : CFn Try.prog 113 := ⟨enters_fn Try.func113 (by kernel_rfl) rfl⟩
def offL : List (List Nat) := [[], [], [], [], [], [], [], [0, 1, 2, 3], [0, 1, 2, 3], [], [], [], [], [0, 1], [0, 1], [], [], [], [0], [0], [], [], [], [0, 1], [0, 1], [], [], [], [], [0, 1, 2, 3, 4], [0, 1, 2, 3, 4], [], [], [], [], [], [], [], [], [], [], [], [], [], [], [], [], [], [], [], [], [0, 1, 2, 3], [0, 1, 2, 3], [], [], [], [], [], [], [], [], [], [], [], [], [], [], [], [], [], [0, 1], [0, 1], [], [], [0, 1, 2], [0, 1, 2], [], [], [], [], [], [], [0, 1, 2, 3, 4], [0, 1, 2, 3, 4], [], [], [], [], [0, 1, 2], [0, 1, 2], [], [], [], [], [], [], [], [], [], [], [], [], [], [], [], [], [], [0, 2], [0, 2], [], [], [], [], [], [], [], [], [], [], [], [], [], [0, 2], [0, 2], [], [], [], [], [], [], [], [], [], [], [], [], [], [], [], [], [], [], [], [], [0, 2], [0, 2], [], [], [], [], [], [], [], [], [], [], [], [], [], [], [], [], [], [], [], [], [], [], [], [], [], [], [], [0, 1, 2, 3], [0, 1, 2, 3], [], [], [], [], [], [], [], [], [], [], [0, 1, 2, 3, 4, 5, 6, 7, 8, 9, 10], [0, 1, 2, 3, 4, 5, 6, 7, 8, 9, 10], []]
def kdL : List Nat := [0, 0, 0, 0, 0, 0, 0, 0, 0, 2, 2, 2, 0, 0, 0, 0, 0, 0, 0, 0, 0, 0, 1, 0, 0, 0, 0, 0, 1, 0, 0, 0, 0, 1, 1, 0, 0, 0, 1, 0, 0, 0, 0, 0, 0, 0, 0, 0, 0, 0, 1, 0, 0, 0, 0, 0, 0, 0, 0, 0, 1, 0, 0, 0, 1, 1, 0, 0, 0, 0, 0, 0, 0, 0, 0, 0, 0, 0, 0, 0, 0, 0, 0, 0, 0, 0, 0, 0, 0, 0, 0, 0, 0, 0, 0, 0, 0, 0, 0, 0, 0, 0, 0, 1, 1, 0, 0, 0, 0, 0, 0, 0, 0, 0, 0, 0, 1, 0, 0, 0, 0, 1, 0, 0, 0, 0, 0, 0, 0, 1, 0, 0, 0, 0, 0, 0, 0, 0, 0, 0, 0, 0, 1, 0, 0, 0, 0, 0, 0, 0, 0, 0, 0, 0, 0, 0, 0, 0, 0, 0, 0, 0, 0, 0, 0, 0, 0, 0, 0, 0, 0, 0, 0, 0, 0, 0, 0, 0, 0, 0, 0, 0, 0, 0, 0, 0, 0, 0]
theorem tab : Tab Try.prog (offOf offL) (kdOf kdL) := tab_of (by kernel_rfl)

end Go.Proofs.Ytbgolbkolcmldaa
