/-
  Rows that are grown ahead.
-/
import Derived.Test.YtamjlkdanllgjaaGreatDoorM06
import Derived.Lib.AppendZeros
import Derived.Test.YtamjlkdanllgjaaGreatDoorM04
import Derived.Test.YtamjlkdanllgjaaGreatDoorProg
import Derived.KernelRfl
namespace Go.Proofs.YtamjlkdanllgjaaGreatDoor
open Go.RowKit
section
variable {P : Program} {fr : bJ} {B : Bs} {L : AL} {d : Option Tmp} {ty t t' tn : TypeId} {pos : String} {af : Array Edge} {g : Option (Nat × Bool)} {x y z q : Operand} {u : AV}
theorem sM {e sz by_ n : Nat} {k kn : IntKind} {a : Int} (hc : ke P t e sz by_) (hsz : 0 < sz) (hn : P.underlying tn = some (.int kn)) (hx : bh fr x = some (.sc (.slice none 0 0))) (hy : bh fr y = some (.sc (.int k a))) (ha : a = (n : Int)) (h0 : 0 < n) (h63 : n ≤ 9223372036854775807) (hby : n * by_ ≤ 281474976710656) :
  AO P ⟨d, .call ⟨.builtin .append, #[x, y], #[t, tn]⟩, ty, pos, af, g⟩ fr B L (fun r L' => ∃ b cap, r = .sc (.slice (some ⟨b, 0, none⟩) n cap) ∧ n ≤ cap ∧ cap ≤ maxLen ∧ L' = (b, .vec e sz 0 cap) :: L) := by
 intro σ ρ w hρ hw
 subst ha
 haveI := hc
 obtain ⟨inf, zz, hi, rfl, rfl, hzz, hzs⟩ := hc.info
 have hr := Lib.run_append_nil_zeros (P := P) w t tn ty e inf zz k kn hc.under hn hi hzz n h0 hsz (by omega) hby
 unfold fw
 rw [show (execOp ρ ⟨d, .call ⟨.builtin .append, #[x, y], #[t, tn]⟩, ty, pos, af, g⟩).run P w = .ok (.value (.slice (some ⟨w.heap.size, 0, none⟩) n (grownCap w n 0 e))) (w.drew.alloc (.cells (Builtin.zeroCells zz.cells n ++ Builtin.zeroCells zz.cells (grownCap w n 0 e - n)) e)) by
  simp [execOp, resolve, (hρ x _ hx).sc_inv, (hρ y _ hy).sc_inv, invoke, builtin, hr]]
 have hge := grownCap_ge w n 0 e
 have hm := grownCap_le_maxLen w n 0 e (by unfold maxLen; omega)
 refine ⟨σ, .sc _, _, bT.le_refl _, .sc _, (hw.drew _).alloc _ (.vec e inf.size 0 (grownCap w n 0 e)) ⟨_, rfl, ?_, Nat.zero_le _, hm⟩, w.heap.size, _, rfl, hge, hm, rfl⟩
 rw [Array.size_append, size_zeroCells, size_zeroCells, hzs, ← Nat.add_mul]
 congr 1
 omega
theorem CL {A : Option Addr} {n c e sz by_ : Nat} (hc : ke P t e sz by_) (hx : bh fr x = some (.sc (.slice A n c))) : Av P ⟨d, .call ⟨.builtin .cap, #[x], #[t]⟩, ty, pos, af, g⟩ fr (.sc (.int .i64 c)) :=
 dB fun ρ w hρ => by simp [execOp, resolve, hρ _ _ hx, invoke, builtin, Builtin.cap_, run_underlying hc.under, Result.andThen, goInt]
theorem CN {e sz by_ : Nat} {k : IntKind} (hc : ke P t e sz by_) (hx : bh fr x = some (.sc (.slice none 0 0))) (hy : bh fr y = some (.sc (.int k 0))) : Av P ⟨d, .slice t x none (some y) none, ty, pos, af, g⟩ fr (.sc (.slice none 0 0)) := by
 intro σ ρ w hρ _
 haveI := hc
 refine ⟨_, ?_, .sc _⟩
 simp [execOp, (hρ x _ hx).sc_inv, (hρ y _ hy).sc_inv, Instr.sliceAt, Instr.slice, Instr.sliceBounds, Instr.sliceBound, asIntOf, run_underlying hc.under, eE (t := t)]
end
section
variable {P : Program} {tt : TT} {r : Option Nat} {ops : Array Oper} {Q : Exit → Act → World → Prop} {nt : Nat} {D : List Deferred} {fr : bJ} {B : Bs} {L : AL} {rest : List Oper} {d : Nat} {ty t t' tn : TypeId} {pos : String} {af : Array Edge} {x y z : Operand} {u : AV}
theorem we (ok : dG P tt) (n : Nat) {e sz by_ : Nat} {k kn : IntKind} {a : Int} (ht : jH tt t = some (e, sz, by_)) (hn : P.underlying tn = some (.int kn)) (hx : bh fr x = some (.sc (.slice none 0 0))) (hy : bh fr y = some (.sc (.int k a))) (ha : a = (n : Int)) (h0 : 0 < n) (h63 : n ≤ 9223372036854775807) (hby : n * by_ ≤ 281474976710656) (hd : Nat.ble nt d = false)
  (h : ∀ b cap, n ≤ cap → cap ≤ maxLen → br P r ops Q nt D rest ((d, .sc (.slice (some ⟨b, 0, none⟩) n cap)) :: fr) B ((b, .vec e sz 0 cap) :: L)) :
  br P r ops Q nt D (⟨some d, .call ⟨.builtin .append, #[x, y], #[t, tn]⟩, ty, pos, af, none⟩ :: rest) fr B L :=
 bW hd rfl (sM (bz ok ht).1 (bz ok ht).2 hn hx hy ha h0 h63 hby) fun q L' ⟨b, cap, h1, h2, h3, h4⟩ => by subst h1; subst h4; exact h b cap h2 h3
theorem yB (ok : dG P tt) {A : Option Addr} {n c e sz by_ : Nat} (ht : jH tt t = some (e, sz, by_)) (hx : bh fr x = some (.sc (.slice A n c))) (hd : Nat.ble nt d = false) (h : br P r ops Q nt D rest ((d, .sc (.int .i64 c)) :: fr) B L) : br P r ops Q nt D (⟨some d, .call ⟨.builtin .cap, #[x], #[t]⟩, ty, pos, af, none⟩ :: rest) fr B L := cg (CL (bz ok ht).1 hx) hd rfl h
theorem DH (ok : dG P tt) {e sz by_ : Nat} {k : IntKind} (ht : jH tt t = some (e, sz, by_)) (hx : bh fr x = some (.sc (.slice none 0 0))) (hy : bh fr y = some (.sc (.int k 0))) (hd : Nat.ble nt d = false) (h : br P r ops Q nt D rest ((d, .sc (.slice none 0 0)) :: fr) B L) :
  br P r ops Q nt D (⟨some d, .slice t x none (some y) none, ty, pos, af, none⟩ :: rest) fr B L := cg (CN (bz ok ht).1 hx hy) hd rfl h
end
theorem C0 {σ : bT} {b cap sz : Nat} {v : Value} (hm : cap ≤ maxLen) (h : VR σ (.sc (.slice (some ⟨b, 0, none⟩) 0 cap)) v) : VR σ (.vec (some (b, cap)) sz []) v := by
 rw [h.sc_inv]
 exact iv (l := []) (xs := []) (by simp) cz.nil (by simp) (Nat.zero_le _) hm (by simp)
end Go.Proofs.YtamjlkdanllgjaaGreatDoor
namespace Go.Proofs.YtamjlkdanllgjaaGreatDoor
open Go.RowKit
theorem ak {P : Program} {f : FuncId} {fn : Func} {c : Code} (hf : P.funcs[f]? = some fn) (hname : (fn.name == "runtime.NumGoroutine") = false) (hb : fn.body = some c) : ∀ args w, (callFunc f args).run P w = .ok (.enter f args) w := by
 intro args w
 have hne : ¬ fn.name = "runtime.NumGoroutine" := by simpa using hname
 simp [callFunc, hf, hne, hb]
theorem mixed : Tryz.prog.follows .mixedOrders = true := by kernel_rfl
def tt : TT := [none,
 some ⟨.other, 1, [.nilFunc]⟩,
 some ⟨.int .i64, 1, [.int .i64 0]⟩,
 some ⟨.int .i64, 1, [.int .i64 0]⟩,
 some ⟨.bool, 1, [.bool false]⟩,
 some ⟨.int .u8, 1, [.int .u8 0]⟩,
 some ⟨.int .u8, 1, [.int .u8 0]⟩,
 some ⟨.struct [(0, 1, false), (1, 1, false), (2, 1, false), (3, 1, false)], 4, [.int .i64 0, .int .i64 0, .bool false, .int .u8 0]⟩,
 some ⟨.struct [(0, 1, false), (1, 1, false), (2, 1, false), (3, 1, false)], 4, [.int .i64 0, .int .i64 0, .bool false, .int .u8 0]⟩,
 some ⟨.str, 1, [.string ⟨#[]⟩]⟩,
 some ⟨.str, 1, [.string ⟨#[]⟩]⟩,
 some ⟨.str, 1, [.string ⟨#[]⟩]⟩,
 some ⟨.int .u64, 1, [.int .u64 0]⟩,
 some ⟨.struct [(0, 1, false), (1, 1, false)], 2, [.string ⟨#[]⟩, .int .u64 0]⟩,
 some ⟨.struct [(0, 1, false), (1, 1, false)], 2, [.string ⟨#[]⟩, .int .u64 0]⟩,
 some ⟨.other, 1, [.pointer none]⟩,
 some ⟨.other, 1, [.pointer none]⟩,
 some ⟨.other, 1, [.pointer none]⟩,
 some ⟨.struct [(0, 1, false)], 1, [.pointer none]⟩,
 some ⟨.struct [(0, 1, false)], 1, [.pointer none]⟩,
 some ⟨.other, 1, [.nilIface]⟩,
 some ⟨.int .i32, 1, [.int .i32 0]⟩,
 some ⟨.slice 3 1 8, 1, [.slice none 0 0]⟩,
 some ⟨.int .u16, 1, [.int .u16 0]⟩,
 some ⟨.struct [(0, 1, false), (1, 1, false), (2, 1, false), (3, 1, false)], 4, [.slice none 0 0, .slice none 0 0, .slice none 0 0, .int .u16 0]⟩,
 some ⟨.struct [(0, 1, false), (1, 1, false), (2, 1, false), (3, 1, false)], 4, [.slice none 0 0, .slice none 0 0, .slice none 0 0, .int .u16 0]⟩,
 some ⟨.slice 9 1 16, 1, [.slice none 0 0]⟩,
 some ⟨.other, 1, [.nilFunc]⟩,
 some ⟨.slice 67 9 176, 1, [.slice none 0 0]⟩,
 some ⟨.slice 58 2 16, 1, [.slice none 0 0]⟩,
 some ⟨.slice 76 3 40, 1, [.slice none 0 0]⟩,
 some ⟨.slice 78 2 40, 1, [.slice none 0 0]⟩,
 some ⟨.slice 131 4 40, 1, [.slice none 0 0]⟩,
 some ⟨.slice 134 1 24, 1, [.slice none 0 0]⟩,
 some ⟨.slice 65 1 24, 1, [.slice none 0 0]⟩,
 some ⟨.struct [(0, 1, false), (1, 1, false), (2, 1, false), (3, 1, false), (4, 1, false), (5, 1, false), (6, 1, false), (7, 1, false), (8, 1, false)], 9, [.int .i64 0, .slice none 0 0, .slice none 0 0, .slice none 0 0, .slice none 0 0, .slice none 0 0, .slice none 0 0, .slice none 0 0, .slice none 0 0]⟩,
 some ⟨.struct [(0, 1, false), (1, 1, false), (2, 1, false), (3, 1, false), (4, 1, false), (5, 1, false), (6, 1, false), (7, 1, false), (8, 1, false)], 9, [.int .i64 0, .slice none 0 0, .slice none 0 0, .slice none 0 0, .slice none 0 0, .slice none 0 0, .slice none 0 0, .slice none 0 0, .slice none 0 0]⟩,
 some ⟨.other, 1, [.nilFunc]⟩,
 some ⟨.other, 1, [.nilFunc]⟩,
 some ⟨.slice 22 1 24, 1, [.slice none 0 0]⟩,
 none,
 some ⟨.other, 1, [.nilFunc]⟩,
 some ⟨.struct [(0, 1, false), (1, 1, false)], 2, [.slice none 0 0, .slice none 0 0]⟩,
 some ⟨.struct [(0, 1, false), (1, 1, false)], 2, [.slice none 0 0, .slice none 0 0]⟩,
 some ⟨.other, 1, [.nilFunc]⟩,
 some ⟨.other, 1, [.nilFunc]⟩,
 some ⟨.other, 1, [.nilFunc]⟩,
 some ⟨.other, 1, [.nilFunc]⟩,
 some ⟨.slice 56 6 48, 1, [.slice none 0 0]⟩,
 some ⟨.other, 1, [.nilFunc]⟩,
 some ⟨.other, 1, [.nilFunc]⟩,
 some ⟨.other, 1, [.nilFunc]⟩,
 some ⟨.int .i64, 1, [.int .i64 0]⟩,
 none,
 some ⟨.other, 1, [.nilFunc]⟩,
 some ⟨.struct [(0, 1, false), (1, 1, false), (2, 1, false), (3, 1, false), (4, 1, false), (5, 1, false)], 6, [.int .i64 0, .int .i64 0, .int .i64 0, .int .i64 0, .int .i64 0, .int .i64 0]⟩,
 some ⟨.struct [(0, 1, false), (1, 1, false), (2, 1, false), (3, 1, false), (4, 1, false), (5, 1, false)], 6, [.int .i64 0, .int .i64 0, .int .i64 0, .int .i64 0, .int .i64 0, .int .i64 0]⟩,
 some ⟨.struct [(0, 1, false), (1, 1, false)], 2, [.int .i64 0, .int .i64 0]⟩,
 some ⟨.struct [(0, 1, false), (1, 1, false)], 2, [.int .i64 0, .int .i64 0]⟩,
 some ⟨.slice 167 3 24, 1, [.slice none 0 0]⟩,
 some ⟨.struct [(0, 1, false), (1, 1, false)], 2, [.slice none 0 0, .slice none 0 0]⟩,
 some ⟨.struct [(0, 1, false), (1, 1, false)], 2, [.slice none 0 0, .slice none 0 0]⟩,
 some ⟨.slice 176 3 24, 1, [.slice none 0 0]⟩,
 some ⟨.slice 180 4 32, 1, [.slice none 0 0]⟩,
 some ⟨.slice 182 4 32, 1, [.slice none 0 0]⟩,
 some ⟨.slice 126 2 16, 1, [.slice none 0 0]⟩,
 some ⟨.struct [(0, 1, false), (1, 1, false), (2, 1, false), (3, 2, true), (5, 1, false), (6, 1, false), (7, 1, false), (8, 1, false)], 9, [.string ⟨#[]⟩, .int .i64 0, .bool false, .slice none 0 0, .slice none 0 0, .slice none 0 0, .slice none 0 0, .slice none 0 0, .slice none 0 0]⟩,
 some ⟨.struct [(0, 1, false), (1, 1, false), (2, 1, false), (3, 2, true), (5, 1, false), (6, 1, false), (7, 1, false), (8, 1, false)], 9, [.string ⟨#[]⟩, .int .i64 0, .bool false, .slice none 0 0, .slice none 0 0, .slice none 0 0, .slice none 0 0, .slice none 0 0, .slice none 0 0]⟩,
 some ⟨.other, 1, [.nilFunc]⟩,
 some ⟨.slice 5 1 1, 1, [.slice none 0 0]⟩,
 some ⟨.arr 4 9 1, 4, [.string ⟨#[]⟩, .string ⟨#[]⟩, .string ⟨#[]⟩, .string ⟨#[]⟩]⟩,
 some ⟨.slice 171 2 16, 1, [.slice none 0 0]⟩,
 some ⟨.struct [(0, 1, false), (1, 1, false), (2, 1, false), (3, 1, false), (4, 1, false), (5, 1, false)], 6, [.slice none 0 0, .slice none 0 0, .slice none 0 0, .slice none 0 0, .slice none 0 0, .int .i64 0]⟩,
 some ⟨.struct [(0, 1, false), (1, 1, false), (2, 1, false), (3, 1, false), (4, 1, false), (5, 1, false)], 6, [.slice none 0 0, .slice none 0 0, .slice none 0 0, .slice none 0 0, .slice none 0 0, .int .i64 0]⟩,
 some ⟨.slice 73 6 128, 1, [.slice none 0 0]⟩,
 some ⟨.struct [(0, 1, false), (1, 1, false), (2, 1, false)], 3, [.int .i64 0, .bool false, .slice none 0 0]⟩,
 some ⟨.struct [(0, 1, false), (1, 1, false), (2, 1, false)], 3, [.int .i64 0, .bool false, .slice none 0 0]⟩,
 some ⟨.struct [(0, 1, false), (1, 1, false)], 2, [.string ⟨#[]⟩, .slice none 0 0]⟩,
 some ⟨.struct [(0, 1, false), (1, 1, false)], 2, [.string ⟨#[]⟩, .slice none 0 0]⟩,
 some ⟨.arr 4 3 1, 4, [.int .i64 0, .int .i64 0, .int .i64 0, .int .i64 0]⟩,
 some ⟨.other, 1, [.nilFunc]⟩,
 none,
 some ⟨.other, 1, [.nilFunc]⟩,
 some ⟨.other, 1, [.nilFunc]⟩,
 some ⟨.other, 1, [.nilFunc]⟩,
 some ⟨.other, 1, [.nilFunc]⟩,
 some ⟨.other, 1, [.map none]⟩,
 some ⟨.other, 1, [.map none]⟩,
 some ⟨.other, 1, [.nilFunc]⟩,
 some ⟨.arr 5 4 1, 5, [.bool false, .bool false, .bool false, .bool false, .bool false]⟩,
 none,
 some ⟨.other, 1, [.nilFunc]⟩,
 some ⟨.other, 1, [.nilFunc]⟩,
 some ⟨.other, 1, [.nilFunc]⟩,
 some ⟨.other, 1, [.nilFunc]⟩,
 some ⟨.other, 1, [.nilFunc]⟩,
 some ⟨.other, 1, [.map none]⟩,
 none,
 some ⟨.other, 1, [.pointer none]⟩,
 none,
 some ⟨.other, 1, [.nilFunc]⟩,
 some ⟨.other, 1, [.nilFunc]⟩,
 some ⟨.struct [(0, 1, false), (1, 1, false)], 2, [.int .i64 0, .int .i64 0]⟩,
 some ⟨.struct [(0, 1, false), (1, 1, false)], 2, [.int .i64 0, .int .i64 0]⟩,
 some ⟨.other, 1, [.nilFunc]⟩,
 some ⟨.other, 1, [.nilFunc]⟩,
 some ⟨.other, 1, [.nilFunc]⟩,
 some ⟨.other, 1, [.nilFunc]⟩,
 some ⟨.other, 1, [.nilFunc]⟩,
 some ⟨.other, 1, [.nilFunc]⟩,
 some ⟨.other, 1, [.nilFunc]⟩,
 some ⟨.struct [(0, 9, true), (9, 9, true), (18, 1, false)], 19, [.int .i64 0, .slice none 0 0, .slice none 0 0, .slice none 0 0, .slice none 0 0, .slice none 0 0, .slice none 0 0, .slice none 0 0, .slice none 0 0, .int .i64 0, .slice none 0 0, .slice none 0 0, .slice none 0 0, .slice none 0 0, .slice none 0 0, .slice none 0 0, .slice none 0 0, .slice none 0 0, .nilFunc]⟩,
 some ⟨.struct [(0, 9, true), (9, 9, true), (18, 1, false)], 19, [.int .i64 0, .slice none 0 0, .slice none 0 0, .slice none 0 0, .slice none 0 0, .slice none 0 0, .slice none 0 0, .slice none 0 0, .slice none 0 0, .int .i64 0, .slice none 0 0, .slice none 0 0, .slice none 0 0, .slice none 0 0, .slice none 0 0, .slice none 0 0, .slice none 0 0, .slice none 0 0, .nilFunc]⟩,
 some ⟨.slice 156 2 16, 1, [.slice none 0 0]⟩,
 none,
 some ⟨.other, 1, [.nilFunc]⟩,
 some ⟨.other, 1, [.map none]⟩,
 some ⟨.struct [(0, 9, true), (9, 1, false), (10, 1, false)], 11, [.int .i64 0, .slice none 0 0, .slice none 0 0, .slice none 0 0, .slice none 0 0, .slice none 0 0, .slice none 0 0, .slice none 0 0, .slice none 0 0, .slice none 0 0, .map none]⟩,
 some ⟨.struct [(0, 9, true), (9, 1, false), (10, 1, false)], 11, [.int .i64 0, .slice none 0 0, .slice none 0 0, .slice none 0 0, .slice none 0 0, .slice none 0 0, .slice none 0 0, .slice none 0 0, .slice none 0 0, .slice none 0 0, .map none]⟩,
 none,
 some ⟨.other, 1, [.nilFunc]⟩,
 some ⟨.other, 1, [.nilFunc]⟩,
 some ⟨.other, 1, [.nilFunc]⟩,
 some ⟨.other, 1, [.nilFunc]⟩,
 some ⟨.other, 1, [.nilFunc]⟩,
 some ⟨.struct [(0, 1, false), (1, 1, false)], 2, [.int .i64 0, .int .i64 0]⟩,
 some ⟨.struct [(0, 1, false), (1, 1, false)], 2, [.int .i64 0, .int .i64 0]⟩,
 some ⟨.other, 1, [.pointer none]⟩,
 some ⟨.struct [(0, 1, false), (1, 1, false), (2, 9, true), (11, 1, false)], 12, [.slice none 0 0, .int .i64 0, .int .i64 0, .slice none 0 0, .slice none 0 0, .slice none 0 0, .slice none 0 0, .slice none 0 0, .slice none 0 0, .slice none 0 0, .slice none 0 0, .int .i64 0]⟩,
 some ⟨.struct [(0, 1, false), (1, 1, false), (2, 9, true), (11, 1, false)], 12, [.slice none 0 0, .int .i64 0, .int .i64 0, .slice none 0 0, .slice none 0 0, .slice none 0 0, .slice none 0 0, .slice none 0 0, .slice none 0 0, .slice none 0 0, .slice none 0 0, .int .i64 0]⟩,
 some ⟨.struct [(0, 1, false), (1, 1, false), (2, 1, false), (3, 1, false)], 4, [.string ⟨#[]⟩, .int .i64 0, .int .i64 0, .int .i64 0]⟩,
 some ⟨.struct [(0, 1, false), (1, 1, false), (2, 1, false), (3, 1, false)], 4, [.string ⟨#[]⟩, .int .i64 0, .int .i64 0, .int .i64 0]⟩,
 some ⟨.slice 136 3 24, 1, [.slice none 0 0]⟩,
 some ⟨.struct [(0, 1, false)], 1, [.slice none 0 0]⟩,
 some ⟨.struct [(0, 1, false)], 1, [.slice none 0 0]⟩,
 some ⟨.struct [(0, 1, false), (1, 1, false), (2, 1, false)], 3, [.int .i64 0, .int .i64 0, .int .i64 0]⟩,
 some ⟨.struct [(0, 1, false), (1, 1, false), (2, 1, false)], 3, [.int .i64 0, .int .i64 0, .int .i64 0]⟩,
 some ⟨.other, 1, [.nilFunc]⟩,
 some ⟨.other, 1, [.nilFunc]⟩,
 some ⟨.other, 1, [.nilFunc]⟩,
 some ⟨.other, 1, [.nilFunc]⟩,
 some ⟨.int .u64, 1, [.int .u64 0]⟩,
 some ⟨.other, 1, [.nilFunc]⟩,
 some ⟨.other, 1, [.nilFunc]⟩,
 none,
 some ⟨.other, 1, [.nilFunc]⟩,
 some ⟨.other, 1, [.pointer none]⟩,
 none,
 some ⟨.other, 1, [.nilFunc]⟩,
 some ⟨.other, 1, [.nilFunc]⟩,
 some ⟨.other, 1, [.nilFunc]⟩,
 some ⟨.other, 1, [.nilFunc]⟩,
 some ⟨.other, 1, [.nilFunc]⟩,
 some ⟨.other, 1, [.nilFunc]⟩,
 some ⟨.other, 1, [.nilFunc]⟩,
 some ⟨.struct [(0, 1, false), (1, 1, false)], 2, [.int .i64 0, .int .i64 0]⟩,
 some ⟨.struct [(0, 1, false), (1, 1, false)], 2, [.int .i64 0, .int .i64 0]⟩,
 some ⟨.other, 1, [.nilFunc]⟩,
 some ⟨.other, 1, [.nilFunc]⟩,
 some ⟨.other, 1, [.map none]⟩,
 some ⟨.other, 1, [.nilFunc]⟩,
 some ⟨.struct [(0, 2, true), (2, 2, true)], 4, [.int .i64 0, .int .i64 0, .int .i64 0, .int .i64 0]⟩,
 some ⟨.struct [(0, 2, true), (2, 2, true)], 4, [.int .i64 0, .int .i64 0, .int .i64 0, .int .i64 0]⟩,
 some ⟨.other, 1, [.nilFunc]⟩,
 some ⟨.other, 1, [.nilFunc]⟩,
 some ⟨.other, 1, [.pointer none]⟩,
 some ⟨.struct [(0, 1, false), (1, 1, false), (2, 1, false)], 3, [.int .i64 0, .int .i64 0, .bool false]⟩,
 some ⟨.struct [(0, 1, false), (1, 1, false), (2, 1, false)], 3, [.int .i64 0, .int .i64 0, .bool false]⟩,
 some ⟨.other, 1, [.nilFunc]⟩,
 some ⟨.other, 1, [.nilFunc]⟩,
 some ⟨.struct [(0, 1, false), (1, 1, false)], 2, [.int .i64 0, .int .i64 0]⟩,
 some ⟨.struct [(0, 1, false), (1, 1, false)], 2, [.int .i64 0, .int .i64 0]⟩,
 some ⟨.other, 1, [.nilFunc]⟩,
 some ⟨.other, 1, [.nilFunc]⟩,
 some ⟨.other, 1, [.nilFunc]⟩,
 some ⟨.struct [(0, 1, false), (1, 1, false), (2, 1, false)], 3, [.int .i64 0, .int .i64 0, .int .i64 0]⟩,
 some ⟨.struct [(0, 1, false), (1, 1, false), (2, 1, false)], 3, [.int .i64 0, .int .i64 0, .int .i64 0]⟩,
 some ⟨.arr 2 3 1, 2, [.int .i64 0, .int .i64 0]⟩,
 some ⟨.slice 177 2 16, 1, [.slice none 0 0]⟩,
 some ⟨.struct [(0, 1, false), (1, 1, false), (2, 1, false), (3, 1, false)], 4, [.int .i64 0, .int .i64 0, .int .i64 0, .int .i64 0]⟩,
 some ⟨.struct [(0, 1, false), (1, 1, false), (2, 1, false), (3, 1, false)], 4, [.int .i64 0, .int .i64 0, .int .i64 0, .int .i64 0]⟩,
 some ⟨.struct [(0, 1, false), (1, 1, false), (2, 1, false), (3, 1, false)], 4, [.int .i64 0, .int .i64 0, .int .i64 0, .int .i64 0]⟩,
 some ⟨.struct [(0, 1, false), (1, 1, false), (2, 1, false), (3, 1, false)], 4, [.int .i64 0, .int .i64 0, .int .i64 0, .int .i64 0]⟩,
 some ⟨.other, 1, [.nilFunc]⟩,
 some ⟨.other, 1, [.nilFunc]⟩,
 some ⟨.int .i64, 1, [.int .i64 0]⟩,
 none,
 some ⟨.other, 1, [.nilFunc]⟩,
 some ⟨.other, 1, [.nilFunc]⟩,
 some ⟨.other, 1, [.nilFunc]⟩,
 some ⟨.other, 1, [.nilFunc]⟩,
 some ⟨.other, 1, [.nilFunc]⟩,
 some ⟨.int .u32, 1, [.int .u32 0]⟩,
 some ⟨.other, 1, [.nilFunc]⟩,
 some ⟨.int .u64, 1, [.int .u64 0]⟩,
 some ⟨.other, 1, [.nilFunc]⟩,
 some ⟨.other, 1, [.map none]⟩,
 some ⟨.other, 1, [.nilFunc]⟩,
 some ⟨.other, 1, [.nilFunc]⟩,
 some ⟨.other, 1, [.nilFunc]⟩,
 some ⟨.other, 1, [.nilFunc]⟩,
 some ⟨.other, 1, [.nilFunc]⟩,
 some ⟨.other, 1, [.nilFunc]⟩,
 some ⟨.other, 1, [.nilFunc]⟩,
 some ⟨.other, 1, [.nilFunc]⟩,
 some ⟨.other, 1, [.nilFunc]⟩,
 some ⟨.other, 1, [.nilFunc]⟩,
 some ⟨.other, 1, [.nilFunc]⟩,
 some ⟨.other, 1, [.nilFunc]⟩,
 some ⟨.other, 1, [.nilFunc]⟩,
 some ⟨.other, 1, [.nilFunc]⟩,
 some ⟨.other, 1, [.nilFunc]⟩,
 some ⟨.other, 1, [.nilFunc]⟩,
 some ⟨.other, 1, [.nilFunc]⟩,
 some ⟨.other, 1, [.nilFunc]⟩,
 some ⟨.other, 1, [.nilFunc]⟩,
 some ⟨.other, 1, [.nilFunc]⟩,
 some ⟨.other, 1, [.nilFunc]⟩,
 some ⟨.other, 1, [.nilFunc]⟩,
 some ⟨.other, 1, [.nilFunc]⟩,
 some ⟨.other, 1, [.nilFunc]⟩,
 some ⟨.other, 1, [.nilFunc]⟩,
 some ⟨.other, 1, [.nilFunc]⟩,
 some ⟨.other, 1, [.nilFunc]⟩,
 some ⟨.other, 1, [.nilFunc]⟩,
 some ⟨.other, 1, [.nilFunc]⟩,
 some ⟨.other, 1, [.nilFunc]⟩,
 some ⟨.other, 1, [.nilFunc]⟩,
 some ⟨.other, 1, [.nilFunc]⟩,
 some ⟨.other, 1, [.nilFunc]⟩,
 some ⟨.other, 1, [.nilFunc]⟩,
 some ⟨.other, 1, [.nilFunc]⟩,
 some ⟨.other, 1, [.nilFunc]⟩,
 some ⟨.other, 1, [.nilFunc]⟩,
 some ⟨.slice 243 10 176, 1, [.slice none 0 0]⟩,
 some ⟨.slice 4 1 1, 1, [.slice none 0 0]⟩,
 some ⟨.struct [(0, 1, false), (1, 1, false)], 2, [.slice none 0 0, .slice none 0 0]⟩,
 some ⟨.struct [(0, 1, false), (1, 1, false)], 2, [.slice none 0 0, .slice none 0 0]⟩,
 some ⟨.other, 1, [.nilFunc]⟩,
 some ⟨.slice 194 1 8, 1, [.slice none 0 0]⟩,
 some ⟨.struct [(0, 1, false), (1, 1, false), (2, 1, false), (3, 1, false), (4, 1, false)], 5, [.slice none 0 0, .slice none 0 0, .slice none 0 0, .slice none 0 0, .slice none 0 0]⟩,
 some ⟨.struct [(0, 1, false), (1, 1, false), (2, 1, false), (3, 1, false), (4, 1, false)], 5, [.slice none 0 0, .slice none 0 0, .slice none 0 0, .slice none 0 0, .slice none 0 0]⟩,
 some ⟨.struct [(0, 3, true), (3, 5, true), (8, 1, false), (9, 1, false)], 10, [.int .i64 0, .bool false, .slice none 0 0, .slice none 0 0, .slice none 0 0, .slice none 0 0, .slice none 0 0, .slice none 0 0, .int .i64 0, .int .i64 0]⟩,
 some ⟨.struct [(0, 3, true), (3, 5, true), (8, 1, false), (9, 1, false)], 10, [.int .i64 0, .bool false, .slice none 0 0, .slice none 0 0, .slice none 0 0, .slice none 0 0, .slice none 0 0, .slice none 0 0, .int .i64 0, .int .i64 0]⟩,
 some ⟨.other, 1, [.nilFunc]⟩,
 none,
 some ⟨.other, 1, [.nilFunc]⟩,
 some ⟨.other, 1, [.nilFunc]⟩,
 some ⟨.other, 1, [.nilFunc]⟩,
 some ⟨.other, 1, [.pointer none]⟩,
 some ⟨.other, 1, [.nilFunc]⟩,
 some ⟨.struct [(0, 9, true), (9, 3, true), (12, 1, false), (13, 1, false)], 14, [.int .i64 0, .slice none 0 0, .slice none 0 0, .slice none 0 0, .slice none 0 0, .slice none 0 0, .slice none 0 0, .slice none 0 0, .slice none 0 0, .int .i64 0, .bool false, .slice none 0 0, .int .i64 0, .slice none 0 0]⟩,
 some ⟨.struct [(0, 9, true), (9, 3, true), (12, 1, false), (13, 1, false)], 14, [.int .i64 0, .slice none 0 0, .slice none 0 0, .slice none 0 0, .slice none 0 0, .slice none 0 0, .slice none 0 0, .slice none 0 0, .slice none 0 0, .int .i64 0, .bool false, .slice none 0 0, .int .i64 0, .slice none 0 0]⟩,
 some ⟨.other, 1, [.nilFunc]⟩,
 some ⟨.other, 1, [.nilFunc]⟩,
 some ⟨.other, 1, [.pointer none]⟩,
 some ⟨.other, 1, [.map none]⟩,
 some ⟨.struct [(0, 9, true), (9, 1, false), (10, 1, false)], 11, [.int .i64 0, .slice none 0 0, .slice none 0 0, .slice none 0 0, .slice none 0 0, .slice none 0 0, .slice none 0 0, .slice none 0 0, .slice none 0 0, .slice none 0 0, .map none]⟩,
 some ⟨.struct [(0, 9, true), (9, 1, false), (10, 1, false)], 11, [.int .i64 0, .slice none 0 0, .slice none 0 0, .slice none 0 0, .slice none 0 0, .slice none 0 0, .slice none 0 0, .slice none 0 0, .slice none 0 0, .slice none 0 0, .map none]⟩,
 some ⟨.other, 1, [.nilFunc]⟩,
 none,
 some ⟨.other, 1, [.nilFunc]⟩,
 none,
 some ⟨.other, 1, [.nilFunc]⟩,
 some ⟨.other, 1, [.nilFunc]⟩,
 some ⟨.other, 1, [.nilFunc]⟩,
 some ⟨.other, 1, [.nilFunc]⟩,
 some ⟨.other, 1, [.nilFunc]⟩,
 some ⟨.other, 1, [.nilFunc]⟩,
 none,
 some ⟨.other, 1, [.nilFunc]⟩,
 some ⟨.other, 1, [.nilFunc]⟩,
 some ⟨.arr 2 194 1, 2, [.int .u64 0, .int .u64 0]⟩,
 some ⟨.arr 2 194 1, 2, [.int .u64 0, .int .u64 0]⟩,
 some ⟨.struct [(0, 2, true), (2, 1, false)], 3, [.int .u64 0, .int .u64 0, .bool false]⟩,
 some ⟨.struct [(0, 2, true), (2, 1, false)], 3, [.int .u64 0, .int .u64 0, .bool false]⟩,
 some ⟨.other, 1, [.nilFunc]⟩,
 none,
 some ⟨.other, 1, [.nilFunc]⟩,
 some ⟨.other, 1, [.nilFunc]⟩,
 some ⟨.other, 1, [.nilFunc]⟩,
 some ⟨.other, 1, [.nilFunc]⟩,
 some ⟨.int .u64, 1, [.int .u64 0]⟩,
 some ⟨.other, 1, [.nilFunc]⟩,
 some ⟨.other, 1, [.nilFunc]⟩,
 some ⟨.other, 1, [.nilFunc]⟩,
 some ⟨.other, 1, [.pointer none]⟩,
 some ⟨.other, 1, [.nilFunc]⟩,
 some ⟨.slice 206 1 8, 1, [.slice none 0 0]⟩,
 some ⟨.other, 1, [.nilFunc]⟩,
 some ⟨.other, 1, [.nilFunc]⟩,
 some ⟨.other, 1, [.nilFunc]⟩,
 some ⟨.other, 1, [.nilFunc]⟩,
 some ⟨.other, 1, [.nilFunc]⟩,
 some ⟨.other, 1, [.nilFunc]⟩,
 some ⟨.other, 1, [.nilFunc]⟩,
 some ⟨.other, 1, [.nilFunc]⟩,
 some ⟨.other, 1, [.nilFunc]⟩,
 some ⟨.other, 1, [.nilFunc]⟩,
 some ⟨.other, 1, [.nilFunc]⟩,
 some ⟨.other, 1, [.nilFunc]⟩,
 some ⟨.other, 1, [.nilFunc]⟩,
 some ⟨.other, 1, [.nilFunc]⟩,
 some ⟨.other, 1, [.nilFunc]⟩,
 none,
 some ⟨.other, 1, [.nilFunc]⟩,
 some ⟨.other, 1, [.nilFunc]⟩,
 some ⟨.other, 1, [.nilFunc]⟩,
 some ⟨.other, 1, [.nilFunc]⟩,
 some ⟨.other, 1, [.nilFunc]⟩,
 some ⟨.other, 1, [.nilFunc]⟩,
 some ⟨.other, 1, [.nilFunc]⟩,
 some ⟨.other, 1, [.nilFunc]⟩,
 some ⟨.other, 1, [.nilFunc]⟩,
 some ⟨.other, 1, [.nilFunc]⟩,
 some ⟨.other, 1, [.nilFunc]⟩,
 some ⟨.other, 1, [.nilFunc]⟩,
 some ⟨.other, 1, [.nilFunc]⟩,
 some ⟨.other, 1, [.nilFunc]⟩,
 some ⟨.other, 1, [.nilFunc]⟩,
 some ⟨.other, 1, [.nilFunc]⟩,
 some ⟨.struct [(0, 1, false), (1, 1, false)], 2, [.slice none 0 0, .slice none 0 0]⟩,
 some ⟨.struct [(0, 1, false), (1, 1, false)], 2, [.slice none 0 0, .slice none 0 0]⟩,
 none,
 some ⟨.other, 1, [.nilFunc]⟩,
 some ⟨.other, 1, [.nilFunc]⟩,
 some ⟨.other, 1, [.pointer none]⟩,
 some ⟨.struct [(0, 1, false), (1, 1, false)], 2, [.pointer none, .slice none 0 0]⟩,
 some ⟨.struct [(0, 1, false), (1, 1, false)], 2, [.pointer none, .slice none 0 0]⟩,
 some ⟨.other, 1, [.nilFunc]⟩,
 some ⟨.other, 1, [.pointer none]⟩,
 some ⟨.other, 1, [.nilFunc]⟩,
 some ⟨.other, 1, [.map none]⟩,
 some ⟨.other, 1, [.nilFunc]⟩,
 some ⟨.other, 1, [.nilFunc]⟩,
 some ⟨.other, 1, [.nilFunc]⟩,
 some ⟨.other, 1, [.nilFunc]⟩,
 some ⟨.other, 1, [.pointer none]⟩,
 some ⟨.other, 1, [.nilFunc]⟩,
 none,
 some ⟨.other, 1, [.nilFunc]⟩,
 some ⟨.other, 1, [.nilFunc]⟩,
 some ⟨.other, 1, [.nilFunc]⟩,
 some ⟨.other, 1, [.nilFunc]⟩,
 some ⟨.other, 1, [.nilFunc]⟩,
 some ⟨.other, 1, [.nilFunc]⟩,
 some ⟨.other, 1, [.nilFunc]⟩,
 some ⟨.other, 1, [.nilFunc]⟩,
 none,
 some ⟨.other, 1, [.nilFunc]⟩,
 some ⟨.other, 1, [.pointer none]⟩,
 none,
 some ⟨.other, 1, [.nilFunc]⟩,
 some ⟨.other, 1, [.nilFunc]⟩,
 some ⟨.other, 1, [.nilFunc]⟩,
 some ⟨.other, 1, [.nilFunc]⟩,
 some ⟨.other, 1, [.nilFunc]⟩,
 some ⟨.other, 1, [.nilFunc]⟩,
 some ⟨.other, 1, [.nilFunc]⟩,
 some ⟨.other, 1, [.map none]⟩,
 some ⟨.struct [(0, 1, false), (1, 1, false)], 2, [.int .i64 0, .int .i64 0]⟩,
 some ⟨.struct [(0, 1, false), (1, 1, false)], 2, [.int .i64 0, .int .i64 0]⟩,
 some ⟨.other, 1, [.nilFunc]⟩,
 some ⟨.struct [(0, 1, false), (1, 1, false)], 2, [.int .i64 0, .int .i64 0]⟩,
 some ⟨.struct [(0, 1, false), (1, 1, false)], 2, [.int .i64 0, .int .i64 0]⟩,
 some ⟨.other, 1, [.nilFunc]⟩,
 some ⟨.other, 1, [.nilFunc]⟩,
 some ⟨.other, 1, [.nilFunc]⟩,
 some ⟨.other, 1, [.nilFunc]⟩,
 some ⟨.other, 1, [.nilFunc]⟩,
 some ⟨.other, 1, [.nilFunc]⟩,
 some ⟨.other, 1, [.nilFunc]⟩,
 some ⟨.other, 1, [.nilFunc]⟩,
 some ⟨.other, 1, [.nilFunc]⟩,
 some ⟨.other, 1, [.pointer none]⟩,
 some ⟨.slice 377 2 16, 1, [.slice none 0 0]⟩,
 some ⟨.struct [(0, 1, false), (1, 1, false)], 2, [.int .i64 0, .int .u64 0]⟩,
 some ⟨.struct [(0, 1, false), (1, 1, false)], 2, [.int .i64 0, .int .u64 0]⟩,
 some ⟨.other, 1, [.nilFunc]⟩,
 some ⟨.other, 1, [.nilFunc]⟩,
 some ⟨.other, 1, [.nilFunc]⟩,
 some ⟨.slice 39 1 24, 1, [.slice none 0 0]⟩,
 some ⟨.slice 444 2 32, 1, [.slice none 0 0]⟩,
 some ⟨.struct [(0, 1, false), (1, 1, false), (2, 1, false), (3, 1, false), (4, 1, false)], 5, [.slice none 0 0, .int .u64 0, .slice none 0 0, .int .i64 0, .slice none 0 0]⟩,
 some ⟨.struct [(0, 1, false), (1, 1, false), (2, 1, false), (3, 1, false), (4, 1, false)], 5, [.slice none 0 0, .int .u64 0, .slice none 0 0, .int .i64 0, .slice none 0 0]⟩,
 some ⟨.other, 1, [.nilFunc]⟩,
 some ⟨.other, 1, [.nilFunc]⟩,
 some ⟨.other, 1, [.nilFunc]⟩,
 some ⟨.other, 1, [.nilFunc]⟩,
 some ⟨.other, 1, [.pointer none]⟩,
 none,
 some ⟨.other, 1, [.nilFunc]⟩,
 some ⟨.other, 1, [.nilFunc]⟩,
 some ⟨.other, 1, [.pointer none]⟩,
 none,
 some ⟨.other, 1, [.nilFunc]⟩,
 some ⟨.struct [(0, 1, false), (1, 1, false), (2, 1, false)], 3, [.int .i64 0, .int .i64 0, .int .i64 0]⟩,
 some ⟨.struct [(0, 1, false), (1, 1, false), (2, 1, false)], 3, [.int .i64 0, .int .i64 0, .int .i64 0]⟩,
 some ⟨.other, 1, [.nilFunc]⟩,
 some ⟨.other, 1, [.nilFunc]⟩,
 some ⟨.other, 1, [.nilFunc]⟩,
 some ⟨.other, 1, [.nilFunc]⟩,
 none,
 none,
 some ⟨.other, 1, [.nilFunc]⟩,
 some ⟨.other, 1, [.nilFunc]⟩,
 some ⟨.other, 1, [.nilFunc]⟩,
 some ⟨.other, 1, [.nilFunc]⟩,
 some ⟨.struct [(0, 1, false), (1, 1, false), (2, 1, false), (3, 1, false), (4, 1, false)], 5, [.slice none 0 0, .bool false, .nilFunc, .int .i64 0, .int .i64 0]⟩,
 some ⟨.struct [(0, 1, false), (1, 1, false), (2, 1, false), (3, 1, false), (4, 1, false)], 5, [.slice none 0 0, .bool false, .nilFunc, .int .i64 0, .int .i64 0]⟩,
 some ⟨.other, 1, [.nilFunc]⟩,
 some ⟨.other, 1, [.nilFunc]⟩,
 some ⟨.other, 1, [.nilFunc]⟩,
 some ⟨.other, 1, [.nilFunc]⟩,
 some ⟨.other, 1, [.nilFunc]⟩,
 some ⟨.other, 1, [.nilFunc]⟩,
 some ⟨.other, 1, [.nilFunc]⟩,
 some ⟨.other, 1, [.nilFunc]⟩,
 some ⟨.other, 1, [.nilFunc]⟩,
 some ⟨.other, 1, [.nilFunc]⟩,
 some ⟨.other, 1, [.nilIface]⟩,
 some ⟨.other, 1, [.nilIface]⟩,
 some ⟨.other, 1, [.map none]⟩,
 some ⟨.slice 3 1 8, 1, [.slice none 0 0]⟩,
 some ⟨.other, 1, [.nilFunc]⟩,
 some ⟨.other, 1, [.nilFunc]⟩,
 some ⟨.other, 1, [.nilFunc]⟩,
 some ⟨.other, 1, [.nilFunc]⟩,
 some ⟨.other, 1, [.pointer none]⟩,
 some ⟨.other, 1, [.nilFunc]⟩,
 some ⟨.other, 1, [.nilFunc]⟩,
 some ⟨.other, 1, [.map none]⟩,
 some ⟨.other, 1, [.nilFunc]⟩,
 some ⟨.other, 1, [.nilFunc]⟩,
 some ⟨.other, 1, [.nilFunc]⟩,
 some ⟨.other, 1, [.nilFunc]⟩,
 some ⟨.other, 1, [.nilFunc]⟩,
 some ⟨.other, 1, [.nilFunc]⟩,
 some ⟨.other, 1, [.nilFunc]⟩,
 some ⟨.other, 1, [.nilFunc]⟩,
 some ⟨.other, 1, [.nilFunc]⟩,
 some ⟨.other, 1, [.nilFunc]⟩,
 some ⟨.arr 16 5 1, 16, [.int .u8 0, .int .u8 0, .int .u8 0, .int .u8 0, .int .u8 0, .int .u8 0, .int .u8 0, .int .u8 0, .int .u8 0, .int .u8 0, .int .u8 0, .int .u8 0, .int .u8 0, .int .u8 0, .int .u8 0, .int .u8 0]⟩,
 some ⟨.struct [(0, 1, false), (1, 1, false)], 2, [.slice none 0 0, .int .u64 0]⟩,
 some ⟨.struct [(0, 1, false), (1, 1, false)], 2, [.slice none 0 0, .int .u64 0]⟩,
 some ⟨.other, 1, [.nilFunc]⟩,
 none,
 some ⟨.other, 1, [.nilFunc]⟩,
 none,
 some ⟨.other, 1, [.nilFunc]⟩,
 some ⟨.other, 1, [.nilFunc]⟩,
 some ⟨.other, 1, [.nilFunc]⟩,
 some ⟨.other, 1, [.nilFunc]⟩,
 some ⟨.other, 1, [.nilFunc]⟩,
 some ⟨.other, 1, [.nilFunc]⟩,
 some ⟨.other, 1, [.nilFunc]⟩,
 some ⟨.other, 1, [.nilFunc]⟩,
 some ⟨.other, 1, [.nilFunc]⟩,
 some ⟨.other, 1, [.nilFunc]⟩,
 some ⟨.other, 1, [.nilFunc]⟩,
 some ⟨.other, 1, [.nilFunc]⟩,
 some ⟨.other, 1, [.nilIface]⟩,
 some ⟨.other, 1, [.nilIface]⟩,
 some ⟨.other, 1, [.nilFunc]⟩,
 some ⟨.other, 1, [.nilFunc]⟩,
 some ⟨.other, 1, [.nilFunc]⟩,
 some ⟨.other, 1, [.nilFunc]⟩,
 some ⟨.other, 1, [.nilFunc]⟩,
 some ⟨.other, 1, [.nilFunc]⟩,
 some ⟨.slice 471 2 16, 1, [.slice none 0 0]⟩,
 some ⟨.struct [(0, 1, false), (1, 1, false)], 2, [.int .i64 0, .int .i64 0]⟩,
 some ⟨.struct [(0, 1, false), (1, 1, false)], 2, [.int .i64 0, .int .i64 0]⟩,
 some ⟨.other, 1, [.pointer none]⟩,
 some ⟨.other, 1, [.nilFunc]⟩,
 some ⟨.other, 1, [.nilFunc]⟩,
 some ⟨.other, 1, [.nilFunc]⟩,
 some ⟨.other, 1, [.nilFunc]⟩,
 some ⟨.other, 1, [.nilFunc]⟩,
 some ⟨.struct [(0, 1, false), (1, 1, false), (2, 1, false)], 3, [.slice none 0 0, .slice none 0 0, .slice none 0 0]⟩,
 some ⟨.struct [(0, 1, false), (1, 1, false), (2, 1, false)], 3, [.slice none 0 0, .slice none 0 0, .slice none 0 0]⟩,
 some ⟨.other, 1, [.nilFunc]⟩,
 some ⟨.arr 64 5 1, 64, [.int .u8 0, .int .u8 0, .int .u8 0, .int .u8 0, .int .u8 0, .int .u8 0, .int .u8 0, .int .u8 0, .int .u8 0, .int .u8 0, .int .u8 0, .int .u8 0, .int .u8 0, .int .u8 0, .int .u8 0, .int .u8 0, .int .u8 0, .int .u8 0, .int .u8 0, .int .u8 0, .int .u8 0, .int .u8 0, .int .u8 0, .int .u8 0, .int .u8 0, .int .u8 0, .int .u8 0, .int .u8 0, .int .u8 0, .int .u8 0, .int .u8 0, .int .u8 0, .int .u8 0, .int .u8 0, .int .u8 0, .int .u8 0, .int .u8 0, .int .u8 0, .int .u8 0, .int .u8 0, .int .u8 0, .int .u8 0, .int .u8 0, .int .u8 0, .int .u8 0, .int .u8 0, .int .u8 0, .int .u8 0, .int .u8 0, .int .u8 0, .int .u8 0, .int .u8 0, .int .u8 0, .int .u8 0, .int .u8 0, .int .u8 0, .int .u8 0, .int .u8 0, .int .u8 0, .int .u8 0, .int .u8 0, .int .u8 0, .int .u8 0, .int .u8 0]⟩,
 some ⟨.other, 1, [.nilFunc]⟩,
 some ⟨.other, 1, [.nilFunc]⟩,
 some ⟨.struct [(0, 1, false), (1, 1, false), (2, 1, false), (3, 1, false)], 4, [.pointer none, .pointer none, .pointer none, .string ⟨#[]⟩]⟩,
 some ⟨.struct [(0, 1, false), (1, 1, false), (2, 1, false), (3, 1, false)], 4, [.pointer none, .pointer none, .pointer none, .string ⟨#[]⟩]⟩,
 none,
 none,
 none,
 some ⟨.int .u8, 1, [.int .u8 0]⟩,
 some ⟨.int .u8, 1, [.int .u8 0]⟩,
 some ⟨.other, 1, [.nilFunc]⟩,
 some ⟨.other, 1, [.pointer none]⟩,
 some ⟨.int .i32, 1, [.int .i32 0]⟩,
 some ⟨.int .i32, 1, [.int .i32 0]⟩,
 some ⟨.struct [(0, 1, false), (1, 1, false), (2, 1, false), (3, 1, false), (4, 1, false), (5, 1, false), (6, 1, false), (7, 1, false), (8, 1, false), (9, 1, false), (10, 1, false)], 11, [.int .u64 0, .int .u64 0, .int .u32 0, .int .u8 0, .int .u8 0, .int .u8 0, .int .u8 0, .nilFunc, .pointer none, .int .i32 0, .int .i32 0]⟩,
 some ⟨.struct [(0, 1, false), (1, 1, false), (2, 1, false), (3, 1, false), (4, 1, false), (5, 1, false), (6, 1, false), (7, 1, false), (8, 1, false), (9, 1, false), (10, 1, false)], 11, [.int .u64 0, .int .u64 0, .int .u32 0, .int .u8 0, .int .u8 0, .int .u8 0, .int .u8 0, .nilFunc, .pointer none, .int .i32 0, .int .i32 0]⟩,
 none,
 none,
 none]
theorem a7 : dG Tryz.prog tt := Ed (by kernel_rfl)
theorem Hm {P : Program} {f : FuncId} {fn : Func} {c : Code} (hf : P.funcs[f]? = some fn) (hn : (fn.name == "runtime.NumGoroutine") = false := by kernel_rfl) (hb : fn.body = some c := by rfl) : bv P f := ⟨ak hf hn hb⟩
instance : bv Tryz.prog 7 := Hm Tryz.func7
instance : bv Tryz.prog 10 := Hm Tryz.func10
instance : bv Tryz.prog 14 := Hm Tryz.func14
instance : bv Tryz.prog 15 := Hm Tryz.func15
instance : bv Tryz.prog 19 := Hm Tryz.func19
instance : bv Tryz.prog 20 := Hm Tryz.func20
instance : bv Tryz.prog 21 := Hm Tryz.func21
instance : bv Tryz.prog 22 := Hm Tryz.func22
instance : bv Tryz.prog 23 := Hm Tryz.func23
instance : bv Tryz.prog 24 := Hm Tryz.func24
instance : bv Tryz.prog 27 := Hm Tryz.func27
instance : bv Tryz.prog 28 := Hm Tryz.func28
instance : bv Tryz.prog 29 := Hm Tryz.func29
instance : bv Tryz.prog 37 := Hm Tryz.func37
instance : bv Tryz.prog 38 := Hm Tryz.func38
instance : bv Tryz.prog 39 := Hm Tryz.func39
instance : bv Tryz.prog 40 := Hm Tryz.func40
instance : bv Tryz.prog 41 := Hm Tryz.func41
instance : bv Tryz.prog 42 := Hm Tryz.func42
instance : bv Tryz.prog 43 := Hm Tryz.func43
instance : bv Tryz.prog 44 := Hm Tryz.func44
instance : bv Tryz.prog 45 := Hm Tryz.func45
instance : bv Tryz.prog 46 := Hm Tryz.func46
instance : bv Tryz.prog 47 := Hm Tryz.func47
instance : bv Tryz.prog 48 := Hm Tryz.func48
instance : bv Tryz.prog 49 := Hm Tryz.func49
instance : bv Tryz.prog 50 := Hm Tryz.func50
instance : bv Tryz.prog 55 := Hm Tryz.func55
instance : bv Tryz.prog 56 := Hm Tryz.func56
instance : bv Tryz.prog 60 := Hm Tryz.func60
instance : bv Tryz.prog 61 := Hm Tryz.func61
instance : bv Tryz.prog 62 := Hm Tryz.func62
instance : bv Tryz.prog 64 := Hm Tryz.func64
instance : bv Tryz.prog 65 := Hm Tryz.func65
instance : bv Tryz.prog 66 := Hm Tryz.func66
instance : bv Tryz.prog 67 := Hm Tryz.func67
instance : bv Tryz.prog 68 := Hm Tryz.func68
instance : bv Tryz.prog 70 := Hm Tryz.func70
instance : bv Tryz.prog 71 := Hm Tryz.func71
instance : bv Tryz.prog 73 := Hm Tryz.func73
instance : bv Tryz.prog 74 := Hm Tryz.func74
instance : bv Tryz.prog 75 := Hm Tryz.func75
instance : bv Tryz.prog 78 := Hm Tryz.func78
instance : bv Tryz.prog 79 := Hm Tryz.func79
instance : bv Tryz.prog 80 := Hm Tryz.func80
instance : bv Tryz.prog 84 := Hm Tryz.func84
instance : bv Tryz.prog 94 := Hm Tryz.func94
instance : bv Tryz.prog 98 := Hm Tryz.func98
instance : bv Tryz.prog 99 := Hm Tryz.func99
instance : bv Tryz.prog 100 := Hm Tryz.func100
instance : bv Tryz.prog 101 := Hm Tryz.func101
instance : bv Tryz.prog 102 := Hm Tryz.func102
instance : bv Tryz.prog 103 := Hm Tryz.func103
instance : bv Tryz.prog 104 := Hm Tryz.func104
instance : bv Tryz.prog 105 := Hm Tryz.func105
instance : bv Tryz.prog 106 := Hm Tryz.func106
instance : bv Tryz.prog 107 := Hm Tryz.func107
instance : bv Tryz.prog 108 := Hm Tryz.func108
instance : bv Tryz.prog 109 := Hm Tryz.func109
instance : bv Tryz.prog 110 := Hm Tryz.func110
instance : bv Tryz.prog 111 := Hm Tryz.func111
instance : bv Tryz.prog 112 := Hm Tryz.func112
instance : bv Tryz.prog 113 := Hm Tryz.func113
instance : bv Tryz.prog 114 := Hm Tryz.func114
instance : bv Tryz.prog 115 := Hm Tryz.func115
instance : bv Tryz.prog 116 := Hm Tryz.func116
instance : bv Tryz.prog 117 := Hm Tryz.func117
instance : bv Tryz.prog 118 := Hm Tryz.func118
instance : bv Tryz.prog 119 := Hm Tryz.func119
instance : bv Tryz.prog 120 := Hm Tryz.func120
instance : bv Tryz.prog 121 := Hm Tryz.func121
instance : bv Tryz.prog 122 := Hm Tryz.func122
instance : bv Tryz.prog 123 := Hm Tryz.func123
instance : bv Tryz.prog 124 := Hm Tryz.func124
instance : bv Tryz.prog 125 := Hm Tryz.func125
instance : bv Tryz.prog 126 := Hm Tryz.func126
instance : bv Tryz.prog 127 := Hm Tryz.func127
instance : bv Tryz.prog 128 := Hm Tryz.func128
instance : bv Tryz.prog 129 := Hm Tryz.func129
instance : bv Tryz.prog 130 := Hm Tryz.func130
instance : bv Tryz.prog 131 := Hm Tryz.func131
instance : bv Tryz.prog 132 := Hm Tryz.func132
instance : bv Tryz.prog 133 := Hm Tryz.func133
instance : bv Tryz.prog 134 := Hm Tryz.func134
instance : bv Tryz.prog 135 := Hm Tryz.func135
instance : bv Tryz.prog 136 := Hm Tryz.func136
instance : bv Tryz.prog 137 := Hm Tryz.func137
instance : bv Tryz.prog 138 := Hm Tryz.func138
instance : bv Tryz.prog 139 := Hm Tryz.func139
instance : bv Tryz.prog 141 := Hm Tryz.func141
instance : bv Tryz.prog 147 := Hm Tryz.func147
instance : bv Tryz.prog 148 := Hm Tryz.func148
instance : bv Tryz.prog 154 := Hm Tryz.func154
instance : bv Tryz.prog 155 := Hm Tryz.func155
instance : bv Tryz.prog 156 := Hm Tryz.func156
instance : bv Tryz.prog 170 := Hm Tryz.func170
instance : bv Tryz.prog 171 := Hm Tryz.func171
instance : bv Tryz.prog 172 := Hm Tryz.func172
instance : bv Tryz.prog 173 := Hm Tryz.func173
instance : bv Tryz.prog 174 := Hm Tryz.func174
instance : bv Tryz.prog 175 := Hm Tryz.func175
instance : bv Tryz.prog 176 := Hm Tryz.func176
instance : bv Tryz.prog 177 := Hm Tryz.func177
instance : bv Tryz.prog 178 := Hm Tryz.func178
instance : bv Tryz.prog 179 := Hm Tryz.func179
instance : bv Tryz.prog 180 := Hm Tryz.func180
instance : bv Tryz.prog 181 := Hm Tryz.func181
instance : bv Tryz.prog 182 := Hm Tryz.func182
instance : bv Tryz.prog 183 := Hm Tryz.func183
instance : bv Tryz.prog 184 := Hm Tryz.func184
instance : bv Tryz.prog 185 := Hm Tryz.func185
instance : bv Tryz.prog 186 := Hm Tryz.func186
instance : bv Tryz.prog 187 := Hm Tryz.func187
instance : bv Tryz.prog 188 := Hm Tryz.func188
instance : bv Tryz.prog 189 := Hm Tryz.func189
instance : bv Tryz.prog 190 := Hm Tryz.func190
instance : bv Tryz.prog 191 := Hm Tryz.func191
instance : bv Tryz.prog 192 := Hm Tryz.func192
instance : bv Tryz.prog 193 := Hm Tryz.func193
instance : bv Tryz.prog 194 := Hm Tryz.func194
instance : bv Tryz.prog 195 := Hm Tryz.func195
instance : bv Tryz.prog 196 := Hm Tryz.func196
instance : bv Tryz.prog 197 := Hm Tryz.func197
instance : bv Tryz.prog 198 := Hm Tryz.func198
instance : bv Tryz.prog 199 := Hm Tryz.func199
instance : bv Tryz.prog 200 := Hm Tryz.func200
instance : bv Tryz.prog 201 := Hm Tryz.func201
instance : bv Tryz.prog 202 := Hm Tryz.func202
instance : bv Tryz.prog 203 := Hm Tryz.func203
instance : bv Tryz.prog 204 := Hm Tryz.func204
instance : bv Tryz.prog 205 := Hm Tryz.func205
instance : bv Tryz.prog 206 := Hm Tryz.func206
instance : bv Tryz.prog 207 := Hm Tryz.func207
instance : bv Tryz.prog 208 := Hm Tryz.func208
instance : bv Tryz.prog 209 := Hm Tryz.func209
instance : bv Tryz.prog 210 := Hm Tryz.func210
instance : bv Tryz.prog 211 := Hm Tryz.func211
instance : bv Tryz.prog 212 := Hm Tryz.func212
instance : bv Tryz.prog 213 := Hm Tryz.func213
instance : bv Tryz.prog 214 := Hm Tryz.func214
instance : bv Tryz.prog 215 := Hm Tryz.func215
instance : bv Tryz.prog 216 := Hm Tryz.func216
instance : bv Tryz.prog 217 := Hm Tryz.func217
instance : bv Tryz.prog 218 := Hm Tryz.func218
instance : bv Tryz.prog 219 := Hm Tryz.func219
instance : bv Tryz.prog 220 := Hm Tryz.func220
instance : bv Tryz.prog 221 := Hm Tryz.func221
instance : bv Tryz.prog 228 := Hm Tryz.func228
instance : bv Tryz.prog 243 := Hm Tryz.func243
instance : bv Tryz.prog 244 := Hm Tryz.func244
instance : bv Tryz.prog 245 := Hm Tryz.func245
instance : bv Tryz.prog 246 := Hm Tryz.func246
instance : bv Tryz.prog 247 := Hm Tryz.func247
instance : bv Tryz.prog 248 := Hm Tryz.func248
instance : bv Tryz.prog 249 := Hm Tryz.func249
instance : bv Tryz.prog 250 := Hm Tryz.func250
instance : bv Tryz.prog 251 := Hm Tryz.func251
instance : bv Tryz.prog 252 := Hm Tryz.func252
instance : bv Tryz.prog 253 := Hm Tryz.func253
instance : bv Tryz.prog 254 := Hm Tryz.func254
instance : bv Tryz.prog 255 := Hm Tryz.func255
instance : bv Tryz.prog 256 := Hm Tryz.func256
instance : bv Tryz.prog 257 := Hm Tryz.func257
instance : bv Tryz.prog 258 := Hm Tryz.func258
instance : bv Tryz.prog 259 := Hm Tryz.func259
instance : bv Tryz.prog 260 := Hm Tryz.func260
instance : bv Tryz.prog 261 := Hm Tryz.func261
instance : bv Tryz.prog 262 := Hm Tryz.func262
instance : bv Tryz.prog 263 := Hm Tryz.func263
instance : bv Tryz.prog 264 := Hm Tryz.func264
instance : bv Tryz.prog 265 := Hm Tryz.func265
instance : bv Tryz.prog 266 := Hm Tryz.func266
instance : bv Tryz.prog 267 := Hm Tryz.func267
instance : bv Tryz.prog 268 := Hm Tryz.func268
instance : bv Tryz.prog 269 := Hm Tryz.func269
instance : bv Tryz.prog 270 := Hm Tryz.func270
instance : bv Tryz.prog 271 := Hm Tryz.func271
instance : bv Tryz.prog 272 := Hm Tryz.func272
instance : bv Tryz.prog 273 := Hm Tryz.func273
instance : bv Tryz.prog 274 := Hm Tryz.func274
instance : bv Tryz.prog 275 := Hm Tryz.func275
instance : bv Tryz.prog 276 := Hm Tryz.func276
instance : bv Tryz.prog 277 := Hm Tryz.func277
instance : bv Tryz.prog 278 := Hm Tryz.func278
instance : bv Tryz.prog 279 := Hm Tryz.func279
instance : bv Tryz.prog 280 := Hm Tryz.func280
instance : bv Tryz.prog 281 := Hm Tryz.func281
instance : bv Tryz.prog 282 := Hm Tryz.func282
instance : bv Tryz.prog 283 := Hm Tryz.func283
instance : bv Tryz.prog 308 := Hm Tryz.func308
instance : bv Tryz.prog 309 := Hm Tryz.func309
instance : bv Tryz.prog 310 := Hm Tryz.func310
instance : bv Tryz.prog 311 := Hm Tryz.func311
instance : bv Tryz.prog 312 := Hm Tryz.func312
instance : bv Tryz.prog 316 := Hm Tryz.func316
instance : bv Tryz.prog 317 := Hm Tryz.func317
instance : bv Tryz.prog 318 := Hm Tryz.func318
instance : bv Tryz.prog 319 := Hm Tryz.func319
instance : bv Tryz.prog 321 := Hm Tryz.func321
instance : bv Tryz.prog 345 := Hm Tryz.func345
instance : bv Tryz.prog 346 := Hm Tryz.func346
instance : bv Tryz.prog 347 := Hm Tryz.func347
instance : bv Tryz.prog 348 := Hm Tryz.func348
instance : bv Tryz.prog 352 := Hm Tryz.func352
end Go.Proofs.YtamjlkdanllgjaaGreatDoor
