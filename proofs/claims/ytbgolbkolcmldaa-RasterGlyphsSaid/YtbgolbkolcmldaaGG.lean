/-
  What the sort asks of the closure that compares crossings, walked with the kit's own words.
-/
import Derived.Test.YtbgolbkolcmldaaGF
import Derived.WalkKit
import Derived.Outline
import Derived.Shelf.SlSortCmp.WholeK
import Derived.Ground.SlsfProg
import Derived.Test.YtbgolbkolcmldaaProg

namespace Go.Proofs.Ytbgolbkolcmldaa
open Go.RowKit

theorem isNaN_k (n : Int) (w : World) : Calls Try.prog 87 #[.int .i64 n] w fun e w' => e = .returned (.bool false) ∧ w = w' := by
  go_enter Try.func87, Try.ntmps87
  go_wp2
  go_ret
  exact ⟨rfl, rfl⟩

theorem cmp_k (a b : Int) (w : World) : Calls Try.prog 74 #[.int .i64 a, .int .i64 b] w fun e w' => e = .returned (.int .i64 (cmpI a b)) ∧ w = w' := by
  by_cases h1 : a < b
  · go_enter Try.func74, Try.ntmps74
    go_wp2_with (go_at_call 87; refine (isNaN_k _ _).mono ?_; rintro e w' ⟨rfl, rfl⟩)
    go_ret
    exact ⟨by simp [cmpI, h1], rfl⟩
  · by_cases h2 : b < a
    · go_enter Try.func74, Try.ntmps74
      go_wp2_with (go_at_call 87; refine (isNaN_k _ _).mono ?_; rintro e w' ⟨rfl, rfl⟩)
      go_ret
      exact ⟨by simp [cmpI, h1, h2], rfl⟩
    · go_enter Try.func74, Try.ntmps74
      go_wp2_with (go_at_call 87; refine (isNaN_k _ _).mono ?_; rintro e w' ⟨rfl, rfl⟩)
      go_ret
      exact ⟨by unfold cmpI; rw [if_neg (by omega), if_neg (by omega)]; rfl, rfl⟩

theorem compare_k (n e m f : Int) (h1 : -9223372036854775808 ≤ n * f ∧ n * f ≤ 9223372036854775807) (h2 : -9223372036854775808 ≤ m * e ∧ m * e ≤ 9223372036854775807) (w : World) : Calls Try.prog 45 #[pl n e, pl m f] w fun r w' => r = .returned (.int .i64 (cmpI (n * f) (m * e))) ∧ w' = (w.alloc (.cells #[.int .i64 n, .int .i64 e] 71)).alloc (.cells #[.int .i64 m, .int .i64 f] 71) := by
  have e1 := fits64 h1
  have e2 := fits64 h2
  go_enter Try.func45, Try.ntmps45
  go_wp2_with (go_at_call 74; refine (cmp_k _ _ _).mono ?_; rintro e w' ⟨rfl, rfl⟩)
  go_ret
  exact ⟨rfl, rfl⟩

theorem closure_k (a b : Cr) (h1 : -9223372036854775808 ≤ a.n * b.d ∧ a.n * b.d ≤ 9223372036854775807) (h2 : -9223372036854775808 ≤ b.n * a.d ∧ b.n * a.d ≤ 9223372036854775807) (w : World) : Calls Try.prog 64 #[.agg (crCells a).toArray, .agg (crCells b).toArray] w fun r w' => r = .returned (.int .i64 (cmpI (a.n * b.d) (b.n * a.d))) ∧ ∃ o1 o2 o3 o4, w' = (((w.alloc o1).alloc o2).alloc o3).alloc o4 := by
  obtain ⟨an, ad, at_⟩ := a
  obtain ⟨bn, bd, bt⟩ := b
  simp only at h1 h2
  have hc := fun w => compare_k an ad bn bd h1 h2 w
  unfold crCells
  go_enter Try.func64, Try.ntmps64
  go_wp2_with (go_at_call 45; refine (hc _).mono ?_; rintro e w' ⟨rfl, rfl⟩)
  go_ret
  exact ⟨rfl, _, _, _, _, rfl⟩

end Go.Proofs.Ytbgolbkolcmldaa

/-
  DERIVED: THE SHELF's CONTRACTS AT THIS DUMP, IN PLAIN WORDS (tools/lay-plain.mjs out of 'YtbgolbkolcmldaaSortIn.lean', which tools/lay-shelf.mjs wrote): THE SAME DECLARATIONS UNDER THE SAME NAMES: 'import', 'namespace', 'open', 'def', 'theorem' AND NOTHING ELSE: no command of the shelf's: FOR A HAND-IN. Each laying: the table of numbers ('.._ren') and one theorem, a field a fact of the dump's own or the kernel's comparison; each contract: ONE APPLICATION.
-/
namespace Go.Proofs
open Go.Shelf
def Try.sortCr_ren : Go.Shelf.Ren := ⟨fun | 6 => 63 | 15 => 82 | 14 => 81 | 28 => 101 | 29 => 102 | 20 => 93 | 21 => 94 | 22 => 95 | 23 => 96 | 24 => 97 | 25 => 98 | 26 => 99 | 27 => 100 | 46 => 108 | 47 => 109 | 48 => 110 | 49 => 111 | 50 => 112 | 57 => 113 | n => n, fun | 22 => 64 | 24 => 108 | 25 => 110 | 3 => 3 | 39 => 136 | 0 => 0 | 53 => 156 | 55 => 158 | 4 => 4 | 46 => 149 | 45 => 148 | 50 => 153 | 5 => 5 | 9 => 9 | 66 => 163 | 70 => 167 | 76 => 169 | 77 => 170 | n => n, fun | n => n⟩
theorem Try.sortCr : Go.Proofs.SlLaysF0.n6 Try.prog Try.sortCr_ren := {
  mixed := by kernel_rfl
  f6 := ⟨Try.f63.name, by decide, Try.func63.trans (congrArg some (by kernel_rfl))⟩
  f14 := ⟨Try.f81.name, by decide, Try.func81.trans (congrArg some (by kernel_rfl))⟩
  f15 := Try.func82.trans (congrArg some (by kernel_rfl))
  f20 := ⟨Try.f93.name, by decide, Try.func93.trans (congrArg some (by kernel_rfl))⟩
  f21 := ⟨Try.f94.name, by decide, Try.func94.trans (congrArg some (by kernel_rfl))⟩
  f22 := ⟨Try.f95.name, by decide, Try.func95.trans (congrArg some (by kernel_rfl))⟩
  f23 := ⟨Try.f96.name, by decide, Try.func96.trans (congrArg some (by kernel_rfl))⟩
  f24 := ⟨Try.f97.name, by decide, Try.func97.trans (congrArg some (by kernel_rfl))⟩
  f25 := ⟨Try.f98.name, by decide, Try.func98.trans (congrArg some (by kernel_rfl))⟩
  f26 := ⟨Try.f99.name, by decide, Try.func99.trans (congrArg some (by kernel_rfl))⟩
  f27 := ⟨Try.f100.name, by decide, Try.func100.trans (congrArg some (by kernel_rfl))⟩
  f28 := Try.func101.trans (congrArg some (by kernel_rfl))
  f29 := Try.func102.trans (congrArg some (by kernel_rfl))
  f46 := ⟨Try.f108.name, by decide, Try.func108.trans (congrArg some (by kernel_rfl))⟩
  f47 := Try.func109.trans (congrArg some (by kernel_rfl))
  f48 := Try.func110.trans (congrArg some (by kernel_rfl))
  f49 := ⟨Try.f111.name, by decide, Try.func111.trans (congrArg some (by kernel_rfl))⟩
  f50 := ⟨Try.f112.name, by decide, Try.func112.trans (congrArg some (by kernel_rfl))⟩
  f57 := ⟨Try.f113.name, by decide, Try.func113.trans (congrArg some (by kernel_rfl))⟩
  t0 := Try.underlying0
  a0 := Try.isAgg0
  z0 := Try.sizeOf0
  v0 := Try.zeroValue0
  t3 := Try.underlying3
  a3 := Try.isAgg3
  z3 := Try.sizeOf3
  v3 := Try.zeroValue3
  t4 := Try.underlying4
  a4 := Try.isAgg4
  z4 := Try.sizeOf4
  v4 := Try.zeroValue4
  t5 := Try.underlying5
  a5 := Try.isAgg5
  z5 := Try.sizeOf5
  v5 := Try.zeroValue5
  t9 := Try.underlying9
  a9 := Try.isAgg9
  z9 := Try.sizeOf9
  v9 := Try.zeroValue9
  t22 := Try.underlying64
  a22 := Try.isAgg64
  z22 := Try.sizeOf64
  v22 := Try.zeroValue64
  t25 := Try.underlying110
  a25 := Try.isAgg110
  z25 := Try.sizeOf110
  v25 := Try.zeroValue110
  t39 := Try.underlying136
  a39 := Try.isAgg136
  z39 := Try.sizeOf136
  v39 := Try.zeroValue136
  t45 := Try.underlying148
  a45 := Try.isAgg148
  z45 := Try.sizeOf148
  v45 := Try.zeroValue148
  t46 := Try.underlying149
  a46 := Try.isAgg149
  z46 := Try.sizeOf149
  v46 := Try.zeroValue149
  t50 := Try.underlying153
  a50 := Try.isAgg153
  z50 := Try.sizeOf153
  v50 := Try.zeroValue153
  t53 := Try.underlying156
  a53 := Try.isAgg156
  z53 := Try.sizeOf156
  v53 := Try.zeroValue156
  t55 := Try.underlying158
  a55 := Try.isAgg158
  z55 := Try.sizeOf158
  v55 := Try.zeroValue158
  t66 := Try.underlying163
  a66 := Try.isAgg163
  z66 := Try.sizeOf163
  v66 := Try.zeroValue163
  t70 := Try.underlying167
  a70 := Try.isAgg167
  z70 := Try.sizeOf167
  v70 := Try.zeroValue167
  t76 := Try.underlying169
  a76 := Try.isAgg169
  z76 := Try.sizeOf169
  v76 := Try.zeroValue169
  t77 := Try.underlying170
  a77 := Try.isAgg170
  z77 := Try.sizeOf170
  v77 := Try.zeroValue170 }
end Go.Proofs

/-
  The sort of crossings.
-/
namespace Go.Proofs.Ytbgolbkolcmldaa
open Go.RowKit Go.Shelf Go.Lib Go.Sort

abbrev CrS := {c : Cr // CrOk c}
instance : Inhabited CrS := ⟨⟨⟨0, 1, 1⟩, ⟨⟨by decide, by decide⟩, .inl rfl⟩⟩⟩
def encS (x : CrS) : List Value := crCells x.1
def cfS (x y : CrS) : Int := cmpI (x.1.n * y.1.d) (y.1.n * x.1.d)

theorem ltS (x y : CrS) : ltOf cfS x y = decide (x.1.n * y.1.d < y.1.n * x.1.d) := by
  unfold ltOf cfS cmpI
  by_cases h1 : x.1.n * y.1.d < y.1.n * x.1.d
  · simp [h1]
  · by_cases h2 : y.1.n * x.1.d < x.1.n * y.1.d <;> simp [h1, h2]

theorem frac_lt {a b c d e f : Int} (hb : 0 < b) (hd : 0 < d) (hf : 0 < f) (h1 : a * d < c * b) (h2 : c * f < e * d) : a * f < e * b := by
  have e1 : a * d * f < c * b * f := Int.mul_lt_mul_of_pos_right h1 hf
  have e2 : c * f * b < e * d * b := Int.mul_lt_mul_of_pos_right h2 hb
  have e3 : a * f * d < e * b * d := by
    have q1 : a * f * d = a * d * f := by rw [Int.mul_assoc, Int.mul_comm f d, ← Int.mul_assoc]
    have q2 : c * b * f = c * f * b := by rw [Int.mul_assoc, Int.mul_comm b f, ← Int.mul_assoc]
    have q3 : e * d * b = e * b * d := by rw [Int.mul_assoc, Int.mul_comm d b, ← Int.mul_assoc]
    omega
  exact Int.lt_of_mul_lt_mul_right e3 (by omega)
theorem frac_le {a b c d e f : Int} (hb : 0 < b) (hd : 0 < d) (hf : 0 < f) (h1 : a * d ≤ c * b) (h2 : c * f ≤ e * d) : a * f ≤ e * b := by
  have e1 : a * d * f ≤ c * b * f := Int.mul_le_mul_of_nonneg_right h1 (by omega)
  have e2 : c * f * b ≤ e * d * b := Int.mul_le_mul_of_nonneg_right h2 (by omega)
  have e3 : a * f * d ≤ e * b * d := by
    have q1 : a * f * d = a * d * f := by rw [Int.mul_assoc, Int.mul_comm f d, ← Int.mul_assoc]
    have q2 : c * b * f = c * f * b := by rw [Int.mul_assoc, Int.mul_comm b f, ← Int.mul_assoc]
    have q3 : e * d * b = e * b * d := by rw [Int.mul_assoc, Int.mul_comm d b, ← Int.mul_assoc]
    omega
  exact Int.le_of_mul_le_mul_right e3 hd

theorem swoS : SWO (ltOf cfS) where
  irrefl x := by rw [ltS]; simp
  trans x y z h1 h2 := by
    rw [ltS] at *
    simp only [decide_eq_true_eq] at *
    exact frac_lt x.2.p.e.1 y.2.p.e.1 z.2.p.e.1 h1 h2
  ntrans x y z h1 h2 := by
    rw [ltS] at *
    simp only [decide_eq_false_iff_not, Int.not_lt] at *
    exact frac_le z.2.p.e.1 y.2.p.e.1 x.2.p.e.1 h2 h1

theorem cmpLaysS (blk off size : Nat) (w : World) : CmpLays Try.prog 64 #[] encS 3 cfS blk off size w := by
  intro m os dk _ x y
  have hb := md_bd x.2.p y.2.p
  refine (closure_k x.1 y.1 (by omega) (by omega) _).mono ?_
  rintro e w' ⟨rfl, o1, o2, o3, o4, rfl⟩
  exact ⟨rfl, 0, _, by rw [alloc_eq_grow, alloc_eq_grow, alloc_eq_grow, alloc_eq_grow, grow_grow, grow_grow, grow_grow]; rfl⟩

open Classical in
noncomputable def toS (cs : List Cr) : Array CrS := (cs.filterMap fun c => if h : CrOk c then some ⟨c, h⟩ else none).toArray
theorem toS_map {cs : List Cr} (h : ∀ c ∈ cs, CrOk c) : (toS cs).toList.map (·.1) = cs := by
  unfold toS
  induction cs with
  | nil => rfl
  | cons c cs ih =>
    have hc := h c (by simp)
    simp only [List.filterMap_cons, dif_pos hc, List.map_cons]
    have := ih fun c' hc' => h c' (by simp [hc'])
    simp only at this
    rw [this]
theorem toS_size {cs : List Cr} (h : ∀ c ∈ cs, CrOk c) : (toS cs).size = cs.length := by
  have := congrArg List.length (toS_map h)
  simpa using this

/-- crossings, as the program sorts them -/
noncomputable def sortCr (cs : List Cr) : List Cr := (pdq (ltOf cfS) (toS cs) 0 (toS cs).size (Lib.bitLen (toS cs).size) true true).toList.map (·.1)

theorem sortCr_spec {cs : List Cr} (h : ∀ c ∈ cs, CrOk c) : (sortCr cs).Perm cs ∧ ∀ (i j : Nat) (a b : Cr), i < j → (sortCr cs)[i]? = some a → (sortCr cs)[j]? = some b → a.n * b.d ≤ b.n * a.d := by
  have hp := pdq_sorts (ltOf cfS) swoS (toS cs) 0 (toS cs).size (Lib.bitLen (toS cs).size) true true (Nat.zero_le _) (Nat.le_refl _) (Or.inl rfl)
  obtain ⟨⟨hs, _, hperm⟩, hsort⟩ := hp
  have e1 : ∀ (d : Array CrS), d.size = (toS cs).size → d.extract 0 (toS cs).size = d := fun d hd => by rw [← hd]; simp
  rw [e1 _ hs, e1 _ rfl] at hperm
  refine ⟨?_, ?_⟩
  · have := hperm.map (·.1)
    rw [toS_map h] at this
    exact this
  · intro i j a b hij hi hj
    unfold sortCr at hi hj
    simp only [List.getElem?_map, Option.map_eq_some_iff, Array.getElem?_toList] at hi hj
    obtain ⟨x, hx, rfl⟩ := hi
    obtain ⟨y, hy, rfl⟩ := hj
    have hjl := (Array.getElem?_eq_some_iff.1 hy).1
    have := hsort i j (Nat.zero_le _) hij (by rw [← hs]; exact hjl)
    rw [ltS] at this
    have hx' : (pdq (ltOf cfS) (toS cs) 0 (toS cs).size (Lib.bitLen (toS cs).size) true true)[i]! = x := by
      rw [getElem!_pos _ i (by omega)]; exact (Array.getElem?_eq_some_iff.1 hx).2
    have hy' : (pdq (ltOf cfS) (toS cs) 0 (toS cs).size (Lib.bitLen (toS cs).size) true true)[j]! = y := by
      rw [getElem!_pos _ j hjl]; exact (Array.getElem?_eq_some_iff.1 hy).2
    rw [hx', hy'] at this
    simp only [decide_eq_false_iff_not, Int.not_lt] at this
    exact this

theorem flatK_list (d : Array CrS) : (flatK encS 3 d).toList = (d.toList.map (·.1)).flatMap crCells := by
  apply List.ext_getElem?
  intro t
  by_cases ht : t < d.size * 3
  · have hq : t / 3 < d.size := by omega
    have hr : t % 3 < 3 := Nat.mod_lt _ (by omega)
    have := flatMap_get crCells 3 (fun _ => rfl) (d.toList.map (·.1)) (t / 3) (t % 3) (d[t / 3]).1 ((crCells (d[t / 3]).1)[t % 3]'(by simpa [crCells] using hr)) (by simp [hq]) (by simp)
    rw [show t / 3 * 3 + t % 3 = t by omega] at this
    rw [this, Array.getElem?_toList]
    have hs : t < (flatK encS 3 d).size := by simpa using ht
    rw [Array.getElem?_eq_getElem hs]
    have g := get_flatK encS 3 d t ht
    rw [getElem!_pos _ t hs] at g
    rw [g, getElem!_pos d (t / 3) hq]
    congr 1
    rw [getElem!_pos _ _ (by simpa [encS, crCells] using hr)]
    rfl
  · rw [List.getElem?_eq_none (by simpa using ht), List.getElem?_eq_none (by rw [flatMap_len crCells 3 (fun _ => rfl)]; simpa using ht)]

theorem sort_calls (cs : List Cr) (hok : ∀ c ∈ cs, CrOk c) (hl : cs.length < 4611686018427387904) (b cap : Nat) (w : World) (o : Obj) (ho : w.heap[b]? = some o) (hq : bx (cs.flatMap crCells) 108 o) :
    Calls Try.prog 63 #[.slice (some ⟨b, 0, none⟩) cs.length cap, .func (.func 64) #[] #[]] w (Wrote w b (bx ((sortCr cs).flatMap crCells) 108)) := by
  have hsz := toS_size hok
  have hblk := (Array.getElem?_eq_some_iff.1 ho).1
  have hob : w.heap[b]? = some (.cells (flatK encS 3 (toS cs)) 108 (0, 0)) := by
    rw [ho, hq]
    congr 2
    apply Array.toList_inj.1
    rw [flatK_list, toS_map hok]
  have hH : HoldsK encS 3 w b 0 (toS cs) := by
    intro j hj
    refine ⟨?_, frozen_of hob⟩
    rw [cell_of hob, Nat.zero_add, getElem!_pos _ j hj]
    exact Array.getElem?_eq_getElem hj
  have hcon := AnyQ.slices_SortFunc_eq Try.sortCr 3 (fun w => (inferInstance : CAg Try.prog 108 3).agg w) (fun w => by
      have := (inferInstance : CAg Try.prog 108 3).size
      show (Go.sizeOf 108).run Try.prog w = _
      cases hi : Try.prog.info? 108 with
      | none => rw [hi] at this; cases this
      | some i => rw [hi] at this; simp at this; simp [Go.sizeOf, typeInfo, hi, this]) encS (fun _ => rfl) (fun x v hv => by simp [encS, crCells] at hv; rcases hv with rfl | rfl | rfl <;> rfl) cfS swoS 64 #[] b 0 cap (toS cs) w
    (inferInstance : CFn Try.prog 64).enters (cmpLaysS b 0 _ w) hH hblk (by rw [hsz]; exact hl)
  rw [hsz] at hcon
  refine Calls.mono (show Calls Try.prog 63 _ _ _ from hcon) ?_
  rintro e w' ⟨rfl, n, os, rfl⟩
  have hd : (pdq (ltOf cfS) (toS cs) 0 cs.length (Lib.bitLen cs.length) true true).size = cs.length := by
    have hp := pdq_sorts (ltOf cfS) swoS (toS cs) 0 (toS cs).size (Lib.bitLen (toS cs).size) true true (Nat.zero_le _) (Nat.le_refl _) (Or.inl rfl)
    rw [hsz] at hp
    rw [hp.1.1, hsz]
  refine ⟨rfl, ⟨rfl, rfl, rfl, ?_, ?_⟩, ?_⟩
  · simp [sortWorldK, grow, putRowK, putRow, mapBlock, Sort.ahead]
  · intro i hi hne
    have hne' : b ≠ i := fun e => hne (by rw [e])
    simp only [sortWorldK, grow, putRowK, putRow, mapBlock, Sort.ahead]
    rw [Array.getElem?_append_left (by simpa using hi), Array.getElem?_modify, if_neg hne']
  · refine ⟨_, ?_, rfl⟩
    simp only [sortWorldK, grow, putRowK, putRow, mapBlock, Sort.ahead]
    rw [Array.getElem?_append_left (by simpa using hblk), Array.getElem?_modify, if_pos rfl, hob]
    simp only [Option.map_some, onCells]
    congr 2
    have hss : sortCr cs = (pdq (ltOf cfS) (toS cs) 0 cs.length (Lib.bitLen cs.length) true true).toList.map (·.1) := by unfold sortCr; rw [hsz]
    rw [hss, ← flatK_list]
    apply Array.ext_getElem?
    intro k
    simp only [putCells, Array.getElem?_mapIdx]
    by_cases hk : k < cs.length * 3
    · have h1 : k < (flatK encS 3 (toS cs)).size := by simpa [hsz] using hk
      have h2 : k < (flatK encS 3 (pdq (ltOf cfS) (toS cs) 0 cs.length (Lib.bitLen cs.length) true true)).size := by simpa [hd] using hk
      rw [Array.getElem?_eq_getElem h1, Option.map_some, if_pos ⟨Nat.zero_le _, by simpa [hd] using hk⟩, Nat.sub_zero, getElem!_pos _ k h2]
      simp [Array.getElem?_eq_getElem h2]
    · rw [Array.getElem?_eq_none (by simpa [hsz] using hk)]
      simp only [Option.map_none]
      rw [Array.getElem?_eq_none]
      simp [hd]; omega

end Go.Proofs.Ytbgolbkolcmldaa

/-
  Edges that are left out of a slice.
-/
namespace Go.Proofs.Ytbgolbkolcmldaa
open Go.RowKit
attribute [local irreducible] T TL Xt O Op1 Kt DV ObsB DE DW DW1 LoopQ LoopJ

section
variable {P : Program} {r : Option Nat} {Q : Exit → Act → World → Prop} {nt : Nat} {D : List Deferred} {fr : Fr} {I : World → Prop}
variable {w0 : World} {X : List Nat} {L : HL} {ops : Array Oper} {rest : List Oper} {d : Nat}
variable {dd : Option Tmp} {ty t t' : TypeId} {pos : String} {af : Array Edge} {g : Option (Nat × Bool)} {x y c : Operand} {u : Value}

/-- an element of a slice of the call's own -/
theorem o_loadRow (i : Nat) {b k e sz n cap m : Nat} {xs cs : List Value} [CAg P t m] (hx : fev fr x = some (.pointer (some ⟨b, k, none⟩))) (hL : L[i]? = some (b, row e sz n cap xs)) (hl : cs.length = m) (hc : ∀ j v, cs[j]? = some v → xs[k + j]? = some v) : Pv P ⟨dd, .load t x, ty, pos, af, g⟩ fr (St w0 X L) (.agg cs.toArray) :=
  o_loadA hx hl fun w hw j v hj => hw.rowCell (List.mem_of_getElem? hL) (hc j v hj)

theorem putL_get (cs : List Value) : ∀ (z : List Value) (off j : Nat), off + cs.length ≤ z.length → (putL z off cs)[j]? = if off ≤ j ∧ j < off + cs.length then cs[j - off]? else z[j]? := by
  induction cs with
  | nil => intro z off j _; simp [putL]; omega
  | cons c cs ih =>
    intro z off j h
    simp only [List.length_cons] at h ⊢
    rw [putL, ih _ _ _ (by simp; omega)]
    by_cases h1 : off + 1 ≤ j ∧ j < off + 1 + cs.length
    · rw [if_pos h1, if_pos (by omega), show j - off = (j - (off + 1)) + 1 by omega, List.getElem?_cons_succ]
    · rw [if_neg h1]
      by_cases h2 : j = off
      · subst h2
        rw [List.getElem?_set_self (by omega), if_pos (by omega)]
        simp
      · rw [List.getElem?_set_ne (by omega), if_neg (by omega)]

theorem row_put {e sz n cap k : Nat} {xs vs : List Value} {cur cs' : Array Value} (hr : row e sz n cap xs (.cells cur e (0, 0))) (hk : k + vs.length ≤ n * sz) (hs : cs'.size = cur.size) (hj : ∀ j, cs'[j]? = if k ≤ j ∧ j < k + vs.length ∧ j < cur.size then vs[j - k]? else cur[j]?) : row e sz n cap (putL xs k vs) (.cells cs' e (0, 0)) := by
  obtain ⟨cur', he, h1, h2, h3, h4, h5⟩ := hr
  injection he with he
  subst he
  have hle : n * sz ≤ cap * sz := Nat.mul_le_mul_right _ h4
  refine ⟨cs', rfl, by rw [hs, h1], ?_, by rw [putL_length, h3], h4, h5⟩
  apply List.ext_getElem?
  intro j
  rw [putL_get vs xs k j (by omega)]
  by_cases hjn : j < n * sz
  · rw [List.getElem?_take_of_lt hjn, Array.getElem?_toList, hj j]
    by_cases hc : k ≤ j ∧ j < k + vs.length
    · rw [if_pos (by omega), if_pos hc]
    · rw [if_neg (by omega), if_neg hc, ← h2, List.getElem?_take_of_lt hjn, Array.getElem?_toList]
  · rw [List.getElem?_eq_none (by rw [List.length_take]; omega), if_neg (by omega), List.getElem?_eq_none (by omega)]

theorem o_storeRow (i : Nat) {b k e sz n cap m : Nat} {xs vs : List Value} [CAg P t m] (hx : fev fr x = some (.pointer (some ⟨b, k, none⟩))) (hy : fev fr y = some (.agg vs.toArray)) (hL : L[i]? = some (b, row e sz n cap xs)) (hl : vs.length = m) (h1 : vs.all (·.oneCell') = true) (hk : k + m ≤ n * sz) :
    O P ⟨dd, .store t x y, ty, pos, af, g⟩ fr (St w0 X L) (fun _ w => St w0 X (lput L i (row e sz n cap (putL xs k vs))) w) :=
  o_ofu fun ρ w hρ hw => by
    obtain ⟨o, ho, hr⟩ := hw.here _ (List.mem_of_getElem? hL)
    obtain ⟨cur, rfl, hcs, _, _, hnc, _⟩ := id hr
    have hle : n * sz ≤ cap * sz := Nat.mul_le_mul_right _ hnc
    refine ⟨w.setCells b k vs, ?_, ?_⟩
    · have := run_storeVar_ag (P := P) (t := t) (w := w) (b := b) (k := k) hl (fun v hv => List.all_eq_true.1 h1 v hv) (fun j hj => by rw [cell_of ho]; simp; omega) (fun j _ => frozen_of ho)
      simp [execOp, hρ _ _ hx, hρ _ _ hy, Instr.storeAt, Instr.sureAddr, this]
    · obtain ⟨hgr, cs', hh, hs, hj⟩ := setCells_heap b vs k w _ e (0, 0) ho
      exact hw.putAt hL hgr hh (row_put hr (by omega) hs hj)

/-- the rest of a slice of the call's own is cleared -/
theorem o_clear (i : Nat) {b e sz by_ n cap m cp : Nat} {xs z : List Value} [hc : CSl P t e sz by_] [hz : CZ P e z] (hsz : Nat.blt 0 sz = true) (hz1 : z.all (·.oneCell') = true) (hx : fev fr x = some (.slice (some ⟨b, m * sz, none⟩) (n - m) cp)) (hL : L[i]? = some (b, row e sz n cap xs)) (hm : m < n) :
    O P ⟨dd, .call ⟨.builtin .clear, #[x], #[t]⟩, ty, pos, af, g⟩ fr (St w0 X L) (fun v w => v = .tuple #[] ∧ St w0 X (lput L i (row e sz m cap (xs.take (m * sz)))) w) :=
  o_of fun ρ w hρ hw => by
    obtain ⟨i0, zv, hi0, hs1, hs2, hzv, hzs⟩ := hc.info
    obtain ⟨zv', hz2, hz3⟩ := hz.run
    have hzz : zv = zv' := by
      have := hz3 w
      simp [zeroValue, typeInfo, hi0, hzv] at this
      exact this
    subst hzz
    have hsz' : 0 < sz := by simpa [Nat.blt_eq] using hsz
    obtain ⟨o, ho, cur, rfl, hcs, htk, hlen, hnc, hcm⟩ := hw.here _ (List.mem_of_getElem? hL)
    have hle : n * sz ≤ cap * sz := Nat.mul_le_mul_right _ hnc
    have hzl : (Builtin.zeroCells zv.cells (n - m)).toList.length = (n - m) * sz := by simp [Builtin.zeroCells, hzs]
    have hmn : m * sz + (n - m) * sz = n * sz := by rw [← Nat.add_mul]; congr 1; omega
    have hone : ∀ v ∈ (Builtin.zeroCells zv.cells (n - m)).toList, v.oneCell' = true := by
      intro v hv
      simp only [Builtin.zeroCells, Array.toList_map, List.mem_map] at hv
      obtain ⟨j, _, rfl⟩ := hv
      have hlt : j % zv.cells.size < zv.cells.size := Nat.mod_lt _ (by omega)
      rw [getElem!_pos zv.cells (j % zv.cells.size) hlt]
      refine List.all_eq_true.1 hz1 _ ?_
      have hzl2 : zv.cells.toList = z := by rw [hz2]
      rw [← hzl2]
      exact Array.getElem_mem_toList hlt
    have hrun := run_storeCells_cells (P := P) b (m * sz) (Builtin.zeroCells zv.cells (n - m)).toList 0 w (fun j hj => by rw [Nat.add_zero, cell_of ho]; rw [hzl] at hj; simp; omega) (fun j hj => frozen_of ho) hone
    simp only [Nat.add_zero] at hrun
    obtain ⟨hgr, cs', hh, hs, hj⟩ := setCells_heap b (Builtin.zeroCells zv.cells (n - m)).toList (m * sz) w cur e (0, 0) ho
    refine ⟨.tuple #[], w.setCells b (m * sz) (Builtin.zeroCells zv.cells (n - m)).toList, ?_, rfl, hw.putAt hL hgr hh ?_⟩
    · have hnm : n - m ≠ 0 := by omega
      obtain ⟨q, hq⟩ : ∃ q, n - m = q + 1 := ⟨n - m - 1, by omega⟩
      rw [hq] at hx hrun ⊢
      simp [execOp, resolve, hρ _ _ hx, invoke, builtin, Builtin.clear_, run_underlying hc.under, hz3, hrun]
    · have hlm : m * sz ≤ n * sz := Nat.mul_le_mul_right _ (by omega)
      refine ⟨cs', rfl, by rw [hs, hcs], ?_, by rw [List.length_take]; omega, by omega, hcm⟩
      apply List.ext_getElem?
      intro j
      by_cases hjm : j < m * sz
      · rw [List.getElem?_take_of_lt hjm, List.getElem?_take_of_lt hjm, Array.getElem?_toList, hj j, if_neg (by omega), ← htk, List.getElem?_take_of_lt (by omega), Array.getElem?_toList]
      · rw [List.getElem?_eq_none (by rw [List.length_take]; omega), List.getElem?_eq_none (by rw [List.length_take]; omega)]
end

def edCells (e : Edg) : List Value := [.int .i64 e.1, .int .i64 e.2.1, .int .i64 e.2.2.1, .int .i64 e.2.2.2.1, .int .i64 e.2.2.2.2]
/-- does an edge cross a height? -/
def crB (y : Int) (e : Edg) : Bool := decide (e.2.1 ≤ y) && decide (y < e.2.2.2.1)

theorem del_calls (e : Edg) (y : Int) (by_ : Nat) (w : World) (hy : Cl w by_ 0 (.int .i64 y)) : Calls Try.prog 62 #[.agg (edCells e).toArray, .pointer (some ⟨by_, 0, none⟩)] w (Ret w fun v _ => v = .bool (!crB y e)) := by
  have hi : CDet Try.prog 43 [edg e.1 e.2.1 e.2.2.1 e.2.2.2.1 e.2.2.2.2, .int .i64 y] (.bool (crB y e)) := ⟨crosses_det _ _ _ _ _ _⟩
  refine calls_S (vs := [.agg (edCells e).toArray, .pointer (some ⟨by_, 0, none⟩)]) Try.func62 rfl Try.ntmps62 rfl ?_
  (repeat' (first|refine Za ?_|refine Zb ?_|refine Zc ?_|refine Zd ?_|refine Zg ?_|refine Zu tab rfl rfl ?_|(apply Zy;refine Zz ?_)|(apply Yg; first|refine Yh fun _=>?_|refine Yi (Yj rfl rfl) rfl fun _=>?_)|(apply Yt;refine Yu ?_)|fail))
  exact xt_ret1S rfl rfl fun _ _ => rfl

theorem ed_get {es : List Edg} {k : Nat} {e : Edg} (h : es[k]? = some e) : ∀ j v, (edCells e)[j]? = some v → (es.flatMap edCells)[0 + (k : Int).toNat * 5 + j]? = some v := fun j v hj => by
  rw [Nat.zero_add, Int.toNat_natCast]
  exact flatMap_get edCells 5 (fun _ => rfl) es k j e v h hj
theorem ed_len (es : List Edg) : (es.flatMap edCells).length = es.length * 5 := flatMap_len edCells 5 (fun _ => rfl) es
theorem ed_put {es : List Edg} {k : Nat} {e : Edg} (h : k < es.length) : putL (es.flatMap edCells) (0 + (k : Int).toNat * 5) (edCells e) = (es.set k e).flatMap edCells := by
  rw [Nat.zero_add, Int.toNat_natCast]
  apply List.ext_getElem?
  intro j
  have hle : k * 5 + 5 ≤ es.length * 5 := by omega
  rw [putL_get _ _ _ _ (by rw [ed_len]; simp [edCells]; omega)]
  have hl5 : (edCells e).length = 5 := rfl
  rw [hl5]
  by_cases hj : j < es.length * 5
  · obtain ⟨a, ha⟩ : ∃ a, es[j / 5]? = some a := ⟨_, List.getElem?_eq_getElem (by omega)⟩
    have hr : j % 5 < 5 := Nat.mod_lt _ (by omega)
    have hjq : j / 5 * 5 + j % 5 = j := by omega
    by_cases hc : k * 5 ≤ j ∧ j < k * 5 + 5
    · rw [if_pos hc]
      have hk : j / 5 = k := by omega
      have := flatMap_get edCells 5 (fun _ => rfl) (es.set k e) k (j % 5) e ((edCells e)[j % 5]'(by simpa [edCells] using hr)) (by rw [List.getElem?_set_self h]) (List.getElem?_eq_getElem _)
      rw [← hk, hjq, hk] at this
      rw [this, show j - k * 5 = j % 5 by omega]
      exact List.getElem?_eq_getElem _
    · rw [if_neg hc]
      have h1 := flatMap_get edCells 5 (fun _ => rfl) es (j / 5) (j % 5) a ((edCells a)[j % 5]'(by simpa [edCells] using hr)) ha (List.getElem?_eq_getElem _)
      have h2 := flatMap_get edCells 5 (fun _ => rfl) (es.set k e) (j / 5) (j % 5) a ((edCells a)[j % 5]'(by simpa [edCells] using hr)) (by rw [List.getElem?_set_ne (by omega)]; exact ha) (List.getElem?_eq_getElem _)
      rw [hjq] at h1 h2
      rw [h1, h2]
  · rw [if_neg (by omega), List.getElem?_eq_none (by rw [ed_len]; omega), List.getElem?_eq_none (by rw [ed_len, List.length_set]; omega)]

theorem edg_cells (e : Edg) : edg e.1 e.2.1 e.2.2.1 e.2.2.2.1 e.2.2.2.2 = .agg (edCells e).toArray := rfl

/-- the first that is to be left out, or -1 -/
def firstOut (y : Int) : List Edg → Nat → Int
  | [], _ => -1
  | e :: es, k => if crB y e then firstOut y es (k + 1) else k
theorem firstOut_spec (y : Int) : ∀ (es : List Edg) (k : Nat), (firstOut y es k = -1 ∧ ∀ e ∈ es, crB y e = true) ∨ ∃ j e, firstOut y es k = ((k + j : Nat) : Int) ∧ es[j]? = some e ∧ crB y e = false ∧ ∀ i a, i < j → es[i]? = some a → crB y a = true
  | [], k => .inl ⟨rfl, by simp⟩
  | e :: es, k => by
    cases he : crB y e with
    | false => exact .inr ⟨0, e, by simp [firstOut, he], rfl, he, fun i a hi => by omega⟩
    | true =>
      rcases firstOut_spec y es (k + 1) with ⟨h1, h2⟩ | ⟨j, a, h1, h2, h3, h4⟩
      · refine .inl ⟨by simp [firstOut, he, h1], fun a ha => ?_⟩
        rcases List.mem_cons.1 ha with rfl | ha
        · exact he
        · exact h2 a ha
      · refine .inr ⟨j + 1, a, by simp only [firstOut, he, if_true]; rw [h1]; congr 1; omega, by simpa using h2, h3, fun i b hi hb => ?_⟩
        cases i with
        | zero => simp at hb; subst hb; exact he
        | succ i => exact h4 i b (by omega) (by simpa using hb)

set_option maxHeartbeats 1000000 in
theorem indexFunc_calls (es : List Edg) (y : Int) (by_ b cap : Nat) (w : World) (hes : es.length ≤ 1000000000) (hy : Cl w by_ 0 (.int .i64 y)) (o : Obj) (ho : w.heap[b]? = some o) (hq : row 83 5 es.length cap (es.flatMap edCells) o) :
    Calls Try.prog 80 #[.slice (some ⟨b, 0, none⟩) es.length cap, .func (.func 62) #[] #[.pointer (some ⟨by_, 0, none⟩)]] w (Ret w fun v _ => v = .int .i64 (firstOut y es 0)) := by
  have hc : ∀ (k : Nat) (e : Edg), es[k]? = some e → ClA w b (0 + (k : Int).toNat * 5) (edCells e) := fun k e he => by
    refine ⟨(Array.getElem?_eq_some_iff.1 ho).1, fun j v hj => ?_⟩
    obtain ⟨cur, rfl, _, htk, _⟩ := hq
    have := ed_get he j v hj
    rw [cell_of ho]
    rw [← htk, List.getElem?_take] at this
    split at this
    · simpa using this
    · cases this
  refine calls_S (vs := [.slice (some ⟨b, 0, none⟩) es.length cap, .func (.func 62) #[] #[.pointer (some ⟨by_, 0, none⟩)]]) Try.func80 rfl Try.ntmps80 rfl ?_
  (repeat' (first|refine Za ?_|refine Zb ?_|refine Zc ?_|refine Zd ?_|refine Ze ?_|refine Zu tab rfl rfl ?_|fail))
  refine t_loopK [0, 1, 7] (α := Nat) (fun k => [(8, .int .i64 k)]) (fun k => k ≤ es.length ∧ firstOut y es 0 = firstOut y (es.drop k) k) (fun _ => []) (fun k => es.length - k) 0 rfl ⟨rfl, trivial⟩ ⟨by simp, by simp⟩ (fun _ h => h) ?_
  rintro k ⟨hk, hfo⟩
  try dsimp only [List.cons_append, List.nil_append, List.map_cons, List.map_nil]
  (repeat' (first|refine Za ?_|refine Zb ?_|refine Zc ?_|refine Zd ?_|refine Zu tab rfl rfl ?_|fail))
  refine t_cond rfl (fun h => ?_) (fun h => ?_)
  · have hlt : k < es.length := by have := of_decide_eq_true h; omega
    obtain ⟨e, he⟩ : ∃ e, es[k]? = some e := ⟨_, List.getElem?_eq_getElem hlt⟩
    have hcl := hc k e he
    have hdr : es.drop k = e :: es.drop (k + 1) := by rw [List.drop_eq_getElem_cons hlt, (List.getElem?_eq_some_iff.1 he).2]
    rw [hdr, firstOut] at hfo
    (repeat' (first|refine Za ?_|refine Zb ?_|refine Zc ?_|refine Zd ?_|refine Ze ?_|refine Zf ?_|refine Zu tab rfl rfl ?_|(apply Zy;refine Zz ?_)|(apply Yn;refine Yo ?_)|fail))
    refine tl_call (u := .bool (!crB y e)) (I' := St w [] []) (o_callv [.agg (edCells e).toArray] [.pointer (some ⟨by_, 0, none⟩)] rfl rfl (fun w1 hw1 => (del_calls e y by_ w1 ⟨Nat.lt_of_lt_of_le hy.1 hw1.size, by rw [hw1.oldCell (a := ⟨by_, 0, none⟩) hy.1 (by simp)]; exact hy.2⟩).mono fun r w2 ⟨v, hr, hx, hv⟩ => ⟨v, hr, hv, hw1.ext hx⟩)) rfl ?_
    (repeat' (first|refine Zc ?_|refine Zd ?_|fail))
    refine t_cond rfl (fun h => ?_) (fun h => ?_)
    · have hcr : crB y e = false := by simpa using h
      rw [hcr, if_neg (by simp)] at hfo
      (repeat' (first|refine Za ?_|refine Zb ?_|refine Zc ?_|refine Zd ?_|refine Zg ?_|refine Zk ?_|refine Zm ?_|refine Zr ?_|refine Zu tab rfl rfl ?_|fail))
      exact xt_ret1S rfl rfl fun _ _ => by rw [hfo]
    · have hcr : crB y e = true := by simpa using h
      rw [hcr, if_pos rfl] at hfo
      (repeat' (first|refine Zb ?_|refine Zc ?_|refine Zd ?_|refine Zf ?_|refine Zi ?_|refine Zu tab rfl rfl ?_|(apply Yc;refine Yd ?_)|fail))
      exact xt_roundK (k + 1) rfl ⟨rfl, trivial⟩ ⟨by omega, hfo⟩ (by omega) (fun _ h => h)
  · have hkn : k = es.length := by have := of_decide_eq_false h; omega
    subst hkn
    rw [List.drop_of_length_le (Nat.le_refl _), firstOut] at hfo
    (repeat' (first|refine Za ?_|refine Zb ?_|refine Zc ?_|refine Zd ?_|refine Zg ?_|refine Zh ?_|refine Zj ?_|refine Zl ?_|refine Zq ?_|refine Zu tab rfl rfl ?_|fail))
    exact xt_ret1S rfl rfl fun _ _ => by rw [hfo]

/-- a call that writes one block of the caller's, and returns a value -/
def WroteV (w : World) (b : Nat) (q : Obj → Prop) (u : Value) : Ending → World → Prop := fun e w' => e = .returned u ∧ w.grownBy w' (some b) ∧ ∃ o, w'.heap[b]? = some o ∧ q o
theorem St.wroteV {w w' : World} {b : Nat} {q : Obj → Prop} {L : HL} {u : Value} (h : St w [b] ((b, q) :: L) w') : WroteV w b q u (.returned u) w' :=
  ⟨rfl, ⟨h.os, h.tape, h.output, h.size, fun k hk hne => h.old k hk (by simpa using hne)⟩, h.here _ (List.mem_cons_self ..)⟩

def keptE (y : Int) (es : List Edg) : List Edg := es.filter (crB y)
theorem kept_le (y : Int) (es : List Edg) : (keptE y es).length ≤ es.length := List.length_filter_le ..
theorem kept_snoc (y : Int) {es : List Edg} {j : Nat} {e : Edg} (h : es[j]? = some e) : keptE y (es.take (j + 1)) = keptE y (es.take j) ++ (if crB y e then [e] else []) := by
  rw [keptE, List.take_add_one, h, List.filter_append]
  cases hc : crB y e <;> simp [keptE, hc]

set_option maxHeartbeats 1000000 in
theorem deleteFunc_calls (es : List Edg) (y : Int) (by_ b cap : Nat) (w : World) (hes : es.length ≤ 1000000000) (hcap : es.length ≤ cap) (hby : by_ ≠ b) (hy : Cl w by_ 0 (.int .i64 y)) (o : Obj) (ho : w.heap[b]? = some o) (hq : row 83 5 es.length cap (es.flatMap edCells) o) :
    Calls Try.prog 61 #[.slice (some ⟨b, 0, none⟩) es.length cap, .func (.func 62) #[] #[.pointer (some ⟨by_, 0, none⟩)]] w (WroteV w b (row 83 5 (keptE y es).length cap ((keptE y es).flatMap edCells)) (.slice (some ⟨b, 0, none⟩) (keptE y es).length cap)) := by
  have hyw : ∀ {L : HL} {w1 : World}, St w [b] L w1 → Cl w1 by_ 0 (.int .i64 y) := fun hw1 => ⟨Nat.lt_of_lt_of_le hy.1 hw1.size, by rw [hw1.oldCell (a := ⟨by_, 0, none⟩) hy.1 (by simpa using hby)]; exact hy.2⟩
  refine calls_W (vs := [.slice (some ⟨b, 0, none⟩) es.length cap, .func (.func 62) #[] #[.pointer (some ⟨by_, 0, none⟩)]]) ho hq Try.func61 rfl Try.ntmps61 rfl ?_
  (repeat' (first|refine Za ?_|refine Zb ?_|refine Zc ?_|refine Zd ?_|refine Zu tab rfl rfl ?_|fail))
  refine tl_callV (u := .int .i64 (firstOut y es 0)) (fun w1 hw1 => ?_) rfl rfl ?_
  · obtain ⟨o1, ho1, hq1⟩ := hw1.here _ (List.mem_cons_self ..)
    exact indexFunc_calls es y by_ b cap w1 hes (hyw hw1) o1 ho1 hq1
  rcases firstOut_spec y es 0 with ⟨h1, h2⟩ | ⟨j0, e0, h1, h2, h3, h4⟩
  · rw [h1]
    have hk : keptE y es = es := by rw [keptE, List.filter_eq_self]; exact h2
    (repeat' (first|refine Za ?_|refine Zb ?_|refine Zc ?_|refine Zd ?_|refine Zg ?_|refine Zk ?_|refine Zu tab rfl rfl ?_|refine Yx rfl ?_|fail))
    refine xt_ret1 rfl rfl fun w' hw' => ?_
    rw [hk]
    exact hw'.wroteV
  · rw [h1, Nat.zero_add]
    have hj0 : j0 < es.length := (List.getElem?_eq_some_iff.1 h2).1
    have ht0 : keptE y (es.take j0) = es.take j0 := by
      rw [keptE, List.filter_eq_self]
      intro a ha
      obtain ⟨i, hi, rfl⟩ := List.mem_iff_getElem.1 ha
      simp only [List.length_take] at hi
      exact h4 i _ (by omega) (by rw [List.getElem_take]; exact List.getElem?_eq_getElem _)
    have ht1 : keptE y (es.take (j0 + 1)) = es.take j0 := by rw [kept_snoc y h2, h3, ht0]; simp
    (repeat' (first|refine Za ?_|refine Zb ?_|refine Zc ?_|refine Zd ?_|refine Ze ?_|refine Zf ?_|refine Zu tab rfl rfl ?_|(apply Yc;refine Yd ?_)|refine Yy rfl ?_|fail))
    refine t_loopK [0, 1] (α := Nat × List Edg) (fun x => [(5, .int .i64 (keptE y (es.take x.1)).length), (6, .int .i64 x.1)]) (fun x => x.1 ≤ es.length ∧ x.2.length = es.length ∧ (keptE y (es.take x.1)).length < x.1 ∧ x.2.take (keptE y (es.take x.1)).length = keptE y (es.take x.1) ∧ x.2.drop x.1 = es.drop x.1) (fun x => [(b, row 83 5 es.length cap (x.2.flatMap edCells))]) (fun x => es.length - x.1) (j0 + 1, es) rfl ⟨?_, rfl, trivial⟩ ⟨by simp only; omega, rfl, ?_, ?_, rfl⟩ (fun _ h => h) ?_
    · rw [ht1, List.length_take, Nat.min_eq_left (by omega)]; rfl
    · simp only
      rw [ht1, List.length_take]; omega
    · simp only
      rw [ht1, List.length_take, Nat.min_eq_left (by omega)]
    rintro ⟨j, cu⟩ ⟨hj, hcl, hij, htk, hdr⟩
    simp only at hj hcl hij htk hdr
    try dsimp only [List.cons_append, List.nil_append, List.map_cons, List.map_nil]
    (repeat' (first|refine Za ?_|refine Zb ?_|refine Zc ?_|refine Zd ?_|refine Zu tab rfl rfl ?_|fail))
    refine t_cond rfl (fun h => ?_) (fun h => ?_)
    · have hlt : j < es.length := by have := of_decide_eq_true h; omega
      obtain ⟨e, he⟩ : ∃ e, es[j]? = some e := ⟨_, List.getElem?_eq_getElem hlt⟩
      have hcu : cu[j]? = some e := by
        have := congrArg (fun l => l[0]?) hdr
        simp only [List.getElem?_drop, Nat.add_zero] at this
        rw [this, he]
      have hsn := kept_snoc y he
      (repeat' (first|refine Za ?_|refine Zb ?_|refine Zc ?_|refine Ze ?_|refine Zf ?_|refine Zu tab rfl rfl ?_|(apply Yn;refine Yo ?_)|fail))
      refine tl_load (o_loadRow 0 (cs := edCells e) rfl rfl rfl (ed_get hcu)) rfl ?_
      (repeat' (first|refine Za ?_|refine Zb ?_|refine Zc ?_|refine Zd ?_|refine Zu tab rfl rfl ?_|(apply Zy;refine Zz ?_)|(apply Ye;refine Yf ?_)|refine Yk rfl fun _=>?_|fail))
      refine tl_call (u := .bool (!crB y e)) (I' := St w [b] _) (o_callv [.agg (edCells e).toArray] [.pointer (some ⟨by_, 0, none⟩)] rfl rfl (fun w1 hw1 => (del_calls e y by_ w1 (hyw hw1)).mono fun r w2 ⟨v, hr, hx, hv⟩ => ⟨v, hr, hv, hw1.ext hx⟩)) rfl ?_
      (repeat' (first|refine Zc ?_|refine Zd ?_|refine Zu tab rfl rfl ?_|fail))
      refine t_cond rfl (fun h => ?_) (fun h => ?_)
      · have hcr : crB y e = true := by simpa using h
        rw [hcr, if_pos rfl] at hsn
        (repeat' (first|refine Za ?_|refine Zb ?_|refine Zu tab rfl rfl ?_|(apply Zy;refine Zz ?_)|(apply Yn;refine Yo ?_)|fail))
        refine tl_store (o_storeRow 1 (m := 5) (vs := edCells e) rfl rfl rfl rfl rfl (by omega)) ?_
        rw [ed_put (by omega)]
        (repeat' (first|refine Zb ?_|refine Zc ?_|refine Zd ?_|refine Zi ?_|refine Zu tab rfl rfl ?_|(apply Yc;refine Yd ?_)|fail))
        refine xt_roundK (j + 1, cu.set (keptE y (es.take j)).length e) rfl ⟨?_, rfl, trivial⟩ ⟨by simp only; omega, by simpa using hcl, ?_, ?_, ?_⟩ (by simp only; omega) (fun _ h => h.pick [1] (by decide) rfl)
        · rw [hsn, List.length_append]; rfl
        · simp only
          rw [hsn, List.length_append]; simp; omega
        · simp only
          rw [hsn, List.length_append, List.length_singleton, List.take_add_one, List.take_set_of_le (Nat.le_refl _), htk, List.getElem?_set_self (by omega)]
          rfl
        · simp only
          rw [List.drop_set_of_lt (by omega)]
          have := congrArg (List.drop 1) hdr
          simpa [List.drop_drop] using this
      · have hcr : crB y e = false := by simpa using h
        rw [hcr, if_neg (by simp), List.append_nil] at hsn
        (repeat' (first|refine Zb ?_|refine Zc ?_|refine Zd ?_|refine Zf ?_|refine Zi ?_|refine Zu tab rfl rfl ?_|(apply Yc;refine Yd ?_)|fail))
        refine xt_roundK (j + 1, cu) rfl ⟨?_, rfl, trivial⟩ ⟨by simp only; omega, hcl, ?_, ?_, ?_⟩ (by simp only; omega) (fun _ h => h.pick [1] (by decide) rfl)
        · rw [hsn]; rfl
        · simp only
          rw [hsn]; omega
        · simp only
          rw [hsn]; exact htk
        · simp only
          have := congrArg (List.drop 1) hdr
          simpa [List.drop_drop] using this
    · have hjn : j = es.length := by have := of_decide_eq_false h; omega
      subst hjn
      rw [List.take_of_length_le (Nat.le_refl _)] at hij htk
      rw [List.take_of_length_le (Nat.le_refl _)]
      (repeat' (first|refine Za ?_|refine Zb ?_|refine Zc ?_|refine Zh ?_|refine Zj ?_|refine Zl ?_|refine Zq ?_|refine Zu tab rfl rfl ?_|fail))
      refine tl_val (o_sliceL (n := (keptE y es).length) rfl rfl (by omega) (by omega)) rfl rfl ?_
      rw [show 0 + (keptE y es).length * 5 = (keptE y es).length * 5 by omega]
      refine tl_unit (o_clear 0 (m := (keptE y es).length) rfl rfl rfl rfl hij |>.mono fun v w h => h.2) rfl ?_
      (repeat' (first|refine Za ?_|refine Zb ?_|refine Zc ?_|refine Zd ?_|refine Zu tab rfl rfl ?_|fail))
      refine tl_val (o_sliceH (n := (keptE y es).length) rfl rfl (by omega)) rfl rfl ?_
      (repeat' (first|refine Zc ?_|refine Zd ?_|refine Zg ?_|refine Zu tab rfl rfl ?_|fail))
      refine xt_ret1 rfl rfl fun w' hw' => ?_
      have e1 : (cu.flatMap edCells).take ((keptE y es).length * 5) = (keptE y es).flatMap edCells := by
        have : cu = keptE y es ++ cu.drop (keptE y es).length := by conv => lhs; rw [← List.take_append_drop (keptE y es).length cu, htk]
        rw [this, List.flatMap_append, List.take_append_of_le_length (by rw [ed_len]; exact Nat.le_refl _), List.take_of_length_le (by rw [ed_len]; exact Nat.le_refl _)]
      rw [e1] at hw'
      exact St.wroteV hw'
theorem indexFunc_nil (w : World) (c : Value) : Calls Try.prog 80 #[.slice none 0 0, c] w (Ret w fun v _ => v = .int .i64 (-1)) := by
  refine calls_S (vs := [.slice none 0 0, c]) Try.func80 rfl Try.ntmps80 rfl ?_
  (repeat' (first|refine Za ?_|refine Zb ?_|refine Zc ?_|refine Zd ?_|refine Ze ?_|refine Zu tab rfl rfl ?_|fail))
  refine t_loopK [0, 1, 7] (α := Unit) (fun _ => [(8, .int .i64 0)]) (fun _ => True) (fun _ => []) (fun _ => 0) () rfl ⟨rfl, trivial⟩ trivial (fun _ h => h) ?_
  intro _ _
  try dsimp only [List.cons_append, List.nil_append, List.map_cons, List.map_nil]
  (repeat' (first|refine Za ?_|refine Zb ?_|refine Zc ?_|refine Zd ?_|refine Zg ?_|refine Zh ?_|refine Zj ?_|refine Zl ?_|refine Zq ?_|refine Zu tab rfl rfl ?_|refine Yy rfl ?_|fail))
  exact xt_ret1S rfl rfl fun _ _ => rfl
theorem deleteFunc_nil (w : World) (c : Value) : Calls Try.prog 61 #[.slice none 0 0, c] w (Ret w fun v _ => v = .slice none 0 0) := by
  refine calls_S (vs := [.slice none 0 0, c]) Try.func61 rfl Try.ntmps61 rfl ?_
  (repeat' (first|refine Za ?_|refine Zb ?_|refine Zc ?_|refine Zd ?_|refine Zu tab rfl rfl ?_|fail))
  refine tl_callV (u := .int .i64 (-1)) (fun w1 _ => indexFunc_nil w1 c) rfl rfl ?_
  (repeat' (first|refine Za ?_|refine Zb ?_|refine Zc ?_|refine Zd ?_|refine Zg ?_|refine Zk ?_|refine Zu tab rfl rfl ?_|refine Yx rfl ?_|fail))
  exact xt_ret1S rfl rfl fun _ _ => rfl

end Go.Proofs.Ytbgolbkolcmldaa

/-
  The rows of pixels that lines cross, one by one, with their crossings.
-/
namespace Go.Proofs.Ytbgolbkolcmldaa
open Go.RowKit
theorem t_perm {P : Program} {r : Option Nat} {Q : Exit → Act → World → Prop} {nt : Nat} {D : List Deferred} {fr : Fr} {w0 : World} {X : List Nat} {L L' : HL} {cd : Code} (hL : ∀ w, St w0 X L w → St w0 X L' w) (h : T P r cd Q nt D fr (St w0 X L')) : T P r cd Q nt D fr (St w0 X L) := fun a w ha hw => h a w ha (hL w hw)
section
variable {P : Program} {nt : Nat} {fr : Fr} {w0 : World} {X : List Nat} {L : HL}
theorem xt_endM0 {fn : Func} {R : Ending → World → Prop} {db : Nat} (hr : fn.results = #[]) (h : ∀ w', St w0 X L w' → R (.returned (.tuple #[])) w') :
    Xt P .normal (bodyPostM Fence.wide 0 P fn R) nt [{ target := .collected db, args := #[] }] fr (St w0 X (L ++ [(db, defO)])) := by
  intro a w' ha hw
  obtain ⟨o, ho, hq⟩ := hw.here (db, defO) (by simp)
  rw [hq] at ho
  have hL : St w0 X L (w'.putObj db (.deferred none)) := (hw.turn (q' := fun _ => True) trivial).sublist (List.sublist_append_left ..)
  show LeavesInM _ _ _ _ _ _ a.defers _ _
  rw [ha.defers]
  refine ⟨by simp, .inl ⟨_, _, rfl, run_takeDeferred ho, ?_⟩⟩
  exact ⟨_, results_none hr _ _ _, h _ hL⟩
end
section
variable {P : Program} {fr : Fr} {w0 : World} {X : List Nat} {L Hn : HL} {l : List Oper} {fin : Fr → HL → Prop} {k : Nat} {sk : SkL} {acc : Fr} {dd : Option Tmp} {ty t : TypeId} {pos : String} {af : Array Edge} {g : Option (Nat × Bool)} {x y : Operand}
theorem bx_put {k : Nat} {xs vs : List Value} {e : TypeId} {cs' : Array Value} (hk : k + vs.length ≤ xs.length) (hs : cs'.size = xs.toArray.size) (hj : ∀ j, cs'[j]? = if k ≤ j ∧ j < k + vs.length ∧ j < xs.toArray.size then vs[j - k]? else xs.toArray[j]?) : bx (putL xs k vs) e (.cells cs' e (0, 0)) := by
  have : cs' = (putL xs k vs).toArray := by
    apply Array.ext'
    apply List.ext_getElem?
    intro j
    rw [Array.getElem?_toList, hj j, putL_get vs xs k j hk]
    by_cases hc : k ≤ j ∧ j < k + vs.length
    · rw [if_pos hc, if_pos ⟨hc.1, hc.2, by simp; omega⟩]
    · rw [if_neg hc, if_neg (by omega)]; simp
  unfold bx
  rw [this]
/-- cells of a block are overwritten -/
theorem o_storeBk (i : Nat) {b k e m : Nat} {xs vs : List Value} [CAg P t m] (hx : fev fr x = some (.pointer (some ⟨b, k, none⟩))) (hy : fev fr y = some (.agg vs.toArray)) (hL : L[i]? = some (b, bx xs e)) (hl : vs.length = m) (h1 : vs.all (·.oneCell') = true) (hk : k + m ≤ xs.length) :
    O P ⟨dd, .store t x y, ty, pos, af, g⟩ fr (St w0 X L) (fun _ w => St w0 X (lput L i (bx (putL xs k vs) e)) w) :=
  o_ofu fun ρ w hρ hw => by
    obtain ⟨o, ho, hr⟩ := hw.here _ (List.mem_of_getElem? hL)
    rw [hr] at ho
    refine ⟨w.setCells b k vs, ?_, ?_⟩
    · have := run_storeVar_ag (P := P) (t := t) (w := w) (b := b) (k := k) hl (fun v hv => List.all_eq_true.1 h1 v hv) (fun j hj => by rw [cell_of ho]; simp; omega) (fun j _ => frozen_of ho)
      simp [execOp, hρ _ _ hx, hρ _ _ hy, Instr.storeAt, Instr.sureAddr, this]
    · obtain ⟨hgr, cs', hh, hs, hj⟩ := setCells_heap b vs k w _ e (0, 0) ho
      exact hw.putAt hL hgr hh (bx_put (by omega) hs hj)
/-- what does not cross is left out -/
theorem tl_delete {w0 : World} {r : Option Nat} {Q : Exit → Act → World → Prop} {nt : Nat} {D : List Deferred} {I : World → Prop} {ops : Array Oper} {rest : List Oper} {d by_ : Nat} {args : Array Operand} {ts : Array TypeId} {L0 Lv : HL} {v : Value} {es : List Edg} {yy : Int} (ho : OwnsV v 83 5 es.length (es.flatMap edCells) Lv) (hes : es.length ≤ 1000000000) (hL : ∀ w, I w → St w0 X (Lv ++ L0) w) (hby : (by_, bx [.int .i64 yy] 2) ∈ L0) (hv : fevs fr args.toList = some [v, .func (.func 62) #[] #[.pointer (some ⟨by_, 0, none⟩)]]) (hd : Nat.ble nt d = false)
    (h : ∀ v' Lv', OwnsV v' 83 5 (keptE yy es).length ((keptE yy es).flatMap edCells) Lv' → TL Try.prog r ops Q nt D rest ((d, v') :: fr) (St w0 X (L0 ++ Lv'))) : TL Try.prog r ops Q nt D (⟨some d, .call ⟨.value (.func 61), args, ts⟩, ty, pos, af, none⟩ :: rest) fr I := by
  refine tl_op hd rfl (R := fun v' w => ∃ Lv', OwnsV v' 83 5 (keptE yy es).length ((keptE yy es).flatMap edCells) Lv' ∧ St w0 X (L0 ++ Lv') w) (o_call _ hv fun w hw => ?_) fun v' a w ha ⟨Lv', h1, h2⟩ => h v' Lv' h1 a w ha h2
  have hs := hL w hw
  rcases ho with ⟨rfl, hn, _, rfl⟩ | ⟨b, cap, rfl, rfl⟩
  · obtain rfl : es = [] := List.length_eq_zero_iff.1 hn
    refine (deleteFunc_nil w _).mono ?_
    rintro e w' ⟨u, rfl, hx, rfl⟩
    exact ⟨_, rfl, [], OwnsV.nil, by rw [List.append_nil]; exact hs.ext hx⟩
  · obtain ⟨o, ho, hq⟩ := hs.here (b, row 83 5 es.length cap (es.flatMap edCells)) (by simp)
    have hcap : es.length ≤ cap := by obtain ⟨cur, _, _, _, _, h4, _⟩ := id hq; exact h4
    have hne : by_ ≠ b := by
      have := hs.apart
      simp only [List.singleton_append, List.map_cons, List.nodup_cons] at this
      rintro rfl
      exact this.1 (List.mem_map.2 ⟨_, hby, rfl⟩)
    refine (deleteFunc_calls es yy by_ b cap w hes hcap hne ⟨hs.lt (p := (by_, bx [.int .i64 yy] 2)) (by simp [hby]), hs.cell (List.mem_cons_of_mem _ hby) 0⟩ o ho hq).mono ?_
    rintro e w' ⟨rfl, hg, o', ho', hq'⟩
    exact ⟨_, rfl, _, OwnsV.at_, (hs.put hg ho' hq').perm (List.perm_append_comm (l₁ := [_]))⟩
theorem xt_beginK {nt : Nat} {D : List Deferred} {l : Nat} {body : Code} {Qb : Exit → Act → World → Prop} {rec : Loop} (ks : List Nat) (L' : HL) {fr0 : Fr} (hk : keep fr ks = some fr0) (h : T P (some l) body Qb nt D fr0 (St w0 X (L' ++ [(l, recO rec .busy)]))) : Xt P .normal (Qbegin P l body Qb) nt D fr (St w0 X (L' ++ [(l, recO rec .ready)])) := xt_begin (t_keep ks hk h)
/-- one more, out of a literal, behind a slice that is hidden -/
theorem dw_appH {e e1 sz by_ n m c1 b1 : Nat} {v : Value} {xs news : List Value} [hc : CSl P t e sz by_] (hx : fev (frkN l.toArray acc fr af.toList) x = some v) (hy : fev (frkN l.toArray acc fr af.toList) y = some (.slice (some ⟨b1, 0, none⟩) m c1)) (ho : OwnsV v e sz n xs Hn) (hsz : Nat.blt 0 sz = true) (hl : news.length = m * sz) (h1 : news.all (·.oneCell') = true) (h63 : n + m ≤ 9223372036854775807) (hby : (n + m) * by_ ≤ 140737488355328) (hh : hdF sk = true) (hg : GOk ⟨dd, .call ⟨.builtin .append, #[x, y], #[t, t]⟩, ty, pos, af, g⟩ acc)
    (h : ∀ v' Lv', OwnsV v' e sz (n + m) (xs ++ news) Lv' → DW P l fr w0 X fin sk ((k, v') :: acc) (Lv' ++ L)) : DW1 P l fr w0 X fin k .h ⟨dd, .call ⟨.builtin .append, #[x, y], #[t, t]⟩, ty, pos, af, g⟩ sk acc ((b1, bx news e1) :: L) Hn := by
  rw [frkN_eq] at hx hy
  refine dw_hdH (α := Value × HL) (fun x => OwnsV x.1 e sz (n + m) (xs ++ news) x.2) (fun x => x.1) (fun x => x.2) hh hg (fun L' => ?_) fun x hx => h x.1 x.2 hx
  refine (o_appA (w0 := w0) (X := X) (L ++ L') hx hy ho (fun w hw => ?_) (fun _ => ⟨_, rfl, fun w hw j u hj => ?_⟩) hsz hl (fun u hu => List.all_eq_true.1 h1 u hu) h63 hby).mono ?_
  · have h2 : St w0 X (L ++ Hn ++ L') w := hw.sublist (.cons _ (List.Sublist.refl _))
    exact h2.perm (by rw [← List.append_assoc]; exact List.perm_append_comm.append_right _)
  · rw [add_mk, hw.cell (List.mem_cons_self ..), Nat.zero_add, hj]
  · rintro v' w ⟨Lv', h2, h3⟩
    exact ⟨(v', Lv'), h2, rfl, h3.perm (by rw [List.append_assoc Lv']; exact List.perm_append_comm)⟩
end
end Go.Proofs.Ytbgolbkolcmldaa
namespace Go.Proofs.Ytbgolbkolcmldaa
open Go.RowKit
attribute [local irreducible] T TL Xt O Op1 Kt DV ObsB DE DW DW1 LoopQ LoopJ

/-- the first row of pixels whose centres are not below y -/
def rowOf (y : Int) : Int := -((32 - y) / 64)
/-- edges that begin to count at a row -/
def begF (first : Int) (i : Nat) (e : Edg) : Bool := decide (rowOf e.2.1 = first + i) && decide (rowOf e.2.1 < rowOf e.2.2.2.1)
def begE (first : Int) (es : List Edg) (i : Nat) : List Edg := es.filter (begF first i)
def rowY (first : Int) (i : Nat) : Int := (first + i) * 64 + 32
/-- the edges that count, ahead of a row -/
def actE (first : Int) (es : List Edg) : Nat → List Edg
  | 0 => []
  | i + 1 => keptE (rowY first i) (actE first es i) ++ begE first es i
def crOf (y : Int) (e : Edg) : Cr := ⟨atN e y, atD e, e.2.2.2.2⟩
noncomputable def rowX (first : Int) (es : List Edg) (i : Nat) : Int × List Cr := (first + i, sortCr ((actE first es (i + 1)).map (crOf (rowY first i))))
noncomputable def rowsX (first : Int) (N : Nat) (es : List Edg) : List (Int × List Cr) := (List.range N).map (rowX first es)

theorem begE_snoc (first : Int) (es : List Edg) (e : Edg) (i : Nat) : begE first (es ++ [e]) i = begE first es i ++ (if begF first i e then [e] else []) := by
  rw [begE, begE, List.filter_append]
  congr 1
  cases h : begF first i e <;> simp [h]
theorem begE_le (first : Int) (es : List Edg) (i : Nat) : (begE first es i).length ≤ es.length := List.length_filter_le ..

/-- blocks of slices, one behind the other -/
def BL (N : Nat) (Lb : Nat → HL) : HL := (List.range N).flatMap Lb
theorem BL_mem {N : Nat} {Lb : Nat → HL} {i : Nat} (hi : i < N) {p : Nat × (Obj → Prop)} (hp : p ∈ Lb i) : p ∈ BL N Lb := List.mem_flatMap.2 ⟨i, List.mem_range.2 hi, hp⟩
theorem flatMap_congr' {α β : Type} {l : List α} {f g : α → List β} (h : ∀ x ∈ l, f x = g x) : l.flatMap f = l.flatMap g := by
  induction l with
  | nil => rfl
  | cons a l ih => rw [List.flatMap_cons, List.flatMap_cons, h a (by simp), ih fun x hx => h x (by simp [hx])]
theorem BL_split {N : Nat} {Lb : Nat → HL} {i : Nat} (hi : i < N) : ∃ Lr, (BL N Lb).Perm (Lb i ++ Lr) ∧ ∀ Li, (BL N fun j => if j = i then Li else Lb j).Perm (Li ++ Lr) := by
  have h1 : List.range N = List.range i ++ i :: List.range' (i + 1) (N - (i + 1)) := by
    rw [List.range_eq_range', List.range_eq_range', ← List.range'_succ, show N - (i + 1) + 1 = N - i by omega]
    have := List.range'_append (s := 0) (m := i) (n := N - i) (step := 1)
    simp only [Nat.zero_add, Nat.one_mul] at this
    rw [this]; congr 1; omega
  refine ⟨(List.range i).flatMap Lb ++ (List.range' (i + 1) (N - (i + 1))).flatMap Lb, ?_, fun Li => ?_⟩
  · unfold BL
    rw [h1, List.flatMap_append, List.flatMap_cons, ← List.append_assoc, ← List.append_assoc]
    exact List.perm_append_comm.append_right _
  · have e1 : (List.range i).flatMap (fun j => if j = i then Li else Lb j) = (List.range i).flatMap Lb := flatMap_congr' fun j hj => by rw [if_neg (by have := List.mem_range.1 hj; omega)]
    have e2 : (List.range' (i + 1) (N - (i + 1))).flatMap (fun j => if j = i then Li else Lb j) = (List.range' (i + 1) (N - (i + 1))).flatMap Lb := flatMap_congr' fun j hj => by
      have := List.mem_range'_1.1 hj
      rw [if_neg (by omega)]
    unfold BL
    rw [h1, List.flatMap_append, List.flatMap_cons, e1, e2, if_pos rfl, ← List.append_assoc, ← List.append_assoc]
    exact List.perm_append_comm.append_right _

/-- ahead of the rows: which edges begin at which row -/
def LB (b7 b5 R bl N : Nat) (first : Int) (A : Option Addr) (n cap : Nat) (bv : Nat → Value) (Lb : Nat → HL) : HL := (b7, bx [.slice (some ⟨R, 0, none⟩) N N] 103) :: (b5, bx [.int .i64 first] 2) :: (R, bx ((List.range N).map bv) 104) :: (bl, bx [.slice A n cap] 22) :: BL N Lb
def OwnsB (N : Nat) (first : Int) (es : List Edg) (bv : Nat → Value) (Lb : Nat → HL) : Prop := ∀ i, i < N → OwnsV (bv i) 83 5 (begE first es i).length ((begE first es i).flatMap edCells) (Lb i)
theorem perm_out {B Lbi Lr Pf T1 T2 : HL} (h : B.Perm (Lbi ++ Lr)) : (Pf ++ (B ++ T1 ++ T2)).Perm ((Pf ++ (Lr ++ T1 ++ T2)) ++ Lbi) := by
  rw [List.append_assoc Pf]
  refine List.Perm.append_left Pf ?_
  rw [List.append_assoc, List.append_assoc Lr]
  refine (h.append_right _).trans ?_
  rw [List.append_assoc]
  exact List.perm_append_comm
theorem OwnsB.snoc {N : Nat} {first : Int} {es : List Edg} {e : Edg} {bv : Nat → Value} {Lb : Nat → HL} (h : OwnsB N first es bv Lb) {i : Nat} {v : Value} {Lv : HL} (hi : begF first i e = true) (hv : OwnsV v 83 5 ((begE first es i).length + 1) ((begE first es i).flatMap edCells ++ edCells e) Lv) : OwnsB N first (es ++ [e]) (fun j => if j = i then v else bv j) (fun j => if j = i then Lv else Lb j) := fun j hj => by
  rw [begE_snoc]
  by_cases hji : j = i
  · subst hji
    simp only [if_true, hi, List.length_append, List.flatMap_append, List.flatMap_cons, List.flatMap_nil, List.append_nil]
    exact hv
  · have : begF first j e = false := by
      simp only [begF, Bool.and_eq_true, decide_eq_true_eq] at hi
      simp only [begF, Bool.and_eq_false_iff, decide_eq_false_iff_not]
      omega
    simp only [if_neg hji, this, Bool.false_eq_true, if_false, List.append_nil]
    exact h j hj
theorem OwnsB.same {N : Nat} {first : Int} {es : List Edg} {e : Edg} {bv : Nat → Value} {Lb : Nat → HL} (h : OwnsB N first es bv Lb) (hi : ∀ i, begF first i e = false) : OwnsB N first (es ++ [e]) bv Lb := fun j hj => by
  rw [begE_snoc, hi j]
  simp only [Bool.false_eq_true, if_false, List.append_nil]
  exact h j hj
theorem map_set {N i : Nat} {bv : Nat → Value} {v : Value} : ((List.range N).map bv).set i v = (List.range N).map (fun j => if j = i then v else bv j) := by
  apply List.ext_getElem?
  intro j
  rw [List.getElem?_set]
  by_cases h : i = j
  · subst h
    by_cases hN : i < N <;> simp [hN]
  · rw [if_neg h]
    by_cases hN : j < N <;> simp [hN]
    intro h'; omega

theorem perm_tl {A B C Pf : HL} : (Pf ++ (A ++ B ++ C)).Perm (A ++ (Pf ++ (B ++ C))) := by
  rw [← List.append_assoc A, List.append_assoc A B C, ← List.append_assoc]
  exact (List.perm_append_comm.append_right _)
theorem actE_le (first : Int) (es : List Edg) : ∀ i, (actE first es i).length ≤ i * es.length
  | 0 => by simp [actE]
  | i + 1 => by
    rw [actE, List.length_append, Nat.add_mul, Nat.one_mul]
    have h1 := actE_le first es i
    have h2 := kept_le (rowY first i) (actE first es i)
    have h3 := begE_le first es i
    omega

theorem cr_len (cs : List Cr) : (cs.flatMap crCells).length = cs.length * 3 := flatMap_len crCells 3 (fun _ => rfl) cs
theorem cr_put {es : List Cr} {k : Nat} {e : Cr} (h : k < es.length) : putL (es.flatMap crCells) (0 + (k : Int).toNat * 3) (crCells e) = (es.set k e).flatMap crCells := by
  rw [Nat.zero_add, Int.toNat_natCast]
  apply List.ext_getElem?
  intro j
  have hle : k * 3 + 3 ≤ es.length * 3 := by omega
  rw [putL_get _ _ _ _ (by rw [cr_len]; simp [crCells]; omega)]
  have hl5 : (crCells e).length = 3 := rfl
  rw [hl5]
  by_cases hj : j < es.length * 3
  · obtain ⟨a, ha⟩ : ∃ a, es[j / 3]? = some a := ⟨_, List.getElem?_eq_getElem (by omega)⟩
    have hr : j % 3 < 3 := Nat.mod_lt _ (by omega)
    have hjq : j / 3 * 3 + j % 3 = j := by omega
    by_cases hc : k * 3 ≤ j ∧ j < k * 3 + 3
    · rw [if_pos hc]
      have hk : j / 3 = k := by omega
      have := flatMap_get crCells 3 (fun _ => rfl) (es.set k e) k (j % 3) e ((crCells e)[j % 3]'(by simpa [crCells] using hr)) (by rw [List.getElem?_set_self h]) (List.getElem?_eq_getElem _)
      rw [← hk, hjq, hk] at this
      rw [this, show j - k * 3 = j % 3 by omega]
      exact List.getElem?_eq_getElem _
    · rw [if_neg hc]
      have h1 := flatMap_get crCells 3 (fun _ => rfl) es (j / 3) (j % 3) a ((crCells a)[j % 3]'(by simpa [crCells] using hr)) ha (List.getElem?_eq_getElem _)
      have h2 := flatMap_get crCells 3 (fun _ => rfl) (es.set k e) (j / 3) (j % 3) a ((crCells a)[j % 3]'(by simpa [crCells] using hr)) (by rw [List.getElem?_set_ne (by omega)]; exact ha) (List.getElem?_eq_getElem _)
      rw [hjq] at h1 h2
      rw [h1, h2]
  · rw [if_neg (by omega), List.getElem?_eq_none (by rw [cr_len]; omega), List.getElem?_eq_none (by rw [cr_len, List.length_set]; omega)]
theorem zeros_eq (n : Nat) : (List.replicate n [Value.int .i64 0, Value.int .i64 0, Value.int .i64 0]).flatten = (List.replicate n (⟨0, 0, 0⟩ : Cr)).flatMap crCells := by
  simp [List.flatMap, crCells]
/-- the first crossings are there -/
def crsT (y : Int) (ac : List Edg) (j : Nat) : List Cr := (ac.map (crOf y)).take j ++ List.replicate (ac.length - j) ⟨0, 0, 0⟩
theorem crsT_len (y : Int) (ac : List Edg) (j : Nat) (h : j ≤ ac.length) : (crsT y ac j).length = ac.length := by
  simp [crsT]; omega
theorem crsT_set (y : Int) (ac : List Edg) (j : Nat) (e : Edg) (h : ac[j]? = some e) : (crsT y ac j).set j (crOf y e) = crsT y ac (j + 1) := by
  have hj := (List.getElem?_eq_some_iff.1 h).1
  unfold crsT
  rw [List.set_append_right _ _ (by rw [List.length_take]; omega), List.take_add_one, List.getElem?_map, h, List.append_assoc]
  congr 1
  rw [List.length_take, List.length_map, Nat.min_eq_left (by omega), Nat.sub_self, show ac.length - j = (ac.length - (j + 1)) + 1 by omega, List.replicate_succ]
  rfl

theorem crsT_all (y : Int) (ac : List Edg) : crsT y ac ac.length = ac.map (crOf y) := by
  unfold crsT
  rw [Nat.sub_self, List.take_of_length_le (by simp)]
  simp
theorem rowsX_succ (first : Int) {N i : Nat} (es : List Edg) (h : i < N) : (rowsX first N es).take (i + 1) = (rowsX first N es).take i ++ [rowX first es i] := by
  rw [List.take_add_one]
  congr 1
  simp [rowsX, h]
theorem perm_back {A B C Pf : HL} : (Pf ++ (A ++ B ++ C)).Perm (Pf ++ (C ++ A ++ B)) := by
  refine List.Perm.append_left Pf ?_
  rw [List.append_assoc C]
  exact List.perm_append_comm

theorem rowOf_bd {y : Int} (h : -268435456 ≤ y ∧ y ≤ 268435456) : -4194305 ≤ rowOf y ∧ rowOf y ≤ 4194305 := by unfold rowOf; omega
theorem rowOf_mono {x y : Int} (h : x ≤ y) : rowOf x ≤ rowOf y := by unfold rowOf; omega

/-- what is yielded: the row, and a slice of its crossings -/
def EncR (B : Nat) (ids : List Nat) (w : World) (x : Int × List Cr) (vs : List Value) : Prop := ∃ b, vs = [.int .i64 x.1, .slice (some ⟨b, 0, none⟩) x.2.length x.2.length] ∧ B ≤ b ∧ b ∉ ids ∧ w.heap[b]? = some (.cells (x.2.flatMap crCells).toArray 108 (0, 0))

theorem beg_cross {first : Int} {i : Nat} {e : Edg} (h : begF first i e = true) : crB (rowY first i) e = true := by
  simp only [begF, Bool.and_eq_true, decide_eq_true_eq] at h
  simp only [crB, rowY, Bool.and_eq_true, decide_eq_true_eq]
  unfold rowOf at h
  refine ⟨decide_eq_true ?_, decide_eq_true ?_⟩ <;> omega
theorem actE_cross {first : Int} {es : List Edg} {i : Nat} {e : Edg} (h : e ∈ actE first es (i + 1)) : crB (rowY first i) e = true := by
  rw [actE, List.mem_append] at h
  rcases h with h | h
  · exact (List.mem_filter.1 h).2
  · exact beg_cross (List.mem_filter.1 h).2
theorem actE_mem {first : Int} {es : List Edg} : ∀ {i : Nat} {e : Edg}, e ∈ actE first es i → e ∈ es
  | 0, e, h => by simp [actE] at h
  | i + 1, e, h => by
    rw [actE, List.mem_append] at h
    rcases h with h | h
    · exact actE_mem (List.mem_filter.1 h).1
    · exact (List.mem_filter.1 h).1
theorem crOf_ok {y : Int} {e : Edg} (hok : EdgeOk e) (hc : crB y e = true) (hd : e.2.2.2.1 - e.2.1 ≤ 65536) : CrOk (crOf y e) := by
  simp only [crB, Bool.and_eq_true, decide_eq_true_eq] at hc
  have hx0 := hok.x0; have hx1 := hok.x1; have hup := hok.up
  refine ⟨⟨by show 0 < atD e ∧ atD e ≤ 65536; unfold atD; omega, ?_⟩, hok.turn⟩
  show -35184372088832 ≤ atN e y ∧ atN e y ≤ 35184372088832
  have a := mul_bd (a := e.1) (b := e.2.2.2.1 - y) (A := 268435456) (B := 65536) hx0 (by omega)
  have b := mul_bd (a := e.2.2.1) (b := y - e.2.1) (A := 268435456) (B := 65536) hx1 (by omega)
  have : atN e y = e.1 * (e.2.2.2.1 - y) + e.2.2.1 * (y - e.2.1) := by
    unfold atN
    simp only [Int.mul_sub, Int.sub_mul]
    omega
  omega

theorem Keeps.st {wd w w' : World} {L : HL} (h : Keeps wd w) (hs : St w [] L w') : Keeps wd w' := ⟨Nat.le_trans h.size hs.size, fun k hk => (hs.old k (Nat.lt_of_lt_of_le hk h.size) (by simp)).trans (h.block k hk)⟩

theorem nils_eq (N : Nat) : ((List.replicate N [Value.slice none 0 0]).flatten) = (List.range N).map fun _ => Value.slice none 0 0 := by
  induction N with
  | zero => rfl
  | succ N ih => rw [List.replicate_succ, List.flatten_cons, ih, List.range_succ_eq_map, List.map_cons, List.map_map]; rfl

set_option maxHeartbeats 4000000 in
theorem rows_iter (wd : World) (b1 b2 b3 : Nat) (low high : Int) (A : Option Addr) (n cap N : Nat) (ls : List Pts) (hL : Lines wd (.slice A n cap) ls) (hl1 : -268435456 ≤ low) (hl2 : low ≤ high) (hl3 : high ≤ 268435456) (hhl : high - low ≤ 65536) (hN : (N : Int) = rowOf high - rowOf low) (hes : (edgesAll ls).length ≤ 100000) (heb : ∀ e ∈ edgesAll ls, low ≤ e.2.1 ∧ e.2.2.2.1 ≤ high) :
    Iter2 Try.prog 59 [.pointer (some ⟨b1, 0, none⟩), .pointer (some ⟨b2, 0, none⟩), .pointer (some ⟨b3, 0, none⟩)] EncR (rowsX (rowOf low) N (edgesAll ls)) (fun w => Keeps wd w ∧ Cl w b1 0 (.int .i64 low) ∧ Cl w b2 0 (.int .i64 high) ∧ Cl w b3 0 (.slice A n cap)) := by
  intro l B J W hB hloc hdata hY h0
  obtain ⟨_, _, hk0, hc1, hc2, hc3⟩ := hdata [] [] W h0
  have hr1 := rowOf_bd (y := low) ⟨hl1, by omega⟩
  have hr2 := rowOf_bd (y := high) ⟨by omega, hl3⟩
  have hr3 := rowOf_mono hl2
  have i1 : CDet Try.prog 60 [.int .i64 low] (.int .i64 (rowOf low)) := ⟨row_det low (by omega)⟩
  have i2 : CDet Try.prog 60 [.int .i64 high] (.int .i64 (rowOf high)) := ⟨row_det high (by omega)⟩
  refine calls_M Try.func59 rfl Try.ntmps59 rfl ?_
  (repeat' (first|refine Za ?_|fail))
  refine t_drawW 5 [(0, .v), (2, .v), (1, .e), (3, .e), (4, .a)] ?_ rfl (by kernel_rfl) (by kernel_rfl) rfl (by kernel_rfl) mixed (by kernel_rfl) rfl
  (repeat' (first|refine Yz rfl ?_|refine Ve fun _=>?_|(apply Vf;refine Vg ?_)|(apply Vp;refine Vq ?_)|fail))
  refine dw_end [0, 3, 5, 17, 19] (rest := []) rfl ?_
  (repeat' (first|refine Za ?_|refine Zb ?_|refine Zc ?_|refine Zd ?_|refine Zu tab rfl rfl ?_|(apply Zy;refine Zz ?_)|(apply Yc;refine Yd ?_)|(apply Ye;refine Yf ?_)|fail))
  rw [← hN]
  refine tl_make (n := N) rfl rfl rfl (by omega) (by omega) rfl fun R => ?_
  (repeat' (first|refine Za ?_|refine Zb ?_|refine Zc ?_|refine Zd ?_|(apply Zy;refine Zz ?_)|(apply Ye;refine Yf ?_)|refine Yk rfl fun _=>?_|fail))
  rename_i b5 b7
  refine tl_ret (fun bl => .func (.func 72) #[] #[.pointer (some ⟨bl, 0, none⟩)]) (fun bl => [(bl, bx [.slice A n cap] 22)]) (fun w _ => edges_calls (.slice A n cap) rfl w) rfl (fun w1 v w2 hs he ⟨bl, hv, hb, hh⟩ => ⟨bl, hv, hs.addNew he hb hh rfl⟩) rfl fun bl => ?_
  (repeat' (first|refine Zc ?_|refine Zd ?_|refine Ze ?_|fail))
  have hN0 := nils_eq N
  refine t_range2 (edges_iter2 wd bl A n cap ls hL) rfl (fun pre L => ∃ bv Lb, OwnsB N (rowOf low) pre bv Lb ∧ L = LB b7 b5 R bl N (rowOf low) A n cap bv Lb) ⟨fun _ => .slice none 0 0, fun _ => [], fun i _ => OwnsV.nil, rfl⟩ (fun w hw => ?_) ?_ ?_ rfl ?_ ?_
  · rw [hN0] at hw
    refine hw.perm ?_
    have : BL N (fun _ => []) = [] := by simp [BL]
    unfold LB
    rw [this]
    refine (List.perm_append_comm).trans ?_
    exact .cons _ (.swap _ _ _)
  · rintro pre L w ⟨bv, Lb, _, rfl⟩ hw
    refine ⟨hk0.st hw, ?_, hw.cell (k := 0) (show (bl, bx [.slice A n cap] 22) ∈ LB b7 b5 R bl N (rowOf low) A n cap bv Lb by simp [LB])⟩
    exact hw.lt (show (bl, bx [.slice A n cap] 22) ∈ LB b7 b5 R bl N (rowOf low) A n cap bv Lb by simp [LB])
  · rintro _ _ _ e vs rfl
    rfl
  · rintro l' db rec pre e L W1 vs B1 ids hpre ⟨bv, Lb, hown, rfl⟩ hst rfl hkB
    have hmem : e ∈ edgesAll ls := hpre.subset (by simp)
    have hok := edgesAll_ok hmem
    have hlen : pre.length + 1 ≤ (edgesAll ls).length := by have := hpre.length_le; simpa using this
    obtain ⟨he1, he2⟩ := heb e hmem
    have hy0 := hok.y0; have hy1 := hok.y1; have hup := hok.up
    have hm1 := rowOf_mono he1
    have hm2 := rowOf_mono he2
    generalize hX : (l' :: (LB b7 b5 R bl N (rowOf low) A n cap bv Lb ++ [(db, defO)]).map (·.1)) = X
    clear hst hkB
    have j1 : CDet Try.prog 60 [.int .i64 e.2.1] (.int .i64 (rowOf e.2.1)) := ⟨row_det e.2.1 (by omega)⟩
    have j2 : CDet Try.prog 60 [.int .i64 e.2.2.2.1] (.int .i64 (rowOf e.2.2.2.1)) := ⟨row_det e.2.2.2.1 (by omega)⟩
    try dsimp only [List.cons_append, List.nil_append, List.map_cons, List.map_nil]
    unfold LB
    (repeat' (first|refine Zb ?_|refine Zd ?_|(apply Ye;refine Yf ?_)|refine Yk rfl fun _=>?_|fail))
    rename_i b8
    refine xt_beginK [5, 7, 8] ((b8, bx [.int .i64 e.1, .int .i64 e.2.1, .int .i64 e.2.2.1, .int .i64 e.2.2.2.1, .int .i64 e.2.2.2.2] 83) :: (b7, bx [.slice (some ⟨R, 0, none⟩) N N] 103) :: (b5, bx [.int .i64 (rowOf low)] 2) :: (R, bx ((List.range N).map bv) 104) :: (bl, bx [.slice A n cap] 22) :: (BL N Lb ++ [(db, defO)])) rfl ?_
    try dsimp only [List.cons_append, List.nil_append, List.map_cons, List.map_nil]
    (repeat' (first|refine Za ?_|refine Zb ?_|refine Zc ?_|refine Zd ?_|refine Ze ?_|refine Zu tab rfl rfl ?_|(apply Zy;refine Zz ?_)|(apply Yt;refine Yu ?_)|fail))
    refine t_cond rfl (fun h => ?_) (fun h => ?_)
    · have hlt := of_decide_eq_true h
      obtain ⟨i, hi⟩ : ∃ i : Nat, rowOf e.2.1 - rowOf low = i := ⟨(rowOf e.2.1 - rowOf low).toNat, by omega⟩
      have hiN : i < N := by omega
      obtain ⟨Lr, hp1, hp2⟩ := BL_split (Lb := Lb) hiN
      refine t_perm (L' := ((b8, bx [.int .i64 e.1, .int .i64 e.2.1, .int .i64 e.2.2.1, .int .i64 e.2.2.2.1, .int .i64 e.2.2.2.2] 83) :: (b7, bx [.slice (some ⟨R, 0, none⟩) N N] 103) :: (b5, bx [.int .i64 (rowOf low)] 2) :: (R, bx ((List.range N).map bv) 104) :: (bl, bx [.slice A n cap] 22) :: (Lr ++ [(db, defO)] ++ [(l', recO rec .busy)])) ++ Lb i) (fun w hw => hw.perm ?_) ?_
      · exact perm_out (Pf := [_, _, _, _, _]) hp1
      refine t_drawWH 13 [(0, .v), (1, .v), (2, .v), (3, .v), (4, .v), (5, .v), (6, .v), (7, .v), (8, .v), (9, .v), (10, .v), (11, .e), (12, .h)] ?_ rfl (by kernel_rfl) (by kernel_rfl) rfl (by kernel_rfl) mixed (by kernel_rfl) rfl
      (repeat' (first|refine Yz rfl ?_|refine Vd tab ?_|(apply Vf;refine Vg ?_)|(apply Vj;refine Vk ?_)|(apply Vl;refine Vm ?_)|fail))
      have hv : ((List.range N).map bv)[0 + (rowOf e.2.1 - rowOf low).toNat * 1]? = some (bv i) := by rw [hi]; simp [hiN]
      refine dw_opN rfl rfl (fun _ => o_loadB 3 rfl rfl hv) ?_
      have hbl := begE_le (rowOf low) pre i
      (repeat' (first|refine Yz rfl ?_|(apply Vf;refine Vg ?_)|(apply Vz;refine Ua fun _=>?_)|fail))
      refine dw_appH rfl rfl (hown i hiN) rfl rfl rfl (by omega) (by omega) rfl trivial fun v' Lv' hv' => ?_
      refine dw_end [5, 7, 35, 38, 47] (rest := []) rfl ?_
      refine tl_imp (fun w hw => hw.perm List.perm_append_comm) ?_
      (repeat' (first|(apply Yn;refine Yo ?_)|fail))
      refine tl_store (o_storeB 3 rfl rfl rfl (by simp [Nat.blt_eq]; omega) ?_) ?_
      · obtain ⟨A', c', rfl⟩ := hv'.shape
        rfl
      (repeat' (first|refine Zd ?_|refine Zi ?_|fail))
      refine xt_roundEnd2 (LB b7 b5 R bl N (rowOf low) A n cap (fun j => if j = i then v' else bv j) (fun j => if j = i then Lv' else Lb j) ++ [(db, defO)]) ⟨_, rfl, _, _, hown.snoc ?_ hv', rfl⟩ fun w hw => ?_
      · simp only [begF, Bool.and_eq_true, decide_eq_true_eq]
        omega
      · rw [show 0 + (rowOf e.2.1 - rowOf low).toNat * 1 = i by omega, map_set] at hw
        have hw2 : St W1 X ([(b7, bx [.slice (some ⟨R, 0, none⟩) N N] 103), (b5, bx [.int .i64 (rowOf low)] 2), (R, bx ((List.range N).map (fun j => if j = i then v' else bv j)) 104), (bl, bx [.slice A n cap] 22)] ++ (Lr ++ [(db, defO)] ++ [(l', recO rec .busy)]) ++ Lv') w := hw.sublist (.cons _ (List.Sublist.refl _))
        exact hw2.perm (perm_out (Pf := [_, _, _, _]) (hp2 Lv')).symm
    · (repeat' (first|refine Zf ?_|refine Zi ?_|fail))
      refine xt_roundEnd2 (LB b7 b5 R bl N (rowOf low) A n cap bv Lb ++ [(db, defO)]) ⟨_, rfl, bv, Lb, hown.same fun i => ?_, rfl⟩ fun w hw => hw.sublist (.cons _ (List.Sublist.refl _))
      have := of_decide_eq_false h
      simp only [begF, Bool.and_eq_false_iff, decide_eq_false_iff_not]
      exact .inr this
  · rintro db L ⟨bv, Lb, hown, rfl⟩
    try dsimp only [List.cons_append, List.nil_append, List.map_cons, List.map_nil]
    unfold LB
    (repeat' (first|refine Za ?_|refine Zb ?_|refine Zc ?_|refine Zd ?_|refine Ze ?_|refine Zi ?_|refine Zu tab rfl rfl ?_|(apply Zy;refine Zz ?_)|fail))
    refine t_loopJ [0, 5, 6, 7] (α := Nat × Value × HL) (fun x => [(10, x.2.1), (11, .int .i64 (rowOf low + x.1))]) (fun x => x.1 ≤ N ∧ OwnsV x.2.1 83 5 (actE (rowOf low) (edgesAll ls) x.1).length ((actE (rowOf low) (edgesAll ls) x.1).flatMap edCells) x.2.2) (fun x => Hd B (J ((rowsX (rowOf low) N (edgesAll ls)).take x.1)) ((b7, bx [.slice (some ⟨R, 0, none⟩) N N] 103) :: (b5, bx [.int .i64 (rowOf low)] 2) :: (R, bx ((List.range N).map bv) 104) :: (x.2.2 ++ BL N Lb ++ [(db, defO)]))) (fun x => N - x.1) (0, .slice none 0 0, []) rfl ⟨rfl, by simp [flook], trivial⟩ ⟨Nat.zero_le _, OwnsV.nil⟩ (fun w hw => ?_) ?_
    · have hw2 : St W [] ((b7, bx [.slice (some ⟨R, 0, none⟩) N N] 103) :: (b5, bx [.int .i64 (rowOf low)] 2) :: (R, bx ((List.range N).map bv) 104) :: ([] ++ BL N Lb ++ [(db, defO)])) w := hw.sublist (.cons_cons _ (.cons_cons _ (.cons_cons _ (.cons _ (List.Sublist.refl _)))))
      exact St.hd hw2 (by simpa using h0) (hloc _) (by simp) (by omega) (by simp)
    rintro ⟨i, va, Lva⟩ ⟨hi, hva⟩
    simp only at hi hva
    refine t_hd fun w1 ids hJ1 hB1 hX1 => ?_
    dsimp only at hX1 hJ1 ⊢
    generalize hXl : List.map (fun x : Nat × (Obj → Prop) => x.1) ((b7, bx [.slice (some ⟨R, 0, none⟩) N N] 103) :: (b5, bx [.int .i64 (rowOf low)] 2) :: (R, bx ((List.range N).map bv) 104) :: (Lva ++ BL N Lb ++ [(db, defO)])) = Xl at hX1 ⊢
    try dsimp only [List.cons_append, List.nil_append, List.map_cons, List.map_nil]
    obtain ⟨hfp, _, hk1, _⟩ := hdata _ _ _ hJ1
    (repeat' (first|refine Za ?_|refine Zb ?_|refine Zc ?_|refine Zd ?_|refine Zu tab rfl rfl ?_|fail))
    refine t_cond rfl (fun h => ?_) (fun h => ?_)
    · have hin : i < N := by have := of_decide_eq_true h; omega
      (repeat' (first|refine Za ?_|refine Zb ?_|refine Zc ?_|refine Zd ?_|refine Ze ?_|refine Zf ?_|refine Zu tab rfl rfl ?_|(apply Yc;refine Yd ?_)|(apply Ye;refine Yf ?_)|refine Yk rfl fun _=>?_|fail))
      rename_i b12
      refine tl_val (o_makeFunc [.pointer (some ⟨b12, 0, none⟩)] rfl) rfl rfl ?_
      have hact : ∀ j, j ≤ N → (actE (rowOf low) (edgesAll ls) j).length ≤ 200000000 := fun j hj => by
        have h1 := actE_le (rowOf low) (edgesAll ls) j
        have h2 : N ≤ 1025 := by unfold rowOf at hN; omega
        have h3 : j * (edgesAll ls).length ≤ 1025 * 100000 := Nat.mul_le_mul (by omega) hes
        omega
      refine tl_delete (L0 := (b12, bx [.int .i64 ((rowOf low + i) * 64 + 32)] 2) :: (b7, bx [.slice (some ⟨R, 0, none⟩) N N] 103) :: (b5, bx [.int .i64 (rowOf low)] 2) :: (R, bx ((List.range N).map bv) 104) :: (BL N Lb ++ [(db, defO)])) hva (by have := hact i hi; omega) (fun w hw => hw.perm (perm_tl (Pf := [_, _, _, _]))) (List.mem_cons_self ..) rfl rfl fun v1 Lv1 hv1 => ?_
      (repeat' (first|refine Za ?_|refine Zb ?_|refine Zc ?_|refine Zd ?_|refine Zu tab rfl rfl ?_|(apply Zy;refine Zz ?_)|(apply Yc;refine Yd ?_)|(apply Yn;refine Yo ?_)|fail))
      have hv : ((List.range N).map bv)[0 + (rowOf low + i - rowOf low).toNat * 1]? = some (bv i) := by rw [show rowOf low + (i : Int) - rowOf low = i by omega]; simp [hin]
      refine tl_load (o_loadB 3 rfl rfl hv) rfl ?_
      obtain ⟨Ab, cb, hbv⟩ := (hown i hin).shape
      rw [hbv]
      have hka := kept_le ((rowOf low + i) * 64 + 32) (actE (rowOf low) (edgesAll ls) i)
      have hbl := begE_le (rowOf low) (edgesAll ls) i
      have hai := hact i hi
      refine tl_appA (news := (begE (rowOf low) (edgesAll ls) i).flatMap edCells) ((b12, bx [.int .i64 ((rowOf low + i) * 64 + 32)] 2) :: (b7, bx [.slice (some ⟨R, 0, none⟩) N N] 103) :: (b5, bx [.int .i64 (rowOf low)] 2) :: (R, bx ((List.range N).map bv) 104) :: (BL N Lb ++ [(db, defO)])) rfl rfl hv1 (fun w hw => hw.perm List.perm_append_comm) (fun h0 => ?_) rfl (ed_len _) (fun u hu => ?_) (by omega) (by omega) rfl fun v2 Lv2 hv2 => ?_
      · obtain ⟨a, h1, h2⟩ := (hown i hin).cells hbv h0
        exact ⟨a, h1, fun w hw j u hj => h2 hw (fun p hp => by simp [BL_mem hin hp]) j u hj⟩
      · obtain ⟨e, _, hu⟩ := List.mem_flatMap.1 hu
        simp only [edCells, List.mem_cons, List.not_mem_nil, or_false] at hu
        rcases hu with rfl | rfl | rfl | rfl | rfl <;> rfl
      rw [← List.flatMap_append, ← List.length_append] at hv2
      change OwnsV v2 83 5 (actE (rowOf low) (edgesAll ls) (i + 1)).length ((actE (rowOf low) (edgesAll ls) (i + 1)).flatMap edCells) Lv2 at hv2
      obtain ⟨A2, c2, hs2⟩ := hv2.shape
      have hai2 := hact (i + 1) hin
      rw [hs2]
      have hcr : ∀ e ∈ actE (rowOf low) (edgesAll ls) (i + 1), e ∈ edgesAll ls ∧ crB (rowY (rowOf low) i) e = true := fun e he => ⟨actE_mem he, actE_cross he⟩
      generalize hac : actE (rowOf low) (edgesAll ls) (i + 1) = ac at hv2 hai2 hs2 hcr ⊢
      (repeat' (first|refine Za ?_|refine Zb ?_|refine Zc ?_|refine Zd ?_|refine Zu tab rfl rfl ?_|fail))
      refine tl_make (n := ac.length) rfl rfl rfl (by omega) (by omega) rfl fun bc => ?_
      rw [zeros_eq]
      (repeat' (first|refine Za ?_|refine Zb ?_|refine Zc ?_|refine Zd ?_|refine Ze ?_|refine Zu tab rfl rfl ?_|fail))
      refine t_loopK [0, 5, 6, 7, 10, 11, 12, 13, 72, 73] (α := Nat) (fun j => [(74, .int .i64 j)]) (fun j => j ≤ ac.length) (fun j => (bc, bx ((crsT (rowY (rowOf low) i) ac j).flatMap crCells) 108) :: (b12, bx [.int .i64 ((rowOf low + i) * 64 + 32)] 2) :: (b7, bx [.slice (some ⟨R, 0, none⟩) N N] 103) :: (b5, bx [.int .i64 (rowOf low)] 2) :: (R, bx ((List.range N).map bv) 104) :: (BL N Lb ++ [(db, defO)] ++ Lv2)) (fun j => ac.length - j) 0 rfl ⟨rfl, trivial⟩ (Nat.zero_le _) (fun _ h => h) ?_
      intro j hj
      try dsimp only [List.cons_append, List.nil_append, List.map_cons, List.map_nil]
      (repeat' (first|refine Za ?_|refine Zb ?_|refine Zc ?_|refine Zd ?_|refine Zu tab rfl rfl ?_|fail))
      refine t_cond rfl (fun h => ?_) (fun h => ?_)
      · have hlt : j < ac.length := by have := of_decide_eq_true h; omega
        obtain ⟨e, he⟩ : ∃ e, ac[j]? = some e := ⟨_, List.getElem?_eq_getElem hlt⟩
        obtain ⟨hem, hec⟩ := hcr e (List.mem_of_getElem? he)
        obtain ⟨a, hA, hcells⟩ := hv2.cells hs2 (by omega)
        have ha : ∃ ba, a = ⟨ba, 0, none⟩ := by
          rcases id hv2 with ⟨_, hn, _, _⟩ | ⟨ba, cap', h1, _⟩
          · omega
          · rw [hs2, hA] at h1
            cases h1
            exact ⟨_, rfl⟩
        obtain ⟨ba, rfl⟩ := ha
        subst hA
        (repeat' (first|refine Za ?_|refine Zb ?_|refine Zc ?_|refine Ze ?_|refine Zf ?_|refine Zu tab rfl rfl ?_|(apply Yn;refine Yo ?_)|fail))
        refine tl_load (o_loadA (cs := edCells e) rfl rfl fun w hw q v hq => ?_) rfl ?_
        · have := hcells hw (fun p hp => by simp [hp]) _ v (ed_get he q v hq)
          rwa [add_mk, Nat.zero_add] at this
        (repeat' (first|refine Zc ?_|refine Zd ?_|refine Zu tab rfl rfl ?_|(apply Ye;refine Yf ?_)|refine Yk rfl fun _=>?_|fail))
        rename_i b15
        have hok := edgesAll_ok hem
        obtain ⟨he1, he2⟩ := heb e hem
        have hyb : -268435456 ≤ rowY (rowOf low) i ∧ rowY (rowOf low) i ≤ 268435456 := by
          have h1 := hok.y0; have h2 := hok.y1
          simp only [crB, Bool.and_eq_true] at hec
          have h3 := of_decide_eq_true hec.1; have h4 := of_decide_eq_true hec.2
          omega
        obtain ⟨hb1, hb2⟩ := atN_bd hok hyb
        have hx0 := hok.x0; have hx1 := hok.x1; have hy0 := hok.y0; have hy1 := hok.y1; have hup := hok.up
        have hi : CDet Try.prog 44 [.agg (edCells e).toArray, .int .i64 ((rowOf low + i) * 64 + 32)] (pl (atN e (rowY (rowOf low) i)) (atD e)) := ⟨at_det e.1 e.2.1 e.2.2.1 e.2.2.2.1 e.2.2.2.2 (rowY (rowOf low) i) (by omega) (by omega) (by omega) (by omega) (by omega) (by omega)⟩
        refine t_drawW 8 [(0, .v), (1, .v), (2, .v), (3, .v), (5, .v), (6, .v), (4, .e), (7, .v)] ?_ rfl (by kernel_rfl) (by kernel_rfl) rfl (by kernel_rfl) mixed (by kernel_rfl) rfl
        (repeat' (first|refine Yz rfl ?_|refine Vd tab ?_|(apply Vf;refine Vg ?_)|(apply Vn;refine Vo ?_)|(apply Vp;refine Vq ?_)|fail))
        refine dw_end [0, 5, 6, 7, 10, 11, 12, 13, 72, 73, 74, 79, 80, 86] (rest := []) rfl ?_
        (repeat' (first|(apply Yn;refine Yo ?_)|fail))
        have hcl := crsT_len (rowY (rowOf low) i) ac j hj
        refine tl_store (o_storeBk 1 (m := 3) (vs := crCells (crOf (rowY (rowOf low) i) e)) rfl rfl rfl rfl rfl (by rw [cr_len]; omega)) ?_
        rw [cr_put (by omega), crsT_set _ _ _ _ he]
        (repeat' (first|refine Zb ?_|refine Zc ?_|refine Zd ?_|refine Zi ?_|refine Zu tab rfl rfl ?_|(apply Yc;refine Yd ?_)|fail))
        exact xt_roundK (j + 1) rfl ⟨rfl, trivial⟩ (by omega) (by omega) fun w hw => hw.sublist (.cons _ (List.Sublist.refl _))
      · obtain rfl : j = ac.length := by have := of_decide_eq_false h; omega
        rw [crsT_all]
        have hcok : ∀ c ∈ ac.map (crOf (rowY (rowOf low) i)), CrOk c := fun c hc => by
          obtain ⟨e, he, rfl⟩ := List.mem_map.1 hc
          obtain ⟨h1, h2⟩ := hcr e he
          obtain ⟨h3, h4⟩ := heb e h1
          exact crOf_ok (edgesAll_ok h1) h2 (by omega)
        have hsl : (sortCr (ac.map (crOf (rowY (rowOf low) i)))).length = ac.length := by rw [(sortCr_spec hcok).1.length_eq, List.length_map]
        (repeat' (first|refine Za ?_|refine Zb ?_|refine Zc ?_|refine Zh ?_|refine Zj ?_|refine Zl ?_|refine Zq ?_|refine Zu tab rfl rfl ?_|fail))
        refine tl_call (u := .tuple #[]) (o_wrote 0 rfl rfl fun w o ho hq => by
          have := sort_calls _ hcok (by rw [List.length_map]; omega) bc ac.length w o ho hq
          rwa [List.length_map] at this) rfl ?_
        (repeat' (first|refine Za ?_|refine Zb ?_|refine Zc ?_|refine Zd ?_|refine Zu tab rfl rfl ?_|fail))
        have hsucc := rowsX_succ (rowOf low) (edgesAll ls) hin
        refine tl_yield2 (Enc := EncR) (y := rowX (rowOf low) (edgesAll ls) i) hloc (fun _ _ _ h k hk => ((hdata _ _ _ h).1 k hk).2) hY (by rw [← hsucc]; exact List.take_prefix _ _) hJ1 hX1 hB1 rfl rfl (fun w hw => ?_) rfl fun w3 ids3 hJ3 hB3 hX3 => ?_
        · have hm := hw.mine (bc, bx ((sortCr (ac.map (crOf (rowY (rowOf low) i)))).flatMap crCells) 108) (List.mem_cons_self ..)
          refine ⟨bc, ?_, ?_, ?_, ?_⟩
          · unfold rowX
            rw [hac]
            simp only [hsl]
          · rcases hm with h | h
            · exact Nat.le_trans hB1 h
            · exact (hX1 _ h).1
          · rcases hm with h | h
            · intro hi; have := (hfp _ hi).2; simp only at h; omega
            · exact (hX1 _ h).2
          · have := hw.get (List.mem_cons_self ..)
            unfold rowX
            rw [hac]
            exact this
        · try dsimp only [List.cons_append, List.nil_append, List.map_cons, List.map_nil]
          (repeat' (first|refine Zb ?_|refine Zc ?_|refine Zd ?_|refine Zf ?_|refine Zi ?_|refine Zu tab rfl rfl ?_|(apply Yc;refine Yd ?_)|refine Yy rfl ?_|fail))
          refine xt_roundJ (i + 1, .slice A2 ac.length c2, Lv2) rfl ⟨rfl, by show some (Value.int .i64 (rowOf low + i + 1)) = _; rw [Int.add_assoc]; rfl, trivial⟩ ⟨hin, by rw [← hs2, hac]; exact hv2⟩ (by simp only; omega) fun w hw => ?_
          have hw2 : St w3 _ ([(b7, bx [.slice (some ⟨R, 0, none⟩) N N] 103), (b5, bx [.int .i64 (rowOf low)] 2), (R, bx ((List.range N).map bv) 104)] ++ (BL N Lb ++ [(db, defO)] ++ Lv2)) w := hw.sublist (.cons _ (.cons _ (List.Sublist.refl _)))
          refine St.hd (hw2.perm perm_back) (ids := ids3) (by rw [hsucc]; exact hJ3) (hloc _) hX3 hB3 (fun k hk => ((hdata _ _ _ hJ3).1 k hk).2)
    · have hiN : i = N := by have := of_decide_eq_false h; omega
      rw [List.take_of_length_le (by simp [rowsX]; omega)] at hJ1
      (repeat' (first|refine Zh ?_|refine Zj ?_|refine Zl ?_|refine Zs ?_|fail))
      refine xt_endM0 (L := (b7, bx [.slice (some ⟨R, 0, none⟩) N N] 103) :: (b5, bx [.int .i64 (rowOf low)] 2) :: (R, bx ((List.range N).map bv) 104) :: (Lva ++ BL N Lb)) rfl fun w' hw' => ⟨⟨_, rfl⟩, ?_⟩
      obtain ⟨ids', h1, _⟩ := St.hd hw' hJ1 (hloc _) hX1 hB1 (fun k hk => (hfp k hk).2)
      exact ⟨ids', h1⟩

end Go.Proofs.Ytbgolbkolcmldaa
