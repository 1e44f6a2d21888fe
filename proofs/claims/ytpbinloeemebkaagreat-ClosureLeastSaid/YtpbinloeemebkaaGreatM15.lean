/-
  DERIVED: THE SHELF's CONTRACTS AT THIS DUMP, IN PLAIN WORDS (tools/lay-plain.mjs out of 'YtpbinloeemebkaaGreatSortIn.lean', which tools/lay-shelf.mjs wrote): THE SAME DECLARATIONS UNDER THE SAME NAMES: 'import', 'namespace', 'open', 'def', 'theorem' AND NOTHING ELSE: no command of the shelf's: FOR A HAND-IN. Each laying: the table of numbers ('.._ren') and one theorem, a field a fact of the dump's own or the kernel's comparison; each contract: ONE APPLICATION.
-/
import Derived.Shelf.Slices.In.SortNone
import Derived.Shelf.Slices.In.SortAlone
import Derived.Ground.NamesProg
import Derived.Test.YtpbinloeemebkaaGreatProg
import Derived.Test.YtpbinloeemebkaaGreatM11
import Derived.Lib.SortBridge
import Derived.Test.YtpbinloeemebkaaGreatM14
namespace Go.Proofs
open Go.Shelf
def Tryz.laysSort_ren : Go.Shelf.Ren := ⟨fun | 189 => 52 | 125 => 73 | 257 => 72 | 128 => 145 | 129 => 146 | 294 => 136 | 295 => 137 | 296 => 138 | 297 => 139 | 298 => 140 | 299 => 141 | 216 => 142 | 300 => 143 | 301 => 144 | 328 => 215 | 329 => 216 | 330 => 217 | 331 => 218 | 332 => 219 | 215 => 220 | 343 => 266 | n => n, fun | 28 => 29 | 3 => 3 | 46 => 163 | 0 => 0 | 51 => 239 | 53 => 241 | 4 => 4 | 183 => 232 | 182 => 231 | 131 => 217 | 5 => 5 | 9 => 9 | 218 => 290 | 222 => 294 | 228 => 323 | 229 => 324 | n => n, fun | n => n⟩
theorem Tryz.laysSort : Go.Proofs.Lays.n189 Tryz.prog Tryz.laysSort_ren := {
  mixed := by kernel_rfl
  f125 := Tryz.func73.trans (congrArg some (by kernel_rfl))
  f128 := Tryz.func145.trans (congrArg some (by kernel_rfl))
  f129 := Tryz.func146.trans (congrArg some (by kernel_rfl))
  f189 := Tryz.func52.trans (congrArg some (by kernel_rfl))
  f215 := Tryz.func220.trans (congrArg some (by kernel_rfl))
  f216 := Tryz.func142.trans (congrArg some (by kernel_rfl))
  f257 := Tryz.func72.trans (congrArg some (by kernel_rfl))
  f294 := Tryz.func136.trans (congrArg some (by kernel_rfl))
  f295 := Tryz.func137.trans (congrArg some (by kernel_rfl))
  f296 := Tryz.func138.trans (congrArg some (by kernel_rfl))
  f297 := Tryz.func139.trans (congrArg some (by kernel_rfl))
  f298 := Tryz.func140.trans (congrArg some (by kernel_rfl))
  f299 := Tryz.func141.trans (congrArg some (by kernel_rfl))
  f300 := Tryz.func143.trans (congrArg some (by kernel_rfl))
  f301 := Tryz.func144.trans (congrArg some (by kernel_rfl))
  f328 := Tryz.func215.trans (congrArg some (by kernel_rfl))
  f329 := Tryz.func216.trans (congrArg some (by kernel_rfl))
  f330 := Tryz.func217.trans (congrArg some (by kernel_rfl))
  f331 := Tryz.func218.trans (congrArg some (by kernel_rfl))
  f332 := Tryz.func219.trans (congrArg some (by kernel_rfl))
  f343 := Tryz.func266.trans (congrArg some (by kernel_rfl))
  t0 := Tryz.underlying0
  a0 := Tryz.isAgg0
  z0 := Tryz.sizeOf0
  v0 := Tryz.zeroValue0
  t3 := Tryz.underlying3
  a3 := Tryz.isAgg3
  z3 := Tryz.sizeOf3
  v3 := Tryz.zeroValue3
  t4 := Tryz.underlying4
  a4 := Tryz.isAgg4
  z4 := Tryz.sizeOf4
  v4 := Tryz.zeroValue4
  t5 := Tryz.underlying5
  a5 := Tryz.isAgg5
  z5 := Tryz.sizeOf5
  v5 := Tryz.zeroValue5
  t9 := Tryz.underlying9
  a9 := Tryz.isAgg9
  z9 := Tryz.sizeOf9
  v9 := Tryz.zeroValue9
  t28 := Tryz.underlying29
  a28 := Tryz.isAgg29
  z28 := Tryz.sizeOf29
  v28 := Tryz.zeroValue29
  t46 := Tryz.underlying163
  a46 := Tryz.isAgg163
  z46 := Tryz.sizeOf163
  v46 := Tryz.zeroValue163
  t51 := Tryz.underlying239
  a51 := Tryz.isAgg239
  z51 := Tryz.sizeOf239
  v51 := Tryz.zeroValue239
  t53 := Tryz.underlying241
  a53 := Tryz.isAgg241
  z53 := Tryz.sizeOf241
  v53 := Tryz.zeroValue241
  t131 := Tryz.underlying217
  a131 := Tryz.isAgg217
  z131 := Tryz.sizeOf217
  v131 := Tryz.zeroValue217
  t182 := Tryz.underlying231
  a182 := Tryz.isAgg231
  z182 := Tryz.sizeOf231
  v182 := Tryz.zeroValue231
  t183 := Tryz.underlying232
  a183 := Tryz.isAgg232
  z183 := Tryz.sizeOf232
  v183 := Tryz.zeroValue232
  t218 := Tryz.underlying290
  a218 := Tryz.isAgg290
  z218 := Tryz.sizeOf290
  v218 := Tryz.zeroValue290
  t222 := Tryz.underlying294
  a222 := Tryz.isAgg294
  z222 := Tryz.sizeOf294
  v222 := Tryz.zeroValue294
  t228 := Tryz.underlying323
  a228 := Tryz.isAgg323
  z228 := Tryz.sizeOf323
  v228 := Tryz.zeroValue323
  t229 := Tryz.underlying324
  a229 := Tryz.isAgg324
  z229 := Tryz.sizeOf324
  v229 := Tryz.zeroValue324 }
end Go.Proofs

namespace Go.Proofs.YtpbinloeemebkaaGreat
open Go.RowKit Go.Shelf Go.Sort
def sorted (l : List Int) : List Int := l.mergeSort fun x y => decide (x ≤ y)
theorem sorted_len (l : List Int) : (sorted l).length = l.length := by simp [sorted]
theorem sort_calls (b n : Nat) (l : List Int) (w : World) (hn : l.length = n) (hl : n ≤ 1000000) (hb : w.heap[b]? = some (.cells (l.map (Value.int .i64)).toArray 3 (0, 0))) :
    Calls Tryz.prog 52 #[.slice (some ⟨b, 0, none⟩) n n] w fun e w' => e = .returned (.tuple #[]) ∧ w.grownBy w' (some b) ∧ w'.heap[b]? = some (.cells ((sorted l).map (Value.int .i64)).toArray 3 (0, 0)) := by
  have hH : Holds (Value.int .i64) w b 0 l.toArray := by
    intro j hj
    have hj' : j < l.length := by simpa using hj
    rw [Nat.zero_add, cell_of hb, frozen_of hb]
    refine ⟨?_, rfl⟩
    simp [hj']
  have hlt : b < w.heap.size := (Array.getElem?_eq_some_iff.1 hb).1
  subst hn
  have h := calls_of_every_depth fun D => AnyS.slices_Sort_int_alone Tryz.laysSort D b 0 l.length l w hH hlt (by omega)
  refine Calls.mono h fun e w' ⟨he, q, os, hw⟩ => ⟨he, ?_⟩
  rw [Lib.sorted_world _ w b 0 q _ _ os hH (by simp), show (l.mergeSort fun x y => decide (x ≤ y)) = sorted l from rfl] at hw
  have hb' : (w.drewN q).heap[b]? = some (.cells (l.map (Value.int .i64)).toArray 3 (0, 0)) := hb
  obtain ⟨hg, cs', hh, hs', hj⟩ := setCells_heap b ((sorted l).map (Value.int .i64)) 0 (w.drewN q) _ 3 (0, 0) hb'
  have hsz : (w.drewN q).heap.size = w.heap.size := rfl
  have hgs := hg.size
  subst hw
  refine ⟨⟨hg.os, hg.tape, hg.output, ?_, fun k hk hkb => ?_⟩, ?_⟩
  · show w.heap.size ≤ (((w.drewN q).setCells b 0 ((sorted l).map (Value.int .i64))).heap ++ os).size
    rw [Array.size_append]
    exact Nat.le_trans hgs (Nat.le_add_right _ _)
  · show (((w.drewN q).setCells b 0 ((sorted l).map (Value.int .i64))).heap ++ os)[k]? = _
    rw [Array.getElem?_append_left (Nat.lt_of_lt_of_le hk hgs)]
    exact hg.block k hk hkb
  · show (((w.drewN q).setCells b 0 ((sorted l).map (Value.int .i64))).heap ++ os)[b]? = _
    rw [Array.getElem?_append_left (Nat.lt_of_lt_of_le hlt hgs)]
    refine hh.trans ?_
    congr 2
    apply Array.ext_getElem?
    intro j
    rw [hj j]
    simp only [List.length_map, sorted_len, List.size_toArray, List.getElem?_toArray]
    by_cases hjl : j < l.length
    · rw [if_pos (by omega)]; rfl
    · rw [if_neg (by omega), List.getElem?_eq_none (by simpa using hjl), List.getElem?_eq_none (by simpa [sorted_len] using hjl)]
theorem sort_ac (b n : Nat) (l : List Int) (hn : l.length = n) (hl : n ≤ 1000000) : AC Tryz.prog 52 [.sc (.slice (some ⟨b, 0, none⟩) n n)] [(b, .box (l.map I64) 3)] fun _ L => L = [(b, .box ((sorted l).map I64) 3)] := by
  intro σ w vs hv hst
  obtain ⟨v, ws, rfl, h1, h2⟩ := hv.inv
  rw [h2.nil_inv, h1.sc_inv]
  obtain ⟨o, ho, us, rfl, hus, hu1⟩ := hst.here _ (List.mem_cons_self ..)
  have hmap : ∀ (l : List Int) (us : List Value), VRs σ (l.map I64) us → us = l.map (Value.int .i64) := by
    intro l
    induction l with
    | nil => intro us h; exact h.nil_inv
    | cons z l ih =>
      intro us h
      obtain ⟨v, ws, rfl, h1, h2⟩ := h.inv
      rw [h1.sc_inv, ih ws h2]
      rfl
  have e := hmap l us hus
  subst e
  refine (sort_calls b n l w hn hl ho).mono fun e w' ⟨he, hg, hh⟩ => ⟨_, σ, .tup [], _, he, .tup [] [] rfl (fun i c u h => by simp at h), ?_, rfl⟩
  refine hst.put (fun _ => trivial) hg hh ⟨_, rfl, ⟨by simp, fun i c u hc hu => ?_⟩, fun u hu => ?_⟩
  · rw [List.getElem?_map] at hc hu
    cases hz : (sorted l)[i]? with
    | none => rw [hz] at hc; cases hc
    | some z => rw [hz] at hc hu; cases hc; cases hu; exact .sc _
  · obtain ⟨z, _, rfl⟩ := List.mem_map.1 hu
    rfl
theorem sorted_perm (l : List Int) : (sorted l).Perm l := List.mergeSort_perm ..
theorem sorted_le (l : List Int) : (sorted l).Pairwise (· ≤ ·) := by
  have := List.pairwise_mergeSort (le := fun x y : Int => decide (x ≤ y)) (fun a b c h1 h2 => by simp at *; omega) (fun a b => by simp; omega) l
  exact this.imp fun h => by simpa using h
theorem sorted_set {n : Nat} {l : List Int} (h : SetOk n l) : sorted l = setN l n := by
  have h1 : (sorted l).Pairwise (· < ·) := by
    have hn : (sorted l).Nodup := (sorted_perm l).nodup_iff.2 h.nodup
    have hp := sorted_le l
    rw [List.nodup_iff_pairwise_ne] at hn
    exact (hp.and hn).imp fun ⟨a, b⟩ => by omega
  have h2 : (setN l n).Pairwise (· < ·) := by
    unfold setN
    refine List.Pairwise.filter _ ?_
    rw [List.pairwise_map]
    exact List.pairwise_lt_range.imp fun h => by simpa using h
  have hmem : ∀ z, z ∈ sorted l ↔ z ∈ setN l n := fun z => by
    rw [(sorted_perm l).mem_iff, setN_mem]
    exact ⟨fun hz => ⟨hz, h.dom z hz⟩, fun hz => hz.1⟩
  have hp : (sorted l).Perm (setN l n) := by
    rw [List.perm_ext_iff_of_nodup]
    · exact hmem
    · exact (sorted_perm l).nodup_iff.2 h.nodup
    · exact setN_nodup l n
  exact List.Perm.eq_of_pairwise (le := fun a b : Int => a < b) (fun a b _ _ h1 h2 => by omega) h1 h2 hp
end Go.Proofs.YtpbinloeemebkaaGreat

namespace Go.Proofs.YtpbinloeemebkaaGreat
open Go.RowKit
attribute [local irreducible] AT ATL AX AO Av Kt ALoopK OkA DA DA1
def filled (l : List Int) (i : Nat) : List AV := (l.take i ++ List.replicate (l.length - i) 0).map I64
theorem fillLen (l : List Int) {i : Nat} (h : i ≤ l.length) : (filled l i).length = l.length := by simp [filled]; omega
theorem fillNil (l : List Int) (m : Nat) (hm : m = l.length) : (List.replicate m [I64 0]).flatten = filled l 0 := by
  subst hm
  unfold filled
  rw [List.take_zero, List.nil_append, Nat.sub_zero, List.map_replicate]
  generalize l.length = m
  induction m with
  | zero => rfl
  | succ m ih => rw [List.replicate_succ, List.flatten_cons, ih, List.replicate_succ]; rfl
theorem fillSet {l : List Int} {i : Nat} {z : Int} (h : l[i]? = some z) : (filled l i).set (0 + (i : Int).toNat * 1) (I64 z) = filled l (i + 1) := by
  have hi := (List.getElem?_eq_some_iff.1 h).1
  rw [Nat.zero_add, Nat.mul_one, Int.toNat_natCast]
  unfold filled
  rw [← List.map_set (f := I64)]
  congr 1
  rw [List.set_append_right _ _ (by simp; omega), List.take_add_one, h, List.append_assoc]
  congr 1
  rw [show l.length - i = (l.length - (i + 1)) + 1 by omega, List.replicate_succ, show i - (l.take i).length = 0 by simp; omega]
  rfl
theorem fillAll (l : List Int) : filled l l.length = l.map I64 := by simp [filled]
theorem ints_flat (l : List Int) : (ints l).flatten = l.map I64 := by
  unfold ints
  induction l with
  | nil => rfl
  | cons z l ih => rw [List.map_cons, List.flatten_cons, ih]; rfl
theorem risingLk (p b n : Nat) (k : Option (Nat × Nat)) (l : List Int) (hl : l.length ≤ 1000000) : AC Tryz.prog 30 [Ptr p] (setLk p b n k l) fun c L => c = .imm 1 (ints (sorted l)) ∧ L = setLk p b n k l := by
  refine ac_of Tryz.func30 rfl Tryz.ntmps30 rfl fun B => ?_
  (repeat' (first|refine at_seq ?_|refine at_region ?_|refine ax_then ?_|refine atl_nil ?_|refine n_run ttok rfl rfl ?_|(apply s_load; first|refine n_load ttok 0 rfl rfl rfl rfl rfl ?_|refine n_load ttok 1 rfl rfl rfl rfl rfl ?_|refine n_load ttok 2 rfl rfl rfl rfl rfl ?_|refine n_load ttok 3 rfl rfl rfl rfl rfl ?_|refine n_loadA ttok 0 rfl rfl rfl rfl rfl ?_|refine n_loadA ttok 1 rfl rfl rfl rfl rfl ?_|refine n_loadA ttok 2 rfl rfl rfl rfl rfl ?_|refine n_load ttok 1 rfl rfl rfl (by assumption) rfl ?_|refine n_load ttok 0 rfl rfl rfl (by assumption) rfl ?_|fail)|fail))
  refine n_make ttok l.length rfl rfl rfl rfl rfl (by rw [ints_len]) (by rw [ints_len]) (by omega) (by omega) rfl fun b3 => ?_
  rw [show (List.replicate l.length (List.map AV.sc [Value.int .i64 0])).flatten = filled l 0 from fillNil l _ rfl]
  (repeat' (first|refine at_seq ?_|refine at_region ?_|refine at_block ?_|refine ax_then ?_|refine atl_nil ?_|refine n_run ttok rfl rfl ?_|(apply s_load; first|refine n_load ttok 0 rfl rfl rfl rfl rfl ?_|refine n_load ttok 1 rfl rfl rfl rfl rfl ?_|refine n_load ttok 2 rfl rfl rfl rfl rfl ?_|refine n_load ttok 3 rfl rfl rfl rfl rfl ?_|refine n_loadA ttok 0 rfl rfl rfl rfl rfl ?_|refine n_loadA ttok 1 rfl rfl rfl rfl rfl ?_|refine n_loadA ttok 2 rfl rfl rfl rfl rfl ?_|refine n_load ttok 1 rfl rfl rfl (by assumption) rfl ?_|refine n_load ttok 0 rfl rfl rfl (by assumption) rfl ?_|fail)|fail))
  refine at_loopK [3, 15, 16] (α := Nat) (fun i => [(17, I64 i)]) (fun i => i ≤ l.length) (fun i => (b3, .box (filled l i) 3) :: setLk p b n k l) (fun i => l.length - i) 0 rfl ⟨rfl, trivial⟩ (Nat.zero_le _) (fun _ _ h => h) fun i hi => ?_
  try dsimp only [List.cons_append, List.nil_append, List.map_cons, List.map_nil]
  (repeat' (first|refine at_seq ?_|refine at_region ?_|refine ax_then ?_|refine atl_nil ?_|refine n_run ttok rfl rfl ?_|fail))
  refine at_cond rfl (fun h => ?_) (fun h => ?_)
  · have hil : i < l.length := by have := of_decide_eq_true h; simp [ints_len] at this; omega
    obtain ⟨z, hz⟩ : ∃ z, l[i]? = some z := ⟨_, List.getElem?_eq_getElem hil⟩
    have hzg := ints_get hz
    (repeat' (first|refine at_seq ?_|refine at_region ?_|refine at_block ?_|refine at_skip ?_|refine ax_then ?_|refine atl_nil ?_|refine n_run ttok rfl rfl ?_|(apply s_index; first|refine n_index ttok ?_|refine n_indexP ttok ?_)|fail))
    refine n_store ttok 0 rfl rfl rfl rfl rfl rfl (by rw [Nat.ble_eq, fillLen l hi]; show _ + 1 ≤ l.length; omega) ?_
    rw [putA_one, fillSet hz]
    (repeat' (first|refine at_region ?_|refine ax_then ?_|refine ax_blk ?_|refine atl_nil ?_|refine n_run ttok rfl rfl ?_|(apply s_bin; refine n_bin ?_)|fail))
    exact ax_roundK (i + 1) rfl ⟨by rw [Int.natCast_add]; rfl, trivial⟩ (by omega) (by omega) (fun _ _ h => h)
  · have hil : i = l.length := by have := of_decide_eq_false h; simp [ints_len] at this; omega
    subst hil
    rw [fillAll]
    (repeat' (first|refine at_seq ?_|refine at_region ?_|refine at_exit ?_|refine ax_then ?_|refine ax_then_exit ?_|refine ax_blk_exit ?_|refine ax_loop_exit ?_|refine n_run ttok rfl rfl ?_|fail))
    refine n_callA [(b3, .box (l.map I64) 3)] (setLk p b n k l) (sort_ac b3 l.length l rfl hl) rfl rfl (List.Perm.refl _) rfl fun c L1 hL1 => ?_
    subst hL1
    (repeat' (first|refine at_seq ?_|refine at_region ?_|refine at_ret ?_|refine ax_then ?_|refine atl_nil ?_|refine n_run ttok rfl rfl ?_|fail))
    refine ax_turn (turn_box (t := 2) (sz := 1) (l := ints (sorted l)) 0 rfl rfl (ints_flat _).symm (by simp [ints]) (by rw [ints_len, sorted_len]) (by omega)) ?_
    exact ax_drop (List.sublist_cons_self ..) (ax_ret1I rfl rfl rfl ⟨rfl, rfl⟩)
end Go.Proofs.YtpbinloeemebkaaGreat

namespace Go.Proofs.YtpbinloeemebkaaGreat
open Go.RowKit
attribute [local irreducible] AT ATL AX AO Av Kt ALoopK OkA DA DA1
theorem setUp {n i : Nat} (h : i < n) : (filled (upTo n) i).set (0 + (i : Int).toNat * 1) (I64 i) = filled (upTo n) (i + 1) := fillSet (upTo_get h)
set_option maxHeartbeats 1000000 in
theorem order_ac (f : FFont) (hf : Few f) (hr : Acyc f.Glyphs.length (prt f) ∨ AC Tryz.prog 235 [aFont f] [] fun c _ => ∃ z : Int, c = I64 z) : AC Tryz.prog 162 [aFont f] [] fun c _ => (∃ T, c = .tup [.imm 1 (ints T), I64 0, I64 0] ∧ KDone f.Glyphs.length (prt f) T ∧ T.length = f.Glyphs.length) ∨ (¬ Acyc f.Glyphs.length (prt f) ∧ ∃ z : Int, c = .tup [.imm 1 [], I64 z, I64 33]) := by
  refine ac_of Tryz.func162 rfl Tryz.ntmps162 rfl fun B => ?_
  have hn := hf.n
  have hln := line_ac f hf
  have hml : (f.Glyphs.map cGlyph).length = f.Glyphs.length := List.length_map ..
  generalize hN : f.Glyphs.length = n at *
  (repeat' (first|refine at_seq ?_|refine at_region ?_|refine ax_then ?_|refine atl_nil ?_|refine n_run ttok rfl rfl ?_|refine n_boxI ?_|fail))
  rw [hml]
  refine n_make ttok n rfl rfl rfl rfl rfl rfl rfl (by omega) (by omega) rfl fun b => ?_
  rw [show (List.replicate n (List.map AV.sc [Value.int .i64 0])).flatten = filled (upTo n) 0 from fillNil (upTo n) n (upTo_len n).symm]
  have hul := upTo_len n
  (repeat' (first|refine at_seq ?_|refine at_region ?_|refine at_block ?_|refine ax_then ?_|refine atl_nil ?_|refine n_run ttok rfl rfl ?_|fail))
  refine at_loopK [1, 5, 13] (α := Nat) (fun i => [(14, I64 i)]) (fun i => i ≤ n) (fun i => [(b, .box (filled (upTo n) i) 3)]) (fun i => n - i) 0 rfl ⟨rfl, trivial⟩ (Nat.zero_le _) (fun _ _ h => h) fun i hi => ?_
  try dsimp only [List.cons_append, List.nil_append, List.map_cons, List.map_nil]
  (repeat' (first|refine at_seq ?_|refine at_region ?_|refine ax_then ?_|refine atl_nil ?_|refine n_run ttok rfl rfl ?_|fail))
  refine at_cond rfl (fun h => ?_) (fun h => ?_)
  · have hil : i < n := by have := of_decide_eq_true h; omega
    (repeat' (first|refine at_seq ?_|refine at_region ?_|refine at_block ?_|refine at_skip ?_|refine ax_then ?_|refine atl_nil ?_|refine n_run ttok rfl rfl ?_|(apply s_index; first|refine n_index ttok ?_|refine n_indexP ttok ?_)|fail))
    refine n_store ttok 0 rfl rfl rfl rfl rfl rfl (by rw [Nat.ble_eq, fillLen (upTo n) (by omega), hul]; show _ + 1 ≤ n; omega) ?_
    rw [putA_one, setUp hil]
    (repeat' (first|refine at_region ?_|refine ax_then ?_|refine ax_blk ?_|refine atl_nil ?_|refine n_run ttok rfl rfl ?_|(apply s_bin; refine n_bin ?_)|fail))
    exact ax_roundK (i + 1) rfl ⟨by rw [Int.natCast_add]; rfl, trivial⟩ (by omega) (by omega) (fun _ _ h => h)
  · have hil : i = n := by have := of_decide_eq_false h; omega
    subst hil
    clear h
    rw [show filled (upTo i) i = (upTo i).map I64 by have := fillAll (upTo i); rw [hul] at this; exact this]
    refine at_turn (turn_box (t := 5) (sz := 1) (l := ints (upTo i)) 0 rfl rfl (ints_flat _).symm (by simp [ints]) (by rw [ints_len, hul]) (by omega)) ?_
    (repeat' (first|refine at_seq ?_|refine at_region ?_|refine at_exit ?_|refine ax_then ?_|refine ax_then_exit ?_|refine ax_blk_exit ?_|refine ax_loop_exit ?_|refine n_run ttok rfl rfl ?_|fail))
    refine n_callA [] _ hln rfl rfl (List.Perm.refl _) rfl fun c L1 ⟨T, hc, hT⟩ => ?_
    subst hc
    have hTl := ints_len T
    have hIl := ints_len (upTo i)
    have hTn := hT.len
    rw [hul] at hIl
    refine atl_turn (turn_sub (List.nil_sublist _)) ?_
    (repeat' (first|refine at_seq ?_|refine at_region ?_|refine ax_then ?_|refine atl_nil ?_|refine n_run ttok rfl rfl ?_|fail))
    refine at_cond rfl (fun h => ?_) (fun h => ?_)
    · have hlt := of_decide_eq_true h
      rw [hTl, hIl] at hlt
      have hna : ¬ Acyc i (prt f) := fun ha => by
        have := hT.len_all (hT.all ha fun g p hp => by have := prt_in hp; rw [hN] at this; exact this)
        omega
      rcases hr with hr | hr
      · exact absurd hr hna
      (repeat' (first|refine at_seq ?_|refine at_region ?_|refine n_run ttok rfl rfl ?_|fail))
      refine n_callA [] [] hr rfl rfl (List.Perm.refl _) rfl fun c L1 ⟨z, hc⟩ => ?_
      subst hc
      (repeat' (first|refine at_ret ?_|refine ax_then ?_|refine ax_then_ret ?_|refine atl_nil ?_|refine n_run ttok rfl rfl ?_|fail))
      refine ax_turn (turn_val (t := 2) (c' := .imm 1 []) rfl fun σ v h => vr_nilI 1 h) ?_
      exact ax_retR (cs := [.imm 1 [], I64 z, I64 33]) ⟨rfl, rfl, rfl, trivial⟩ (.inr ⟨hna, z, rfl⟩)
    · have hlt := of_decide_eq_false h
      rw [hTl, hIl] at hlt
      (repeat' (first|refine at_seq ?_|refine at_region ?_|refine at_skip ?_|refine at_ret ?_|refine ax_then ?_|refine atl_nil ?_|refine n_run ttok rfl rfl ?_|fail))
      exact ax_retR (cs := [.imm 1 (ints T), I64 0, I64 0]) ⟨rfl, rfl, rfl, trivial⟩ (.inl ⟨T, rfl, hT, by omega⟩)
end Go.Proofs.YtpbinloeemebkaaGreat

namespace Go.Proofs.YtpbinloeemebkaaGreat
open Go.RowKit
attribute [local irreducible] AT ATL AX AO Av Kt ALoopK OkA DA DA1
def dF (D : Int → Int) (ps : List FPart) : Int := ps.foldl (fun a p => max a (D p.Glyph + 1)) 0
def pF (P : Int → Int) (ps : List FPart) (k : Int) : Int := ps.foldl (fun a p => min (a + P p.Glyph) 1001) k
def cellsF (n : Nat) (D : Int → Int) : List AV := (upTo n).map fun z => I64 (D z)
def updF (D : Int → Int) (z v : Int) : Int → Int := fun q => if q = z then v else D q
theorem updF_self {D : Int → Int} {z v : Int} : updF D z v z = v := by simp [updF]
theorem updF_ne {D : Int → Int} {z v q : Int} (h : q ≠ z) : updF D z v q = D q := by simp [updF, h]
theorem updF_updF (D : Int → Int) (z v w : Int) : updF (updF D z v) z w = updF D z w := by
  funext q
  unfold updF
  by_cases e : q = z
  · rw [if_pos e, if_pos e]
  · rw [if_neg e, if_neg e, if_neg e]
theorem cellsF_len (n : Nat) (D : Int → Int) : (cellsF n D).length = n := by simp [cellsF, upTo]
theorem cellsF_get {n : Nat} {D : Int → Int} {z : Int} (h0 : 0 ≤ z) (h1 : z < n) : (cellsF n D)[0 + z.toNat * 1]? = some (I64 (D z)) := by
  rw [Nat.zero_add, Nat.mul_one]
  unfold cellsF
  rw [List.getElem?_map, upTo_get (by omega), Option.map_some, show ((z.toNat : Nat) : Int) = z by omega]
theorem cellsF_set {n : Nat} {D : Int → Int} {z v : Int} (h0 : 0 ≤ z) (h1 : z < n) : (cellsF n D).set (0 + z.toNat * 1) (I64 v) = cellsF n (updF D z v) := by
  rw [Nat.zero_add, Nat.mul_one]
  apply List.ext_getElem?
  intro i
  rw [List.getElem?_set, cellsF_len]
  unfold cellsF updF
  by_cases hi : z.toNat = i
  · subst hi
    rw [if_pos rfl, if_pos (by omega), List.getElem?_map, upTo_get (by omega), Option.map_some, if_pos (by omega)]
  · rw [if_neg hi, List.getElem?_map, List.getElem?_map]
    by_cases hn : i < n
    · rw [upTo_get hn, Option.map_some, Option.map_some, if_neg (by omega)]
    · rw [List.getElem?_eq_none (by rw [upTo_len]; omega)]; rfl
theorem cellsF_zero (n : Nat) : (List.replicate n [I64 0]).flatten = cellsF n fun _ => 0 := by
  rw [fillNil (upTo n) n (upTo_len n).symm]
  unfold filled cellsF
  rw [List.take_zero, List.nil_append, Nat.sub_zero, upTo_len, List.map_replicate]
  apply List.ext_getElem?
  intro i
  rw [List.getElem?_replicate, List.getElem?_map]
  by_cases h : i < n
  · rw [if_pos h, upTo_get h]; rfl
  · rw [if_neg h, List.getElem?_eq_none (by rw [upTo_len]; omega)]; rfl
theorem dF_take {D : Int → Int} {ps : List FPart} {j : Nat} {p : FPart} (h : ps[j]? = some p) : dF D (ps.take (j + 1)) = max (dF D (ps.take j)) (D p.Glyph + 1) := by
  unfold dF
  rw [List.take_add_one, h, Option.toList_some, List.foldl_append]
  rfl
theorem pF_take {P : Int → Int} {ps : List FPart} {k : Int} {j : Nat} {p : FPart} (h : ps[j]? = some p) : pF P (ps.take (j + 1)) k = min (pF P (ps.take j) k + P p.Glyph) 1001 := by
  unfold pF
  rw [List.take_add_one, h, Option.toList_some, List.foldl_append]
  rfl
theorem foldl_same {α β : Type} {F G : α → β → α} : ∀ (l : List β) (a : α), (∀ b ∈ l, ∀ a, F a b = G a b) → l.foldl F a = l.foldl G a
  | [], _, _ => rfl
  | b :: l, a, h => by rw [List.foldl_cons, List.foldl_cons, h b (List.mem_cons_self ..)]; exact foldl_same l _ fun c hc => h c (List.mem_cons_of_mem _ hc)
theorem dF_congr {D D' : Int → Int} {ps : List FPart} (h : ∀ p ∈ ps, D p.Glyph = D' p.Glyph) : dF D ps = dF D' ps := foldl_same ps 0 fun p hp a => by rw [h p hp]
theorem pF_congr {P P' : Int → Int} {ps : List FPart} {k : Int} (h : ∀ p ∈ ps, P p.Glyph = P' p.Glyph) : pF P ps k = pF P' ps k := foldl_same ps k fun p hp a => by rw [h p hp]
theorem dF_bd {D : Int → Int} {m : Int} (h : ∀ z, 0 ≤ D z ∧ D z ≤ m) : ∀ (ps : List FPart), 0 ≤ dF D ps ∧ dF D ps ≤ m + 1 := by
  intro ps
  have hm : 0 ≤ m := by have := h 0; omega
  have : ∀ (ps : List FPart) (a : Int), 0 ≤ a → a ≤ m + 1 → 0 ≤ ps.foldl (fun a p => max a (D p.Glyph + 1)) a ∧ ps.foldl (fun a p => max a (D p.Glyph + 1)) a ≤ m + 1 := by
    intro ps
    induction ps with
    | nil => intro a h0 h1; exact ⟨h0, h1⟩
    | cons p ps ih => intro a h0 h1; have := h p.Glyph; exact ih (max a (D p.Glyph + 1)) (by omega) (by omega)
  exact this ps 0 (by omega) (by omega)
theorem pF_bd {P : Int → Int} {k : Int} (h : ∀ z, 0 ≤ P z ∧ P z ≤ 1000000) (hk : 0 ≤ k ∧ k ≤ 1000000) (ps : List FPart) : 0 ≤ pF P ps k ∧ pF P ps k ≤ 1000000 := by
  unfold pF
  induction ps generalizing k with
  | nil => exact hk
  | cons p ps ih => have := h p.Glyph; exact ih (k := min (k + P p.Glyph) 1001) (by omega)
def DeepOk (f : FFont) (D P : Int → Int) : Prop := ∀ z : Int, 0 ≤ z → z < f.Glyphs.length → ∀ gl, f.Glyphs[z.toNat]? = some gl → D z = dF D gl.Parts ∧ P z = pF P gl.Parts gl.Points.length
structure Few2 (f : FFont) : Prop extends Few f where
  points : ∀ gl ∈ f.Glyphs, gl.Points.length ≤ 1000000
  there : ∀ gl ∈ f.Glyphs, ∀ p ∈ gl.Parts, isG f p.Glyph = true
theorem prt_all {f : FFont} (hf : Few2 f) {z : Int} {gl : FGlyph} (h : f.Glyphs[z.toNat]? = some gl) : prt f z = gl.Parts.map FPart.Glyph := by
  unfold prt
  rw [h]
  refine List.filter_eq_self.2 fun y hy => ?_
  obtain ⟨p, hp, rfl⟩ := List.mem_map.1 hy
  exact hf.there gl (List.mem_of_getElem? h) p hp
def deepE (_ : Nat) (levels : Int) : Int := whenE (decide (levels > 4)) 34
def manyE (_ : Nat) (all : Int) : Int := whenE (decide (all ≥ 1001)) 2
theorem comp11_det (i : Nat) (n : Int) : ADet Tryz.prog 165 [I64 i, I64 n] (I64 (deepE i n)) := by
  refine ac_of Tryz.func165 rfl Tryz.ntmps165 rfl fun B => ?_
  (repeat' (first|refine at_seq ?_|refine at_region ?_|refine at_ret ?_|refine ax_then ?_|refine atl_nil ?_|refine n_run ttok rfl rfl ?_|(apply s_call;refine n_call ?_)|fail))
  exact ax_ret1 rfl rfl rfl
theorem comp21_det (i : Nat) (n : Int) : ADet Tryz.prog 167 [I64 i, I64 n] (I64 (manyE i n)) := by
  refine ac_of Tryz.func167 rfl Tryz.ntmps167 rfl fun B => ?_
  (repeat' (first|refine at_seq ?_|refine at_region ?_|refine at_ret ?_|refine ax_then ?_|refine atl_nil ?_|refine n_run ttok rfl rfl ?_|(apply s_call;refine n_call ?_)|fail))
  exact ax_ret1 rfl rfl rfl
theorem comp1_det (l : List Int) : ADet Tryz.prog 163 [.iptr [.imm 1 (ints l)]] (tup2 (eachL l deepE)) := by
  refine ac_of Tryz.func163 rfl Tryz.ntmps163 rfl fun B => ?_
  (repeat' (first|refine at_seq ?_|refine at_region ?_|refine ax_then ?_|refine atl_nil ?_|refine n_run ttok rfl rfl ?_|fail))
  refine n_callA [] [] (each164 (u := .sc (.func (.func 165) #[] #[])) (g := 165) (caps := []) rfl l _ (fun _ _ => True) [] trivial (wrong_det (fun i x _ => comp11_det i x))) rfl rfl (List.Perm.refl _) rfl fun c L1 hc => ?_
  have hc : c = tup2 (eachL l deepE) := hc
  subst hc
  unfold tup2
  (repeat' (first|refine at_ret ?_|refine ax_then ?_|refine atl_nil ?_|refine n_run ttok rfl rfl ?_|fail))
  exact ax_ret2 rfl rfl rfl rfl
theorem comp2_det (l : List Int) : ADet Tryz.prog 166 [.iptr [.imm 1 (ints l)]] (tup2 (eachL l manyE)) := by
  refine ac_of Tryz.func166 rfl Tryz.ntmps166 rfl fun B => ?_
  (repeat' (first|refine at_seq ?_|refine at_region ?_|refine ax_then ?_|refine atl_nil ?_|refine n_run ttok rfl rfl ?_|fail))
  refine n_callA [] [] (each164 (u := .sc (.func (.func 167) #[] #[])) (g := 167) (caps := []) rfl l _ (fun _ _ => True) [] trivial (wrong_det (fun i x _ => comp21_det i x))) rfl rfl (List.Perm.refl _) rfl fun c L1 hc => ?_
  have hc : c = tup2 (eachL l manyE) := hc
  subst hc
  unfold tup2
  (repeat' (first|refine at_ret ?_|refine ax_then ?_|refine atl_nil ?_|refine n_run ttok rfl rfl ?_|fail))
  exact ax_ret2 rfl rfl rfl rfl
structure CInv (f : FFont) (T : List Int) (i : Nat) (D P : Int → Int) : Prop where
  deep : ∀ z, 0 ≤ D z ∧ D z ≤ i
  many : ∀ z, 0 ≤ P z ∧ P z ≤ 1000000
  done : ∀ (j : Nat) (z : Int), j < i → T[j]? = some z → ∀ gl, f.Glyphs[z.toNat]? = some gl → D z = dF D gl.Parts ∧ P z = pF P gl.Parts gl.Points.length
  rest : ∀ z, z ∉ T.take i → D z = 0
theorem CInv.start {f : FFont} {T : List Int} : CInv f T 0 (fun _ => 0) (fun _ => 0) := ⟨fun _ => by simp, fun _ => by simp, fun j _ h => absurd h (Nat.not_lt_zero _), fun _ _ => rfl⟩
theorem CInv.next {f : FFont} {T : List Int} (hf : Few2 f) (hT : KDone f.Glyphs.length (prt f) T) {i : Nat} {D P : Int → Int} (h : CInv f T i D P) {x : Int} {gl : FGlyph} (hx : T[i]? = some x) (hgl : f.Glyphs[x.toNat]? = some gl) : CInv f T (i + 1) (updF D x (dF D gl.Parts)) (updF P x (pF P gl.Parts gl.Points.length)) := by
  have hgm := List.mem_of_getElem? hgl
  have hnot : ∀ (j : Nat) (z : Int), j ≤ i → T[j]? = some z → ∀ g, f.Glyphs[z.toNat]? = some g → ∀ p ∈ g.Parts, p.Glyph ≠ x := by
    intro j z hj hz g hg p hp e
    have h1 := hT.topo j z hz p.Glyph (by rw [prt_all hf hg]; exact List.mem_map_of_mem hp)
    rw [e] at h1
    obtain ⟨k, hk⟩ := List.mem_iff_getElem?.1 h1
    rw [List.getElem?_take] at hk
    split at hk
    · rename_i hlt
      obtain ⟨k1, k2⟩ := List.getElem?_eq_some_iff.1 hk
      obtain ⟨i1, i2⟩ := List.getElem?_eq_some_iff.1 hx
      have e1 := hT.nodup.idxOf_getElem k k1
      have e2 := hT.nodup.idxOf_getElem i i1
      rw [k2] at e1
      rw [i2] at e2
      omega
    · cases hk
  have hd := dF_bd h.deep gl.Parts
  have hp := pF_bd (k := (gl.Points.length : Int)) h.many (by have := hf.points gl hgm; omega) gl.Parts
  refine ⟨fun z => ?_, fun z => ?_, fun j z hj hz g hg => ?_, fun z hz => ?_⟩
  · unfold updF
    split
    · omega
    · have := h.deep z; omega
  · unfold updF
    split
    · exact hp
    · exact h.many z
  · rw [dF_congr (D := updF D x (dF D gl.Parts)) (D' := D) fun p hp => updF_ne (hnot j z (by omega) hz g hg p hp), pF_congr (P := updF P x (pF P gl.Parts gl.Points.length)) (P' := P) fun p hp => updF_ne (hnot j z (by omega) hz g hg p hp)]
    by_cases e : z = x
    · subst e
      rw [hgl] at hg
      cases hg
      rw [updF_self, updF_self]
      exact ⟨rfl, rfl⟩
    · rw [updF_ne e, updF_ne e]
      have hji : j < i := by
        rcases Nat.lt_or_ge j i with h1 | h1
        · exact h1
        · have : j = i := by omega
          subst this
          rw [hx] at hz
          cases hz
          exact absurd rfl e
      exact h.done j z hji hz g hg
  · rw [List.take_add_one, hx, Option.toList_some, List.mem_append, List.mem_singleton] at hz
    rw [updF_ne (fun e => hz (.inr e))]
    exact h.rest z fun hm => hz (.inl hm)
def compE (n : Nat) (D P : Int → Int) : Int × Int := firstE [eachL ((upTo n).map D) deepE, eachL ((upTo n).map P) manyE]
set_option maxHeartbeats 8000000 in
theorem composed_ac (f : FFont) (hf : Few2 f) (hr : Acyc f.Glyphs.length (prt f) ∨ AC Tryz.prog 235 [aFont f] [] fun c _ => ∃ z : Int, c = I64 z) : AC Tryz.prog 89 [aFont f] [] fun c _ => (∃ D P, DeepOk f D P ∧ Acyc f.Glyphs.length (prt f) ∧ c = tup2 (compE f.Glyphs.length D P)) ∨ (¬ Acyc f.Glyphs.length (prt f) ∧ ∃ z : Int, c = tup2 (33, z)) := by
  refine ac_of Tryz.func89 rfl Tryz.ntmps89 rfl fun B => ?_
  have hn := hf.n
  have hml : (f.Glyphs.map cGlyph).length = f.Glyphs.length := List.length_map ..
  (repeat' (first|refine at_seq ?_|refine at_region ?_|refine ax_then ?_|refine atl_nil ?_|refine n_run ttok rfl rfl ?_|refine n_boxI ?_|fail))
  refine n_callA [] [] (order_ac f hf.toFew hr) rfl rfl (List.Perm.refl _) rfl fun c L1 hc => ?_
  refine atl_turn (turn_sub (List.nil_sublist _)) ?_
  rcases hc with ⟨T, hc, hT, hTl⟩ | ⟨hna, z, hc⟩
  rotate_left
  · subst hc
    (repeat' (first|refine at_seq ?_|refine at_region ?_|refine at_ret ?_|refine ax_then ?_|refine ax_then_ret ?_|refine atl_nil ?_|refine n_run ttok rfl rfl ?_|refine n_condT rfl ?_|fail))
    exact ax_ret2 rfl rfl rfl (.inr ⟨hna, z, rfl⟩)
  subst hc
  have hall := hT.all_of_len hTl
  have hacy := hT.acyc hall
  have hTi := ints_len T
  (repeat' (first|refine at_seq ?_|refine at_region ?_|refine at_skip ?_|refine ax_then ?_|refine atl_nil ?_|refine n_run ttok rfl rfl ?_|refine n_condF rfl ?_|fail))
  rw [hml]
  refine n_make ttok f.Glyphs.length rfl rfl rfl rfl rfl rfl rfl (by omega) (by omega) rfl fun bd => ?_
  rw [show (List.replicate f.Glyphs.length (List.map AV.sc [Value.int .i64 0])).flatten = cellsF f.Glyphs.length fun _ => 0 from cellsF_zero _]
  (repeat' (first|refine at_seq ?_|refine at_region ?_|refine ax_then ?_|refine atl_nil ?_|refine n_run ttok rfl rfl ?_|(apply s_store; first|refine n_storeF 7 ttok 0 rfl rfl rfl rfl rfl rfl rfl rfl ?_|refine n_storeF 7 ttok 1 rfl rfl rfl rfl rfl rfl rfl rfl ?_|refine n_storeF 7 ttok 2 rfl rfl rfl rfl rfl rfl rfl rfl ?_|refine n_storeF 8 ttok 0 rfl rfl rfl rfl rfl rfl rfl rfl ?_|refine n_storeF 8 ttok 1 rfl rfl rfl rfl rfl rfl rfl rfl ?_|refine n_storeF 8 ttok 2 rfl rfl rfl rfl rfl rfl rfl rfl ?_|refine n_storeF 12 ttok 0 rfl rfl rfl rfl rfl rfl rfl rfl ?_|refine n_storeF 12 ttok 1 rfl rfl rfl rfl rfl rfl rfl rfl ?_|refine n_storeF 12 ttok 2 rfl rfl rfl rfl rfl rfl rfl rfl ?_|refine n_store ttok 0 rfl rfl rfl rfl rfl rfl rfl ?_|refine n_store ttok 1 rfl rfl rfl rfl rfl rfl rfl ?_|refine n_store ttok 2 rfl rfl rfl rfl rfl rfl rfl ?_|refine n_store ttok 3 rfl rfl rfl rfl rfl rfl rfl ?_|fail)|refine n_alloc ttok fun _=>?_|fail))
  rw [hml]
  refine n_make ttok f.Glyphs.length rfl rfl rfl rfl rfl rfl rfl (by omega) (by omega) rfl fun bp => ?_
  rw [show (List.replicate f.Glyphs.length (List.map AV.sc [Value.int .i64 0])).flatten = cellsF f.Glyphs.length fun _ => 0 from cellsF_zero _]
  (repeat' (first|refine at_seq ?_|refine at_region ?_|refine at_block ?_|refine ax_then ?_|refine atl_nil ?_|refine n_run ttok rfl rfl ?_|(apply s_store; first|refine n_storeF 7 ttok 0 rfl rfl rfl rfl rfl rfl rfl rfl ?_|refine n_storeF 7 ttok 1 rfl rfl rfl rfl rfl rfl rfl rfl ?_|refine n_storeF 7 ttok 2 rfl rfl rfl rfl rfl rfl rfl rfl ?_|refine n_storeF 8 ttok 0 rfl rfl rfl rfl rfl rfl rfl rfl ?_|refine n_storeF 8 ttok 1 rfl rfl rfl rfl rfl rfl rfl rfl ?_|refine n_storeF 8 ttok 2 rfl rfl rfl rfl rfl rfl rfl rfl ?_|refine n_storeF 12 ttok 0 rfl rfl rfl rfl rfl rfl rfl rfl ?_|refine n_storeF 12 ttok 1 rfl rfl rfl rfl rfl rfl rfl rfl ?_|refine n_storeF 12 ttok 2 rfl rfl rfl rfl rfl rfl rfl rfl ?_|refine n_store ttok 0 rfl rfl rfl rfl rfl rfl rfl ?_|refine n_store ttok 1 rfl rfl rfl rfl rfl rfl rfl ?_|refine n_store ttok 2 rfl rfl rfl rfl rfl rfl rfl ?_|refine n_store ttok 3 rfl rfl rfl rfl rfl rfl rfl ?_|fail)|refine n_alloc ttok fun _=>?_|fail))
  refine at_loopK [1, 7, 8, 31, 32] (α := Nat × (Int → Int) × (Int → Int)) (fun x => [(33, I64 x.1)]) (fun x => x.1 ≤ f.Glyphs.length ∧ CInv f T x.1 x.2.1 x.2.2) (fun x => [(bp, .box (cellsF f.Glyphs.length x.2.2) 3), (bd, .box (cellsF f.Glyphs.length x.2.1) 3)]) (fun x => f.Glyphs.length - x.1) (0, (fun _ => 0), (fun _ => 0)) rfl ⟨rfl, trivial⟩ ⟨Nat.zero_le _, CInv.start⟩ (fun _ _ h => h) ?_
  rintro ⟨i, D, P⟩ ⟨hi, hC⟩
  dsimp only at hi hC ⊢
  try dsimp only [List.cons_append, List.nil_append, List.map_cons, List.map_nil]
  (repeat' (first|refine at_seq ?_|refine at_region ?_|refine ax_then ?_|refine atl_nil ?_|refine n_run ttok rfl rfl ?_|fail))
  refine at_cond rfl (fun h => ?_) (fun h => ?_)
  · have hil : i < T.length := by have := of_decide_eq_true h; rw [hTi] at this; omega
    obtain ⟨x, hx⟩ : ∃ x, T[i]? = some x := ⟨_, List.getElem?_eq_getElem hil⟩
    have hxi := ints_get hx
    have hxr := hT.dom x (List.mem_of_getElem? hx)
    obtain ⟨gl, hgl⟩ : ∃ z, f.Glyphs[x.toNat]? = some z := ⟨_, List.getElem?_eq_getElem (by omega)⟩
    have hgm := List.mem_of_getElem? hgl
    have hgg := map_get (c := cGlyph) hgl
    have hpm : (gl.Points.map cPoint).length = gl.Points.length := List.length_map ..
    have hpl := hf.points gl hgm
    clear h
    (repeat' (first|refine at_seq ?_|refine at_region ?_|refine at_block ?_|refine at_skip ?_|refine ax_then ?_|refine atl_nil ?_|refine n_run ttok rfl rfl ?_|(apply s_index; first|refine n_index ttok ?_|refine n_indexP ttok ?_)|fail))
    refine at_draw 10 [(0, .v), (1, .v), (2, .v), (3, .v), (4, .v), (5, .v), (6, .v), (7, .v), (8, .v), (9, .v)] none ?_ trivial rfl (by kernel_rfl) (by kernel_rfl) (by kernel_rfl) mixed (by kernel_rfl) rfl
    (repeat' (first|refine da_open ?_|refine d_run ttok ?_|(apply ds_index;refine d_index ttok ?_)|fail))
    refine da_end [1, 7, 8, 10, 31, 32, 33, 37, 38, 46] rfl rfl ?_
    (repeat' (first|(apply s_index; first|refine n_index ttok ?_|refine n_indexP ttok ?_)|fail))
    refine n_store ttok 0 rfl rfl rfl rfl rfl rfl (by rw [Nat.ble_eq, cellsF_len]; show _ + 1 ≤ _; omega) ?_
    rw [putA_one, cellsF_set hxr.1 hxr.2, hpm]
    (repeat' (first|refine at_seq ?_|refine at_region ?_|refine at_block ?_|refine ax_then ?_|refine atl_nil ?_|refine n_run ttok rfl rfl ?_|(apply s_index; first|refine n_index ttok ?_|refine n_indexP ttok ?_)|fail))
    have hTx : x ∉ T.take i := fun hm => by
      obtain ⟨k, hk⟩ := List.mem_iff_getElem?.1 hm
      rw [List.getElem?_take] at hk
      split at hk
      · obtain ⟨k1, k2⟩ := List.getElem?_eq_some_iff.1 hk
        obtain ⟨i1, i2⟩ := List.getElem?_eq_some_iff.1 hx
        have e1 := hT.nodup.idxOf_getElem k k1
        have e2 := hT.nodup.idxOf_getElem i i1
        rw [k2] at e1
        rw [i2] at e2
        omega
      · cases hk
    have hD0 : updF D x 0 = D := by
      funext q
      unfold updF
      split
      · rename_i e; rw [e, hC.rest x hTx]
      · rfl
    have hql : (gl.Parts.map cPart).length = gl.Parts.length := List.length_map ..
    have hqn := hf.parts gl hgm
    refine at_loopK [1, 7, 8, 10, 31, 32, 33, 53, 54] (α := Nat) (fun j => [(55, I64 j)]) (fun j => j ≤ gl.Parts.length) (fun j => [(bp, .box (cellsF f.Glyphs.length (updF P x (pF P (gl.Parts.take j) gl.Points.length))) 3), (bd, .box (cellsF f.Glyphs.length (updF D x (dF D (gl.Parts.take j)))) 3)]) (fun j => gl.Parts.length - j) 0 rfl ⟨rfl, trivial⟩ (Nat.zero_le _) (fun _ _ h => by rw [List.take_zero, show dF D [] = 0 from rfl, hD0]; exact h) fun j hj => ?_
    try dsimp only [List.cons_append, List.nil_append, List.map_cons, List.map_nil]
    (repeat' (first|refine at_seq ?_|refine at_region ?_|refine ax_then ?_|refine atl_nil ?_|refine n_run ttok rfl rfl ?_|fail))
    refine at_cond rfl (fun h => ?_) (fun h => ?_)
    · have hjl : j < gl.Parts.length := by have := of_decide_eq_true h; omega
      obtain ⟨q, hq⟩ : ∃ q, gl.Parts[j]? = some q := ⟨_, List.getElem?_eq_getElem hjl⟩
      have hqg := map_get (c := cPart) hq
      have hqr := isG_iff.1 (hf.there gl hgm q (List.mem_of_getElem? hq))
      have hne : q.Glyph ≠ x := fun e => by
        have h1 := hT.topo i x hx q.Glyph (by rw [prt_all hf hgl]; exact List.mem_map_of_mem (List.mem_of_getElem? hq))
        rw [e] at h1
        exact hTx h1
      have hc1 : (cellsF f.Glyphs.length (updF D x (dF D (gl.Parts.take j))))[0 + x.toNat * 1]? = some (I64 (dF D (gl.Parts.take j))) := by rw [cellsF_get hxr.1 hxr.2, updF_self]
      have hc2 : (cellsF f.Glyphs.length (updF D x (dF D (gl.Parts.take j))))[0 + q.Glyph.toNat * 1]? = some (I64 (D q.Glyph)) := by rw [cellsF_get hqr.1 hqr.2, updF_ne hne]
      have hc3 : (cellsF f.Glyphs.length (updF P x (pF P (gl.Parts.take j) gl.Points.length)))[0 + x.toNat * 1]? = some (I64 (pF P (gl.Parts.take j) gl.Points.length)) := by rw [cellsF_get hxr.1 hxr.2, updF_self]
      have hc4 : (cellsF f.Glyphs.length (updF P x (pF P (gl.Parts.take j) gl.Points.length)))[0 + q.Glyph.toNat * 1]? = some (I64 (P q.Glyph)) := by rw [cellsF_get hqr.1 hqr.2, updF_ne hne]
      have hDq := hC.deep q.Glyph
      have hPq := hC.many q.Glyph
      have hPj := pF_bd (k := (gl.Points.length : Int)) hC.many (by omega) (gl.Parts.take j)
      clear h
      (repeat' (first|refine at_seq ?_|refine at_region ?_|refine at_block ?_|refine at_skip ?_|refine ax_then ?_|refine atl_nil ?_|refine n_run ttok rfl rfl ?_|(apply s_index; first|refine n_index ttok ?_|refine n_indexP ttok ?_)|(apply s_store; first|refine n_storeF 7 ttok 0 rfl rfl rfl rfl rfl rfl rfl rfl ?_|refine n_storeF 7 ttok 1 rfl rfl rfl rfl rfl rfl rfl rfl ?_|refine n_storeF 7 ttok 2 rfl rfl rfl rfl rfl rfl rfl rfl ?_|refine n_storeF 8 ttok 0 rfl rfl rfl rfl rfl rfl rfl rfl ?_|refine n_storeF 8 ttok 1 rfl rfl rfl rfl rfl rfl rfl rfl ?_|refine n_storeF 8 ttok 2 rfl rfl rfl rfl rfl rfl rfl rfl ?_|refine n_storeF 12 ttok 0 rfl rfl rfl rfl rfl rfl rfl rfl ?_|refine n_storeF 12 ttok 1 rfl rfl rfl rfl rfl rfl rfl rfl ?_|refine n_storeF 12 ttok 2 rfl rfl rfl rfl rfl rfl rfl rfl ?_|refine n_store ttok 0 rfl rfl rfl rfl rfl rfl rfl ?_|refine n_store ttok 1 rfl rfl rfl rfl rfl rfl rfl ?_|refine n_store ttok 2 rfl rfl rfl rfl rfl rfl rfl ?_|refine n_store ttok 3 rfl rfl rfl rfl rfl rfl rfl ?_|fail)|refine n_alloc ttok fun _=>?_|fail))
      refine at_draw 13 [(0, .v), (1, .v), (2, .v), (3, .v), (4, .v), (5, .l), (6, .v), (7, .v), (8, .v), (9, .v), (10, .l), (11, .v), (12, .v)] none ?_ trivial rfl (by kernel_rfl) (by kernel_rfl) (by kernel_rfl) mixed (by kernel_rfl) rfl
      (repeat' (first|refine da_open ?_|refine d_run ttok ?_|fail))
      refine d_indexP ttok rfl rfl rfl hxr trivial ?_
      (repeat' (first|refine da_open ?_|fail))
      refine d_load ttok 1 rfl rfl rfl hc1 trivial ?_
      (repeat' (first|refine da_open ?_|refine d_run ttok ?_|fail))
      refine d_indexP ttok rfl rfl rfl hqr trivial ?_
      (repeat' (first|refine da_open ?_|fail))
      refine d_load ttok 1 rfl rfl rfl hc2 trivial ?_
      (repeat' (first|refine da_open ?_|refine d_run ttok ?_|(apply ds_bin;refine d_bin ?_)|fail))
      refine da_end [1, 7, 8, 10, 12, 31, 32, 33, 53, 54, 55, 59, 60, 71] rfl rfl ?_
      (repeat' (first|(apply s_index; first|refine n_index ttok ?_|refine n_indexP ttok ?_)|fail))
      refine n_store ttok 1 rfl rfl rfl rfl rfl rfl (by rw [Nat.ble_eq, cellsF_len]; show _ + 1 ≤ _; omega) ?_
      rw [putA_one, cellsF_set hxr.1 hxr.2, updF_updF, ← dF_take hq]
      (repeat' (first|refine ax_then ?_|refine atl_nil ?_|fail))
      refine at_draw 13 [(0, .v), (1, .v), (2, .v), (3, .v), (4, .v), (5, .l), (6, .v), (7, .v), (8, .v), (9, .v), (10, .l), (11, .v), (12, .v)] none ?_ trivial rfl (by kernel_rfl) (by kernel_rfl) (by kernel_rfl) mixed (by kernel_rfl) rfl
      (repeat' (first|refine da_open ?_|refine d_run ttok ?_|fail))
      refine d_indexP ttok rfl rfl rfl hxr trivial ?_
      (repeat' (first|refine da_open ?_|fail))
      refine d_load ttok 0 rfl rfl rfl hc3 trivial ?_
      (repeat' (first|refine da_open ?_|refine d_run ttok ?_|fail))
      refine d_indexP ttok rfl rfl rfl hqr trivial ?_
      (repeat' (first|refine da_open ?_|fail))
      refine d_load ttok 0 rfl rfl rfl hc4 trivial ?_
      (repeat' (first|refine da_open ?_|refine d_run ttok ?_|(apply ds_bin;refine d_bin ?_)|fail))
      refine da_end [1, 7, 8, 10, 31, 32, 33, 53, 54, 55, 73, 74, 85] rfl rfl ?_
      (repeat' (first|(apply s_index; first|refine n_index ttok ?_|refine n_indexP ttok ?_)|fail))
      refine n_store ttok 0 rfl rfl rfl rfl rfl rfl (by rw [Nat.ble_eq, cellsF_len]; show _ + 1 ≤ _; omega) ?_
      rw [putA_one, cellsF_set hxr.1 hxr.2, updF_updF, ← pF_take hq]
      (repeat' (first|refine at_region ?_|refine ax_then ?_|refine ax_blk ?_|refine atl_nil ?_|refine n_run ttok rfl rfl ?_|(apply s_bin; refine n_bin ?_)|fail))
      exact ax_roundK (j + 1) rfl ⟨by rw [Int.natCast_add]; rfl, trivial⟩ (by omega) (by omega) (fun _ _ h => h)
    · have hjl : j = gl.Parts.length := by have := of_decide_eq_false h; omega
      subst hjl
      rw [List.take_length]
      (repeat' (first|refine at_region ?_|refine at_exit ?_|refine ax_then ?_|refine ax_then_exit ?_|refine ax_blk ?_|refine ax_blk_exit ?_|refine ax_loop_exit ?_|refine atl_nil ?_|refine n_run ttok rfl rfl ?_|(apply s_bin; refine n_bin ?_)|fail))
      exact ax_roundK (i + 1, _, _) rfl ⟨by rw [Int.natCast_add]; rfl, trivial⟩ ⟨by dsimp only; omega, hC.next hf hT hx hgl⟩ (by dsimp only; omega) (fun _ _ h => h)
  · have hil : i = f.Glyphs.length := by have := of_decide_eq_false h; rw [hTi] at this; omega
    subst hil
    clear h
    have hdeep : DeepOk f D P := by
      intro z h0 h1 gl hgl
      obtain ⟨j, hj⟩ := List.mem_iff_getElem?.1 (hall z h0 h1)
      exact hC.done j z (by have := (List.getElem?_eq_some_iff.1 hj).1; omega) hj gl hgl
    have hcd : ∀ F : Int → Int, cellsF f.Glyphs.length F = (ints ((upTo f.Glyphs.length).map F)).flatten := fun F => by rw [ints_flat]; unfold cellsF; rw [List.map_map]; rfl
    have hcl : ∀ F : Int → Int, (ints ((upTo f.Glyphs.length).map F)).length = f.Glyphs.length := fun F => by rw [ints_len, List.length_map, upTo_len]
    refine at_turn (turn_boxP (t := 7) (sz := 1) (l := ints ((upTo f.Glyphs.length).map D)) 1 rfl rfl (hcd D) (by simp [ints]) (hcl D) (by omega)) ?_
    refine at_turn (turn_boxP (t := 8) (sz := 1) (l := ints ((upTo f.Glyphs.length).map P)) 1 rfl rfl (hcd P) (by simp [ints]) (hcl P) (by omega)) ?_
    (repeat' (first|refine at_seq ?_|refine at_region ?_|refine at_exit ?_|refine ax_then ?_|refine ax_then_exit ?_|refine ax_blk_exit ?_|refine ax_loop_exit ?_|refine n_run ttok rfl rfl ?_|refine n_litI ttok ?_|fail))
    refine n_callA [] _ (first_ac [⟨163, [.iptr [.imm 1 (ints ((upTo f.Glyphs.length).map D))]], [], (eachL ((upTo f.Glyphs.length).map D) deepE).1, (eachL ((upTo f.Glyphs.length).map D) deepE).2⟩, ⟨166, [.iptr [.imm 1 (ints ((upTo f.Glyphs.length).map P))]], [], (eachL ((upTo f.Glyphs.length).map P) manyE).1, (eachL ((upTo f.Glyphs.length).map P) manyE).2⟩] ⟨⟨inferInstance, comp1_det _⟩, fun _ => ⟨⟨inferInstance, comp2_det _⟩, fun _ => trivial⟩⟩) rfl rfl (List.Perm.refl _) rfl fun c L1 hc => ?_
    rw [lkE_map] at hc
    have hc : c = tup2 (compE f.Glyphs.length D P) := hc
    subst hc
    unfold tup2
    (repeat' (first|refine at_ret ?_|refine ax_then ?_|refine atl_nil ?_|refine n_run ttok rfl rfl ?_|fail))
    exact ax_ret2 rfl rfl rfl (.inl ⟨D, P, hdeep, hacy, rfl⟩)
end Go.Proofs.YtpbinloeemebkaaGreat
