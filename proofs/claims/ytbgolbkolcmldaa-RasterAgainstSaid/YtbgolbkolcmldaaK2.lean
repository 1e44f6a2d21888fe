/-
  The sort of crossings.
-/
import Derived.Test.YtbgolbkolcmldaaK1
import Derived.Test.YtbgolbkolcmldaaSort
namespace Go.Proofs.Ytbgolbkolcmldaa
open Go.RowKit Go.Shelf Go.Lib Go.Sort

abbrev CrS := {c : Cr // CrOk c}
instance : Inhabited CrS := ⟨⟨⟨0, 1, 1⟩, ⟨⟨by decide, by decide⟩, .inl rfl⟩⟩⟩
def encS (x : CrS) : List Value := crCells x.1
def cfS (x y : CrS) : Int := cmpI (x.1.n * y.1.d) (y.1.n * x.1.d)

theorem ltS (x y : CrS) : ltOf cfS x y = decide (x.1.n * y.1.d < y.1.n * x.1.d) := by
  unfold ltOf cfS cmpI
  by_cases h1 : x.1.n * y.1.d < y.1.n * x.1.d
  · simp [h1]
  · by_cases h2 : y.1.n * x.1.d < x.1.n * y.1.d <;> simp [h1, h2]

theorem frac_lt {a b c d e f : Int} (hb : 0 < b) (hd : 0 < d) (hf : 0 < f) (h1 : a * d < c * b) (h2 : c * f < e * d) : a * f < e * b := by
  have e1 : a * d * f < c * b * f := Int.mul_lt_mul_of_pos_right h1 hf
  have e2 : c * f * b < e * d * b := Int.mul_lt_mul_of_pos_right h2 hb
  have e3 : a * f * d < e * b * d := by
    have q1 : a * f * d = a * d * f := by rw [Int.mul_assoc, Int.mul_comm f d, ← Int.mul_assoc]
    have q2 : c * b * f = c * f * b := by rw [Int.mul_assoc, Int.mul_comm b f, ← Int.mul_assoc]
    have q3 : e * d * b = e * b * d := by rw [Int.mul_assoc, Int.mul_comm d b, ← Int.mul_assoc]
    omega
  exact Int.lt_of_mul_lt_mul_right e3 (by omega)
theorem frac_le {a b c d e f : Int} (hb : 0 < b) (hd : 0 < d) (hf : 0 < f) (h1 : a * d ≤ c * b) (h2 : c * f ≤ e * d) : a * f ≤ e * b := by
  have e1 : a * d * f ≤ c * b * f := Int.mul_le_mul_of_nonneg_right h1 (by omega)
  have e2 : c * f * b ≤ e * d * b := Int.mul_le_mul_of_nonneg_right h2 (by omega)
  have e3 : a * f * d ≤ e * b * d := by
    have q1 : a * f * d = a * d * f := by rw [Int.mul_assoc, Int.mul_comm f d, ← Int.mul_assoc]
    have q2 : c * b * f = c * f * b := by rw [Int.mul_assoc, Int.mul_comm b f, ← Int.mul_assoc]
    have q3 : e * d * b = e * b * d := by rw [Int.mul_assoc, Int.mul_comm d b, ← Int.mul_assoc]
    omega
  exact Int.le_of_mul_le_mul_right e3 hd

theorem swoS : SWO (ltOf cfS) where
  irrefl x := by rw [ltS]; simp
  trans x y z h1 h2 := by
    rw [ltS] at *
    simp only [decide_eq_true_eq] at *
    exact frac_lt x.2.p.e.1 y.2.p.e.1 z.2.p.e.1 h1 h2
  ntrans x y z h1 h2 := by
    rw [ltS] at *
    simp only [decide_eq_false_iff_not, Int.not_lt] at *
    exact frac_le z.2.p.e.1 y.2.p.e.1 x.2.p.e.1 h2 h1

theorem cmpLaysS (blk off size : Nat) (w : World) : CmpLays Try.prog 64 #[] encS 3 cfS blk off size w := by
  intro m os dk _ x y
  have hb := md_bd x.2.p y.2.p
  refine (closure_k x.1 y.1 (by omega) (by omega) _).mono ?_
  rintro e w' ⟨rfl, o1, o2, o3, o4, rfl⟩
  exact ⟨rfl, 0, _, by rw [alloc_eq_grow, alloc_eq_grow, alloc_eq_grow, alloc_eq_grow, grow_grow, grow_grow, grow_grow]; rfl⟩

open Classical in
noncomputable def toS (cs : List Cr) : Array CrS := (cs.filterMap fun c => if h : CrOk c then some ⟨c, h⟩ else none).toArray
theorem toS_map {cs : List Cr} (h : ∀ c ∈ cs, CrOk c) : (toS cs).toList.map (·.1) = cs := by
  unfold toS
  induction cs with
  | nil => rfl
  | cons c cs ih =>
    have hc := h c (by simp)
    simp only [List.filterMap_cons, dif_pos hc, List.map_cons]
    have := ih fun c' hc' => h c' (by simp [hc'])
    simp only at this
    rw [this]
theorem toS_size {cs : List Cr} (h : ∀ c ∈ cs, CrOk c) : (toS cs).size = cs.length := by
  have := congrArg List.length (toS_map h)
  simpa using this

/-- crossings, as the program sorts them -/
noncomputable def sortCr (cs : List Cr) : List Cr := (pdq (ltOf cfS) (toS cs) 0 (toS cs).size (Lib.bitLen (toS cs).size) true true).toList.map (·.1)

theorem sortCr_spec {cs : List Cr} (h : ∀ c ∈ cs, CrOk c) : (sortCr cs).Perm cs ∧ ∀ (i j : Nat) (a b : Cr), i < j → (sortCr cs)[i]? = some a → (sortCr cs)[j]? = some b → a.n * b.d ≤ b.n * a.d := by
  have hp := pdq_sorts (ltOf cfS) swoS (toS cs) 0 (toS cs).size (Lib.bitLen (toS cs).size) true true (Nat.zero_le _) (Nat.le_refl _) (Or.inl rfl)
  obtain ⟨⟨hs, _, hperm⟩, hsort⟩ := hp
  have e1 : ∀ (d : Array CrS), d.size = (toS cs).size → d.extract 0 (toS cs).size = d := fun d hd => by rw [← hd]; simp
  rw [e1 _ hs, e1 _ rfl] at hperm
  refine ⟨?_, ?_⟩
  · have := hperm.map (·.1)
    rw [toS_map h] at this
    exact this
  · intro i j a b hij hi hj
    unfold sortCr at hi hj
    simp only [List.getElem?_map, Option.map_eq_some_iff, Array.getElem?_toList] at hi hj
    obtain ⟨x, hx, rfl⟩ := hi
    obtain ⟨y, hy, rfl⟩ := hj
    have hjl := (Array.getElem?_eq_some_iff.1 hy).1
    have := hsort i j (Nat.zero_le _) hij (by rw [← hs]; exact hjl)
    rw [ltS] at this
    have hx' : (pdq (ltOf cfS) (toS cs) 0 (toS cs).size (Lib.bitLen (toS cs).size) true true)[i]! = x := by
      rw [getElem!_pos _ i (by omega)]; exact (Array.getElem?_eq_some_iff.1 hx).2
    have hy' : (pdq (ltOf cfS) (toS cs) 0 (toS cs).size (Lib.bitLen (toS cs).size) true true)[j]! = y := by
      rw [getElem!_pos _ j hjl]; exact (Array.getElem?_eq_some_iff.1 hy).2
    rw [hx', hy'] at this
    simp only [decide_eq_false_iff_not, Int.not_lt] at this
    exact this

theorem flatK_list (d : Array CrS) : (flatK encS 3 d).toList = (d.toList.map (·.1)).flatMap crCells := by
  apply List.ext_getElem?
  intro t
  by_cases ht : t < d.size * 3
  · have hq : t / 3 < d.size := by omega
    have hr : t % 3 < 3 := Nat.mod_lt _ (by omega)
    have := flatMap_get crCells 3 (fun _ => rfl) (d.toList.map (·.1)) (t / 3) (t % 3) (d[t / 3]).1 ((crCells (d[t / 3]).1)[t % 3]'(by simpa [crCells] using hr)) (by simp [hq]) (by simp)
    rw [show t / 3 * 3 + t % 3 = t by omega] at this
    rw [this, Array.getElem?_toList]
    have hs : t < (flatK encS 3 d).size := by simpa using ht
    rw [Array.getElem?_eq_getElem hs]
    have g := get_flatK encS 3 d t ht
    rw [getElem!_pos _ t hs] at g
    rw [g, getElem!_pos d (t / 3) hq]
    congr 1
    rw [getElem!_pos _ _ (by simpa [encS, crCells] using hr)]
    rfl
  · rw [List.getElem?_eq_none (by simpa using ht), List.getElem?_eq_none (by rw [flatMap_len crCells 3 (fun _ => rfl)]; simpa using ht)]

theorem sort_calls (cs : List Cr) (hok : ∀ c ∈ cs, CrOk c) (hl : cs.length < 4611686018427387904) (b cap : Nat) (w : World) (o : Obj) (ho : w.heap[b]? = some o) (hq : bx (cs.flatMap crCells) 108 o) :
    Calls Try.prog 63 #[.slice (some ⟨b, 0, none⟩) cs.length cap, .func (.func 64) #[] #[]] w (Wrote w b (bx ((sortCr cs).flatMap crCells) 108)) := by
  have hsz := toS_size hok
  have hblk := (Array.getElem?_eq_some_iff.1 ho).1
  have hob : w.heap[b]? = some (.cells (flatK encS 3 (toS cs)) 108 (0, 0)) := by
    rw [ho, hq]
    congr 2
    apply Array.toList_inj.1
    rw [flatK_list, toS_map hok]
  have hH : HoldsK encS 3 w b 0 (toS cs) := by
    intro j hj
    refine ⟨?_, frozen_of hob⟩
    rw [cell_of hob, Nat.zero_add, getElem!_pos _ j hj]
    exact Array.getElem?_eq_getElem hj
  have hcon := AnyQ.slices_SortFunc_eq Try.sortCr 3 (fun w => (inferInstance : CAg Try.prog 108 3).agg w) (fun w => by
      have := (inferInstance : CAg Try.prog 108 3).size
      show (Go.sizeOf 108).run Try.prog w = _
      cases hi : Try.prog.info? 108 with
      | none => rw [hi] at this; cases this
      | some i => rw [hi] at this; simp at this; simp [Go.sizeOf, typeInfo, hi, this]) encS (fun _ => rfl) (fun x v hv => by simp [encS, crCells] at hv; rcases hv with rfl | rfl | rfl <;> rfl) cfS swoS 64 #[] b 0 cap (toS cs) w
    (inferInstance : CFn Try.prog 64).enters (cmpLaysS b 0 _ w) hH hblk (by rw [hsz]; exact hl)
  rw [hsz] at hcon
  refine Calls.mono (show Calls Try.prog 63 _ _ _ from hcon) ?_
  rintro e w' ⟨rfl, n, os, rfl⟩
  have hd : (pdq (ltOf cfS) (toS cs) 0 cs.length (Lib.bitLen cs.length) true true).size = cs.length := by
    have hp := pdq_sorts (ltOf cfS) swoS (toS cs) 0 (toS cs).size (Lib.bitLen (toS cs).size) true true (Nat.zero_le _) (Nat.le_refl _) (Or.inl rfl)
    rw [hsz] at hp
    rw [hp.1.1, hsz]
  refine ⟨rfl, ⟨rfl, rfl, rfl, ?_, ?_⟩, ?_⟩
  · simp [sortWorldK, grow, putRowK, putRow, mapBlock, Sort.ahead]
  · intro i hi hne
    have hne' : b ≠ i := fun e => hne (by rw [e])
    simp only [sortWorldK, grow, putRowK, putRow, mapBlock, Sort.ahead]
    rw [Array.getElem?_append_left (by simpa using hi), Array.getElem?_modify, if_neg hne']
  · refine ⟨_, ?_, rfl⟩
    simp only [sortWorldK, grow, putRowK, putRow, mapBlock, Sort.ahead]
    rw [Array.getElem?_append_left (by simpa using hblk), Array.getElem?_modify, if_pos rfl, hob]
    simp only [Option.map_some, onCells]
    congr 2
    have hss : sortCr cs = (pdq (ltOf cfS) (toS cs) 0 cs.length (Lib.bitLen cs.length) true true).toList.map (·.1) := by unfold sortCr; rw [hsz]
    rw [hss, ← flatK_list]
    apply Array.ext_getElem?
    intro k
    simp only [putCells, Array.getElem?_mapIdx]
    by_cases hk : k < cs.length * 3
    · have h1 : k < (flatK encS 3 (toS cs)).size := by simpa [hsz] using hk
      have h2 : k < (flatK encS 3 (pdq (ltOf cfS) (toS cs) 0 cs.length (Lib.bitLen cs.length) true true)).size := by simpa [hd] using hk
      rw [Array.getElem?_eq_getElem h1, Option.map_some, if_pos ⟨Nat.zero_le _, by simpa [hd] using hk⟩, Nat.sub_zero, getElem!_pos _ k h2]
      simp [Array.getElem?_eq_getElem h2]
    · rw [Array.getElem?_eq_none (by simpa [hsz] using hk)]
      simp only [Option.map_none]
      rw [Array.getElem?_eq_none]
      simp [hd]; omega

end Go.Proofs.Ytbgolbkolcmldaa
