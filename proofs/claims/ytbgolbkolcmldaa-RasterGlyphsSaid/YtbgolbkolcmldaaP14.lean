/-
  Plain law: the document's crossings are the crossings.
-/
import Derived.Test.YtbgolbkolcmldaaP13
import Derived.Test.YtbgolbkolcmldaaW29
namespace Go.Proofs.Ytbgolbkolcmldaa

def toPc (c : Cr) : Pc := (c.n / c.d, c.n % c.d, c.d, c.t)
def crossP (y : Int) (s : (Int × Int) × (Int × Int)) : List Pc := if (crossV s.1.1 s.1.2 s.2.1 s.2.2 y).2.2.2 = 0 then [] else [crossV s.1.1 s.1.2 s.2.1 s.2.2 y]
theorem crossTo_pairs (y : Int) (l : Pts) : crossTo y l l.length = (pairs l).flatMap (crossP y) := by
  rw [flat_range, pairs_len]
  unfold crossTo
  refine flatMap_congr' fun i hi => ?_
  rw [List.mem_range] at hi
  have h1 : l[i]? = some l[i] := List.getElem?_eq_getElem hi
  have hm : (i + 1) % l.length < l.length := Nat.mod_lt _ (by omega)
  have h2 : l[(i + 1) % l.length]? = some (l[(i + 1) % l.length]'hm) := List.getElem?_eq_getElem hm
  rw [pairs_get h1 h2, crossAt, h1, h2]
  rfl
theorem crossP_map (k : Int) (s : (Int × Int) × (Int × Int)) : crossP (64 * k + 32) s = (crP k s).map toPc := by
  have hb := edgeV_bd s.1.1 s.1.2 s.2.1 s.2.2
  unfold EdgeOk' at hb
  unfold crossP crP edgeP crossV
  generalize edgeV s.1.1 s.1.2 s.2.1 s.2.2 = e at hb ⊢
  generalize 64 * k + 32 = y
  by_cases h : e.2.1 > y ∨ y ≥ e.2.2.2.1
  · rw [if_pos h, if_pos rfl]
    by_cases h2 : e.2.1 < e.2.2.2.1
    · rw [if_pos h2, List.filter_cons_of_neg (by rw [crB_iff]; omega)]; rfl
    · rw [if_neg h2]; rfl
  · rw [if_neg h]
    dsimp only
    have hD : 0 < e.2.2.2.1 - e.2.1 := by omega
    rw [if_neg (by omega), if_pos (by omega), List.filter_cons_of_pos (by rw [crB_iff]; omega)]
    simp only [List.filter_nil, List.map_cons, List.map_nil, List.cons.injEq, and_true, toPc, crOf, atN, atD]
    rw [Int.mul_comm (e.2.2.1 - e.1), Int.add_comm (e.1 * _), Int.add_mul_ediv_right _ _ (by omega), Int.add_mul_emod_self_right, Int.add_comm e.1]
theorem cross_map (ls : List Pts) (k : Int) : crossAll (64 * k + 32) ls = (crs ls k).map toPc := by
  rw [crs_segs, List.map_flatMap, segs, List.flatMap_assoc]
  unfold crossAll
  refine flatMap_congr' fun l _ => ?_
  rw [crossTo_pairs]
  exact flatMap_congr' fun s _ => crossP_map k s
theorem crsR_perm (ls : List Pts) (k : Int) : (crsR (64 * k + 32) ls).Perm ((crs ls k).map toPc) := by
  unfold crsR
  rw [cross_map]
  have := foldl_insR_perm ((crs ls k).map toPc) []
  rwa [List.append_nil] at this
theorem crsR_len (ls : List Pts) (k : Int) : (crsR (64 * k + 32) ls).length = (crs ls k).length := by
  rw [(crsR_perm ls k).length_eq, List.length_map]

/-! ### a pixel of lines near by -/
theorem fill_at {N : List Pts} (h : ∀ p ∈ N.flatten, -2048 ≤ p.1 ∧ p.1 ≤ 2047 ∧ -2048 ≤ p.2 ∧ p.2 ≤ 2047) (x y : Int) : (fillB N).at x y = true ↔ Blk N x y := by
  by_cases hne : N.flatten = []
  · have hb : ¬ Blk N x y := by
      rintro ⟨a, b, hi, _⟩
      obtain ⟨e, he, _⟩ := crs_mem hi.ma
      have h2 : edgesAll N = [] := List.length_eq_zero_iff.1 (Nat.le_zero.1 (by have := edgesAll_le N; rwa [hne] at this))
      rw [h2] at he
      cases he
    rw [fill_none hne]
    constructor
    · intro h2
      rw [at_iff] at h2
      obtain ⟨_, _, _, h0, h1, _⟩ := h2
      have e1 : Bm.nil.X = 0 := rfl
      have e2 : Bm.nil.W = 0 := rfl
      omega
    · exact fun h2 => absurd h2 hb
  · have hs := near_small h hne
    have hw := box_within _ _ _ _ h (by omega) (by omega) hs
    have hfb := fun x y => fill_black hs.2.1 hs.2.2 x y
    rw [fillB_small hs, at_bmOf fillS_tight (fun x y hb => by
      have := blk_in hs ((hfb x y).1 hb)
      omega), hfb]

end Go.Proofs.Ytbgolbkolcmldaa
