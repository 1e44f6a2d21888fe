/-
  Plain: two boxes and what is made of them, by reckoning.
-/
import Derived.Test.YtbgolbkolcmldaaW21
namespace Go.Proofs.Ytbgolbkolcmldaa

theorem sortCr_two {a b : Cr} (ha : CrOk a) (hb : CrOk b) (h : ¬ (a.n * b.d ≤ b.n * a.d)) : sortCr [a, b] = [b, a] := by
  obtain ⟨hp, hs⟩ := sortCr_spec (cs := [a, b]) (fun c hc => by simp at hc; rcases hc with rfl | rfl <;> assumption)
  have hl := hp.length_eq
  generalize sortCr [a, b] = z at hp hs hl
  match z, hl with
  | [x, y], _ =>
    have hx : x ∈ [a, b] := hp.subset (List.mem_cons_self ..)
    have h01 := hs 0 1 x y (by omega) rfl rfl
    simp at hx
    rcases hx with rfl | rfl
    · have := List.Perm.cons_inv hp
      have hy := List.perm_singleton.1 this
      simp at hy
      subst hy
      exact absurd h01 h
    · have h2 : [x, y].Perm [x, a] := hp.trans (List.Perm.swap x a [])
      have hy := List.perm_singleton.1 (List.Perm.cons_inv h2)
      simp at hy
      rw [hy]
theorem fill_two {ls : List Pts} {lx ly hx hy : Int} {a b : Cr} (hq : boxP ls = (lx, ly, hx, hy, true)) (h1 : hx - lx ≤ 65536) (h2 : hy - ly ≤ 65536) (hN : (rowOf hy - rowOf ly).toNat = 1) (hact : (actE (rowOf ly) (edgesAll ls) 1).map (crOf (rowY (rowOf ly) 0)) = [a, b])
    (ha : CrOk a) (hb : CrOk b) (h : ¬ (a.n * b.d ≤ b.n * a.d)) : fillB ls = bmOf (rowSp (lx / 64) (hx / 64 - lx / 64 + 1).toNat (rowOf ly, [b, a])) := by
  unfold fillB
  rw [hq]
  dsimp only
  rw [if_neg (by simp; omega)]
  unfold fillS rowsX
  dsimp only
  rw [hN, show List.range 1 = [0] from rfl, List.map_cons, List.map_nil, List.flatMap_cons, List.flatMap_nil, List.append_nil, rowX]
  rw [show (0 : Nat) + 1 = 1 from rfl, hact, sortCr_two ha hb h]
  simp

theorem strs_two {a b : Cr} (h : eqAt b a = false) (h1 : a.t ≠ 0) (h2 : a.t + b.t = 0) (f : Place) : strs [a, b] 0 f = [(a.p, b.p)] := by
  have h3 : a.t + b.t = 0 := h2
  simp [strs, takeRun, h, h1, h3]

def bm1 : Bm := ⟨0, 0, 2, 1, [⟨#[35, 35]⟩]⟩
def bm2 : Bm := ⟨0, 0, 1, 1, [⟨#[35]⟩]⟩
def bm3 : Bm := ⟨0, 0, 4, 2, [⟨#[46, 46, 46, 35]⟩, ⟨#[35, 35, 46, 46]⟩]⟩
theorem fill_a : fillB [boxL 0 0 128 64] = bm1 := by
  rw [fill_two (lx := 0) (ly := 0) (hx := 128) (hy := 64) (a := ⟨8192, 64, 1⟩) (b := ⟨0, 64, -1⟩) (by decide) (by decide) (by decide) (by decide) (by rfl) ⟨⟨by decide, by decide⟩, by decide⟩ ⟨⟨by decide, by decide⟩, by decide⟩ (by decide)]
  unfold rowSp
  dsimp only
  rw [strs_two (by decide) (by decide) (by decide)]
  rfl
theorem fill_b : fillB [boxL 10 0 10 64] = bm2 := by
  rw [fill_two (lx := 10) (ly := 0) (hx := 20) (hy := 64) (a := ⟨1280, 64, 1⟩) (b := ⟨640, 64, -1⟩) (by decide) (by decide) (by decide) (by decide) (by rfl) ⟨⟨by decide, by decide⟩, by decide⟩ ⟨⟨by decide, by decide⟩, by decide⟩ (by decide)]
  unfold rowSp
  dsimp only
  rw [strs_two (by decide) (by decide) (by decide)]
  rfl
theorem over_c : overB bm1 bm2 3 1 = bm3 := by rfl
theorem fill_nil : fillB [] = Bm.nil := by simp [fillB, boxP]
theorem at_c1 : bm3.at 3 1 = true := by rfl
theorem at_c2 : bm3.at 2 0 = false := by rfl
theorem wind_c : wind [boxL 0 0 64 64] 32 32 = -1 := by rfl

end Go.Proofs.Ytbgolbkolcmldaa
