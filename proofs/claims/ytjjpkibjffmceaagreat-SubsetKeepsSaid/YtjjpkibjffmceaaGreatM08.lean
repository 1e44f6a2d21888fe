/-
  The program: looks at things, one by one.
-/
import Derived.Test.YtjjpkibjffmceaaGreatM06
import Derived.Test.YtjjpkibjffmceaaGreatM05
namespace Go.Proofs.YtjjpkibjffmceaaGreat
open Go.RowKit
attribute [local irreducible] AT bT AX AO Av Kt bk ej DA cX
def di (err : Nat → Int) : Nat → Nat → Int × Int
 | 0, _ => (0, 0)
 | k + 1, i => if err i = 0 then di err k (i + 1) else (err i, i)
def dp (err : Nat → Int) (n : Nat) : Int × Int := di err n 0
def dc (most : Int) (err : Nat → Int) (n : Nat) : Int × Int := if (n : Int) > most then (2, 0) else dp err n
def cq (p : Int × Int) : AV := .tup [aM p.1, aM p.2]
theorem cx {err : Nat → Int} {n i : Nat} (hi : i < n) (h : err i = 0) : di err (n - i) i = di err (n - (i + 1)) (i + 1) := by
 rw [show n - i = (n - (i + 1)) + 1 by omega]
 simp only [di, h, if_true]
theorem cJ {err : Nat → Int} {n i : Nat} (hi : i < n) (h : err i ≠ 0) : di err (n - i) i = (err i, (i : Int)) := by
 rw [show n - i = (n - (i + 1)) + 1 by omega]
 simp only [di, h, if_false]
theorem ow {err : Nat → Int} : ∀ (k i : Nat), (∀ j, i ≤ j → j < i + k → err j = 0) → di err k i = (0, 0)
 | 0, _, _ => rfl
 | k + 1, i, h => by
  simp only [di]
  rw [if_pos (h i (Nat.le_refl _) (by omega))]
  exact ow k (i + 1) fun j h1 h2 => h j (by omega) (by omega)
theorem q8 {err : Nat → Int} {n : Nat} (h : ∀ i, i < n → err i = 0) : dp err n = (0, 0) := ow n 0 fun j _ hj => h j (by omega)
theorem xe {most : Int} {err : Nat → Int} {n : Nat} (hm : (n : Int) ≤ most) (h : ∀ i, i < n → err i = 0) : dc most err n = (0, 0) := by
 unfold dc
 rw [if_neg (by omega), q8 h]
def lz (q : List Int) : List AV := [.imm 1 (aU q)]
def fT (z : Int) : List AV := [aM z]
theorem fe {g : FuncId} {caps : List AV} {u : AV} (hu : iU u = some (g, caps)) {s : Nat} {l : List (List AV)} : jP [.imm s l, u] = some [.imm s l, u] := by
 unfold iU at hu
 split at hu <;> first | rfl | cases hu
theorem bR {L L' : AL} (h : L = L') : L.Perm (L' ++ []) := by rw [List.append_nil, h]
def F5 (P : Program) (g : FuncId) (caps : List AV) (n : Nat) (arg : Nat → AV) (err : Nat → Int) (J : Nat → AL → Prop) : Prop := ∀ i L, i < n → J i L → AC P g ([aM i, arg i] ++ caps) L fun c L' => c = aM (err i) ∧ (err i = 0 → J (i + 1) L')
theorem Ay {g : FuncId} {caps : List AV} {u : AV} [bD Tryz.prog g] (hu : iU u = some (g, caps)) (l : List bf) (err : Nat → Int) (J : Nat → AL → Prop) (L0 : AL) (h0 : J 0 L0) (hw : ∀ i x L, l[i]? = some x → J i L → AC Tryz.prog g ([aM i, .agg (bb x)] ++ caps) L fun c L' => c = aM (err i) ∧ (err i = 0 → J (i + 1) L')) :
  AC Tryz.prog 158 [.imm 9 (l.map bb), u] L0 fun r _ => r = cq (dp err l.length) := by
 refine aP Tryz.func158 rfl Tryz.ntmps158 rfl fun B => ?_
 refine cz 0 rfl rfl fun hlen => ?_
 rw [Gu] at hlen
 repeat' (first|refine ah ?_|refine a7 ?_|refine aq ?_|refine a8 ?_|refine aa ?_|refine ae a6 rfl rfl ?_)
 refine aN [1, 9, 10] (α := Nat × AL) (fun i => [(11, aM i.1)]) (fun i => i.1 ≤ l.length ∧ J i.1 i.2 ∧ dp err l.length = di err (l.length - i.1) i.1) (fun i => i.2) (fun i => l.length - i.1) (0, L0) rfl ⟨rfl, trivial⟩ ⟨Nat.zero_le _, h0, rfl⟩ (fun _ _ h => h) ?_
 rintro ⟨i, L⟩ ⟨hi, hj, he⟩
 dsimp only at hi hj he ⊢
 try dsimp only [Gr, Gq, Gp, Gj]
 repeat' (first|refine ah ?_|refine a7 ?_|refine a8 ?_|refine aa ?_|refine ae a6 rfl rfl ?_)
 refine aw rfl (fun h => ?_) (fun h => ?_)
 ·have hil : i < l.length := by have := Gz h; simp at this; omega
  obtain ⟨z, hz⟩ : ∃ z, l[i]? = some z := ⟨_, Ds hil⟩
  have hzg := bj (c := bb) hz
  repeat' (first|refine ah ?_|refine a7 ?_|refine aq ?_|refine au ?_|refine a8 ?_|refine aa ?_|refine ae a6 rfl rfl ?_|(apply aY; first|refine aX a6 ?_|refine aS a6 ?_)|(apply aH; first|refine ai 7 a6 0 rfl rfl rfl rfl rfl rfl rfl rfl ?_|refine ai 7 a6 1 rfl rfl rfl rfl rfl rfl rfl rfl ?_|refine ai 7 a6 2 rfl rfl rfl rfl rfl rfl rfl rfl ?_|refine aj a6 0 rfl rfl rfl rfl rfl rfl rfl ?_|refine aj a6 1 rfl rfl rfl rfl rfl rfl rfl ?_|refine aj a6 2 rfl rfl rfl rfl rfl rfl rfl ?_|refine aj a6 3 rfl rfl rfl rfl rfl rfl rfl ?_|fail)|refine b5 a6 fun _=>?_|fail)
  refine cV L [] (hw i z L hz hj) rfl hu rfl (bR rfl) rfl rfl fun c L1 ⟨hc, hj'⟩ => ?_
  subst hc
  rw [List.append_nil]
  repeat' (first|refine ah ?_|refine a7 ?_|refine a8 ?_|refine aa ?_|refine ae a6 rfl rfl ?_)
  refine aw rfl (fun h2 => ?_) (fun h2 => ?_)
  ·have h2' := Gz h2
   repeat' (first|refine ah ?_|refine a7 ?_|refine ar ?_|refine a8 ?_|refine aF ?_|refine aT ?_|refine bE ?_|refine aa ?_|refine ae a6 rfl rfl ?_)
   refine b6 rfl rfl rfl ?_
   rw [he, cJ hil h2']
   rfl
  ·have h2' := Decidable.not_not.1 (Gy h2)
   repeat' (first|refine a7 ?_|refine au ?_|refine a8 ?_|refine aI ?_|refine aa ?_|refine ae a6 rfl rfl ?_|(apply aW; refine aV ?_)|fail)
   exact aC (i + 1, L1) rfl ⟨by rw [Gw]; rfl, trivial⟩ ⟨by dsimp only; omega, hj' h2', by rw [he]; exact cx hil h2'⟩ (by dsimp only; omega) (fun _ _ h => h)
 ·have hil : i = l.length := by have := Gy h; simp at this; omega
  subst hil
  repeat' (first|refine ah ?_|refine a7 ?_|refine ar ?_|refine aR ?_|refine a8 ?_|refine av ?_|refine aB ?_|refine ay ?_|refine aa ?_|refine ae a6 rfl rfl ?_)
  refine b6 rfl rfl rfl ?_
  rw [he, Nat.sub_self]
  rfl
theorem Br {g : FuncId} {caps : List AV} {u : AV} [bD Tryz.prog g] (hu : iU u = some (g, caps)) (l : List bf) (most : Int) (err : Nat → Int) (J : Nat → AL → Prop) (L0 : AL) (h0 : J 0 L0) (hw : (l.length : Int) ≤ most → ∀ i x L, l[i]? = some x → J i L → AC Tryz.prog g ([aM i, .agg (bb x)] ++ caps) L fun c L' => c = aM (err i) ∧ (err i = 0 → J (i + 1) L')) :
  AC Tryz.prog 157 [.iptr [.imm 9 (l.map bb)], .iptr [aM most], .iptr [u]] L0 fun r _ => r = cq (dc most err l.length) := by
 refine aP Tryz.func157 rfl Tryz.ntmps157 rfl fun B => ?_
 repeat' (first|refine ah ?_|refine a7 ?_|refine a8 ?_|refine aa ?_|refine ae a6 rfl rfl ?_)
 refine aw rfl (fun h => ?_) (fun h => ?_)
 ·have h' := Gz h
  rw [Gu] at h'
  repeat' (first|refine ah ?_|refine a7 ?_|refine ar ?_|refine a8 ?_|refine aF ?_|refine aa ?_|refine ae a6 rfl rfl ?_)
  refine b6 rfl rfl rfl ?_
  unfold dc
  rw [if_pos h']
  rfl
 ·have h' := Gy h
  rw [Gu] at h'
  repeat' (first|refine ah ?_|refine a7 ?_|refine au ?_|refine a8 ?_|refine ae a6 rfl rfl ?_)
  refine b7 L0 [] (Ay hu l err J L0 h0 (hw (by omega))) rfl (fe hu) (bR rfl) rfl fun c L1 hc => ?_
  subst hc
  repeat' (first|refine ar ?_|refine a8 ?_|refine aa ?_|refine ae a6 rfl rfl ?_)
  refine b6 rfl rfl rfl ?_
  unfold dc
  rw [if_neg h']
  rfl
theorem ES {g : FuncId} {caps : List AV} (l : List bf) (most : Int) : bO Tryz.prog 116 [.imm 9 (l.map bb), aM most, .fn g caps] (.fn 157 [.iptr [.imm 9 (l.map bb)], .iptr [aM most], .iptr [.fn g caps]]) := by
 refine aP Tryz.func116 rfl Tryz.ntmps116 rfl fun B => ?_
 repeat' (first|refine ah ?_|refine a7 ?_|refine ar ?_|refine a8 ?_|refine aa ?_|refine ae a6 rfl rfl ?_|refine be ?_|fail)
 exact aA rfl rfl rfl
instance {g : FuncId} {caps : List AV} (l : List bf) (most : Int) : AD Tryz.prog 116 [.imm 9 (l.map bb), aM most, .fn g caps] (.fn 157 [.iptr [.imm 9 (l.map bb)], .iptr [aM most], .iptr [.fn g caps]]) := ⟨ES l most⟩
theorem Az {g : FuncId} {caps : List AV} {u : AV} [bD Tryz.prog g] (hu : iU u = some (g, caps)) (l : List dO) (err : Nat → Int) (J : Nat → AL → Prop) (L0 : AL) (h0 : J 0 L0) (hw : ∀ i x L, l[i]? = some x → J i L → AC Tryz.prog g ([aM i, .agg (ci x)] ++ caps) L fun c L' => c = aM (err i) ∧ (err i = 0 → J (i + 1) L')) :
  AC Tryz.prog 178 [.imm 2 (l.map ci), u] L0 fun r _ => r = cq (dp err l.length) := by
 refine aP Tryz.func178 rfl Tryz.ntmps178 rfl fun B => ?_
 refine cz 0 rfl rfl fun hlen => ?_
 rw [Gu] at hlen
 repeat' (first|refine ah ?_|refine a7 ?_|refine aq ?_|refine a8 ?_|refine aa ?_|refine ae a6 rfl rfl ?_)
 refine aN [1, 9, 10] (α := Nat × AL) (fun i => [(11, aM i.1)]) (fun i => i.1 ≤ l.length ∧ J i.1 i.2 ∧ dp err l.length = di err (l.length - i.1) i.1) (fun i => i.2) (fun i => l.length - i.1) (0, L0) rfl ⟨rfl, trivial⟩ ⟨Nat.zero_le _, h0, rfl⟩ (fun _ _ h => h) ?_
 rintro ⟨i, L⟩ ⟨hi, hj, he⟩
 dsimp only at hi hj he ⊢
 try dsimp only [Gr, Gq, Gp, Gj]
 repeat' (first|refine ah ?_|refine a7 ?_|refine a8 ?_|refine aa ?_|refine ae a6 rfl rfl ?_)
 refine aw rfl (fun h => ?_) (fun h => ?_)
 ·have hil : i < l.length := by have := Gz h; simp at this; omega
  obtain ⟨z, hz⟩ : ∃ z, l[i]? = some z := ⟨_, Ds hil⟩
  have hzg := bj (c := ci) hz
  repeat' (first|refine ah ?_|refine a7 ?_|refine aq ?_|refine au ?_|refine a8 ?_|refine aa ?_|refine ae a6 rfl rfl ?_|(apply aY; first|refine aX a6 ?_|refine aS a6 ?_)|(apply aH; first|refine ai 7 a6 0 rfl rfl rfl rfl rfl rfl rfl rfl ?_|refine ai 7 a6 1 rfl rfl rfl rfl rfl rfl rfl rfl ?_|refine ai 7 a6 2 rfl rfl rfl rfl rfl rfl rfl rfl ?_|refine aj a6 0 rfl rfl rfl rfl rfl rfl rfl ?_|refine aj a6 1 rfl rfl rfl rfl rfl rfl rfl ?_|refine aj a6 2 rfl rfl rfl rfl rfl rfl rfl ?_|refine aj a6 3 rfl rfl rfl rfl rfl rfl rfl ?_|fail)|refine b5 a6 fun _=>?_|fail)
  refine cV L [] (hw i z L hz hj) rfl hu rfl (bR rfl) rfl rfl fun c L1 ⟨hc, hj'⟩ => ?_
  subst hc
  rw [List.append_nil]
  repeat' (first|refine ah ?_|refine a7 ?_|refine a8 ?_|refine aa ?_|refine ae a6 rfl rfl ?_)
  refine aw rfl (fun h2 => ?_) (fun h2 => ?_)
  ·have h2' := Gz h2
   repeat' (first|refine ah ?_|refine a7 ?_|refine ar ?_|refine a8 ?_|refine aF ?_|refine aT ?_|refine bE ?_|refine aa ?_|refine ae a6 rfl rfl ?_)
   refine b6 rfl rfl rfl ?_
   rw [he, cJ hil h2']
   rfl
  ·have h2' := Decidable.not_not.1 (Gy h2)
   repeat' (first|refine a7 ?_|refine au ?_|refine a8 ?_|refine aI ?_|refine aa ?_|refine ae a6 rfl rfl ?_|(apply aW; refine aV ?_)|fail)
   exact aC (i + 1, L1) rfl ⟨by rw [Gw]; rfl, trivial⟩ ⟨by dsimp only; omega, hj' h2', by rw [he]; exact cx hil h2'⟩ (by dsimp only; omega) (fun _ _ h => h)
 ·have hil : i = l.length := by have := Gy h; simp at this; omega
  subst hil
  repeat' (first|refine ah ?_|refine a7 ?_|refine ar ?_|refine aR ?_|refine a8 ?_|refine av ?_|refine aB ?_|refine ay ?_|refine aa ?_|refine ae a6 rfl rfl ?_)
  refine b6 rfl rfl rfl ?_
  rw [he, Nat.sub_self]
  rfl
theorem Bt {g : FuncId} {caps : List AV} {u : AV} [bD Tryz.prog g] (hu : iU u = some (g, caps)) (l : List dO) (most : Int) (err : Nat → Int) (J : Nat → AL → Prop) (L0 : AL) (h0 : J 0 L0) (hw : (l.length : Int) ≤ most → ∀ i x L, l[i]? = some x → J i L → AC Tryz.prog g ([aM i, .agg (ci x)] ++ caps) L fun c L' => c = aM (err i) ∧ (err i = 0 → J (i + 1) L')) :
  AC Tryz.prog 177 [.iptr [.imm 2 (l.map ci)], .iptr [aM most], .iptr [u]] L0 fun r _ => r = cq (dc most err l.length) := by
 refine aP Tryz.func177 rfl Tryz.ntmps177 rfl fun B => ?_
 repeat' (first|refine ah ?_|refine a7 ?_|refine a8 ?_|refine aa ?_|refine ae a6 rfl rfl ?_)
 refine aw rfl (fun h => ?_) (fun h => ?_)
 ·have h' := Gz h
  rw [Gu] at h'
  repeat' (first|refine ah ?_|refine a7 ?_|refine ar ?_|refine a8 ?_|refine aF ?_|refine aa ?_|refine ae a6 rfl rfl ?_)
  refine b6 rfl rfl rfl ?_
  unfold dc
  rw [if_pos h']
  rfl
 ·have h' := Gy h
  rw [Gu] at h'
  repeat' (first|refine ah ?_|refine a7 ?_|refine au ?_|refine a8 ?_|refine ae a6 rfl rfl ?_)
  refine b7 L0 [] (Az hu l err J L0 h0 (hw (by omega))) rfl (fe hu) (bR rfl) rfl fun c L1 hc => ?_
  subst hc
  repeat' (first|refine ar ?_|refine a8 ?_|refine aa ?_|refine ae a6 rfl rfl ?_)
  refine b6 rfl rfl rfl ?_
  unfold dc
  rw [if_neg h']
  rfl
theorem ET {g : FuncId} {caps : List AV} (l : List dO) (most : Int) : bO Tryz.prog 123 [.imm 2 (l.map ci), aM most, .fn g caps] (.fn 177 [.iptr [.imm 2 (l.map ci)], .iptr [aM most], .iptr [.fn g caps]]) := by
 refine aP Tryz.func123 rfl Tryz.ntmps123 rfl fun B => ?_
 repeat' (first|refine ah ?_|refine a7 ?_|refine ar ?_|refine a8 ?_|refine aa ?_|refine ae a6 rfl rfl ?_|refine be ?_|fail)
 exact aA rfl rfl rfl
instance {g : FuncId} {caps : List AV} (l : List dO) (most : Int) : AD Tryz.prog 123 [.imm 2 (l.map ci), aM most, .fn g caps] (.fn 177 [.iptr [.imm 2 (l.map ci)], .iptr [aM most], .iptr [.fn g caps]]) := ⟨ET l most⟩
theorem AA {g : FuncId} {caps : List AV} {u : AV} [bD Tryz.prog g] (hu : iU u = some (g, caps)) (l : List b9) (err : Nat → Int) (J : Nat → AL → Prop) (L0 : AL) (h0 : J 0 L0) (hw : ∀ i x L, l[i]? = some x → J i L → AC Tryz.prog g ([aM i, .agg (bn x)] ++ caps) L fun c L' => c = aM (err i) ∧ (err i = 0 → J (i + 1) L')) :
  AC Tryz.prog 180 [.imm 3 (l.map bn), u] L0 fun r _ => r = cq (dp err l.length) := by
 refine aP Tryz.func180 rfl Tryz.ntmps180 rfl fun B => ?_
 refine cz 0 rfl rfl fun hlen => ?_
 rw [Gu] at hlen
 repeat' (first|refine ah ?_|refine a7 ?_|refine aq ?_|refine a8 ?_|refine aa ?_|refine ae a6 rfl rfl ?_)
 refine aN [1, 9, 10] (α := Nat × AL) (fun i => [(11, aM i.1)]) (fun i => i.1 ≤ l.length ∧ J i.1 i.2 ∧ dp err l.length = di err (l.length - i.1) i.1) (fun i => i.2) (fun i => l.length - i.1) (0, L0) rfl ⟨rfl, trivial⟩ ⟨Nat.zero_le _, h0, rfl⟩ (fun _ _ h => h) ?_
 rintro ⟨i, L⟩ ⟨hi, hj, he⟩
 dsimp only at hi hj he ⊢
 try dsimp only [Gr, Gq, Gp, Gj]
 repeat' (first|refine ah ?_|refine a7 ?_|refine a8 ?_|refine aa ?_|refine ae a6 rfl rfl ?_)
 refine aw rfl (fun h => ?_) (fun h => ?_)
 ·have hil : i < l.length := by have := Gz h; simp at this; omega
  obtain ⟨z, hz⟩ : ∃ z, l[i]? = some z := ⟨_, Ds hil⟩
  have hzg := bj (c := bn) hz
  repeat' (first|refine ah ?_|refine a7 ?_|refine aq ?_|refine au ?_|refine a8 ?_|refine aa ?_|refine ae a6 rfl rfl ?_|(apply aY; first|refine aX a6 ?_|refine aS a6 ?_)|(apply aH; first|refine ai 7 a6 0 rfl rfl rfl rfl rfl rfl rfl rfl ?_|refine ai 7 a6 1 rfl rfl rfl rfl rfl rfl rfl rfl ?_|refine ai 7 a6 2 rfl rfl rfl rfl rfl rfl rfl rfl ?_|refine aj a6 0 rfl rfl rfl rfl rfl rfl rfl ?_|refine aj a6 1 rfl rfl rfl rfl rfl rfl rfl ?_|refine aj a6 2 rfl rfl rfl rfl rfl rfl rfl ?_|refine aj a6 3 rfl rfl rfl rfl rfl rfl rfl ?_|fail)|refine b5 a6 fun _=>?_|fail)
  refine cV L [] (hw i z L hz hj) rfl hu rfl (bR rfl) rfl rfl fun c L1 ⟨hc, hj'⟩ => ?_
  subst hc
  rw [List.append_nil]
  repeat' (first|refine ah ?_|refine a7 ?_|refine a8 ?_|refine aa ?_|refine ae a6 rfl rfl ?_)
  refine aw rfl (fun h2 => ?_) (fun h2 => ?_)
  ·have h2' := Gz h2
   repeat' (first|refine ah ?_|refine a7 ?_|refine ar ?_|refine a8 ?_|refine aF ?_|refine aT ?_|refine bE ?_|refine aa ?_|refine ae a6 rfl rfl ?_)
   refine b6 rfl rfl rfl ?_
   rw [he, cJ hil h2']
   rfl
  ·have h2' := Decidable.not_not.1 (Gy h2)
   repeat' (first|refine a7 ?_|refine au ?_|refine a8 ?_|refine aI ?_|refine aa ?_|refine ae a6 rfl rfl ?_|(apply aW; refine aV ?_)|fail)
   exact aC (i + 1, L1) rfl ⟨by rw [Gw]; rfl, trivial⟩ ⟨by dsimp only; omega, hj' h2', by rw [he]; exact cx hil h2'⟩ (by dsimp only; omega) (fun _ _ h => h)
 ·have hil : i = l.length := by have := Gy h; simp at this; omega
  subst hil
  repeat' (first|refine ah ?_|refine a7 ?_|refine ar ?_|refine aR ?_|refine a8 ?_|refine av ?_|refine aB ?_|refine ay ?_|refine aa ?_|refine ae a6 rfl rfl ?_)
  refine b6 rfl rfl rfl ?_
  rw [he, Nat.sub_self]
  rfl
theorem Bu {g : FuncId} {caps : List AV} {u : AV} [bD Tryz.prog g] (hu : iU u = some (g, caps)) (l : List b9) (most : Int) (err : Nat → Int) (J : Nat → AL → Prop) (L0 : AL) (h0 : J 0 L0) (hw : (l.length : Int) ≤ most → ∀ i x L, l[i]? = some x → J i L → AC Tryz.prog g ([aM i, .agg (bn x)] ++ caps) L fun c L' => c = aM (err i) ∧ (err i = 0 → J (i + 1) L')) :
  AC Tryz.prog 179 [.iptr [.imm 3 (l.map bn)], .iptr [aM most], .iptr [u]] L0 fun r _ => r = cq (dc most err l.length) := by
 refine aP Tryz.func179 rfl Tryz.ntmps179 rfl fun B => ?_
 repeat' (first|refine ah ?_|refine a7 ?_|refine a8 ?_|refine aa ?_|refine ae a6 rfl rfl ?_)
 refine aw rfl (fun h => ?_) (fun h => ?_)
 ·have h' := Gz h
  rw [Gu] at h'
  repeat' (first|refine ah ?_|refine a7 ?_|refine ar ?_|refine a8 ?_|refine aF ?_|refine aa ?_|refine ae a6 rfl rfl ?_)
  refine b6 rfl rfl rfl ?_
  unfold dc
  rw [if_pos h']
  rfl
 ·have h' := Gy h
  rw [Gu] at h'
  repeat' (first|refine ah ?_|refine a7 ?_|refine au ?_|refine a8 ?_|refine ae a6 rfl rfl ?_)
  refine b7 L0 [] (AA hu l err J L0 h0 (hw (by omega))) rfl (fe hu) (bR rfl) rfl fun c L1 hc => ?_
  subst hc
  repeat' (first|refine ar ?_|refine a8 ?_|refine aa ?_|refine ae a6 rfl rfl ?_)
  refine b6 rfl rfl rfl ?_
  unfold dc
  rw [if_neg h']
  rfl
theorem EU {g : FuncId} {caps : List AV} (l : List b9) (most : Int) : bO Tryz.prog 126 [.imm 3 (l.map bn), aM most, .fn g caps] (.fn 179 [.iptr [.imm 3 (l.map bn)], .iptr [aM most], .iptr [.fn g caps]]) := by
 refine aP Tryz.func126 rfl Tryz.ntmps126 rfl fun B => ?_
 repeat' (first|refine ah ?_|refine a7 ?_|refine ar ?_|refine a8 ?_|refine aa ?_|refine ae a6 rfl rfl ?_|refine be ?_|fail)
 exact aA rfl rfl rfl
instance {g : FuncId} {caps : List AV} (l : List b9) (most : Int) : AD Tryz.prog 126 [.imm 3 (l.map bn), aM most, .fn g caps] (.fn 179 [.iptr [.imm 3 (l.map bn)], .iptr [aM most], .iptr [.fn g caps]]) := ⟨EU l most⟩
theorem AE {g : FuncId} {caps : List AV} {u : AV} [bD Tryz.prog g] (hu : iU u = some (g, caps)) (l : List bV) (err : Nat → Int) (J : Nat → AL → Prop) (L0 : AL) (h0 : J 0 L0) (hw : ∀ i x L, l[i]? = some x → J i L → AC Tryz.prog g ([aM i, .agg (bC x)] ++ caps) L fun c L' => c = aM (err i) ∧ (err i = 0 → J (i + 1) L')) :
  AC Tryz.prog 184 [.imm 6 (l.map bC), u] L0 fun r _ => r = cq (dp err l.length) := by
 refine aP Tryz.func184 rfl Tryz.ntmps184 rfl fun B => ?_
 refine cz 0 rfl rfl fun hlen => ?_
 rw [Gu] at hlen
 repeat' (first|refine ah ?_|refine a7 ?_|refine aq ?_|refine a8 ?_|refine aa ?_|refine ae a6 rfl rfl ?_)
 refine aN [1, 9, 10] (α := Nat × AL) (fun i => [(11, aM i.1)]) (fun i => i.1 ≤ l.length ∧ J i.1 i.2 ∧ dp err l.length = di err (l.length - i.1) i.1) (fun i => i.2) (fun i => l.length - i.1) (0, L0) rfl ⟨rfl, trivial⟩ ⟨Nat.zero_le _, h0, rfl⟩ (fun _ _ h => h) ?_
 rintro ⟨i, L⟩ ⟨hi, hj, he⟩
 dsimp only at hi hj he ⊢
 try dsimp only [Gr, Gq, Gp, Gj]
 repeat' (first|refine ah ?_|refine a7 ?_|refine a8 ?_|refine aa ?_|refine ae a6 rfl rfl ?_)
 refine aw rfl (fun h => ?_) (fun h => ?_)
 ·have hil : i < l.length := by have := Gz h; simp at this; omega
  obtain ⟨z, hz⟩ : ∃ z, l[i]? = some z := ⟨_, Ds hil⟩
  have hzg := bj (c := bC) hz
  repeat' (first|refine ah ?_|refine a7 ?_|refine aq ?_|refine au ?_|refine a8 ?_|refine aa ?_|refine ae a6 rfl rfl ?_|(apply aY; first|refine aX a6 ?_|refine aS a6 ?_)|(apply aH; first|refine ai 7 a6 0 rfl rfl rfl rfl rfl rfl rfl rfl ?_|refine ai 7 a6 1 rfl rfl rfl rfl rfl rfl rfl rfl ?_|refine ai 7 a6 2 rfl rfl rfl rfl rfl rfl rfl rfl ?_|refine aj a6 0 rfl rfl rfl rfl rfl rfl rfl ?_|refine aj a6 1 rfl rfl rfl rfl rfl rfl rfl ?_|refine aj a6 2 rfl rfl rfl rfl rfl rfl rfl ?_|refine aj a6 3 rfl rfl rfl rfl rfl rfl rfl ?_|fail)|refine b5 a6 fun _=>?_|fail)
  refine cV L [] (hw i z L hz hj) rfl hu rfl (bR rfl) rfl rfl fun c L1 ⟨hc, hj'⟩ => ?_
  subst hc
  rw [List.append_nil]
  repeat' (first|refine ah ?_|refine a7 ?_|refine a8 ?_|refine aa ?_|refine ae a6 rfl rfl ?_)
  refine aw rfl (fun h2 => ?_) (fun h2 => ?_)
  ·have h2' := Gz h2
   repeat' (first|refine ah ?_|refine a7 ?_|refine ar ?_|refine a8 ?_|refine aF ?_|refine aT ?_|refine bE ?_|refine aa ?_|refine ae a6 rfl rfl ?_)
   refine b6 rfl rfl rfl ?_
   rw [he, cJ hil h2']
   rfl
  ·have h2' := Decidable.not_not.1 (Gy h2)
   repeat' (first|refine a7 ?_|refine au ?_|refine a8 ?_|refine aI ?_|refine aa ?_|refine ae a6 rfl rfl ?_|(apply aW; refine aV ?_)|fail)
   exact aC (i + 1, L1) rfl ⟨by rw [Gw]; rfl, trivial⟩ ⟨by dsimp only; omega, hj' h2', by rw [he]; exact cx hil h2'⟩ (by dsimp only; omega) (fun _ _ h => h)
 ·have hil : i = l.length := by have := Gy h; simp at this; omega
  subst hil
  repeat' (first|refine ah ?_|refine a7 ?_|refine ar ?_|refine aR ?_|refine a8 ?_|refine av ?_|refine aB ?_|refine ay ?_|refine aa ?_|refine ae a6 rfl rfl ?_)
  refine b6 rfl rfl rfl ?_
  rw [he, Nat.sub_self]
  rfl
theorem AF {g : FuncId} {caps : List AV} {u : AV} [bD Tryz.prog g] (hu : iU u = some (g, caps)) (l : List bL) (err : Nat → Int) (J : Nat → AL → Prop) (L0 : AL) (h0 : J 0 L0) (hw : ∀ i x L, l[i]? = some x → J i L → AC Tryz.prog g ([aM i, .agg (bw x)] ++ caps) L fun c L' => c = aM (err i) ∧ (err i = 0 → J (i + 1) L')) :
  AC Tryz.prog 188 [.imm 2 (l.map bw), u] L0 fun r _ => r = cq (dp err l.length) := by
 refine aP Tryz.func188 rfl Tryz.ntmps188 rfl fun B => ?_
 refine cz 0 rfl rfl fun hlen => ?_
 rw [Gu] at hlen
 repeat' (first|refine ah ?_|refine a7 ?_|refine aq ?_|refine a8 ?_|refine aa ?_|refine ae a6 rfl rfl ?_)
 refine aN [1, 9, 10] (α := Nat × AL) (fun i => [(11, aM i.1)]) (fun i => i.1 ≤ l.length ∧ J i.1 i.2 ∧ dp err l.length = di err (l.length - i.1) i.1) (fun i => i.2) (fun i => l.length - i.1) (0, L0) rfl ⟨rfl, trivial⟩ ⟨Nat.zero_le _, h0, rfl⟩ (fun _ _ h => h) ?_
 rintro ⟨i, L⟩ ⟨hi, hj, he⟩
 dsimp only at hi hj he ⊢
 try dsimp only [Gr, Gq, Gp, Gj]
 repeat' (first|refine ah ?_|refine a7 ?_|refine a8 ?_|refine aa ?_|refine ae a6 rfl rfl ?_)
 refine aw rfl (fun h => ?_) (fun h => ?_)
 ·have hil : i < l.length := by have := Gz h; simp at this; omega
  obtain ⟨z, hz⟩ : ∃ z, l[i]? = some z := ⟨_, Ds hil⟩
  have hzg := bj (c := bw) hz
  repeat' (first|refine ah ?_|refine a7 ?_|refine aq ?_|refine au ?_|refine a8 ?_|refine aa ?_|refine ae a6 rfl rfl ?_|(apply aY; first|refine aX a6 ?_|refine aS a6 ?_)|(apply aH; first|refine ai 7 a6 0 rfl rfl rfl rfl rfl rfl rfl rfl ?_|refine ai 7 a6 1 rfl rfl rfl rfl rfl rfl rfl rfl ?_|refine ai 7 a6 2 rfl rfl rfl rfl rfl rfl rfl rfl ?_|refine aj a6 0 rfl rfl rfl rfl rfl rfl rfl ?_|refine aj a6 1 rfl rfl rfl rfl rfl rfl rfl ?_|refine aj a6 2 rfl rfl rfl rfl rfl rfl rfl ?_|refine aj a6 3 rfl rfl rfl rfl rfl rfl rfl ?_|fail)|refine b5 a6 fun _=>?_|fail)
  refine cV L [] (hw i z L hz hj) rfl hu rfl (bR rfl) rfl rfl fun c L1 ⟨hc, hj'⟩ => ?_
  subst hc
  rw [List.append_nil]
  repeat' (first|refine ah ?_|refine a7 ?_|refine a8 ?_|refine aa ?_|refine ae a6 rfl rfl ?_)
  refine aw rfl (fun h2 => ?_) (fun h2 => ?_)
  ·have h2' := Gz h2
   repeat' (first|refine ah ?_|refine a7 ?_|refine ar ?_|refine a8 ?_|refine aF ?_|refine aT ?_|refine bE ?_|refine aa ?_|refine ae a6 rfl rfl ?_)
   refine b6 rfl rfl rfl ?_
   rw [he, cJ hil h2']
   rfl
  ·have h2' := Decidable.not_not.1 (Gy h2)
   repeat' (first|refine a7 ?_|refine au ?_|refine a8 ?_|refine aI ?_|refine aa ?_|refine ae a6 rfl rfl ?_|(apply aW; refine aV ?_)|fail)
   exact aC (i + 1, L1) rfl ⟨by rw [Gw]; rfl, trivial⟩ ⟨by dsimp only; omega, hj' h2', by rw [he]; exact cx hil h2'⟩ (by dsimp only; omega) (fun _ _ h => h)
 ·have hil : i = l.length := by have := Gy h; simp at this; omega
  subst hil
  repeat' (first|refine ah ?_|refine a7 ?_|refine ar ?_|refine aR ?_|refine a8 ?_|refine av ?_|refine aB ?_|refine ay ?_|refine aa ?_|refine ae a6 rfl rfl ?_)
  refine b6 rfl rfl rfl ?_
  rw [he, Nat.sub_self]
  rfl
theorem Bv {g : FuncId} {caps : List AV} {u : AV} [bD Tryz.prog g] (hu : iU u = some (g, caps)) (l : List bL) (most : Int) (err : Nat → Int) (J : Nat → AL → Prop) (L0 : AL) (h0 : J 0 L0) (hw : (l.length : Int) ≤ most → ∀ i x L, l[i]? = some x → J i L → AC Tryz.prog g ([aM i, .agg (bw x)] ++ caps) L fun c L' => c = aM (err i) ∧ (err i = 0 → J (i + 1) L')) :
  AC Tryz.prog 187 [.iptr [.imm 2 (l.map bw)], .iptr [aM most], .iptr [u]] L0 fun r _ => r = cq (dc most err l.length) := by
 refine aP Tryz.func187 rfl Tryz.ntmps187 rfl fun B => ?_
 repeat' (first|refine ah ?_|refine a7 ?_|refine a8 ?_|refine aa ?_|refine ae a6 rfl rfl ?_)
 refine aw rfl (fun h => ?_) (fun h => ?_)
 ·have h' := Gz h
  rw [Gu] at h'
  repeat' (first|refine ah ?_|refine a7 ?_|refine ar ?_|refine a8 ?_|refine aF ?_|refine aa ?_|refine ae a6 rfl rfl ?_)
  refine b6 rfl rfl rfl ?_
  unfold dc
  rw [if_pos h']
  rfl
 ·have h' := Gy h
  rw [Gu] at h'
  repeat' (first|refine ah ?_|refine a7 ?_|refine au ?_|refine a8 ?_|refine ae a6 rfl rfl ?_)
  refine b7 L0 [] (AF hu l err J L0 h0 (hw (by omega))) rfl (fe hu) (bR rfl) rfl fun c L1 hc => ?_
  subst hc
  repeat' (first|refine ar ?_|refine a8 ?_|refine aa ?_|refine ae a6 rfl rfl ?_)
  refine b6 rfl rfl rfl ?_
  unfold dc
  rw [if_neg h']
  rfl
theorem EV {g : FuncId} {caps : List AV} (l : List bL) (most : Int) : bO Tryz.prog 129 [.imm 2 (l.map bw), aM most, .fn g caps] (.fn 187 [.iptr [.imm 2 (l.map bw)], .iptr [aM most], .iptr [.fn g caps]]) := by
 refine aP Tryz.func129 rfl Tryz.ntmps129 rfl fun B => ?_
 repeat' (first|refine ah ?_|refine a7 ?_|refine ar ?_|refine a8 ?_|refine aa ?_|refine ae a6 rfl rfl ?_|refine be ?_|fail)
 exact aA rfl rfl rfl
instance {g : FuncId} {caps : List AV} (l : List bL) (most : Int) : AD Tryz.prog 129 [.imm 2 (l.map bw), aM most, .fn g caps] (.fn 187 [.iptr [.imm 2 (l.map bw)], .iptr [aM most], .iptr [.fn g caps]]) := ⟨EV l most⟩
theorem AG {g : FuncId} {caps : List AV} {u : AV} [bD Tryz.prog g] (hu : iU u = some (g, caps)) (l : List dY) (err : Nat → Int) (J : Nat → AL → Prop) (L0 : AL) (h0 : J 0 L0) (hw : ∀ i x L, l[i]? = some x → J i L → AC Tryz.prog g ([aM i, .agg (cC x)] ++ caps) L fun c L' => c = aM (err i) ∧ (err i = 0 → J (i + 1) L')) :
  AC Tryz.prog 191 [.imm 4 (l.map cC), u] L0 fun r _ => r = cq (dp err l.length) := by
 refine aP Tryz.func191 rfl Tryz.ntmps191 rfl fun B => ?_
 refine cz 0 rfl rfl fun hlen => ?_
 rw [Gu] at hlen
 repeat' (first|refine ah ?_|refine a7 ?_|refine aq ?_|refine a8 ?_|refine aa ?_|refine ae a6 rfl rfl ?_)
 refine aN [1, 9, 10] (α := Nat × AL) (fun i => [(11, aM i.1)]) (fun i => i.1 ≤ l.length ∧ J i.1 i.2 ∧ dp err l.length = di err (l.length - i.1) i.1) (fun i => i.2) (fun i => l.length - i.1) (0, L0) rfl ⟨rfl, trivial⟩ ⟨Nat.zero_le _, h0, rfl⟩ (fun _ _ h => h) ?_
 rintro ⟨i, L⟩ ⟨hi, hj, he⟩
 dsimp only at hi hj he ⊢
 try dsimp only [Gr, Gq, Gp, Gj]
 repeat' (first|refine ah ?_|refine a7 ?_|refine a8 ?_|refine aa ?_|refine ae a6 rfl rfl ?_)
 refine aw rfl (fun h => ?_) (fun h => ?_)
 ·have hil : i < l.length := by have := Gz h; simp at this; omega
  obtain ⟨z, hz⟩ : ∃ z, l[i]? = some z := ⟨_, Ds hil⟩
  have hzg := bj (c := cC) hz
  repeat' (first|refine ah ?_|refine a7 ?_|refine aq ?_|refine au ?_|refine a8 ?_|refine aa ?_|refine ae a6 rfl rfl ?_|(apply aY; first|refine aX a6 ?_|refine aS a6 ?_)|(apply aH; first|refine ai 7 a6 0 rfl rfl rfl rfl rfl rfl rfl rfl ?_|refine ai 7 a6 1 rfl rfl rfl rfl rfl rfl rfl rfl ?_|refine ai 7 a6 2 rfl rfl rfl rfl rfl rfl rfl rfl ?_|refine aj a6 0 rfl rfl rfl rfl rfl rfl rfl ?_|refine aj a6 1 rfl rfl rfl rfl rfl rfl rfl ?_|refine aj a6 2 rfl rfl rfl rfl rfl rfl rfl ?_|refine aj a6 3 rfl rfl rfl rfl rfl rfl rfl ?_|fail)|refine b5 a6 fun _=>?_|fail)
  refine cV L [] (hw i z L hz hj) rfl hu rfl (bR rfl) rfl rfl fun c L1 ⟨hc, hj'⟩ => ?_
  subst hc
  rw [List.append_nil]
  repeat' (first|refine ah ?_|refine a7 ?_|refine a8 ?_|refine aa ?_|refine ae a6 rfl rfl ?_)
  refine aw rfl (fun h2 => ?_) (fun h2 => ?_)
  ·have h2' := Gz h2
   repeat' (first|refine ah ?_|refine a7 ?_|refine ar ?_|refine a8 ?_|refine aF ?_|refine aT ?_|refine bE ?_|refine aa ?_|refine ae a6 rfl rfl ?_)
   refine b6 rfl rfl rfl ?_
   rw [he, cJ hil h2']
   rfl
  ·have h2' := Decidable.not_not.1 (Gy h2)
   repeat' (first|refine a7 ?_|refine au ?_|refine a8 ?_|refine aI ?_|refine aa ?_|refine ae a6 rfl rfl ?_|(apply aW; refine aV ?_)|fail)
   exact aC (i + 1, L1) rfl ⟨by rw [Gw]; rfl, trivial⟩ ⟨by dsimp only; omega, hj' h2', by rw [he]; exact cx hil h2'⟩ (by dsimp only; omega) (fun _ _ h => h)
 ·have hil : i = l.length := by have := Gy h; simp at this; omega
  subst hil
  repeat' (first|refine ah ?_|refine a7 ?_|refine ar ?_|refine aR ?_|refine a8 ?_|refine av ?_|refine aB ?_|refine ay ?_|refine aa ?_|refine ae a6 rfl rfl ?_)
  refine b6 rfl rfl rfl ?_
  rw [he, Nat.sub_self]
  rfl
theorem Bw {g : FuncId} {caps : List AV} {u : AV} [bD Tryz.prog g] (hu : iU u = some (g, caps)) (l : List dY) (most : Int) (err : Nat → Int) (J : Nat → AL → Prop) (L0 : AL) (h0 : J 0 L0) (hw : (l.length : Int) ≤ most → ∀ i x L, l[i]? = some x → J i L → AC Tryz.prog g ([aM i, .agg (cC x)] ++ caps) L fun c L' => c = aM (err i) ∧ (err i = 0 → J (i + 1) L')) :
  AC Tryz.prog 190 [.iptr [.imm 4 (l.map cC)], .iptr [aM most], .iptr [u]] L0 fun r _ => r = cq (dc most err l.length) := by
 refine aP Tryz.func190 rfl Tryz.ntmps190 rfl fun B => ?_
 repeat' (first|refine ah ?_|refine a7 ?_|refine a8 ?_|refine aa ?_|refine ae a6 rfl rfl ?_)
 refine aw rfl (fun h => ?_) (fun h => ?_)
 ·have h' := Gz h
  rw [Gu] at h'
  repeat' (first|refine ah ?_|refine a7 ?_|refine ar ?_|refine a8 ?_|refine aF ?_|refine aa ?_|refine ae a6 rfl rfl ?_)
  refine b6 rfl rfl rfl ?_
  unfold dc
  rw [if_pos h']
  rfl
 ·have h' := Gy h
  rw [Gu] at h'
  repeat' (first|refine ah ?_|refine a7 ?_|refine au ?_|refine a8 ?_|refine ae a6 rfl rfl ?_)
  refine b7 L0 [] (AG hu l err J L0 h0 (hw (by omega))) rfl (fe hu) (bR rfl) rfl fun c L1 hc => ?_
  subst hc
  repeat' (first|refine ar ?_|refine a8 ?_|refine aa ?_|refine ae a6 rfl rfl ?_)
  refine b6 rfl rfl rfl ?_
  unfold dc
  rw [if_neg h']
  rfl
theorem E9 {g : FuncId} {caps : List AV} (l : List dY) (most : Int) : bO Tryz.prog 133 [.imm 4 (l.map cC), aM most, .fn g caps] (.fn 190 [.iptr [.imm 4 (l.map cC)], .iptr [aM most], .iptr [.fn g caps]]) := by
 refine aP Tryz.func133 rfl Tryz.ntmps133 rfl fun B => ?_
 repeat' (first|refine ah ?_|refine a7 ?_|refine ar ?_|refine a8 ?_|refine aa ?_|refine ae a6 rfl rfl ?_|refine be ?_|fail)
 exact aA rfl rfl rfl
instance {g : FuncId} {caps : List AV} (l : List dY) (most : Int) : AD Tryz.prog 133 [.imm 4 (l.map cC), aM most, .fn g caps] (.fn 190 [.iptr [.imm 4 (l.map cC)], .iptr [aM most], .iptr [.fn g caps]]) := ⟨E9 l most⟩
theorem AH {g : FuncId} {caps : List AV} {u : AV} [bD Tryz.prog g] (hu : iU u = some (g, caps)) (l : List (List dS)) (err : Nat → Int) (J : Nat → AL → Prop) (L0 : AL) (h0 : J 0 L0) (hw : ∀ i x L, l[i]? = some x → J i L → AC Tryz.prog g ([aM i, .agg (bo x)] ++ caps) L fun c L' => c = aM (err i) ∧ (err i = 0 → J (i + 1) L')) :
  AC Tryz.prog 193 [.imm 1 (l.map bo), u] L0 fun r _ => r = cq (dp err l.length) := by
 refine aP Tryz.func193 rfl Tryz.ntmps193 rfl fun B => ?_
 refine cz 0 rfl rfl fun hlen => ?_
 rw [Gu] at hlen
 repeat' (first|refine ah ?_|refine a7 ?_|refine aq ?_|refine a8 ?_|refine aa ?_|refine ae a6 rfl rfl ?_)
 refine aN [1, 9, 10] (α := Nat × AL) (fun i => [(11, aM i.1)]) (fun i => i.1 ≤ l.length ∧ J i.1 i.2 ∧ dp err l.length = di err (l.length - i.1) i.1) (fun i => i.2) (fun i => l.length - i.1) (0, L0) rfl ⟨rfl, trivial⟩ ⟨Nat.zero_le _, h0, rfl⟩ (fun _ _ h => h) ?_
 rintro ⟨i, L⟩ ⟨hi, hj, he⟩
 dsimp only at hi hj he ⊢
 try dsimp only [Gr, Gq, Gp, Gj]
 repeat' (first|refine ah ?_|refine a7 ?_|refine a8 ?_|refine aa ?_|refine ae a6 rfl rfl ?_)
 refine aw rfl (fun h => ?_) (fun h => ?_)
 ·have hil : i < l.length := by have := Gz h; simp at this; omega
  obtain ⟨z, hz⟩ : ∃ z, l[i]? = some z := ⟨_, Ds hil⟩
  have hzg := bj (c := bo) hz
  repeat' (first|refine ah ?_|refine a7 ?_|refine aq ?_|refine au ?_|refine a8 ?_|refine aa ?_|refine ae a6 rfl rfl ?_|(apply aY; first|refine aX a6 ?_|refine aS a6 ?_)|(apply aH; first|refine ai 7 a6 0 rfl rfl rfl rfl rfl rfl rfl rfl ?_|refine ai 7 a6 1 rfl rfl rfl rfl rfl rfl rfl rfl ?_|refine ai 7 a6 2 rfl rfl rfl rfl rfl rfl rfl rfl ?_|refine aj a6 0 rfl rfl rfl rfl rfl rfl rfl ?_|refine aj a6 1 rfl rfl rfl rfl rfl rfl rfl ?_|refine aj a6 2 rfl rfl rfl rfl rfl rfl rfl ?_|refine aj a6 3 rfl rfl rfl rfl rfl rfl rfl ?_|fail)|refine b5 a6 fun _=>?_|fail)
  refine cV L [] (hw i z L hz hj) rfl hu rfl (bR rfl) rfl rfl fun c L1 ⟨hc, hj'⟩ => ?_
  subst hc
  rw [List.append_nil]
  repeat' (first|refine ah ?_|refine a7 ?_|refine a8 ?_|refine aa ?_|refine ae a6 rfl rfl ?_)
  refine aw rfl (fun h2 => ?_) (fun h2 => ?_)
  ·have h2' := Gz h2
   repeat' (first|refine ah ?_|refine a7 ?_|refine ar ?_|refine a8 ?_|refine aF ?_|refine aT ?_|refine bE ?_|refine aa ?_|refine ae a6 rfl rfl ?_)
   refine b6 rfl rfl rfl ?_
   rw [he, cJ hil h2']
   rfl
  ·have h2' := Decidable.not_not.1 (Gy h2)
   repeat' (first|refine a7 ?_|refine au ?_|refine a8 ?_|refine aI ?_|refine aa ?_|refine ae a6 rfl rfl ?_|(apply aW; refine aV ?_)|fail)
   exact aC (i + 1, L1) rfl ⟨by rw [Gw]; rfl, trivial⟩ ⟨by dsimp only; omega, hj' h2', by rw [he]; exact cx hil h2'⟩ (by dsimp only; omega) (fun _ _ h => h)
 ·have hil : i = l.length := by have := Gy h; simp at this; omega
  subst hil
  repeat' (first|refine ah ?_|refine a7 ?_|refine ar ?_|refine aR ?_|refine a8 ?_|refine av ?_|refine aB ?_|refine ay ?_|refine aa ?_|refine ae a6 rfl rfl ?_)
  refine b6 rfl rfl rfl ?_
  rw [he, Nat.sub_self]
  rfl
theorem Bx {g : FuncId} {caps : List AV} {u : AV} [bD Tryz.prog g] (hu : iU u = some (g, caps)) (l : List (List dS)) (most : Int) (err : Nat → Int) (J : Nat → AL → Prop) (L0 : AL) (h0 : J 0 L0) (hw : (l.length : Int) ≤ most → ∀ i x L, l[i]? = some x → J i L → AC Tryz.prog g ([aM i, .agg (bo x)] ++ caps) L fun c L' => c = aM (err i) ∧ (err i = 0 → J (i + 1) L')) :
  AC Tryz.prog 192 [.iptr [.imm 1 (l.map bo)], .iptr [aM most], .iptr [u]] L0 fun r _ => r = cq (dc most err l.length) := by
 refine aP Tryz.func192 rfl Tryz.ntmps192 rfl fun B => ?_
 repeat' (first|refine ah ?_|refine a7 ?_|refine a8 ?_|refine aa ?_|refine ae a6 rfl rfl ?_)
 refine aw rfl (fun h => ?_) (fun h => ?_)
 ·have h' := Gz h
  rw [Gu] at h'
  repeat' (first|refine ah ?_|refine a7 ?_|refine ar ?_|refine a8 ?_|refine aF ?_|refine aa ?_|refine ae a6 rfl rfl ?_)
  refine b6 rfl rfl rfl ?_
  unfold dc
  rw [if_pos h']
  rfl
 ·have h' := Gy h
  rw [Gu] at h'
  repeat' (first|refine ah ?_|refine a7 ?_|refine au ?_|refine a8 ?_|refine ae a6 rfl rfl ?_)
  refine b7 L0 [] (AH hu l err J L0 h0 (hw (by omega))) rfl (fe hu) (bR rfl) rfl fun c L1 hc => ?_
  subst hc
  repeat' (first|refine ar ?_|refine a8 ?_|refine aa ?_|refine ae a6 rfl rfl ?_)
  refine b6 rfl rfl rfl ?_
  unfold dc
  rw [if_neg h']
  rfl
theorem Ea {g : FuncId} {caps : List AV} (l : List (List dS)) (most : Int) : bO Tryz.prog 136 [.imm 1 (l.map bo), aM most, .fn g caps] (.fn 192 [.iptr [.imm 1 (l.map bo)], .iptr [aM most], .iptr [.fn g caps]]) := by
 refine aP Tryz.func136 rfl Tryz.ntmps136 rfl fun B => ?_
 repeat' (first|refine ah ?_|refine a7 ?_|refine ar ?_|refine a8 ?_|refine aa ?_|refine ae a6 rfl rfl ?_|refine be ?_|fail)
 exact aA rfl rfl rfl
instance {g : FuncId} {caps : List AV} (l : List (List dS)) (most : Int) : AD Tryz.prog 136 [.imm 1 (l.map bo), aM most, .fn g caps] (.fn 192 [.iptr [.imm 1 (l.map bo)], .iptr [aM most], .iptr [.fn g caps]]) := ⟨Ea l most⟩
theorem AI {g : FuncId} {caps : List AV} {u : AV} [bD Tryz.prog g] (hu : iU u = some (g, caps)) (l : List dS) (err : Nat → Int) (J : Nat → AL → Prop) (L0 : AL) (h0 : J 0 L0) (hw : ∀ i x L, l[i]? = some x → J i L → AC Tryz.prog g ([aM i, .agg (gH x)] ++ caps) L fun c L' => c = aM (err i) ∧ (err i = 0 → J (i + 1) L')) :
  AC Tryz.prog 194 [.imm 3 (l.map gH), u] L0 fun r _ => r = cq (dp err l.length) := by
 refine aP Tryz.func194 rfl Tryz.ntmps194 rfl fun B => ?_
 refine cz 0 rfl rfl fun hlen => ?_
 rw [Gu] at hlen
 repeat' (first|refine ah ?_|refine a7 ?_|refine aq ?_|refine a8 ?_|refine aa ?_|refine ae a6 rfl rfl ?_)
 refine aN [1, 9, 10] (α := Nat × AL) (fun i => [(11, aM i.1)]) (fun i => i.1 ≤ l.length ∧ J i.1 i.2 ∧ dp err l.length = di err (l.length - i.1) i.1) (fun i => i.2) (fun i => l.length - i.1) (0, L0) rfl ⟨rfl, trivial⟩ ⟨Nat.zero_le _, h0, rfl⟩ (fun _ _ h => h) ?_
 rintro ⟨i, L⟩ ⟨hi, hj, he⟩
 dsimp only at hi hj he ⊢
 try dsimp only [Gr, Gq, Gp, Gj]
 repeat' (first|refine ah ?_|refine a7 ?_|refine a8 ?_|refine aa ?_|refine ae a6 rfl rfl ?_)
 refine aw rfl (fun h => ?_) (fun h => ?_)
 ·have hil : i < l.length := by have := Gz h; simp at this; omega
  obtain ⟨z, hz⟩ : ∃ z, l[i]? = some z := ⟨_, Ds hil⟩
  have hzg := bj (c := gH) hz
  repeat' (first|refine ah ?_|refine a7 ?_|refine aq ?_|refine au ?_|refine a8 ?_|refine aa ?_|refine ae a6 rfl rfl ?_|(apply aY; first|refine aX a6 ?_|refine aS a6 ?_)|(apply aH; first|refine ai 7 a6 0 rfl rfl rfl rfl rfl rfl rfl rfl ?_|refine ai 7 a6 1 rfl rfl rfl rfl rfl rfl rfl rfl ?_|refine ai 7 a6 2 rfl rfl rfl rfl rfl rfl rfl rfl ?_|refine aj a6 0 rfl rfl rfl rfl rfl rfl rfl ?_|refine aj a6 1 rfl rfl rfl rfl rfl rfl rfl ?_|refine aj a6 2 rfl rfl rfl rfl rfl rfl rfl ?_|refine aj a6 3 rfl rfl rfl rfl rfl rfl rfl ?_|fail)|refine b5 a6 fun _=>?_|fail)
  refine cV L [] (hw i z L hz hj) rfl hu rfl (bR rfl) rfl rfl fun c L1 ⟨hc, hj'⟩ => ?_
  subst hc
  rw [List.append_nil]
  repeat' (first|refine ah ?_|refine a7 ?_|refine a8 ?_|refine aa ?_|refine ae a6 rfl rfl ?_)
  refine aw rfl (fun h2 => ?_) (fun h2 => ?_)
  ·have h2' := Gz h2
   repeat' (first|refine ah ?_|refine a7 ?_|refine ar ?_|refine a8 ?_|refine aF ?_|refine aT ?_|refine bE ?_|refine aa ?_|refine ae a6 rfl rfl ?_)
   refine b6 rfl rfl rfl ?_
   rw [he, cJ hil h2']
   rfl
  ·have h2' := Decidable.not_not.1 (Gy h2)
   repeat' (first|refine a7 ?_|refine au ?_|refine a8 ?_|refine aI ?_|refine aa ?_|refine ae a6 rfl rfl ?_|(apply aW; refine aV ?_)|fail)
   exact aC (i + 1, L1) rfl ⟨by rw [Gw]; rfl, trivial⟩ ⟨by dsimp only; omega, hj' h2', by rw [he]; exact cx hil h2'⟩ (by dsimp only; omega) (fun _ _ h => h)
 ·have hil : i = l.length := by have := Gy h; simp at this; omega
  subst hil
  repeat' (first|refine ah ?_|refine a7 ?_|refine ar ?_|refine aR ?_|refine a8 ?_|refine av ?_|refine aB ?_|refine ay ?_|refine aa ?_|refine ae a6 rfl rfl ?_)
  refine b6 rfl rfl rfl ?_
  rw [he, Nat.sub_self]
  rfl
theorem AJ {g : FuncId} {caps : List AV} {u : AV} [bD Tryz.prog g] (hu : iU u = some (g, caps)) (l : List (List eb)) (err : Nat → Int) (J : Nat → AL → Prop) (L0 : AL) (h0 : J 0 L0) (hw : ∀ i x L, l[i]? = some x → J i L → AC Tryz.prog g ([aM i, .imm 2 (x.map dH)] ++ caps) L fun c L' => c = aM (err i) ∧ (err i = 0 → J (i + 1) L')) :
  AC Tryz.prog 197 [.imm 1 (l.map cQ), u] L0 fun r _ => r = cq (dp err l.length) := by
 refine aP Tryz.func197 rfl Tryz.ntmps197 rfl fun B => ?_
 refine cz 0 rfl rfl fun hlen => ?_
 rw [Gu] at hlen
 repeat' (first|refine ah ?_|refine a7 ?_|refine aq ?_|refine a8 ?_|refine aa ?_|refine ae a6 rfl rfl ?_)
 refine aN [1, 9, 10] (α := Nat × AL) (fun i => [(11, aM i.1)]) (fun i => i.1 ≤ l.length ∧ J i.1 i.2 ∧ dp err l.length = di err (l.length - i.1) i.1) (fun i => i.2) (fun i => l.length - i.1) (0, L0) rfl ⟨rfl, trivial⟩ ⟨Nat.zero_le _, h0, rfl⟩ (fun _ _ h => h) ?_
 rintro ⟨i, L⟩ ⟨hi, hj, he⟩
 dsimp only at hi hj he ⊢
 try dsimp only [Gr, Gq, Gp, Gj]
 repeat' (first|refine ah ?_|refine a7 ?_|refine a8 ?_|refine aa ?_|refine ae a6 rfl rfl ?_)
 refine aw rfl (fun h => ?_) (fun h => ?_)
 ·have hil : i < l.length := by have := Gz h; simp at this; omega
  obtain ⟨z, hz⟩ : ∃ z, l[i]? = some z := ⟨_, Ds hil⟩
  have hzg := bj (c := cQ) hz
  repeat' (first|refine ah ?_|refine a7 ?_|refine aq ?_|refine au ?_|refine a8 ?_|refine aa ?_|refine ae a6 rfl rfl ?_|(apply aY; first|refine aX a6 ?_|refine aS a6 ?_)|fail)
  refine cV L [] (hw i z L hz hj) rfl hu rfl (bR rfl) rfl rfl fun c L1 ⟨hc, hj'⟩ => ?_
  subst hc
  rw [List.append_nil]
  repeat' (first|refine ah ?_|refine a7 ?_|refine a8 ?_|refine aa ?_|refine ae a6 rfl rfl ?_)
  refine aw rfl (fun h2 => ?_) (fun h2 => ?_)
  ·have h2' := Gz h2
   repeat' (first|refine ah ?_|refine a7 ?_|refine ar ?_|refine a8 ?_|refine aF ?_|refine aT ?_|refine bE ?_|refine aa ?_|refine ae a6 rfl rfl ?_)
   refine b6 rfl rfl rfl ?_
   rw [he, cJ hil h2']
   rfl
  ·have h2' := Decidable.not_not.1 (Gy h2)
   repeat' (first|refine a7 ?_|refine au ?_|refine a8 ?_|refine aI ?_|refine aa ?_|refine ae a6 rfl rfl ?_|(apply aW; refine aV ?_)|fail)
   exact aC (i + 1, L1) rfl ⟨by rw [Gw]; rfl, trivial⟩ ⟨by dsimp only; omega, hj' h2', by rw [he]; exact cx hil h2'⟩ (by dsimp only; omega) (fun _ _ h => h)
 ·have hil : i = l.length := by have := Gy h; simp at this; omega
  subst hil
  repeat' (first|refine ah ?_|refine a7 ?_|refine ar ?_|refine aR ?_|refine a8 ?_|refine av ?_|refine aB ?_|refine ay ?_|refine aa ?_|refine ae a6 rfl rfl ?_)
  refine b6 rfl rfl rfl ?_
  rw [he, Nat.sub_self]
  rfl
theorem By {g : FuncId} {caps : List AV} {u : AV} [bD Tryz.prog g] (hu : iU u = some (g, caps)) (l : List (List eb)) (most : Int) (err : Nat → Int) (J : Nat → AL → Prop) (L0 : AL) (h0 : J 0 L0) (hw : (l.length : Int) ≤ most → ∀ i x L, l[i]? = some x → J i L → AC Tryz.prog g ([aM i, .imm 2 (x.map dH)] ++ caps) L fun c L' => c = aM (err i) ∧ (err i = 0 → J (i + 1) L')) :
  AC Tryz.prog 196 [.iptr [.imm 1 (l.map cQ)], .iptr [aM most], .iptr [u]] L0 fun r _ => r = cq (dc most err l.length) := by
 refine aP Tryz.func196 rfl Tryz.ntmps196 rfl fun B => ?_
 repeat' (first|refine ah ?_|refine a7 ?_|refine a8 ?_|refine aa ?_|refine ae a6 rfl rfl ?_)
 refine aw rfl (fun h => ?_) (fun h => ?_)
 ·have h' := Gz h
  rw [Gu] at h'
  repeat' (first|refine ah ?_|refine a7 ?_|refine ar ?_|refine a8 ?_|refine aF ?_|refine aa ?_|refine ae a6 rfl rfl ?_)
  refine b6 rfl rfl rfl ?_
  unfold dc
  rw [if_pos h']
  rfl
 ·have h' := Gy h
  rw [Gu] at h'
  repeat' (first|refine ah ?_|refine a7 ?_|refine au ?_|refine a8 ?_|refine ae a6 rfl rfl ?_)
  refine b7 L0 [] (AJ hu l err J L0 h0 (hw (by omega))) rfl (fe hu) (bR rfl) rfl fun c L1 hc => ?_
  subst hc
  repeat' (first|refine ar ?_|refine a8 ?_|refine aa ?_|refine ae a6 rfl rfl ?_)
  refine b6 rfl rfl rfl ?_
  unfold dc
  rw [if_neg h']
  rfl
theorem CT {g : FuncId} (l : List (List eb)) (most : Int) : bO Tryz.prog 139 [.imm 1 (l.map cQ), aM most, .sc (.func (.func g) #[] #[])] (.fn 196 [.iptr [.imm 1 (l.map cQ)], .iptr [aM most], .iptr [.sc (.func (.func g) #[] #[])]]) := by
 refine aP Tryz.func139 rfl Tryz.ntmps139 rfl fun B => ?_
 repeat' (first|refine ah ?_|refine a7 ?_|refine ar ?_|refine a8 ?_|refine aa ?_|refine ae a6 rfl rfl ?_|refine be ?_|fail)
 exact aA rfl rfl rfl
instance {g : FuncId} (l : List (List eb)) (most : Int) : AD Tryz.prog 139 [.imm 1 (l.map cQ), aM most, .sc (.func (.func g) #[] #[])] (.fn 196 [.iptr [.imm 1 (l.map cQ)], .iptr [aM most], .iptr [.sc (.func (.func g) #[] #[])]]) := ⟨CT l most⟩
theorem AK {g : FuncId} {caps : List AV} {u : AV} [bD Tryz.prog g] (hu : iU u = some (g, caps)) (l : List ei) (err : Nat → Int) (J : Nat → AL → Prop) (L0 : AL) (h0 : J 0 L0) (hw : ∀ i x L, l[i]? = some x → J i L → AC Tryz.prog g ([aM i, .agg (cP x)] ++ caps) L fun c L' => c = aM (err i) ∧ (err i = 0 → J (i + 1) L')) :
  AC Tryz.prog 214 [.imm 3 (l.map cP), u] L0 fun r _ => r = cq (dp err l.length) := by
 refine aP Tryz.func214 rfl Tryz.ntmps214 rfl fun B => ?_
 refine cz 0 rfl rfl fun hlen => ?_
 rw [Gu] at hlen
 repeat' (first|refine ah ?_|refine a7 ?_|refine aq ?_|refine a8 ?_|refine aa ?_|refine ae a6 rfl rfl ?_)
 refine aN [1, 9, 10] (α := Nat × AL) (fun i => [(11, aM i.1)]) (fun i => i.1 ≤ l.length ∧ J i.1 i.2 ∧ dp err l.length = di err (l.length - i.1) i.1) (fun i => i.2) (fun i => l.length - i.1) (0, L0) rfl ⟨rfl, trivial⟩ ⟨Nat.zero_le _, h0, rfl⟩ (fun _ _ h => h) ?_
 rintro ⟨i, L⟩ ⟨hi, hj, he⟩
 dsimp only at hi hj he ⊢
 try dsimp only [Gr, Gq, Gp, Gj]
 repeat' (first|refine ah ?_|refine a7 ?_|refine a8 ?_|refine aa ?_|refine ae a6 rfl rfl ?_)
 refine aw rfl (fun h => ?_) (fun h => ?_)
 ·have hil : i < l.length := by have := Gz h; simp at this; omega
  obtain ⟨z, hz⟩ : ∃ z, l[i]? = some z := ⟨_, Ds hil⟩
  have hzg := bj (c := cP) hz
  repeat' (first|refine ah ?_|refine a7 ?_|refine aq ?_|refine au ?_|refine a8 ?_|refine aa ?_|refine ae a6 rfl rfl ?_|(apply aY; first|refine aX a6 ?_|refine aS a6 ?_)|(apply aH; first|refine ai 7 a6 0 rfl rfl rfl rfl rfl rfl rfl rfl ?_|refine ai 7 a6 1 rfl rfl rfl rfl rfl rfl rfl rfl ?_|refine ai 7 a6 2 rfl rfl rfl rfl rfl rfl rfl rfl ?_|refine aj a6 0 rfl rfl rfl rfl rfl rfl rfl ?_|refine aj a6 1 rfl rfl rfl rfl rfl rfl rfl ?_|refine aj a6 2 rfl rfl rfl rfl rfl rfl rfl ?_|refine aj a6 3 rfl rfl rfl rfl rfl rfl rfl ?_|fail)|refine b5 a6 fun _=>?_|fail)
  refine cV L [] (hw i z L hz hj) rfl hu rfl (bR rfl) rfl rfl fun c L1 ⟨hc, hj'⟩ => ?_
  subst hc
  rw [List.append_nil]
  repeat' (first|refine ah ?_|refine a7 ?_|refine a8 ?_|refine aa ?_|refine ae a6 rfl rfl ?_)
  refine aw rfl (fun h2 => ?_) (fun h2 => ?_)
  ·have h2' := Gz h2
   repeat' (first|refine ah ?_|refine a7 ?_|refine ar ?_|refine a8 ?_|refine aF ?_|refine aT ?_|refine bE ?_|refine aa ?_|refine ae a6 rfl rfl ?_)
   refine b6 rfl rfl rfl ?_
   rw [he, cJ hil h2']
   rfl
  ·have h2' := Decidable.not_not.1 (Gy h2)
   repeat' (first|refine a7 ?_|refine au ?_|refine a8 ?_|refine aI ?_|refine aa ?_|refine ae a6 rfl rfl ?_|(apply aW; refine aV ?_)|fail)
   exact aC (i + 1, L1) rfl ⟨by rw [Gw]; rfl, trivial⟩ ⟨by dsimp only; omega, hj' h2', by rw [he]; exact cx hil h2'⟩ (by dsimp only; omega) (fun _ _ h => h)
 ·have hil : i = l.length := by have := Gy h; simp at this; omega
  subst hil
  repeat' (first|refine ah ?_|refine a7 ?_|refine ar ?_|refine aR ?_|refine a8 ?_|refine av ?_|refine aB ?_|refine ay ?_|refine aa ?_|refine ae a6 rfl rfl ?_)
  refine b6 rfl rfl rfl ?_
  rw [he, Nat.sub_self]
  rfl
theorem AM {g : FuncId} {caps : List AV} {u : AV} [bD Tryz.prog g] (hu : iU u = some (g, caps)) (l : List cB) (err : Nat → Int) (J : Nat → AL → Prop) (L0 : AL) (h0 : J 0 L0) (hw : ∀ i x L, l[i]? = some x → J i L → AC Tryz.prog g ([aM i, .agg (cn x)] ++ caps) L fun c L' => c = aM (err i) ∧ (err i = 0 → J (i + 1) L')) :
  AC Tryz.prog 218 [.imm 3 (l.map cn), u] L0 fun r _ => r = cq (dp err l.length) := by
 refine aP Tryz.func218 rfl Tryz.ntmps218 rfl fun B => ?_
 refine cz 0 rfl rfl fun hlen => ?_
 rw [Gu] at hlen
 repeat' (first|refine ah ?_|refine a7 ?_|refine aq ?_|refine a8 ?_|refine aa ?_|refine ae a6 rfl rfl ?_)
 refine aN [1, 9, 10] (α := Nat × AL) (fun i => [(11, aM i.1)]) (fun i => i.1 ≤ l.length ∧ J i.1 i.2 ∧ dp err l.length = di err (l.length - i.1) i.1) (fun i => i.2) (fun i => l.length - i.1) (0, L0) rfl ⟨rfl, trivial⟩ ⟨Nat.zero_le _, h0, rfl⟩ (fun _ _ h => h) ?_
 rintro ⟨i, L⟩ ⟨hi, hj, he⟩
 dsimp only at hi hj he ⊢
 try dsimp only [Gr, Gq, Gp, Gj]
 repeat' (first|refine ah ?_|refine a7 ?_|refine a8 ?_|refine aa ?_|refine ae a6 rfl rfl ?_)
 refine aw rfl (fun h => ?_) (fun h => ?_)
 ·have hil : i < l.length := by have := Gz h; simp at this; omega
  obtain ⟨z, hz⟩ : ∃ z, l[i]? = some z := ⟨_, Ds hil⟩
  have hzg := bj (c := cn) hz
  repeat' (first|refine ah ?_|refine a7 ?_|refine aq ?_|refine au ?_|refine a8 ?_|refine aa ?_|refine ae a6 rfl rfl ?_|(apply aY; first|refine aX a6 ?_|refine aS a6 ?_)|(apply aH; first|refine ai 7 a6 0 rfl rfl rfl rfl rfl rfl rfl rfl ?_|refine ai 7 a6 1 rfl rfl rfl rfl rfl rfl rfl rfl ?_|refine ai 7 a6 2 rfl rfl rfl rfl rfl rfl rfl rfl ?_|refine aj a6 0 rfl rfl rfl rfl rfl rfl rfl ?_|refine aj a6 1 rfl rfl rfl rfl rfl rfl rfl ?_|refine aj a6 2 rfl rfl rfl rfl rfl rfl rfl ?_|refine aj a6 3 rfl rfl rfl rfl rfl rfl rfl ?_|fail)|refine b5 a6 fun _=>?_|fail)
  refine cV L [] (hw i z L hz hj) rfl hu rfl (bR rfl) rfl rfl fun c L1 ⟨hc, hj'⟩ => ?_
  subst hc
  rw [List.append_nil]
  repeat' (first|refine ah ?_|refine a7 ?_|refine a8 ?_|refine aa ?_|refine ae a6 rfl rfl ?_)
  refine aw rfl (fun h2 => ?_) (fun h2 => ?_)
  ·have h2' := Gz h2
   repeat' (first|refine ah ?_|refine a7 ?_|refine ar ?_|refine a8 ?_|refine aF ?_|refine aT ?_|refine bE ?_|refine aa ?_|refine ae a6 rfl rfl ?_)
   refine b6 rfl rfl rfl ?_
   rw [he, cJ hil h2']
   rfl
  ·have h2' := Decidable.not_not.1 (Gy h2)
   repeat' (first|refine a7 ?_|refine au ?_|refine a8 ?_|refine aI ?_|refine aa ?_|refine ae a6 rfl rfl ?_|(apply aW; refine aV ?_)|fail)
   exact aC (i + 1, L1) rfl ⟨by rw [Gw]; rfl, trivial⟩ ⟨by dsimp only; omega, hj' h2', by rw [he]; exact cx hil h2'⟩ (by dsimp only; omega) (fun _ _ h => h)
 ·have hil : i = l.length := by have := Gy h; simp at this; omega
  subst hil
  repeat' (first|refine ah ?_|refine a7 ?_|refine ar ?_|refine aR ?_|refine a8 ?_|refine av ?_|refine aB ?_|refine ay ?_|refine aa ?_|refine ae a6 rfl rfl ?_)
  refine b6 rfl rfl rfl ?_
  rw [he, Nat.sub_self]
  rfl
theorem BA {g : FuncId} {caps : List AV} {u : AV} [bD Tryz.prog g] (hu : iU u = some (g, caps)) (l : List cB) (most : Int) (err : Nat → Int) (J : Nat → AL → Prop) (L0 : AL) (h0 : J 0 L0) (hw : (l.length : Int) ≤ most → ∀ i x L, l[i]? = some x → J i L → AC Tryz.prog g ([aM i, .agg (cn x)] ++ caps) L fun c L' => c = aM (err i) ∧ (err i = 0 → J (i + 1) L')) :
  AC Tryz.prog 217 [.iptr [.imm 3 (l.map cn)], .iptr [aM most], .iptr [u]] L0 fun r _ => r = cq (dc most err l.length) := by
 refine aP Tryz.func217 rfl Tryz.ntmps217 rfl fun B => ?_
 repeat' (first|refine ah ?_|refine a7 ?_|refine a8 ?_|refine aa ?_|refine ae a6 rfl rfl ?_)
 refine aw rfl (fun h => ?_) (fun h => ?_)
 ·have h' := Gz h
  rw [Gu] at h'
  repeat' (first|refine ah ?_|refine a7 ?_|refine ar ?_|refine a8 ?_|refine aF ?_|refine aa ?_|refine ae a6 rfl rfl ?_)
  refine b6 rfl rfl rfl ?_
  unfold dc
  rw [if_pos h']
  rfl
 ·have h' := Gy h
  rw [Gu] at h'
  repeat' (first|refine ah ?_|refine a7 ?_|refine au ?_|refine a8 ?_|refine ae a6 rfl rfl ?_)
  refine b7 L0 [] (AM hu l err J L0 h0 (hw (by omega))) rfl (fe hu) (bR rfl) rfl fun c L1 hc => ?_
  subst hc
  repeat' (first|refine ar ?_|refine a8 ?_|refine aa ?_|refine ae a6 rfl rfl ?_)
  refine b6 rfl rfl rfl ?_
  unfold dc
  rw [if_neg h']
  rfl
theorem Eb {g : FuncId} {caps : List AV} (l : List cB) (most : Int) : bO Tryz.prog 162 [.imm 3 (l.map cn), aM most, .fn g caps] (.fn 217 [.iptr [.imm 3 (l.map cn)], .iptr [aM most], .iptr [.fn g caps]]) := by
 refine aP Tryz.func162 rfl Tryz.ntmps162 rfl fun B => ?_
 repeat' (first|refine ah ?_|refine a7 ?_|refine ar ?_|refine a8 ?_|refine aa ?_|refine ae a6 rfl rfl ?_|refine be ?_|fail)
 exact aA rfl rfl rfl
instance {g : FuncId} {caps : List AV} (l : List cB) (most : Int) : AD Tryz.prog 162 [.imm 3 (l.map cn), aM most, .fn g caps] (.fn 217 [.iptr [.imm 3 (l.map cn)], .iptr [aM most], .iptr [.fn g caps]]) := ⟨Eb l most⟩
theorem AN {g : FuncId} {caps : List AV} {u : AV} [bD Tryz.prog g] (hu : iU u = some (g, caps)) (l : List dt) (err : Nat → Int) (J : Nat → AL → Prop) (L0 : AL) (h0 : J 0 L0) (hw : ∀ i x L, l[i]? = some x → J i L → AC Tryz.prog g ([aM i, .agg (ct x)] ++ caps) L fun c L' => c = aM (err i) ∧ (err i = 0 → J (i + 1) L')) :
  AC Tryz.prog 220 [.imm 4 (l.map ct), u] L0 fun r _ => r = cq (dp err l.length) := by
 refine aP Tryz.func220 rfl Tryz.ntmps220 rfl fun B => ?_
 refine cz 0 rfl rfl fun hlen => ?_
 rw [Gu] at hlen
 repeat' (first|refine ah ?_|refine a7 ?_|refine aq ?_|refine a8 ?_|refine aa ?_|refine ae a6 rfl rfl ?_)
 refine aN [1, 9, 10] (α := Nat × AL) (fun i => [(11, aM i.1)]) (fun i => i.1 ≤ l.length ∧ J i.1 i.2 ∧ dp err l.length = di err (l.length - i.1) i.1) (fun i => i.2) (fun i => l.length - i.1) (0, L0) rfl ⟨rfl, trivial⟩ ⟨Nat.zero_le _, h0, rfl⟩ (fun _ _ h => h) ?_
 rintro ⟨i, L⟩ ⟨hi, hj, he⟩
 dsimp only at hi hj he ⊢
 try dsimp only [Gr, Gq, Gp, Gj]
 repeat' (first|refine ah ?_|refine a7 ?_|refine a8 ?_|refine aa ?_|refine ae a6 rfl rfl ?_)
 refine aw rfl (fun h => ?_) (fun h => ?_)
 ·have hil : i < l.length := by have := Gz h; simp at this; omega
  obtain ⟨z, hz⟩ : ∃ z, l[i]? = some z := ⟨_, Ds hil⟩
  have hzg := bj (c := ct) hz
  repeat' (first|refine ah ?_|refine a7 ?_|refine aq ?_|refine au ?_|refine a8 ?_|refine aa ?_|refine ae a6 rfl rfl ?_|(apply aY; first|refine aX a6 ?_|refine aS a6 ?_)|(apply aH; first|refine ai 7 a6 0 rfl rfl rfl rfl rfl rfl rfl rfl ?_|refine ai 7 a6 1 rfl rfl rfl rfl rfl rfl rfl rfl ?_|refine ai 7 a6 2 rfl rfl rfl rfl rfl rfl rfl rfl ?_|refine aj a6 0 rfl rfl rfl rfl rfl rfl rfl ?_|refine aj a6 1 rfl rfl rfl rfl rfl rfl rfl ?_|refine aj a6 2 rfl rfl rfl rfl rfl rfl rfl ?_|refine aj a6 3 rfl rfl rfl rfl rfl rfl rfl ?_|fail)|refine b5 a6 fun _=>?_|fail)
  refine cV L [] (hw i z L hz hj) rfl hu rfl (bR rfl) rfl rfl fun c L1 ⟨hc, hj'⟩ => ?_
  subst hc
  rw [List.append_nil]
  repeat' (first|refine ah ?_|refine a7 ?_|refine a8 ?_|refine aa ?_|refine ae a6 rfl rfl ?_)
  refine aw rfl (fun h2 => ?_) (fun h2 => ?_)
  ·have h2' := Gz h2
   repeat' (first|refine ah ?_|refine a7 ?_|refine ar ?_|refine a8 ?_|refine aF ?_|refine aT ?_|refine bE ?_|refine aa ?_|refine ae a6 rfl rfl ?_)
   refine b6 rfl rfl rfl ?_
   rw [he, cJ hil h2']
   rfl
  ·have h2' := Decidable.not_not.1 (Gy h2)
   repeat' (first|refine a7 ?_|refine au ?_|refine a8 ?_|refine aI ?_|refine aa ?_|refine ae a6 rfl rfl ?_|(apply aW; refine aV ?_)|fail)
   exact aC (i + 1, L1) rfl ⟨by rw [Gw]; rfl, trivial⟩ ⟨by dsimp only; omega, hj' h2', by rw [he]; exact cx hil h2'⟩ (by dsimp only; omega) (fun _ _ h => h)
 ·have hil : i = l.length := by have := Gy h; simp at this; omega
  subst hil
  repeat' (first|refine ah ?_|refine a7 ?_|refine ar ?_|refine aR ?_|refine a8 ?_|refine av ?_|refine aB ?_|refine ay ?_|refine aa ?_|refine ae a6 rfl rfl ?_)
  refine b6 rfl rfl rfl ?_
  rw [he, Nat.sub_self]
  rfl
theorem BB {g : FuncId} {caps : List AV} {u : AV} [bD Tryz.prog g] (hu : iU u = some (g, caps)) (l : List dt) (most : Int) (err : Nat → Int) (J : Nat → AL → Prop) (L0 : AL) (h0 : J 0 L0) (hw : (l.length : Int) ≤ most → ∀ i x L, l[i]? = some x → J i L → AC Tryz.prog g ([aM i, .agg (ct x)] ++ caps) L fun c L' => c = aM (err i) ∧ (err i = 0 → J (i + 1) L')) :
  AC Tryz.prog 219 [.iptr [.imm 4 (l.map ct)], .iptr [aM most], .iptr [u]] L0 fun r _ => r = cq (dc most err l.length) := by
 refine aP Tryz.func219 rfl Tryz.ntmps219 rfl fun B => ?_
 repeat' (first|refine ah ?_|refine a7 ?_|refine a8 ?_|refine aa ?_|refine ae a6 rfl rfl ?_)
 refine aw rfl (fun h => ?_) (fun h => ?_)
 ·have h' := Gz h
  rw [Gu] at h'
  repeat' (first|refine ah ?_|refine a7 ?_|refine ar ?_|refine a8 ?_|refine aF ?_|refine aa ?_|refine ae a6 rfl rfl ?_)
  refine b6 rfl rfl rfl ?_
  unfold dc
  rw [if_pos h']
  rfl
 ·have h' := Gy h
  rw [Gu] at h'
  repeat' (first|refine ah ?_|refine a7 ?_|refine au ?_|refine a8 ?_|refine ae a6 rfl rfl ?_)
  refine b7 L0 [] (AN hu l err J L0 h0 (hw (by omega))) rfl (fe hu) (bR rfl) rfl fun c L1 hc => ?_
  subst hc
  repeat' (first|refine ar ?_|refine a8 ?_|refine aa ?_|refine ae a6 rfl rfl ?_)
  refine b6 rfl rfl rfl ?_
  unfold dc
  rw [if_neg h']
  rfl
theorem Ec {g : FuncId} {caps : List AV} (l : List dt) (most : Int) : bO Tryz.prog 165 [.imm 4 (l.map ct), aM most, .fn g caps] (.fn 219 [.iptr [.imm 4 (l.map ct)], .iptr [aM most], .iptr [.fn g caps]]) := by
 refine aP Tryz.func165 rfl Tryz.ntmps165 rfl fun B => ?_
 repeat' (first|refine ah ?_|refine a7 ?_|refine ar ?_|refine a8 ?_|refine aa ?_|refine ae a6 rfl rfl ?_|refine be ?_|fail)
 exact aA rfl rfl rfl
instance {g : FuncId} {caps : List AV} (l : List dt) (most : Int) : AD Tryz.prog 165 [.imm 4 (l.map ct), aM most, .fn g caps] (.fn 219 [.iptr [.imm 4 (l.map ct)], .iptr [aM most], .iptr [.fn g caps]]) := ⟨Ec l most⟩
theorem AP {g : FuncId} {caps : List AV} {u : AV} [bD Tryz.prog g] (hu : iU u = some (g, caps)) (l : List dB) (err : Nat → Int) (J : Nat → AL → Prop) (L0 : AL) (h0 : J 0 L0) (hw : ∀ i x L, l[i]? = some x → J i L → AC Tryz.prog g ([aM i, .agg (cW x)] ++ caps) L fun c L' => c = aM (err i) ∧ (err i = 0 → J (i + 1) L')) :
  AC Tryz.prog 223 [.imm 4 (l.map cW), u] L0 fun r _ => r = cq (dp err l.length) := by
 refine aP Tryz.func223 rfl Tryz.ntmps223 rfl fun B => ?_
 refine cz 0 rfl rfl fun hlen => ?_
 rw [Gu] at hlen
 repeat' (first|refine ah ?_|refine a7 ?_|refine aq ?_|refine a8 ?_|refine aa ?_|refine ae a6 rfl rfl ?_)
 refine aN [1, 9, 10] (α := Nat × AL) (fun i => [(11, aM i.1)]) (fun i => i.1 ≤ l.length ∧ J i.1 i.2 ∧ dp err l.length = di err (l.length - i.1) i.1) (fun i => i.2) (fun i => l.length - i.1) (0, L0) rfl ⟨rfl, trivial⟩ ⟨Nat.zero_le _, h0, rfl⟩ (fun _ _ h => h) ?_
 rintro ⟨i, L⟩ ⟨hi, hj, he⟩
 dsimp only at hi hj he ⊢
 try dsimp only [Gr, Gq, Gp, Gj]
 repeat' (first|refine ah ?_|refine a7 ?_|refine a8 ?_|refine aa ?_|refine ae a6 rfl rfl ?_)
 refine aw rfl (fun h => ?_) (fun h => ?_)
 ·have hil : i < l.length := by have := Gz h; simp at this; omega
  obtain ⟨z, hz⟩ : ∃ z, l[i]? = some z := ⟨_, Ds hil⟩
  have hzg := bj (c := cW) hz
  repeat' (first|refine ah ?_|refine a7 ?_|refine aq ?_|refine au ?_|refine a8 ?_|refine aa ?_|refine ae a6 rfl rfl ?_|(apply aY; first|refine aX a6 ?_|refine aS a6 ?_)|(apply aH; first|refine ai 7 a6 0 rfl rfl rfl rfl rfl rfl rfl rfl ?_|refine ai 7 a6 1 rfl rfl rfl rfl rfl rfl rfl rfl ?_|refine ai 7 a6 2 rfl rfl rfl rfl rfl rfl rfl rfl ?_|refine aj a6 0 rfl rfl rfl rfl rfl rfl rfl ?_|refine aj a6 1 rfl rfl rfl rfl rfl rfl rfl ?_|refine aj a6 2 rfl rfl rfl rfl rfl rfl rfl ?_|refine aj a6 3 rfl rfl rfl rfl rfl rfl rfl ?_|fail)|refine b5 a6 fun _=>?_|fail)
  refine cV L [] (hw i z L hz hj) rfl hu rfl (bR rfl) rfl rfl fun c L1 ⟨hc, hj'⟩ => ?_
  subst hc
  rw [List.append_nil]
  repeat' (first|refine ah ?_|refine a7 ?_|refine a8 ?_|refine aa ?_|refine ae a6 rfl rfl ?_)
  refine aw rfl (fun h2 => ?_) (fun h2 => ?_)
  ·have h2' := Gz h2
   repeat' (first|refine ah ?_|refine a7 ?_|refine ar ?_|refine a8 ?_|refine aF ?_|refine aT ?_|refine bE ?_|refine aa ?_|refine ae a6 rfl rfl ?_)
   refine b6 rfl rfl rfl ?_
   rw [he, cJ hil h2']
   rfl
  ·have h2' := Decidable.not_not.1 (Gy h2)
   repeat' (first|refine a7 ?_|refine au ?_|refine a8 ?_|refine aI ?_|refine aa ?_|refine ae a6 rfl rfl ?_|(apply aW; refine aV ?_)|fail)
   exact aC (i + 1, L1) rfl ⟨by rw [Gw]; rfl, trivial⟩ ⟨by dsimp only; omega, hj' h2', by rw [he]; exact cx hil h2'⟩ (by dsimp only; omega) (fun _ _ h => h)
 ·have hil : i = l.length := by have := Gy h; simp at this; omega
  subst hil
  repeat' (first|refine ah ?_|refine a7 ?_|refine ar ?_|refine aR ?_|refine a8 ?_|refine av ?_|refine aB ?_|refine ay ?_|refine aa ?_|refine ae a6 rfl rfl ?_)
  refine b6 rfl rfl rfl ?_
  rw [he, Nat.sub_self]
  rfl
theorem BC {g : FuncId} {caps : List AV} {u : AV} [bD Tryz.prog g] (hu : iU u = some (g, caps)) (l : List dB) (most : Int) (err : Nat → Int) (J : Nat → AL → Prop) (L0 : AL) (h0 : J 0 L0) (hw : (l.length : Int) ≤ most → ∀ i x L, l[i]? = some x → J i L → AC Tryz.prog g ([aM i, .agg (cW x)] ++ caps) L fun c L' => c = aM (err i) ∧ (err i = 0 → J (i + 1) L')) :
  AC Tryz.prog 222 [.iptr [.imm 4 (l.map cW)], .iptr [aM most], .iptr [u]] L0 fun r _ => r = cq (dc most err l.length) := by
 refine aP Tryz.func222 rfl Tryz.ntmps222 rfl fun B => ?_
 repeat' (first|refine ah ?_|refine a7 ?_|refine a8 ?_|refine aa ?_|refine ae a6 rfl rfl ?_)
 refine aw rfl (fun h => ?_) (fun h => ?_)
 ·have h' := Gz h
  rw [Gu] at h'
  repeat' (first|refine ah ?_|refine a7 ?_|refine ar ?_|refine a8 ?_|refine aF ?_|refine aa ?_|refine ae a6 rfl rfl ?_)
  refine b6 rfl rfl rfl ?_
  unfold dc
  rw [if_pos h']
  rfl
 ·have h' := Gy h
  rw [Gu] at h'
  repeat' (first|refine ah ?_|refine a7 ?_|refine au ?_|refine a8 ?_|refine ae a6 rfl rfl ?_)
  refine b7 L0 [] (AP hu l err J L0 h0 (hw (by omega))) rfl (fe hu) (bR rfl) rfl fun c L1 hc => ?_
  subst hc
  repeat' (first|refine ar ?_|refine a8 ?_|refine aa ?_|refine ae a6 rfl rfl ?_)
  refine b6 rfl rfl rfl ?_
  unfold dc
  rw [if_neg h']
  rfl
theorem Ed {g : FuncId} {caps : List AV} (l : List dB) (most : Int) : bO Tryz.prog 167 [.imm 4 (l.map cW), aM most, .fn g caps] (.fn 222 [.iptr [.imm 4 (l.map cW)], .iptr [aM most], .iptr [.fn g caps]]) := by
 refine aP Tryz.func167 rfl Tryz.ntmps167 rfl fun B => ?_
 repeat' (first|refine ah ?_|refine a7 ?_|refine ar ?_|refine a8 ?_|refine aa ?_|refine ae a6 rfl rfl ?_|refine be ?_|fail)
 exact aA rfl rfl rfl
instance {g : FuncId} {caps : List AV} (l : List dB) (most : Int) : AD Tryz.prog 167 [.imm 4 (l.map cW), aM most, .fn g caps] (.fn 222 [.iptr [.imm 4 (l.map cW)], .iptr [aM most], .iptr [.fn g caps]]) := ⟨Ed l most⟩
theorem AQ {g : FuncId} {caps : List AV} {u : AV} [bD Tryz.prog g] (hu : iU u = some (g, caps)) (l : List (List Int)) (err : Nat → Int) (J : Nat → AL → Prop) (L0 : AL) (h0 : J 0 L0) (hw : ∀ i x L, l[i]? = some x → J i L → AC Tryz.prog g ([aM i, .imm 1 (aU x)] ++ caps) L fun c L' => c = aM (err i) ∧ (err i = 0 → J (i + 1) L')) :
  AC Tryz.prog 231 [.imm 1 (l.map lz), u] L0 fun r _ => r = cq (dp err l.length) := by
 refine aP Tryz.func231 rfl Tryz.ntmps231 rfl fun B => ?_
 refine cz 0 rfl rfl fun hlen => ?_
 rw [Gu] at hlen
 repeat' (first|refine ah ?_|refine a7 ?_|refine aq ?_|refine a8 ?_|refine aa ?_|refine ae a6 rfl rfl ?_)
 refine aN [1, 9, 10] (α := Nat × AL) (fun i => [(11, aM i.1)]) (fun i => i.1 ≤ l.length ∧ J i.1 i.2 ∧ dp err l.length = di err (l.length - i.1) i.1) (fun i => i.2) (fun i => l.length - i.1) (0, L0) rfl ⟨rfl, trivial⟩ ⟨Nat.zero_le _, h0, rfl⟩ (fun _ _ h => h) ?_
 rintro ⟨i, L⟩ ⟨hi, hj, he⟩
 dsimp only at hi hj he ⊢
 try dsimp only [Gr, Gq, Gp, Gj]
 repeat' (first|refine ah ?_|refine a7 ?_|refine a8 ?_|refine aa ?_|refine ae a6 rfl rfl ?_)
 refine aw rfl (fun h => ?_) (fun h => ?_)
 ·have hil : i < l.length := by have := Gz h; simp at this; omega
  obtain ⟨z, hz⟩ : ∃ z, l[i]? = some z := ⟨_, Ds hil⟩
  have hzg := bj (c := lz) hz
  repeat' (first|refine ah ?_|refine a7 ?_|refine aq ?_|refine au ?_|refine a8 ?_|refine aa ?_|refine ae a6 rfl rfl ?_|(apply aY; first|refine aX a6 ?_|refine aS a6 ?_)|fail)
  refine cV L [] (hw i z L hz hj) rfl hu rfl (bR rfl) rfl rfl fun c L1 ⟨hc, hj'⟩ => ?_
  subst hc
  rw [List.append_nil]
  repeat' (first|refine ah ?_|refine a7 ?_|refine a8 ?_|refine aa ?_|refine ae a6 rfl rfl ?_)
  refine aw rfl (fun h2 => ?_) (fun h2 => ?_)
  ·have h2' := Gz h2
   repeat' (first|refine ah ?_|refine a7 ?_|refine ar ?_|refine a8 ?_|refine aF ?_|refine aT ?_|refine bE ?_|refine aa ?_|refine ae a6 rfl rfl ?_)
   refine b6 rfl rfl rfl ?_
   rw [he, cJ hil h2']
   rfl
  ·have h2' := Decidable.not_not.1 (Gy h2)
   repeat' (first|refine a7 ?_|refine au ?_|refine a8 ?_|refine aI ?_|refine aa ?_|refine ae a6 rfl rfl ?_|(apply aW; refine aV ?_)|fail)
   exact aC (i + 1, L1) rfl ⟨by rw [Gw]; rfl, trivial⟩ ⟨by dsimp only; omega, hj' h2', by rw [he]; exact cx hil h2'⟩ (by dsimp only; omega) (fun _ _ h => h)
 ·have hil : i = l.length := by have := Gy h; simp at this; omega
  subst hil
  repeat' (first|refine ah ?_|refine a7 ?_|refine ar ?_|refine aR ?_|refine a8 ?_|refine av ?_|refine aB ?_|refine ay ?_|refine aa ?_|refine ae a6 rfl rfl ?_)
  refine b6 rfl rfl rfl ?_
  rw [he, Nat.sub_self]
  rfl
theorem AR {g : FuncId} {caps : List AV} {u : AV} [bD Tryz.prog g] (hu : iU u = some (g, caps)) (l : List eb) (err : Nat → Int) (J : Nat → AL → Prop) (L0 : AL) (h0 : J 0 L0) (hw : ∀ i x L, l[i]? = some x → J i L → AC Tryz.prog g ([aM i, .agg (dH x)] ++ caps) L fun c L' => c = aM (err i) ∧ (err i = 0 → J (i + 1) L')) :
  AC Tryz.prog 243 [.imm 2 (l.map dH), u] L0 fun r _ => r = cq (dp err l.length) := by
 refine aP Tryz.func243 rfl Tryz.ntmps243 rfl fun B => ?_
 refine cz 0 rfl rfl fun hlen => ?_
 rw [Gu] at hlen
 repeat' (first|refine ah ?_|refine a7 ?_|refine aq ?_|refine a8 ?_|refine aa ?_|refine ae a6 rfl rfl ?_)
 refine aN [1, 9, 10] (α := Nat × AL) (fun i => [(11, aM i.1)]) (fun i => i.1 ≤ l.length ∧ J i.1 i.2 ∧ dp err l.length = di err (l.length - i.1) i.1) (fun i => i.2) (fun i => l.length - i.1) (0, L0) rfl ⟨rfl, trivial⟩ ⟨Nat.zero_le _, h0, rfl⟩ (fun _ _ h => h) ?_
 rintro ⟨i, L⟩ ⟨hi, hj, he⟩
 dsimp only at hi hj he ⊢
 try dsimp only [Gr, Gq, Gp, Gj]
 repeat' (first|refine ah ?_|refine a7 ?_|refine a8 ?_|refine aa ?_|refine ae a6 rfl rfl ?_)
 refine aw rfl (fun h => ?_) (fun h => ?_)
 ·have hil : i < l.length := by have := Gz h; simp at this; omega
  obtain ⟨z, hz⟩ : ∃ z, l[i]? = some z := ⟨_, Ds hil⟩
  have hzg := bj (c := dH) hz
  repeat' (first|refine ah ?_|refine a7 ?_|refine aq ?_|refine au ?_|refine a8 ?_|refine aa ?_|refine ae a6 rfl rfl ?_|(apply aY; first|refine aX a6 ?_|refine aS a6 ?_)|(apply aH; first|refine ai 7 a6 0 rfl rfl rfl rfl rfl rfl rfl rfl ?_|refine ai 7 a6 1 rfl rfl rfl rfl rfl rfl rfl rfl ?_|refine ai 7 a6 2 rfl rfl rfl rfl rfl rfl rfl rfl ?_|refine aj a6 0 rfl rfl rfl rfl rfl rfl rfl ?_|refine aj a6 1 rfl rfl rfl rfl rfl rfl rfl ?_|refine aj a6 2 rfl rfl rfl rfl rfl rfl rfl ?_|refine aj a6 3 rfl rfl rfl rfl rfl rfl rfl ?_|fail)|refine b5 a6 fun _=>?_|fail)
  refine cV L [] (hw i z L hz hj) rfl hu rfl (bR rfl) rfl rfl fun c L1 ⟨hc, hj'⟩ => ?_
  subst hc
  rw [List.append_nil]
  repeat' (first|refine ah ?_|refine a7 ?_|refine a8 ?_|refine aa ?_|refine ae a6 rfl rfl ?_)
  refine aw rfl (fun h2 => ?_) (fun h2 => ?_)
  ·have h2' := Gz h2
   repeat' (first|refine ah ?_|refine a7 ?_|refine ar ?_|refine a8 ?_|refine aF ?_|refine aT ?_|refine bE ?_|refine aa ?_|refine ae a6 rfl rfl ?_)
   refine b6 rfl rfl rfl ?_
   rw [he, cJ hil h2']
   rfl
  ·have h2' := Decidable.not_not.1 (Gy h2)
   repeat' (first|refine a7 ?_|refine au ?_|refine a8 ?_|refine aI ?_|refine aa ?_|refine ae a6 rfl rfl ?_|(apply aW; refine aV ?_)|fail)
   exact aC (i + 1, L1) rfl ⟨by rw [Gw]; rfl, trivial⟩ ⟨by dsimp only; omega, hj' h2', by rw [he]; exact cx hil h2'⟩ (by dsimp only; omega) (fun _ _ h => h)
 ·have hil : i = l.length := by have := Gy h; simp at this; omega
  subst hil
  repeat' (first|refine ah ?_|refine a7 ?_|refine ar ?_|refine aR ?_|refine a8 ?_|refine av ?_|refine aB ?_|refine ay ?_|refine aa ?_|refine ae a6 rfl rfl ?_)
  refine b6 rfl rfl rfl ?_
  rw [he, Nat.sub_self]
  rfl
theorem BD {g : FuncId} {caps : List AV} {u : AV} [bD Tryz.prog g] (hu : iU u = some (g, caps)) (l : List eb) (most : Int) (err : Nat → Int) (J : Nat → AL → Prop) (L0 : AL) (h0 : J 0 L0) (hw : (l.length : Int) ≤ most → ∀ i x L, l[i]? = some x → J i L → AC Tryz.prog g ([aM i, .agg (dH x)] ++ caps) L fun c L' => c = aM (err i) ∧ (err i = 0 → J (i + 1) L')) :
  AC Tryz.prog 242 [.iptr [.imm 2 (l.map dH)], .iptr [aM most], .iptr [u]] L0 fun r _ => r = cq (dc most err l.length) := by
 refine aP Tryz.func242 rfl Tryz.ntmps242 rfl fun B => ?_
 repeat' (first|refine ah ?_|refine a7 ?_|refine a8 ?_|refine aa ?_|refine ae a6 rfl rfl ?_)
 refine aw rfl (fun h => ?_) (fun h => ?_)
 ·have h' := Gz h
  rw [Gu] at h'
  repeat' (first|refine ah ?_|refine a7 ?_|refine ar ?_|refine a8 ?_|refine aF ?_|refine aa ?_|refine ae a6 rfl rfl ?_)
  refine b6 rfl rfl rfl ?_
  unfold dc
  rw [if_pos h']
  rfl
 ·have h' := Gy h
  rw [Gu] at h'
  repeat' (first|refine ah ?_|refine a7 ?_|refine au ?_|refine a8 ?_|refine ae a6 rfl rfl ?_)
  refine b7 L0 [] (AR hu l err J L0 h0 (hw (by omega))) rfl (fe hu) (bR rfl) rfl fun c L1 hc => ?_
  subst hc
  repeat' (first|refine ar ?_|refine a8 ?_|refine aa ?_|refine ae a6 rfl rfl ?_)
  refine b6 rfl rfl rfl ?_
  unfold dc
  rw [if_neg h']
  rfl
theorem CV {g : FuncId} (l : List eb) (most : Int) : bO Tryz.prog 198 [.imm 2 (l.map dH), aM most, .sc (.func (.func g) #[] #[])] (.fn 242 [.iptr [.imm 2 (l.map dH)], .iptr [aM most], .iptr [.sc (.func (.func g) #[] #[])]]) := by
 refine aP Tryz.func198 rfl Tryz.ntmps198 rfl fun B => ?_
 repeat' (first|refine ah ?_|refine a7 ?_|refine ar ?_|refine a8 ?_|refine aa ?_|refine ae a6 rfl rfl ?_|refine be ?_|fail)
 exact aA rfl rfl rfl
instance {g : FuncId} (l : List eb) (most : Int) : AD Tryz.prog 198 [.imm 2 (l.map dH), aM most, .sc (.func (.func g) #[] #[])] (.fn 242 [.iptr [.imm 2 (l.map dH)], .iptr [aM most], .iptr [.sc (.func (.func g) #[] #[])]]) := ⟨CV l most⟩
theorem AS {g : FuncId} {caps : List AV} {u : AV} [bD Tryz.prog g] (hu : iU u = some (g, caps)) (l : List fF) (err : Nat → Int) (J : Nat → AL → Prop) (L0 : AL) (h0 : J 0 L0) (hw : ∀ i x L, l[i]? = some x → J i L → AC Tryz.prog g ([aM i, .agg (dP x)] ++ caps) L fun c L' => c = aM (err i) ∧ (err i = 0 → J (i + 1) L')) :
  AC Tryz.prog 259 [.imm 2 (l.map dP), u] L0 fun r _ => r = cq (dp err l.length) := by
 refine aP Tryz.func259 rfl Tryz.ntmps259 rfl fun B => ?_
 refine cz 0 rfl rfl fun hlen => ?_
 rw [Gu] at hlen
 repeat' (first|refine ah ?_|refine a7 ?_|refine aq ?_|refine a8 ?_|refine aa ?_|refine ae a6 rfl rfl ?_)
 refine aN [1, 9, 10] (α := Nat × AL) (fun i => [(11, aM i.1)]) (fun i => i.1 ≤ l.length ∧ J i.1 i.2 ∧ dp err l.length = di err (l.length - i.1) i.1) (fun i => i.2) (fun i => l.length - i.1) (0, L0) rfl ⟨rfl, trivial⟩ ⟨Nat.zero_le _, h0, rfl⟩ (fun _ _ h => h) ?_
 rintro ⟨i, L⟩ ⟨hi, hj, he⟩
 dsimp only at hi hj he ⊢
 try dsimp only [Gr, Gq, Gp, Gj]
 repeat' (first|refine ah ?_|refine a7 ?_|refine a8 ?_|refine aa ?_|refine ae a6 rfl rfl ?_)
 refine aw rfl (fun h => ?_) (fun h => ?_)
 ·have hil : i < l.length := by have := Gz h; simp at this; omega
  obtain ⟨z, hz⟩ : ∃ z, l[i]? = some z := ⟨_, Ds hil⟩
  have hzg := bj (c := dP) hz
  repeat' (first|refine ah ?_|refine a7 ?_|refine aq ?_|refine au ?_|refine a8 ?_|refine aa ?_|refine ae a6 rfl rfl ?_|(apply aY; first|refine aX a6 ?_|refine aS a6 ?_)|(apply aH; first|refine ai 7 a6 0 rfl rfl rfl rfl rfl rfl rfl rfl ?_|refine ai 7 a6 1 rfl rfl rfl rfl rfl rfl rfl rfl ?_|refine ai 7 a6 2 rfl rfl rfl rfl rfl rfl rfl rfl ?_|refine aj a6 0 rfl rfl rfl rfl rfl rfl rfl ?_|refine aj a6 1 rfl rfl rfl rfl rfl rfl rfl ?_|refine aj a6 2 rfl rfl rfl rfl rfl rfl rfl ?_|refine aj a6 3 rfl rfl rfl rfl rfl rfl rfl ?_|fail)|refine b5 a6 fun _=>?_|fail)
  refine cV L [] (hw i z L hz hj) rfl hu rfl (bR rfl) rfl rfl fun c L1 ⟨hc, hj'⟩ => ?_
  subst hc
  rw [List.append_nil]
  repeat' (first|refine ah ?_|refine a7 ?_|refine a8 ?_|refine aa ?_|refine ae a6 rfl rfl ?_)
  refine aw rfl (fun h2 => ?_) (fun h2 => ?_)
  ·have h2' := Gz h2
   repeat' (first|refine ah ?_|refine a7 ?_|refine ar ?_|refine a8 ?_|refine aF ?_|refine aT ?_|refine bE ?_|refine aa ?_|refine ae a6 rfl rfl ?_)
   refine b6 rfl rfl rfl ?_
   rw [he, cJ hil h2']
   rfl
  ·have h2' := Decidable.not_not.1 (Gy h2)
   repeat' (first|refine a7 ?_|refine au ?_|refine a8 ?_|refine aI ?_|refine aa ?_|refine ae a6 rfl rfl ?_|(apply aW; refine aV ?_)|fail)
   exact aC (i + 1, L1) rfl ⟨by rw [Gw]; rfl, trivial⟩ ⟨by dsimp only; omega, hj' h2', by rw [he]; exact cx hil h2'⟩ (by dsimp only; omega) (fun _ _ h => h)
 ·have hil : i = l.length := by have := Gy h; simp at this; omega
  subst hil
  repeat' (first|refine ah ?_|refine a7 ?_|refine ar ?_|refine aR ?_|refine a8 ?_|refine av ?_|refine aB ?_|refine ay ?_|refine aa ?_|refine ae a6 rfl rfl ?_)
  refine b6 rfl rfl rfl ?_
  rw [he, Nat.sub_self]
  rfl
theorem lE {g : FuncId} {caps : List AV} {u : AV} [bD Tryz.prog g] (hu : iU u = some (g, caps)) (l : List Int) (err : Nat → Int) (J : Nat → AL → Prop) (L0 : AL) (h0 : J 0 L0) (hw : ∀ i x L, l[i]? = some x → J i L → AC Tryz.prog g ([aM i, aM x] ++ caps) L fun c L' => c = aM (err i) ∧ (err i = 0 → J (i + 1) L')) :
  AC Tryz.prog 173 [.imm 1 (l.map fT), u] L0 fun r _ => r = cq (dp err l.length) := by
 refine aP Tryz.func173 rfl Tryz.ntmps173 rfl fun B => ?_
 refine cz 0 rfl rfl fun hlen => ?_
 rw [Gu] at hlen
 repeat' (first|refine ah ?_|refine a7 ?_|refine aq ?_|refine a8 ?_|refine aa ?_|refine ae a6 rfl rfl ?_)
 refine aN [1, 9, 10] (α := Nat × AL) (fun i => [(11, aM i.1)]) (fun i => i.1 ≤ l.length ∧ J i.1 i.2 ∧ dp err l.length = di err (l.length - i.1) i.1) (fun i => i.2) (fun i => l.length - i.1) (0, L0) rfl ⟨rfl, trivial⟩ ⟨Nat.zero_le _, h0, rfl⟩ (fun _ _ h => h) ?_
 rintro ⟨i, L⟩ ⟨hi, hj, he⟩
 dsimp only at hi hj he ⊢
 try dsimp only [Gr, Gq, Gp, Gj]
 repeat' (first|refine ah ?_|refine a7 ?_|refine a8 ?_|refine aa ?_|refine ae a6 rfl rfl ?_)
 refine aw rfl (fun h => ?_) (fun h => ?_)
 ·have hil : i < l.length := by have := Gz h; simp at this; omega
  obtain ⟨z, hz⟩ : ∃ z, l[i]? = some z := ⟨_, Ds hil⟩
  have hzg := bj (c := fT) hz
  repeat' (first|refine ah ?_|refine a7 ?_|refine aq ?_|refine au ?_|refine a8 ?_|refine aa ?_|refine ae a6 rfl rfl ?_|(apply aY; first|refine aX a6 ?_|refine aS a6 ?_)|fail)
  refine cV L [] (hw i z L hz hj) rfl hu rfl (bR rfl) rfl rfl fun c L1 ⟨hc, hj'⟩ => ?_
  subst hc
  rw [List.append_nil]
  repeat' (first|refine ah ?_|refine a7 ?_|refine a8 ?_|refine aa ?_|refine ae a6 rfl rfl ?_)
  refine aw rfl (fun h2 => ?_) (fun h2 => ?_)
  ·have h2' := Gz h2
   repeat' (first|refine ah ?_|refine a7 ?_|refine ar ?_|refine a8 ?_|refine aF ?_|refine aT ?_|refine bE ?_|refine aa ?_|refine ae a6 rfl rfl ?_)
   refine b6 rfl rfl rfl ?_
   rw [he, cJ hil h2']
   rfl
  ·have h2' := Decidable.not_not.1 (Gy h2)
   repeat' (first|refine a7 ?_|refine au ?_|refine a8 ?_|refine aI ?_|refine aa ?_|refine ae a6 rfl rfl ?_|(apply aW; refine aV ?_)|fail)
   exact aC (i + 1, L1) rfl ⟨by rw [Gw]; rfl, trivial⟩ ⟨by dsimp only; omega, hj' h2', by rw [he]; exact cx hil h2'⟩ (by dsimp only; omega) (fun _ _ h => h)
 ·have hil : i = l.length := by have := Gy h; simp at this; omega
  subst hil
  repeat' (first|refine ah ?_|refine a7 ?_|refine ar ?_|refine aR ?_|refine a8 ?_|refine av ?_|refine aB ?_|refine ay ?_|refine aa ?_|refine ae a6 rfl rfl ?_)
  refine b6 rfl rfl rfl ?_
  rw [he, Nat.sub_self]
  rfl
theorem Bz {g : FuncId} {caps : List AV} {u : AV} [bD Tryz.prog g] (hu : iU u = some (g, caps)) (l : List Int) (most : Int) (err : Nat → Int) (J : Nat → AL → Prop) (L0 : AL) (h0 : J 0 L0) (hw : (l.length : Int) ≤ most → ∀ i x L, l[i]? = some x → J i L → AC Tryz.prog g ([aM i, aM x] ++ caps) L fun c L' => c = aM (err i) ∧ (err i = 0 → J (i + 1) L')) :
  AC Tryz.prog 200 [.iptr [.imm 1 (l.map fT)], .iptr [aM most], .iptr [u]] L0 fun r _ => r = cq (dc most err l.length) := by
 refine aP Tryz.func200 rfl Tryz.ntmps200 rfl fun B => ?_
 repeat' (first|refine ah ?_|refine a7 ?_|refine a8 ?_|refine aa ?_|refine ae a6 rfl rfl ?_)
 refine aw rfl (fun h => ?_) (fun h => ?_)
 ·have h' := Gz h
  rw [Gu] at h'
  repeat' (first|refine ah ?_|refine a7 ?_|refine ar ?_|refine a8 ?_|refine aF ?_|refine aa ?_|refine ae a6 rfl rfl ?_)
  refine b6 rfl rfl rfl ?_
  unfold dc
  rw [if_pos h']
  rfl
 ·have h' := Gy h
  rw [Gu] at h'
  repeat' (first|refine ah ?_|refine a7 ?_|refine au ?_|refine a8 ?_|refine ae a6 rfl rfl ?_)
  refine b7 L0 [] (lE hu l err J L0 h0 (hw (by omega))) rfl (fe hu) (bR rfl) rfl fun c L1 hc => ?_
  subst hc
  repeat' (first|refine ar ?_|refine a8 ?_|refine aa ?_|refine ae a6 rfl rfl ?_)
  refine b6 rfl rfl rfl ?_
  unfold dc
  rw [if_neg h']
  rfl
theorem CU {g : FuncId} (l : List Int) (most : Int) : bO Tryz.prog 142 [.imm 1 (l.map fT), aM most, .sc (.func (.func g) #[] #[])] (.fn 200 [.iptr [.imm 1 (l.map fT)], .iptr [aM most], .iptr [.sc (.func (.func g) #[] #[])]]) := by
 refine aP Tryz.func142 rfl Tryz.ntmps142 rfl fun B => ?_
 repeat' (first|refine ah ?_|refine a7 ?_|refine ar ?_|refine a8 ?_|refine aa ?_|refine ae a6 rfl rfl ?_|refine be ?_|fail)
 exact aA rfl rfl rfl
end Go.Proofs.YtjjpkibjffmceaaGreat
