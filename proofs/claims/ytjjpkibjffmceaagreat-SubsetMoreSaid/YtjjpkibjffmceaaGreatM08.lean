/-
  The program: looks at things, one by one.
-/
import Derived.Test.YtjjpkibjffmceaaGreatM06
import Derived.Test.YtjjpkibjffmceaaGreatM05
namespace Go.Proofs.YtjjpkibjffmceaaGreat
open Go.RowKit
attribute [local irreducible] AT bV AX AO Av Kt bC eH DA dl
def dy (err : Nat → Int) : Nat → Nat → Int × Int
 | 0, _ => (0, 0)
 | k + 1, i => if err i = 0 then dy err k (i + 1) else (err i, i)
def dE (err : Nat → Int) (n : Nat) : Int × Int := dy err n 0
def dv (most : Int) (err : Nat → Int) (n : Nat) : Int × Int := if (n : Int) > most then (2, 0) else dE err n
def cA (p : Int × Int) : AV := .tup [aM p.1, aM p.2]
theorem cE {err : Nat → Int} {n i : Nat} (hi : i < n) (h : err i = 0) : dy err (n - i) i = dy err (n - (i + 1)) (i + 1) := by
 rw [show n - i = (n - (i + 1)) + 1 by omega]
 simp only [dy, h, if_true]
theorem cT {err : Nat → Int} {n i : Nat} (hi : i < n) (h : err i ≠ 0) : dy err (n - i) i = (err i, (i : Int)) := by
 rw [show n - i = (n - (i + 1)) + 1 by omega]
 simp only [dy, h, if_false]
theorem p9 {err : Nat → Int} : ∀ (k i : Nat), (∀ j, i ≤ j → j < i + k → err j = 0) → dy err k i = (0, 0)
 | 0, _, _ => rfl
 | k + 1, i, h => by
  simp only [dy]
  rw [if_pos (h i (Nat.le_refl _) (by omega))]
  exact p9 k (i + 1) fun j h1 h2 => h j (by omega) (by omega)
theorem qH {err : Nat → Int} {n : Nat} (h : ∀ i, i < n → err i = 0) : dE err n = (0, 0) := p9 n 0 fun j _ hj => h j (by omega)
theorem xW {most : Int} {err : Nat → Int} {n : Nat} (hm : (n : Int) ≤ most) (h : ∀ i, i < n → err i = 0) : dv most err n = (0, 0) := by
 unfold dv
 rw [if_neg (by omega), qH h]
def lL (q : List Int) : List AV := [.imm 1 (aT q)]
def gi (z : Int) : List AV := [aM z]
theorem fy {g : FuncId} {caps : List AV} {u : AV} (hu : jj u = some (g, caps)) {s : Nat} {l : List (List AV)} : kj [.imm s l, u] = some [.imm s l, u] := by
 unfold jj at hu
 split at hu <;> first | rfl | cases hu
theorem bT {L L' : AL} (h : L = L') : L.Perm (L' ++ []) := by rw [List.append_nil, h]
def FL (P : Program) (g : FuncId) (caps : List AV) (n : Nat) (arg : Nat → AV) (err : Nat → Int) (J : Nat → AL → Prop) : Prop := ∀ i L, i < n → J i L → AC P g ([aM i, arg i] ++ caps) L fun c L' => c = aM (err i) ∧ (err i = 0 → J (i + 1) L')
theorem Bt {g : FuncId} {caps : List AV} {u : AV} [bF Tryz.prog g] (hu : jj u = some (g, caps)) (l : List bo) (err : Nat → Int) (J : Nat → AL → Prop) (L0 : AL) (h0 : J 0 L0) (hw : ∀ i x L, l[i]? = some x → J i L → AC Tryz.prog g ([aM i, .agg (bA x)] ++ caps) L fun c L' => c = aM (err i) ∧ (err i = 0 → J (i + 1) L')) :
  AC Tryz.prog 158 [.imm 9 (l.map bA), u] L0 fun r _ => r = cA (dE err l.length) := by
 refine aQ Tryz.func158 rfl Tryz.ntmps158 rfl fun B => ?_
 refine cG 0 rfl rfl fun hlen => ?_
 rw [Gu] at hlen
 repeat' (first|refine ae ?_|refine a6 ?_|refine ak ?_|refine a7 ?_|refine a8 ?_|refine aa a2 rfl rfl ?_)
 refine aJ [1, 9, 10] (α := Nat × AL) (fun i => [(11, aM i.1)]) (fun i => i.1 ≤ l.length ∧ J i.1 i.2 ∧ dE err l.length = dy err (l.length - i.1) i.1) (fun i => i.2) (fun i => l.length - i.1) (0, L0) rfl ⟨rfl, trivial⟩ ⟨Nat.zero_le _, h0, rfl⟩ (fun _ _ h => h) ?_
 rintro ⟨i, L⟩ ⟨hi, hj, he⟩
 dsimp only at hi hj he ⊢
 try dsimp only [Gr, Gq, Gp, Gj]
 repeat' (first|refine ae ?_|refine a6 ?_|refine a7 ?_|refine a8 ?_|refine aa a2 rfl rfl ?_)
 refine aw rfl (fun h => ?_) (fun h => ?_)
 ·have hil : i < l.length := by have := Gz h; simp at this; omega
  obtain ⟨z, hz⟩ : ∃ z, l[i]? = some z := ⟨_, Ee hil⟩
  have hzg := bn (c := bA) hz
  repeat' (first|refine ae ?_|refine a6 ?_|refine ak ?_|refine ar ?_|refine a7 ?_|refine a8 ?_|refine aa a2 rfl rfl ?_|(apply aX; first|refine aW a2 ?_|refine aP a2 ?_)|(apply aG; first|refine ah 7 a2 0 rfl rfl rfl rfl rfl rfl rfl rfl ?_|refine ah 7 a2 1 rfl rfl rfl rfl rfl rfl rfl rfl ?_|refine ah 7 a2 2 rfl rfl rfl rfl rfl rfl rfl rfl ?_|refine ai a2 0 rfl rfl rfl rfl rfl rfl rfl ?_|refine ai a2 1 rfl rfl rfl rfl rfl rfl rfl ?_|refine ai a2 2 rfl rfl rfl rfl rfl rfl rfl ?_|refine ai a2 3 rfl rfl rfl rfl rfl rfl rfl ?_|fail)|refine b7 a2 fun _=>?_|fail)
  refine dh L [] (hw i z L hz hj) rfl hu rfl (bT rfl) rfl rfl fun c L1 ⟨hc, hj'⟩ => ?_
  subst hc
  rw [List.append_nil]
  repeat' (first|refine ae ?_|refine a6 ?_|refine a7 ?_|refine a8 ?_|refine aa a2 rfl rfl ?_)
  refine aw rfl (fun h2 => ?_) (fun h2 => ?_)
  ·have h2' := Gz h2
   repeat' (first|refine ae ?_|refine a6 ?_|refine aq ?_|refine a7 ?_|refine aE ?_|refine aS ?_|refine bJ ?_|refine a8 ?_|refine aa a2 rfl rfl ?_)
   refine b9 rfl rfl rfl ?_
   rw [he, cT hil h2']
   rfl
  ·have h2' := Decidable.not_not.1 (Gy h2)
   repeat' (first|refine a6 ?_|refine ar ?_|refine a7 ?_|refine aH ?_|refine a8 ?_|refine aa a2 rfl rfl ?_|(apply aV; refine aU ?_)|fail)
   exact aB (i + 1, L1) rfl ⟨by rw [Gw]; rfl, trivial⟩ ⟨by dsimp only; omega, hj' h2', by rw [he]; exact cE hil h2'⟩ (by dsimp only; omega) (fun _ _ h => h)
 ·have hil : i = l.length := by have := Gy h; simp at this; omega
  subst hil
  repeat' (first|refine ae ?_|refine a6 ?_|refine aq ?_|refine aO ?_|refine a7 ?_|refine au ?_|refine ay ?_|refine av ?_|refine a8 ?_|refine aa a2 rfl rfl ?_)
  refine b9 rfl rfl rfl ?_
  rw [he, Nat.sub_self]
  rfl
theorem Cg {g : FuncId} {caps : List AV} {u : AV} [bF Tryz.prog g] (hu : jj u = some (g, caps)) (l : List bo) (most : Int) (err : Nat → Int) (J : Nat → AL → Prop) (L0 : AL) (h0 : J 0 L0) (hw : (l.length : Int) ≤ most → ∀ i x L, l[i]? = some x → J i L → AC Tryz.prog g ([aM i, .agg (bA x)] ++ caps) L fun c L' => c = aM (err i) ∧ (err i = 0 → J (i + 1) L')) :
  AC Tryz.prog 157 [.iptr [.imm 9 (l.map bA)], .iptr [aM most], .iptr [u]] L0 fun r _ => r = cA (dv most err l.length) := by
 refine aQ Tryz.func157 rfl Tryz.ntmps157 rfl fun B => ?_
 repeat' (first|refine ae ?_|refine a6 ?_|refine a7 ?_|refine a8 ?_|refine aa a2 rfl rfl ?_)
 refine aw rfl (fun h => ?_) (fun h => ?_)
 ·have h' := Gz h
  rw [Gu] at h'
  repeat' (first|refine ae ?_|refine a6 ?_|refine aq ?_|refine a7 ?_|refine aE ?_|refine a8 ?_|refine aa a2 rfl rfl ?_)
  refine b9 rfl rfl rfl ?_
  unfold dv
  rw [if_pos h']
  rfl
 ·have h' := Gy h
  rw [Gu] at h'
  repeat' (first|refine ae ?_|refine a6 ?_|refine ar ?_|refine a7 ?_|refine aa a2 rfl rfl ?_)
  refine bb L0 [] (Bt hu l err J L0 h0 (hw (by omega))) rfl (fy hu) (bT rfl) rfl fun c L1 hc => ?_
  subst hc
  repeat' (first|refine aq ?_|refine a7 ?_|refine a8 ?_|refine aa a2 rfl rfl ?_)
  refine b9 rfl rfl rfl ?_
  unfold dv
  rw [if_neg h']
  rfl
theorem Fy {g : FuncId} {caps : List AV} (l : List bo) (most : Int) : bQ Tryz.prog 116 [.imm 9 (l.map bA), aM most, .fn g caps] (.fn 157 [.iptr [.imm 9 (l.map bA)], .iptr [aM most], .iptr [.fn g caps]]) := by
 refine aQ Tryz.func116 rfl Tryz.ntmps116 rfl fun B => ?_
 repeat' (first|refine ae ?_|refine a6 ?_|refine aq ?_|refine a7 ?_|refine a8 ?_|refine aa a2 rfl rfl ?_|refine bg ?_|fail)
 exact aA rfl rfl rfl
instance {g : FuncId} {caps : List AV} (l : List bo) (most : Int) : AD Tryz.prog 116 [.imm 9 (l.map bA), aM most, .fn g caps] (.fn 157 [.iptr [.imm 9 (l.map bA)], .iptr [aM most], .iptr [.fn g caps]]) := ⟨Fy l most⟩
theorem Bu {g : FuncId} {caps : List AV} {u : AV} [bF Tryz.prog g] (hu : jj u = some (g, caps)) (l : List ep) (err : Nat → Int) (J : Nat → AL → Prop) (L0 : AL) (h0 : J 0 L0) (hw : ∀ i x L, l[i]? = some x → J i L → AC Tryz.prog g ([aM i, .agg (cw x)] ++ caps) L fun c L' => c = aM (err i) ∧ (err i = 0 → J (i + 1) L')) :
  AC Tryz.prog 178 [.imm 2 (l.map cw), u] L0 fun r _ => r = cA (dE err l.length) := by
 refine aQ Tryz.func178 rfl Tryz.ntmps178 rfl fun B => ?_
 refine cG 0 rfl rfl fun hlen => ?_
 rw [Gu] at hlen
 repeat' (first|refine ae ?_|refine a6 ?_|refine ak ?_|refine a7 ?_|refine a8 ?_|refine aa a2 rfl rfl ?_)
 refine aJ [1, 9, 10] (α := Nat × AL) (fun i => [(11, aM i.1)]) (fun i => i.1 ≤ l.length ∧ J i.1 i.2 ∧ dE err l.length = dy err (l.length - i.1) i.1) (fun i => i.2) (fun i => l.length - i.1) (0, L0) rfl ⟨rfl, trivial⟩ ⟨Nat.zero_le _, h0, rfl⟩ (fun _ _ h => h) ?_
 rintro ⟨i, L⟩ ⟨hi, hj, he⟩
 dsimp only at hi hj he ⊢
 try dsimp only [Gr, Gq, Gp, Gj]
 repeat' (first|refine ae ?_|refine a6 ?_|refine a7 ?_|refine a8 ?_|refine aa a2 rfl rfl ?_)
 refine aw rfl (fun h => ?_) (fun h => ?_)
 ·have hil : i < l.length := by have := Gz h; simp at this; omega
  obtain ⟨z, hz⟩ : ∃ z, l[i]? = some z := ⟨_, Ee hil⟩
  have hzg := bn (c := cw) hz
  repeat' (first|refine ae ?_|refine a6 ?_|refine ak ?_|refine ar ?_|refine a7 ?_|refine a8 ?_|refine aa a2 rfl rfl ?_|(apply aX; first|refine aW a2 ?_|refine aP a2 ?_)|(apply aG; first|refine ah 7 a2 0 rfl rfl rfl rfl rfl rfl rfl rfl ?_|refine ah 7 a2 1 rfl rfl rfl rfl rfl rfl rfl rfl ?_|refine ah 7 a2 2 rfl rfl rfl rfl rfl rfl rfl rfl ?_|refine ai a2 0 rfl rfl rfl rfl rfl rfl rfl ?_|refine ai a2 1 rfl rfl rfl rfl rfl rfl rfl ?_|refine ai a2 2 rfl rfl rfl rfl rfl rfl rfl ?_|refine ai a2 3 rfl rfl rfl rfl rfl rfl rfl ?_|fail)|refine b7 a2 fun _=>?_|fail)
  refine dh L [] (hw i z L hz hj) rfl hu rfl (bT rfl) rfl rfl fun c L1 ⟨hc, hj'⟩ => ?_
  subst hc
  rw [List.append_nil]
  repeat' (first|refine ae ?_|refine a6 ?_|refine a7 ?_|refine a8 ?_|refine aa a2 rfl rfl ?_)
  refine aw rfl (fun h2 => ?_) (fun h2 => ?_)
  ·have h2' := Gz h2
   repeat' (first|refine ae ?_|refine a6 ?_|refine aq ?_|refine a7 ?_|refine aE ?_|refine aS ?_|refine bJ ?_|refine a8 ?_|refine aa a2 rfl rfl ?_)
   refine b9 rfl rfl rfl ?_
   rw [he, cT hil h2']
   rfl
  ·have h2' := Decidable.not_not.1 (Gy h2)
   repeat' (first|refine a6 ?_|refine ar ?_|refine a7 ?_|refine aH ?_|refine a8 ?_|refine aa a2 rfl rfl ?_|(apply aV; refine aU ?_)|fail)
   exact aB (i + 1, L1) rfl ⟨by rw [Gw]; rfl, trivial⟩ ⟨by dsimp only; omega, hj' h2', by rw [he]; exact cE hil h2'⟩ (by dsimp only; omega) (fun _ _ h => h)
 ·have hil : i = l.length := by have := Gy h; simp at this; omega
  subst hil
  repeat' (first|refine ae ?_|refine a6 ?_|refine aq ?_|refine aO ?_|refine a7 ?_|refine au ?_|refine ay ?_|refine av ?_|refine a8 ?_|refine aa a2 rfl rfl ?_)
  refine b9 rfl rfl rfl ?_
  rw [he, Nat.sub_self]
  rfl
theorem Ci {g : FuncId} {caps : List AV} {u : AV} [bF Tryz.prog g] (hu : jj u = some (g, caps)) (l : List ep) (most : Int) (err : Nat → Int) (J : Nat → AL → Prop) (L0 : AL) (h0 : J 0 L0) (hw : (l.length : Int) ≤ most → ∀ i x L, l[i]? = some x → J i L → AC Tryz.prog g ([aM i, .agg (cw x)] ++ caps) L fun c L' => c = aM (err i) ∧ (err i = 0 → J (i + 1) L')) :
  AC Tryz.prog 177 [.iptr [.imm 2 (l.map cw)], .iptr [aM most], .iptr [u]] L0 fun r _ => r = cA (dv most err l.length) := by
 refine aQ Tryz.func177 rfl Tryz.ntmps177 rfl fun B => ?_
 repeat' (first|refine ae ?_|refine a6 ?_|refine a7 ?_|refine a8 ?_|refine aa a2 rfl rfl ?_)
 refine aw rfl (fun h => ?_) (fun h => ?_)
 ·have h' := Gz h
  rw [Gu] at h'
  repeat' (first|refine ae ?_|refine a6 ?_|refine aq ?_|refine a7 ?_|refine aE ?_|refine a8 ?_|refine aa a2 rfl rfl ?_)
  refine b9 rfl rfl rfl ?_
  unfold dv
  rw [if_pos h']
  rfl
 ·have h' := Gy h
  rw [Gu] at h'
  repeat' (first|refine ae ?_|refine a6 ?_|refine ar ?_|refine a7 ?_|refine aa a2 rfl rfl ?_)
  refine bb L0 [] (Bu hu l err J L0 h0 (hw (by omega))) rfl (fy hu) (bT rfl) rfl fun c L1 hc => ?_
  subst hc
  repeat' (first|refine aq ?_|refine a7 ?_|refine a8 ?_|refine aa a2 rfl rfl ?_)
  refine b9 rfl rfl rfl ?_
  unfold dv
  rw [if_neg h']
  rfl
theorem Fz {g : FuncId} {caps : List AV} (l : List ep) (most : Int) : bQ Tryz.prog 123 [.imm 2 (l.map cw), aM most, .fn g caps] (.fn 177 [.iptr [.imm 2 (l.map cw)], .iptr [aM most], .iptr [.fn g caps]]) := by
 refine aQ Tryz.func123 rfl Tryz.ntmps123 rfl fun B => ?_
 repeat' (first|refine ae ?_|refine a6 ?_|refine aq ?_|refine a7 ?_|refine a8 ?_|refine aa a2 rfl rfl ?_|refine bg ?_|fail)
 exact aA rfl rfl rfl
instance {g : FuncId} {caps : List AV} (l : List ep) (most : Int) : AD Tryz.prog 123 [.imm 2 (l.map cw), aM most, .fn g caps] (.fn 177 [.iptr [.imm 2 (l.map cw)], .iptr [aM most], .iptr [.fn g caps]]) := ⟨Fz l most⟩
theorem Bv {g : FuncId} {caps : List AV} {u : AV} [bF Tryz.prog g] (hu : jj u = some (g, caps)) (l : List ba) (err : Nat → Int) (J : Nat → AL → Prop) (L0 : AL) (h0 : J 0 L0) (hw : ∀ i x L, l[i]? = some x → J i L → AC Tryz.prog g ([aM i, .agg (bj x)] ++ caps) L fun c L' => c = aM (err i) ∧ (err i = 0 → J (i + 1) L')) :
  AC Tryz.prog 180 [.imm 3 (l.map bj), u] L0 fun r _ => r = cA (dE err l.length) := by
 refine aQ Tryz.func180 rfl Tryz.ntmps180 rfl fun B => ?_
 refine cG 0 rfl rfl fun hlen => ?_
 rw [Gu] at hlen
 repeat' (first|refine ae ?_|refine a6 ?_|refine ak ?_|refine a7 ?_|refine a8 ?_|refine aa a2 rfl rfl ?_)
 refine aJ [1, 9, 10] (α := Nat × AL) (fun i => [(11, aM i.1)]) (fun i => i.1 ≤ l.length ∧ J i.1 i.2 ∧ dE err l.length = dy err (l.length - i.1) i.1) (fun i => i.2) (fun i => l.length - i.1) (0, L0) rfl ⟨rfl, trivial⟩ ⟨Nat.zero_le _, h0, rfl⟩ (fun _ _ h => h) ?_
 rintro ⟨i, L⟩ ⟨hi, hj, he⟩
 dsimp only at hi hj he ⊢
 try dsimp only [Gr, Gq, Gp, Gj]
 repeat' (first|refine ae ?_|refine a6 ?_|refine a7 ?_|refine a8 ?_|refine aa a2 rfl rfl ?_)
 refine aw rfl (fun h => ?_) (fun h => ?_)
 ·have hil : i < l.length := by have := Gz h; simp at this; omega
  obtain ⟨z, hz⟩ : ∃ z, l[i]? = some z := ⟨_, Ee hil⟩
  have hzg := bn (c := bj) hz
  repeat' (first|refine ae ?_|refine a6 ?_|refine ak ?_|refine ar ?_|refine a7 ?_|refine a8 ?_|refine aa a2 rfl rfl ?_|(apply aX; first|refine aW a2 ?_|refine aP a2 ?_)|(apply aG; first|refine ah 7 a2 0 rfl rfl rfl rfl rfl rfl rfl rfl ?_|refine ah 7 a2 1 rfl rfl rfl rfl rfl rfl rfl rfl ?_|refine ah 7 a2 2 rfl rfl rfl rfl rfl rfl rfl rfl ?_|refine ai a2 0 rfl rfl rfl rfl rfl rfl rfl ?_|refine ai a2 1 rfl rfl rfl rfl rfl rfl rfl ?_|refine ai a2 2 rfl rfl rfl rfl rfl rfl rfl ?_|refine ai a2 3 rfl rfl rfl rfl rfl rfl rfl ?_|fail)|refine b7 a2 fun _=>?_|fail)
  refine dh L [] (hw i z L hz hj) rfl hu rfl (bT rfl) rfl rfl fun c L1 ⟨hc, hj'⟩ => ?_
  subst hc
  rw [List.append_nil]
  repeat' (first|refine ae ?_|refine a6 ?_|refine a7 ?_|refine a8 ?_|refine aa a2 rfl rfl ?_)
  refine aw rfl (fun h2 => ?_) (fun h2 => ?_)
  ·have h2' := Gz h2
   repeat' (first|refine ae ?_|refine a6 ?_|refine aq ?_|refine a7 ?_|refine aE ?_|refine aS ?_|refine bJ ?_|refine a8 ?_|refine aa a2 rfl rfl ?_)
   refine b9 rfl rfl rfl ?_
   rw [he, cT hil h2']
   rfl
  ·have h2' := Decidable.not_not.1 (Gy h2)
   repeat' (first|refine a6 ?_|refine ar ?_|refine a7 ?_|refine aH ?_|refine a8 ?_|refine aa a2 rfl rfl ?_|(apply aV; refine aU ?_)|fail)
   exact aB (i + 1, L1) rfl ⟨by rw [Gw]; rfl, trivial⟩ ⟨by dsimp only; omega, hj' h2', by rw [he]; exact cE hil h2'⟩ (by dsimp only; omega) (fun _ _ h => h)
 ·have hil : i = l.length := by have := Gy h; simp at this; omega
  subst hil
  repeat' (first|refine ae ?_|refine a6 ?_|refine aq ?_|refine aO ?_|refine a7 ?_|refine au ?_|refine ay ?_|refine av ?_|refine a8 ?_|refine aa a2 rfl rfl ?_)
  refine b9 rfl rfl rfl ?_
  rw [he, Nat.sub_self]
  rfl
theorem Cj {g : FuncId} {caps : List AV} {u : AV} [bF Tryz.prog g] (hu : jj u = some (g, caps)) (l : List ba) (most : Int) (err : Nat → Int) (J : Nat → AL → Prop) (L0 : AL) (h0 : J 0 L0) (hw : (l.length : Int) ≤ most → ∀ i x L, l[i]? = some x → J i L → AC Tryz.prog g ([aM i, .agg (bj x)] ++ caps) L fun c L' => c = aM (err i) ∧ (err i = 0 → J (i + 1) L')) :
  AC Tryz.prog 179 [.iptr [.imm 3 (l.map bj)], .iptr [aM most], .iptr [u]] L0 fun r _ => r = cA (dv most err l.length) := by
 refine aQ Tryz.func179 rfl Tryz.ntmps179 rfl fun B => ?_
 repeat' (first|refine ae ?_|refine a6 ?_|refine a7 ?_|refine a8 ?_|refine aa a2 rfl rfl ?_)
 refine aw rfl (fun h => ?_) (fun h => ?_)
 ·have h' := Gz h
  rw [Gu] at h'
  repeat' (first|refine ae ?_|refine a6 ?_|refine aq ?_|refine a7 ?_|refine aE ?_|refine a8 ?_|refine aa a2 rfl rfl ?_)
  refine b9 rfl rfl rfl ?_
  unfold dv
  rw [if_pos h']
  rfl
 ·have h' := Gy h
  rw [Gu] at h'
  repeat' (first|refine ae ?_|refine a6 ?_|refine ar ?_|refine a7 ?_|refine aa a2 rfl rfl ?_)
  refine bb L0 [] (Bv hu l err J L0 h0 (hw (by omega))) rfl (fy hu) (bT rfl) rfl fun c L1 hc => ?_
  subst hc
  repeat' (first|refine aq ?_|refine a7 ?_|refine a8 ?_|refine aa a2 rfl rfl ?_)
  refine b9 rfl rfl rfl ?_
  unfold dv
  rw [if_neg h']
  rfl
theorem FA {g : FuncId} {caps : List AV} (l : List ba) (most : Int) : bQ Tryz.prog 126 [.imm 3 (l.map bj), aM most, .fn g caps] (.fn 179 [.iptr [.imm 3 (l.map bj)], .iptr [aM most], .iptr [.fn g caps]]) := by
 refine aQ Tryz.func126 rfl Tryz.ntmps126 rfl fun B => ?_
 repeat' (first|refine ae ?_|refine a6 ?_|refine aq ?_|refine a7 ?_|refine a8 ?_|refine aa a2 rfl rfl ?_|refine bg ?_|fail)
 exact aA rfl rfl rfl
instance {g : FuncId} {caps : List AV} (l : List ba) (most : Int) : AD Tryz.prog 126 [.imm 3 (l.map bj), aM most, .fn g caps] (.fn 179 [.iptr [.imm 3 (l.map bj)], .iptr [aM most], .iptr [.fn g caps]]) := ⟨FA l most⟩
theorem Bw {g : FuncId} {caps : List AV} {u : AV} [bF Tryz.prog g] (hu : jj u = some (g, caps)) (l : List bX) (err : Nat → Int) (J : Nat → AL → Prop) (L0 : AL) (h0 : J 0 L0) (hw : ∀ i x L, l[i]? = some x → J i L → AC Tryz.prog g ([aM i, .agg (bD x)] ++ caps) L fun c L' => c = aM (err i) ∧ (err i = 0 → J (i + 1) L')) :
  AC Tryz.prog 184 [.imm 6 (l.map bD), u] L0 fun r _ => r = cA (dE err l.length) := by
 refine aQ Tryz.func184 rfl Tryz.ntmps184 rfl fun B => ?_
 refine cG 0 rfl rfl fun hlen => ?_
 rw [Gu] at hlen
 repeat' (first|refine ae ?_|refine a6 ?_|refine ak ?_|refine a7 ?_|refine a8 ?_|refine aa a2 rfl rfl ?_)
 refine aJ [1, 9, 10] (α := Nat × AL) (fun i => [(11, aM i.1)]) (fun i => i.1 ≤ l.length ∧ J i.1 i.2 ∧ dE err l.length = dy err (l.length - i.1) i.1) (fun i => i.2) (fun i => l.length - i.1) (0, L0) rfl ⟨rfl, trivial⟩ ⟨Nat.zero_le _, h0, rfl⟩ (fun _ _ h => h) ?_
 rintro ⟨i, L⟩ ⟨hi, hj, he⟩
 dsimp only at hi hj he ⊢
 try dsimp only [Gr, Gq, Gp, Gj]
 repeat' (first|refine ae ?_|refine a6 ?_|refine a7 ?_|refine a8 ?_|refine aa a2 rfl rfl ?_)
 refine aw rfl (fun h => ?_) (fun h => ?_)
 ·have hil : i < l.length := by have := Gz h; simp at this; omega
  obtain ⟨z, hz⟩ : ∃ z, l[i]? = some z := ⟨_, Ee hil⟩
  have hzg := bn (c := bD) hz
  repeat' (first|refine ae ?_|refine a6 ?_|refine ak ?_|refine ar ?_|refine a7 ?_|refine a8 ?_|refine aa a2 rfl rfl ?_|(apply aX; first|refine aW a2 ?_|refine aP a2 ?_)|(apply aG; first|refine ah 7 a2 0 rfl rfl rfl rfl rfl rfl rfl rfl ?_|refine ah 7 a2 1 rfl rfl rfl rfl rfl rfl rfl rfl ?_|refine ah 7 a2 2 rfl rfl rfl rfl rfl rfl rfl rfl ?_|refine ai a2 0 rfl rfl rfl rfl rfl rfl rfl ?_|refine ai a2 1 rfl rfl rfl rfl rfl rfl rfl ?_|refine ai a2 2 rfl rfl rfl rfl rfl rfl rfl ?_|refine ai a2 3 rfl rfl rfl rfl rfl rfl rfl ?_|fail)|refine b7 a2 fun _=>?_|fail)
  refine dh L [] (hw i z L hz hj) rfl hu rfl (bT rfl) rfl rfl fun c L1 ⟨hc, hj'⟩ => ?_
  subst hc
  rw [List.append_nil]
  repeat' (first|refine ae ?_|refine a6 ?_|refine a7 ?_|refine a8 ?_|refine aa a2 rfl rfl ?_)
  refine aw rfl (fun h2 => ?_) (fun h2 => ?_)
  ·have h2' := Gz h2
   repeat' (first|refine ae ?_|refine a6 ?_|refine aq ?_|refine a7 ?_|refine aE ?_|refine aS ?_|refine bJ ?_|refine a8 ?_|refine aa a2 rfl rfl ?_)
   refine b9 rfl rfl rfl ?_
   rw [he, cT hil h2']
   rfl
  ·have h2' := Decidable.not_not.1 (Gy h2)
   repeat' (first|refine a6 ?_|refine ar ?_|refine a7 ?_|refine aH ?_|refine a8 ?_|refine aa a2 rfl rfl ?_|(apply aV; refine aU ?_)|fail)
   exact aB (i + 1, L1) rfl ⟨by rw [Gw]; rfl, trivial⟩ ⟨by dsimp only; omega, hj' h2', by rw [he]; exact cE hil h2'⟩ (by dsimp only; omega) (fun _ _ h => h)
 ·have hil : i = l.length := by have := Gy h; simp at this; omega
  subst hil
  repeat' (first|refine ae ?_|refine a6 ?_|refine aq ?_|refine aO ?_|refine a7 ?_|refine au ?_|refine ay ?_|refine av ?_|refine a8 ?_|refine aa a2 rfl rfl ?_)
  refine b9 rfl rfl rfl ?_
  rw [he, Nat.sub_self]
  rfl
theorem Bx {g : FuncId} {caps : List AV} {u : AV} [bF Tryz.prog g] (hu : jj u = some (g, caps)) (l : List bO) (err : Nat → Int) (J : Nat → AL → Prop) (L0 : AL) (h0 : J 0 L0) (hw : ∀ i x L, l[i]? = some x → J i L → AC Tryz.prog g ([aM i, .agg (bw x)] ++ caps) L fun c L' => c = aM (err i) ∧ (err i = 0 → J (i + 1) L')) :
  AC Tryz.prog 188 [.imm 2 (l.map bw), u] L0 fun r _ => r = cA (dE err l.length) := by
 refine aQ Tryz.func188 rfl Tryz.ntmps188 rfl fun B => ?_
 refine cG 0 rfl rfl fun hlen => ?_
 rw [Gu] at hlen
 repeat' (first|refine ae ?_|refine a6 ?_|refine ak ?_|refine a7 ?_|refine a8 ?_|refine aa a2 rfl rfl ?_)
 refine aJ [1, 9, 10] (α := Nat × AL) (fun i => [(11, aM i.1)]) (fun i => i.1 ≤ l.length ∧ J i.1 i.2 ∧ dE err l.length = dy err (l.length - i.1) i.1) (fun i => i.2) (fun i => l.length - i.1) (0, L0) rfl ⟨rfl, trivial⟩ ⟨Nat.zero_le _, h0, rfl⟩ (fun _ _ h => h) ?_
 rintro ⟨i, L⟩ ⟨hi, hj, he⟩
 dsimp only at hi hj he ⊢
 try dsimp only [Gr, Gq, Gp, Gj]
 repeat' (first|refine ae ?_|refine a6 ?_|refine a7 ?_|refine a8 ?_|refine aa a2 rfl rfl ?_)
 refine aw rfl (fun h => ?_) (fun h => ?_)
 ·have hil : i < l.length := by have := Gz h; simp at this; omega
  obtain ⟨z, hz⟩ : ∃ z, l[i]? = some z := ⟨_, Ee hil⟩
  have hzg := bn (c := bw) hz
  repeat' (first|refine ae ?_|refine a6 ?_|refine ak ?_|refine ar ?_|refine a7 ?_|refine a8 ?_|refine aa a2 rfl rfl ?_|(apply aX; first|refine aW a2 ?_|refine aP a2 ?_)|(apply aG; first|refine ah 7 a2 0 rfl rfl rfl rfl rfl rfl rfl rfl ?_|refine ah 7 a2 1 rfl rfl rfl rfl rfl rfl rfl rfl ?_|refine ah 7 a2 2 rfl rfl rfl rfl rfl rfl rfl rfl ?_|refine ai a2 0 rfl rfl rfl rfl rfl rfl rfl ?_|refine ai a2 1 rfl rfl rfl rfl rfl rfl rfl ?_|refine ai a2 2 rfl rfl rfl rfl rfl rfl rfl ?_|refine ai a2 3 rfl rfl rfl rfl rfl rfl rfl ?_|fail)|refine b7 a2 fun _=>?_|fail)
  refine dh L [] (hw i z L hz hj) rfl hu rfl (bT rfl) rfl rfl fun c L1 ⟨hc, hj'⟩ => ?_
  subst hc
  rw [List.append_nil]
  repeat' (first|refine ae ?_|refine a6 ?_|refine a7 ?_|refine a8 ?_|refine aa a2 rfl rfl ?_)
  refine aw rfl (fun h2 => ?_) (fun h2 => ?_)
  ·have h2' := Gz h2
   repeat' (first|refine ae ?_|refine a6 ?_|refine aq ?_|refine a7 ?_|refine aE ?_|refine aS ?_|refine bJ ?_|refine a8 ?_|refine aa a2 rfl rfl ?_)
   refine b9 rfl rfl rfl ?_
   rw [he, cT hil h2']
   rfl
  ·have h2' := Decidable.not_not.1 (Gy h2)
   repeat' (first|refine a6 ?_|refine ar ?_|refine a7 ?_|refine aH ?_|refine a8 ?_|refine aa a2 rfl rfl ?_|(apply aV; refine aU ?_)|fail)
   exact aB (i + 1, L1) rfl ⟨by rw [Gw]; rfl, trivial⟩ ⟨by dsimp only; omega, hj' h2', by rw [he]; exact cE hil h2'⟩ (by dsimp only; omega) (fun _ _ h => h)
 ·have hil : i = l.length := by have := Gy h; simp at this; omega
  subst hil
  repeat' (first|refine ae ?_|refine a6 ?_|refine aq ?_|refine aO ?_|refine a7 ?_|refine au ?_|refine ay ?_|refine av ?_|refine a8 ?_|refine aa a2 rfl rfl ?_)
  refine b9 rfl rfl rfl ?_
  rw [he, Nat.sub_self]
  rfl
theorem Ck {g : FuncId} {caps : List AV} {u : AV} [bF Tryz.prog g] (hu : jj u = some (g, caps)) (l : List bO) (most : Int) (err : Nat → Int) (J : Nat → AL → Prop) (L0 : AL) (h0 : J 0 L0) (hw : (l.length : Int) ≤ most → ∀ i x L, l[i]? = some x → J i L → AC Tryz.prog g ([aM i, .agg (bw x)] ++ caps) L fun c L' => c = aM (err i) ∧ (err i = 0 → J (i + 1) L')) :
  AC Tryz.prog 187 [.iptr [.imm 2 (l.map bw)], .iptr [aM most], .iptr [u]] L0 fun r _ => r = cA (dv most err l.length) := by
 refine aQ Tryz.func187 rfl Tryz.ntmps187 rfl fun B => ?_
 repeat' (first|refine ae ?_|refine a6 ?_|refine a7 ?_|refine a8 ?_|refine aa a2 rfl rfl ?_)
 refine aw rfl (fun h => ?_) (fun h => ?_)
 ·have h' := Gz h
  rw [Gu] at h'
  repeat' (first|refine ae ?_|refine a6 ?_|refine aq ?_|refine a7 ?_|refine aE ?_|refine a8 ?_|refine aa a2 rfl rfl ?_)
  refine b9 rfl rfl rfl ?_
  unfold dv
  rw [if_pos h']
  rfl
 ·have h' := Gy h
  rw [Gu] at h'
  repeat' (first|refine ae ?_|refine a6 ?_|refine ar ?_|refine a7 ?_|refine aa a2 rfl rfl ?_)
  refine bb L0 [] (Bx hu l err J L0 h0 (hw (by omega))) rfl (fy hu) (bT rfl) rfl fun c L1 hc => ?_
  subst hc
  repeat' (first|refine aq ?_|refine a7 ?_|refine a8 ?_|refine aa a2 rfl rfl ?_)
  refine b9 rfl rfl rfl ?_
  unfold dv
  rw [if_neg h']
  rfl
theorem FB {g : FuncId} {caps : List AV} (l : List bO) (most : Int) : bQ Tryz.prog 129 [.imm 2 (l.map bw), aM most, .fn g caps] (.fn 187 [.iptr [.imm 2 (l.map bw)], .iptr [aM most], .iptr [.fn g caps]]) := by
 refine aQ Tryz.func129 rfl Tryz.ntmps129 rfl fun B => ?_
 repeat' (first|refine ae ?_|refine a6 ?_|refine aq ?_|refine a7 ?_|refine a8 ?_|refine aa a2 rfl rfl ?_|refine bg ?_|fail)
 exact aA rfl rfl rfl
instance {g : FuncId} {caps : List AV} (l : List bO) (most : Int) : AD Tryz.prog 129 [.imm 2 (l.map bw), aM most, .fn g caps] (.fn 187 [.iptr [.imm 2 (l.map bw)], .iptr [aM most], .iptr [.fn g caps]]) := ⟨FB l most⟩
theorem By {g : FuncId} {caps : List AV} {u : AV} [bF Tryz.prog g] (hu : jj u = some (g, caps)) (l : List eo) (err : Nat → Int) (J : Nat → AL → Prop) (L0 : AL) (h0 : J 0 L0) (hw : ∀ i x L, l[i]? = some x → J i L → AC Tryz.prog g ([aM i, .agg (cu x)] ++ caps) L fun c L' => c = aM (err i) ∧ (err i = 0 → J (i + 1) L')) :
  AC Tryz.prog 191 [.imm 4 (l.map cu), u] L0 fun r _ => r = cA (dE err l.length) := by
 refine aQ Tryz.func191 rfl Tryz.ntmps191 rfl fun B => ?_
 refine cG 0 rfl rfl fun hlen => ?_
 rw [Gu] at hlen
 repeat' (first|refine ae ?_|refine a6 ?_|refine ak ?_|refine a7 ?_|refine a8 ?_|refine aa a2 rfl rfl ?_)
 refine aJ [1, 9, 10] (α := Nat × AL) (fun i => [(11, aM i.1)]) (fun i => i.1 ≤ l.length ∧ J i.1 i.2 ∧ dE err l.length = dy err (l.length - i.1) i.1) (fun i => i.2) (fun i => l.length - i.1) (0, L0) rfl ⟨rfl, trivial⟩ ⟨Nat.zero_le _, h0, rfl⟩ (fun _ _ h => h) ?_
 rintro ⟨i, L⟩ ⟨hi, hj, he⟩
 dsimp only at hi hj he ⊢
 try dsimp only [Gr, Gq, Gp, Gj]
 repeat' (first|refine ae ?_|refine a6 ?_|refine a7 ?_|refine a8 ?_|refine aa a2 rfl rfl ?_)
 refine aw rfl (fun h => ?_) (fun h => ?_)
 ·have hil : i < l.length := by have := Gz h; simp at this; omega
  obtain ⟨z, hz⟩ : ∃ z, l[i]? = some z := ⟨_, Ee hil⟩
  have hzg := bn (c := cu) hz
  repeat' (first|refine ae ?_|refine a6 ?_|refine ak ?_|refine ar ?_|refine a7 ?_|refine a8 ?_|refine aa a2 rfl rfl ?_|(apply aX; first|refine aW a2 ?_|refine aP a2 ?_)|(apply aG; first|refine ah 7 a2 0 rfl rfl rfl rfl rfl rfl rfl rfl ?_|refine ah 7 a2 1 rfl rfl rfl rfl rfl rfl rfl rfl ?_|refine ah 7 a2 2 rfl rfl rfl rfl rfl rfl rfl rfl ?_|refine ai a2 0 rfl rfl rfl rfl rfl rfl rfl ?_|refine ai a2 1 rfl rfl rfl rfl rfl rfl rfl ?_|refine ai a2 2 rfl rfl rfl rfl rfl rfl rfl ?_|refine ai a2 3 rfl rfl rfl rfl rfl rfl rfl ?_|fail)|refine b7 a2 fun _=>?_|fail)
  refine dh L [] (hw i z L hz hj) rfl hu rfl (bT rfl) rfl rfl fun c L1 ⟨hc, hj'⟩ => ?_
  subst hc
  rw [List.append_nil]
  repeat' (first|refine ae ?_|refine a6 ?_|refine a7 ?_|refine a8 ?_|refine aa a2 rfl rfl ?_)
  refine aw rfl (fun h2 => ?_) (fun h2 => ?_)
  ·have h2' := Gz h2
   repeat' (first|refine ae ?_|refine a6 ?_|refine aq ?_|refine a7 ?_|refine aE ?_|refine aS ?_|refine bJ ?_|refine a8 ?_|refine aa a2 rfl rfl ?_)
   refine b9 rfl rfl rfl ?_
   rw [he, cT hil h2']
   rfl
  ·have h2' := Decidable.not_not.1 (Gy h2)
   repeat' (first|refine a6 ?_|refine ar ?_|refine a7 ?_|refine aH ?_|refine a8 ?_|refine aa a2 rfl rfl ?_|(apply aV; refine aU ?_)|fail)
   exact aB (i + 1, L1) rfl ⟨by rw [Gw]; rfl, trivial⟩ ⟨by dsimp only; omega, hj' h2', by rw [he]; exact cE hil h2'⟩ (by dsimp only; omega) (fun _ _ h => h)
 ·have hil : i = l.length := by have := Gy h; simp at this; omega
  subst hil
  repeat' (first|refine ae ?_|refine a6 ?_|refine aq ?_|refine aO ?_|refine a7 ?_|refine au ?_|refine ay ?_|refine av ?_|refine a8 ?_|refine aa a2 rfl rfl ?_)
  refine b9 rfl rfl rfl ?_
  rw [he, Nat.sub_self]
  rfl
theorem Cl {g : FuncId} {caps : List AV} {u : AV} [bF Tryz.prog g] (hu : jj u = some (g, caps)) (l : List eo) (most : Int) (err : Nat → Int) (J : Nat → AL → Prop) (L0 : AL) (h0 : J 0 L0) (hw : (l.length : Int) ≤ most → ∀ i x L, l[i]? = some x → J i L → AC Tryz.prog g ([aM i, .agg (cu x)] ++ caps) L fun c L' => c = aM (err i) ∧ (err i = 0 → J (i + 1) L')) :
  AC Tryz.prog 190 [.iptr [.imm 4 (l.map cu)], .iptr [aM most], .iptr [u]] L0 fun r _ => r = cA (dv most err l.length) := by
 refine aQ Tryz.func190 rfl Tryz.ntmps190 rfl fun B => ?_
 repeat' (first|refine ae ?_|refine a6 ?_|refine a7 ?_|refine a8 ?_|refine aa a2 rfl rfl ?_)
 refine aw rfl (fun h => ?_) (fun h => ?_)
 ·have h' := Gz h
  rw [Gu] at h'
  repeat' (first|refine ae ?_|refine a6 ?_|refine aq ?_|refine a7 ?_|refine aE ?_|refine a8 ?_|refine aa a2 rfl rfl ?_)
  refine b9 rfl rfl rfl ?_
  unfold dv
  rw [if_pos h']
  rfl
 ·have h' := Gy h
  rw [Gu] at h'
  repeat' (first|refine ae ?_|refine a6 ?_|refine ar ?_|refine a7 ?_|refine aa a2 rfl rfl ?_)
  refine bb L0 [] (By hu l err J L0 h0 (hw (by omega))) rfl (fy hu) (bT rfl) rfl fun c L1 hc => ?_
  subst hc
  repeat' (first|refine aq ?_|refine a7 ?_|refine a8 ?_|refine aa a2 rfl rfl ?_)
  refine b9 rfl rfl rfl ?_
  unfold dv
  rw [if_neg h']
  rfl
theorem EP {g : FuncId} {caps : List AV} (l : List eo) (most : Int) : bQ Tryz.prog 133 [.imm 4 (l.map cu), aM most, .fn g caps] (.fn 190 [.iptr [.imm 4 (l.map cu)], .iptr [aM most], .iptr [.fn g caps]]) := by
 refine aQ Tryz.func133 rfl Tryz.ntmps133 rfl fun B => ?_
 repeat' (first|refine ae ?_|refine a6 ?_|refine aq ?_|refine a7 ?_|refine a8 ?_|refine aa a2 rfl rfl ?_|refine bg ?_|fail)
 exact aA rfl rfl rfl
instance {g : FuncId} {caps : List AV} (l : List eo) (most : Int) : AD Tryz.prog 133 [.imm 4 (l.map cu), aM most, .fn g caps] (.fn 190 [.iptr [.imm 4 (l.map cu)], .iptr [aM most], .iptr [.fn g caps]]) := ⟨EP l most⟩
theorem Bz {g : FuncId} {caps : List AV} {u : AV} [bF Tryz.prog g] (hu : jj u = some (g, caps)) (l : List (List ea)) (err : Nat → Int) (J : Nat → AL → Prop) (L0 : AL) (h0 : J 0 L0) (hw : ∀ i x L, l[i]? = some x → J i L → AC Tryz.prog g ([aM i, .agg (bk x)] ++ caps) L fun c L' => c = aM (err i) ∧ (err i = 0 → J (i + 1) L')) :
  AC Tryz.prog 193 [.imm 1 (l.map bk), u] L0 fun r _ => r = cA (dE err l.length) := by
 refine aQ Tryz.func193 rfl Tryz.ntmps193 rfl fun B => ?_
 refine cG 0 rfl rfl fun hlen => ?_
 rw [Gu] at hlen
 repeat' (first|refine ae ?_|refine a6 ?_|refine ak ?_|refine a7 ?_|refine a8 ?_|refine aa a2 rfl rfl ?_)
 refine aJ [1, 9, 10] (α := Nat × AL) (fun i => [(11, aM i.1)]) (fun i => i.1 ≤ l.length ∧ J i.1 i.2 ∧ dE err l.length = dy err (l.length - i.1) i.1) (fun i => i.2) (fun i => l.length - i.1) (0, L0) rfl ⟨rfl, trivial⟩ ⟨Nat.zero_le _, h0, rfl⟩ (fun _ _ h => h) ?_
 rintro ⟨i, L⟩ ⟨hi, hj, he⟩
 dsimp only at hi hj he ⊢
 try dsimp only [Gr, Gq, Gp, Gj]
 repeat' (first|refine ae ?_|refine a6 ?_|refine a7 ?_|refine a8 ?_|refine aa a2 rfl rfl ?_)
 refine aw rfl (fun h => ?_) (fun h => ?_)
 ·have hil : i < l.length := by have := Gz h; simp at this; omega
  obtain ⟨z, hz⟩ : ∃ z, l[i]? = some z := ⟨_, Ee hil⟩
  have hzg := bn (c := bk) hz
  repeat' (first|refine ae ?_|refine a6 ?_|refine ak ?_|refine ar ?_|refine a7 ?_|refine a8 ?_|refine aa a2 rfl rfl ?_|(apply aX; first|refine aW a2 ?_|refine aP a2 ?_)|(apply aG; first|refine ah 7 a2 0 rfl rfl rfl rfl rfl rfl rfl rfl ?_|refine ah 7 a2 1 rfl rfl rfl rfl rfl rfl rfl rfl ?_|refine ah 7 a2 2 rfl rfl rfl rfl rfl rfl rfl rfl ?_|refine ai a2 0 rfl rfl rfl rfl rfl rfl rfl ?_|refine ai a2 1 rfl rfl rfl rfl rfl rfl rfl ?_|refine ai a2 2 rfl rfl rfl rfl rfl rfl rfl ?_|refine ai a2 3 rfl rfl rfl rfl rfl rfl rfl ?_|fail)|refine b7 a2 fun _=>?_|fail)
  refine dh L [] (hw i z L hz hj) rfl hu rfl (bT rfl) rfl rfl fun c L1 ⟨hc, hj'⟩ => ?_
  subst hc
  rw [List.append_nil]
  repeat' (first|refine ae ?_|refine a6 ?_|refine a7 ?_|refine a8 ?_|refine aa a2 rfl rfl ?_)
  refine aw rfl (fun h2 => ?_) (fun h2 => ?_)
  ·have h2' := Gz h2
   repeat' (first|refine ae ?_|refine a6 ?_|refine aq ?_|refine a7 ?_|refine aE ?_|refine aS ?_|refine bJ ?_|refine a8 ?_|refine aa a2 rfl rfl ?_)
   refine b9 rfl rfl rfl ?_
   rw [he, cT hil h2']
   rfl
  ·have h2' := Decidable.not_not.1 (Gy h2)
   repeat' (first|refine a6 ?_|refine ar ?_|refine a7 ?_|refine aH ?_|refine a8 ?_|refine aa a2 rfl rfl ?_|(apply aV; refine aU ?_)|fail)
   exact aB (i + 1, L1) rfl ⟨by rw [Gw]; rfl, trivial⟩ ⟨by dsimp only; omega, hj' h2', by rw [he]; exact cE hil h2'⟩ (by dsimp only; omega) (fun _ _ h => h)
 ·have hil : i = l.length := by have := Gy h; simp at this; omega
  subst hil
  repeat' (first|refine ae ?_|refine a6 ?_|refine aq ?_|refine aO ?_|refine a7 ?_|refine au ?_|refine ay ?_|refine av ?_|refine a8 ?_|refine aa a2 rfl rfl ?_)
  refine b9 rfl rfl rfl ?_
  rw [he, Nat.sub_self]
  rfl
theorem Cm {g : FuncId} {caps : List AV} {u : AV} [bF Tryz.prog g] (hu : jj u = some (g, caps)) (l : List (List ea)) (most : Int) (err : Nat → Int) (J : Nat → AL → Prop) (L0 : AL) (h0 : J 0 L0) (hw : (l.length : Int) ≤ most → ∀ i x L, l[i]? = some x → J i L → AC Tryz.prog g ([aM i, .agg (bk x)] ++ caps) L fun c L' => c = aM (err i) ∧ (err i = 0 → J (i + 1) L')) :
  AC Tryz.prog 192 [.iptr [.imm 1 (l.map bk)], .iptr [aM most], .iptr [u]] L0 fun r _ => r = cA (dv most err l.length) := by
 refine aQ Tryz.func192 rfl Tryz.ntmps192 rfl fun B => ?_
 repeat' (first|refine ae ?_|refine a6 ?_|refine a7 ?_|refine a8 ?_|refine aa a2 rfl rfl ?_)
 refine aw rfl (fun h => ?_) (fun h => ?_)
 ·have h' := Gz h
  rw [Gu] at h'
  repeat' (first|refine ae ?_|refine a6 ?_|refine aq ?_|refine a7 ?_|refine aE ?_|refine a8 ?_|refine aa a2 rfl rfl ?_)
  refine b9 rfl rfl rfl ?_
  unfold dv
  rw [if_pos h']
  rfl
 ·have h' := Gy h
  rw [Gu] at h'
  repeat' (first|refine ae ?_|refine a6 ?_|refine ar ?_|refine a7 ?_|refine aa a2 rfl rfl ?_)
  refine bb L0 [] (Bz hu l err J L0 h0 (hw (by omega))) rfl (fy hu) (bT rfl) rfl fun c L1 hc => ?_
  subst hc
  repeat' (first|refine aq ?_|refine a7 ?_|refine a8 ?_|refine aa a2 rfl rfl ?_)
  refine b9 rfl rfl rfl ?_
  unfold dv
  rw [if_neg h']
  rfl
theorem EQ {g : FuncId} {caps : List AV} (l : List (List ea)) (most : Int) : bQ Tryz.prog 136 [.imm 1 (l.map bk), aM most, .fn g caps] (.fn 192 [.iptr [.imm 1 (l.map bk)], .iptr [aM most], .iptr [.fn g caps]]) := by
 refine aQ Tryz.func136 rfl Tryz.ntmps136 rfl fun B => ?_
 repeat' (first|refine ae ?_|refine a6 ?_|refine aq ?_|refine a7 ?_|refine a8 ?_|refine aa a2 rfl rfl ?_|refine bg ?_|fail)
 exact aA rfl rfl rfl
instance {g : FuncId} {caps : List AV} (l : List (List ea)) (most : Int) : AD Tryz.prog 136 [.imm 1 (l.map bk), aM most, .fn g caps] (.fn 192 [.iptr [.imm 1 (l.map bk)], .iptr [aM most], .iptr [.fn g caps]]) := ⟨EQ l most⟩
theorem BA {g : FuncId} {caps : List AV} {u : AV} [bF Tryz.prog g] (hu : jj u = some (g, caps)) (l : List ea) (err : Nat → Int) (J : Nat → AL → Prop) (L0 : AL) (h0 : J 0 L0) (hw : ∀ i x L, l[i]? = some x → J i L → AC Tryz.prog g ([aM i, .agg (fD x)] ++ caps) L fun c L' => c = aM (err i) ∧ (err i = 0 → J (i + 1) L')) :
  AC Tryz.prog 194 [.imm 3 (l.map fD), u] L0 fun r _ => r = cA (dE err l.length) := by
 refine aQ Tryz.func194 rfl Tryz.ntmps194 rfl fun B => ?_
 refine cG 0 rfl rfl fun hlen => ?_
 rw [Gu] at hlen
 repeat' (first|refine ae ?_|refine a6 ?_|refine ak ?_|refine a7 ?_|refine a8 ?_|refine aa a2 rfl rfl ?_)
 refine aJ [1, 9, 10] (α := Nat × AL) (fun i => [(11, aM i.1)]) (fun i => i.1 ≤ l.length ∧ J i.1 i.2 ∧ dE err l.length = dy err (l.length - i.1) i.1) (fun i => i.2) (fun i => l.length - i.1) (0, L0) rfl ⟨rfl, trivial⟩ ⟨Nat.zero_le _, h0, rfl⟩ (fun _ _ h => h) ?_
 rintro ⟨i, L⟩ ⟨hi, hj, he⟩
 dsimp only at hi hj he ⊢
 try dsimp only [Gr, Gq, Gp, Gj]
 repeat' (first|refine ae ?_|refine a6 ?_|refine a7 ?_|refine a8 ?_|refine aa a2 rfl rfl ?_)
 refine aw rfl (fun h => ?_) (fun h => ?_)
 ·have hil : i < l.length := by have := Gz h; simp at this; omega
  obtain ⟨z, hz⟩ : ∃ z, l[i]? = some z := ⟨_, Ee hil⟩
  have hzg := bn (c := fD) hz
  repeat' (first|refine ae ?_|refine a6 ?_|refine ak ?_|refine ar ?_|refine a7 ?_|refine a8 ?_|refine aa a2 rfl rfl ?_|(apply aX; first|refine aW a2 ?_|refine aP a2 ?_)|(apply aG; first|refine ah 7 a2 0 rfl rfl rfl rfl rfl rfl rfl rfl ?_|refine ah 7 a2 1 rfl rfl rfl rfl rfl rfl rfl rfl ?_|refine ah 7 a2 2 rfl rfl rfl rfl rfl rfl rfl rfl ?_|refine ai a2 0 rfl rfl rfl rfl rfl rfl rfl ?_|refine ai a2 1 rfl rfl rfl rfl rfl rfl rfl ?_|refine ai a2 2 rfl rfl rfl rfl rfl rfl rfl ?_|refine ai a2 3 rfl rfl rfl rfl rfl rfl rfl ?_|fail)|refine b7 a2 fun _=>?_|fail)
  refine dh L [] (hw i z L hz hj) rfl hu rfl (bT rfl) rfl rfl fun c L1 ⟨hc, hj'⟩ => ?_
  subst hc
  rw [List.append_nil]
  repeat' (first|refine ae ?_|refine a6 ?_|refine a7 ?_|refine a8 ?_|refine aa a2 rfl rfl ?_)
  refine aw rfl (fun h2 => ?_) (fun h2 => ?_)
  ·have h2' := Gz h2
   repeat' (first|refine ae ?_|refine a6 ?_|refine aq ?_|refine a7 ?_|refine aE ?_|refine aS ?_|refine bJ ?_|refine a8 ?_|refine aa a2 rfl rfl ?_)
   refine b9 rfl rfl rfl ?_
   rw [he, cT hil h2']
   rfl
  ·have h2' := Decidable.not_not.1 (Gy h2)
   repeat' (first|refine a6 ?_|refine ar ?_|refine a7 ?_|refine aH ?_|refine a8 ?_|refine aa a2 rfl rfl ?_|(apply aV; refine aU ?_)|fail)
   exact aB (i + 1, L1) rfl ⟨by rw [Gw]; rfl, trivial⟩ ⟨by dsimp only; omega, hj' h2', by rw [he]; exact cE hil h2'⟩ (by dsimp only; omega) (fun _ _ h => h)
 ·have hil : i = l.length := by have := Gy h; simp at this; omega
  subst hil
  repeat' (first|refine ae ?_|refine a6 ?_|refine aq ?_|refine aO ?_|refine a7 ?_|refine au ?_|refine ay ?_|refine av ?_|refine a8 ?_|refine aa a2 rfl rfl ?_)
  refine b9 rfl rfl rfl ?_
  rw [he, Nat.sub_self]
  rfl
theorem BB {g : FuncId} {caps : List AV} {u : AV} [bF Tryz.prog g] (hu : jj u = some (g, caps)) (l : List (List ew)) (err : Nat → Int) (J : Nat → AL → Prop) (L0 : AL) (h0 : J 0 L0) (hw : ∀ i x L, l[i]? = some x → J i L → AC Tryz.prog g ([aM i, .imm 2 (x.map dS)] ++ caps) L fun c L' => c = aM (err i) ∧ (err i = 0 → J (i + 1) L')) :
  AC Tryz.prog 197 [.imm 1 (l.map cM), u] L0 fun r _ => r = cA (dE err l.length) := by
 refine aQ Tryz.func197 rfl Tryz.ntmps197 rfl fun B => ?_
 refine cG 0 rfl rfl fun hlen => ?_
 rw [Gu] at hlen
 repeat' (first|refine ae ?_|refine a6 ?_|refine ak ?_|refine a7 ?_|refine a8 ?_|refine aa a2 rfl rfl ?_)
 refine aJ [1, 9, 10] (α := Nat × AL) (fun i => [(11, aM i.1)]) (fun i => i.1 ≤ l.length ∧ J i.1 i.2 ∧ dE err l.length = dy err (l.length - i.1) i.1) (fun i => i.2) (fun i => l.length - i.1) (0, L0) rfl ⟨rfl, trivial⟩ ⟨Nat.zero_le _, h0, rfl⟩ (fun _ _ h => h) ?_
 rintro ⟨i, L⟩ ⟨hi, hj, he⟩
 dsimp only at hi hj he ⊢
 try dsimp only [Gr, Gq, Gp, Gj]
 repeat' (first|refine ae ?_|refine a6 ?_|refine a7 ?_|refine a8 ?_|refine aa a2 rfl rfl ?_)
 refine aw rfl (fun h => ?_) (fun h => ?_)
 ·have hil : i < l.length := by have := Gz h; simp at this; omega
  obtain ⟨z, hz⟩ : ∃ z, l[i]? = some z := ⟨_, Ee hil⟩
  have hzg := bn (c := cM) hz
  repeat' (first|refine ae ?_|refine a6 ?_|refine ak ?_|refine ar ?_|refine a7 ?_|refine a8 ?_|refine aa a2 rfl rfl ?_|(apply aX; first|refine aW a2 ?_|refine aP a2 ?_)|fail)
  refine dh L [] (hw i z L hz hj) rfl hu rfl (bT rfl) rfl rfl fun c L1 ⟨hc, hj'⟩ => ?_
  subst hc
  rw [List.append_nil]
  repeat' (first|refine ae ?_|refine a6 ?_|refine a7 ?_|refine a8 ?_|refine aa a2 rfl rfl ?_)
  refine aw rfl (fun h2 => ?_) (fun h2 => ?_)
  ·have h2' := Gz h2
   repeat' (first|refine ae ?_|refine a6 ?_|refine aq ?_|refine a7 ?_|refine aE ?_|refine aS ?_|refine bJ ?_|refine a8 ?_|refine aa a2 rfl rfl ?_)
   refine b9 rfl rfl rfl ?_
   rw [he, cT hil h2']
   rfl
  ·have h2' := Decidable.not_not.1 (Gy h2)
   repeat' (first|refine a6 ?_|refine ar ?_|refine a7 ?_|refine aH ?_|refine a8 ?_|refine aa a2 rfl rfl ?_|(apply aV; refine aU ?_)|fail)
   exact aB (i + 1, L1) rfl ⟨by rw [Gw]; rfl, trivial⟩ ⟨by dsimp only; omega, hj' h2', by rw [he]; exact cE hil h2'⟩ (by dsimp only; omega) (fun _ _ h => h)
 ·have hil : i = l.length := by have := Gy h; simp at this; omega
  subst hil
  repeat' (first|refine ae ?_|refine a6 ?_|refine aq ?_|refine aO ?_|refine a7 ?_|refine au ?_|refine ay ?_|refine av ?_|refine a8 ?_|refine aa a2 rfl rfl ?_)
  refine b9 rfl rfl rfl ?_
  rw [he, Nat.sub_self]
  rfl
theorem Co {g : FuncId} {caps : List AV} {u : AV} [bF Tryz.prog g] (hu : jj u = some (g, caps)) (l : List (List ew)) (most : Int) (err : Nat → Int) (J : Nat → AL → Prop) (L0 : AL) (h0 : J 0 L0) (hw : (l.length : Int) ≤ most → ∀ i x L, l[i]? = some x → J i L → AC Tryz.prog g ([aM i, .imm 2 (x.map dS)] ++ caps) L fun c L' => c = aM (err i) ∧ (err i = 0 → J (i + 1) L')) :
  AC Tryz.prog 196 [.iptr [.imm 1 (l.map cM)], .iptr [aM most], .iptr [u]] L0 fun r _ => r = cA (dv most err l.length) := by
 refine aQ Tryz.func196 rfl Tryz.ntmps196 rfl fun B => ?_
 repeat' (first|refine ae ?_|refine a6 ?_|refine a7 ?_|refine a8 ?_|refine aa a2 rfl rfl ?_)
 refine aw rfl (fun h => ?_) (fun h => ?_)
 ·have h' := Gz h
  rw [Gu] at h'
  repeat' (first|refine ae ?_|refine a6 ?_|refine aq ?_|refine a7 ?_|refine aE ?_|refine a8 ?_|refine aa a2 rfl rfl ?_)
  refine b9 rfl rfl rfl ?_
  unfold dv
  rw [if_pos h']
  rfl
 ·have h' := Gy h
  rw [Gu] at h'
  repeat' (first|refine ae ?_|refine a6 ?_|refine ar ?_|refine a7 ?_|refine aa a2 rfl rfl ?_)
  refine bb L0 [] (BB hu l err J L0 h0 (hw (by omega))) rfl (fy hu) (bT rfl) rfl fun c L1 hc => ?_
  subst hc
  repeat' (first|refine aq ?_|refine a7 ?_|refine a8 ?_|refine aa a2 rfl rfl ?_)
  refine b9 rfl rfl rfl ?_
  unfold dv
  rw [if_neg h']
  rfl
theorem DN {g : FuncId} (l : List (List ew)) (most : Int) : bQ Tryz.prog 139 [.imm 1 (l.map cM), aM most, .sc (.func (.func g) #[] #[])] (.fn 196 [.iptr [.imm 1 (l.map cM)], .iptr [aM most], .iptr [.sc (.func (.func g) #[] #[])]]) := by
 refine aQ Tryz.func139 rfl Tryz.ntmps139 rfl fun B => ?_
 repeat' (first|refine ae ?_|refine a6 ?_|refine aq ?_|refine a7 ?_|refine a8 ?_|refine aa a2 rfl rfl ?_|refine bg ?_|fail)
 exact aA rfl rfl rfl
instance {g : FuncId} (l : List (List ew)) (most : Int) : AD Tryz.prog 139 [.imm 1 (l.map cM), aM most, .sc (.func (.func g) #[] #[])] (.fn 196 [.iptr [.imm 1 (l.map cM)], .iptr [aM most], .iptr [.sc (.func (.func g) #[] #[])]]) := ⟨DN l most⟩
theorem BC {g : FuncId} {caps : List AV} {u : AV} [bF Tryz.prog g] (hu : jj u = some (g, caps)) (l : List eB) (err : Nat → Int) (J : Nat → AL → Prop) (L0 : AL) (h0 : J 0 L0) (hw : ∀ i x L, l[i]? = some x → J i L → AC Tryz.prog g ([aM i, .agg (cX x)] ++ caps) L fun c L' => c = aM (err i) ∧ (err i = 0 → J (i + 1) L')) :
  AC Tryz.prog 214 [.imm 3 (l.map cX), u] L0 fun r _ => r = cA (dE err l.length) := by
 refine aQ Tryz.func214 rfl Tryz.ntmps214 rfl fun B => ?_
 refine cG 0 rfl rfl fun hlen => ?_
 rw [Gu] at hlen
 repeat' (first|refine ae ?_|refine a6 ?_|refine ak ?_|refine a7 ?_|refine a8 ?_|refine aa a2 rfl rfl ?_)
 refine aJ [1, 9, 10] (α := Nat × AL) (fun i => [(11, aM i.1)]) (fun i => i.1 ≤ l.length ∧ J i.1 i.2 ∧ dE err l.length = dy err (l.length - i.1) i.1) (fun i => i.2) (fun i => l.length - i.1) (0, L0) rfl ⟨rfl, trivial⟩ ⟨Nat.zero_le _, h0, rfl⟩ (fun _ _ h => h) ?_
 rintro ⟨i, L⟩ ⟨hi, hj, he⟩
 dsimp only at hi hj he ⊢
 try dsimp only [Gr, Gq, Gp, Gj]
 repeat' (first|refine ae ?_|refine a6 ?_|refine a7 ?_|refine a8 ?_|refine aa a2 rfl rfl ?_)
 refine aw rfl (fun h => ?_) (fun h => ?_)
 ·have hil : i < l.length := by have := Gz h; simp at this; omega
  obtain ⟨z, hz⟩ : ∃ z, l[i]? = some z := ⟨_, Ee hil⟩
  have hzg := bn (c := cX) hz
  repeat' (first|refine ae ?_|refine a6 ?_|refine ak ?_|refine ar ?_|refine a7 ?_|refine a8 ?_|refine aa a2 rfl rfl ?_|(apply aX; first|refine aW a2 ?_|refine aP a2 ?_)|(apply aG; first|refine ah 7 a2 0 rfl rfl rfl rfl rfl rfl rfl rfl ?_|refine ah 7 a2 1 rfl rfl rfl rfl rfl rfl rfl rfl ?_|refine ah 7 a2 2 rfl rfl rfl rfl rfl rfl rfl rfl ?_|refine ai a2 0 rfl rfl rfl rfl rfl rfl rfl ?_|refine ai a2 1 rfl rfl rfl rfl rfl rfl rfl ?_|refine ai a2 2 rfl rfl rfl rfl rfl rfl rfl ?_|refine ai a2 3 rfl rfl rfl rfl rfl rfl rfl ?_|fail)|refine b7 a2 fun _=>?_|fail)
  refine dh L [] (hw i z L hz hj) rfl hu rfl (bT rfl) rfl rfl fun c L1 ⟨hc, hj'⟩ => ?_
  subst hc
  rw [List.append_nil]
  repeat' (first|refine ae ?_|refine a6 ?_|refine a7 ?_|refine a8 ?_|refine aa a2 rfl rfl ?_)
  refine aw rfl (fun h2 => ?_) (fun h2 => ?_)
  ·have h2' := Gz h2
   repeat' (first|refine ae ?_|refine a6 ?_|refine aq ?_|refine a7 ?_|refine aE ?_|refine aS ?_|refine bJ ?_|refine a8 ?_|refine aa a2 rfl rfl ?_)
   refine b9 rfl rfl rfl ?_
   rw [he, cT hil h2']
   rfl
  ·have h2' := Decidable.not_not.1 (Gy h2)
   repeat' (first|refine a6 ?_|refine ar ?_|refine a7 ?_|refine aH ?_|refine a8 ?_|refine aa a2 rfl rfl ?_|(apply aV; refine aU ?_)|fail)
   exact aB (i + 1, L1) rfl ⟨by rw [Gw]; rfl, trivial⟩ ⟨by dsimp only; omega, hj' h2', by rw [he]; exact cE hil h2'⟩ (by dsimp only; omega) (fun _ _ h => h)
 ·have hil : i = l.length := by have := Gy h; simp at this; omega
  subst hil
  repeat' (first|refine ae ?_|refine a6 ?_|refine aq ?_|refine aO ?_|refine a7 ?_|refine au ?_|refine ay ?_|refine av ?_|refine a8 ?_|refine aa a2 rfl rfl ?_)
  refine b9 rfl rfl rfl ?_
  rw [he, Nat.sub_self]
  rfl
theorem BD {g : FuncId} {caps : List AV} {u : AV} [bF Tryz.prog g] (hu : jj u = some (g, caps)) (l : List cR) (err : Nat → Int) (J : Nat → AL → Prop) (L0 : AL) (h0 : J 0 L0) (hw : ∀ i x L, l[i]? = some x → J i L → AC Tryz.prog g ([aM i, .agg (cN x)] ++ caps) L fun c L' => c = aM (err i) ∧ (err i = 0 → J (i + 1) L')) :
  AC Tryz.prog 218 [.imm 3 (l.map cN), u] L0 fun r _ => r = cA (dE err l.length) := by
 refine aQ Tryz.func218 rfl Tryz.ntmps218 rfl fun B => ?_
 refine cG 0 rfl rfl fun hlen => ?_
 rw [Gu] at hlen
 repeat' (first|refine ae ?_|refine a6 ?_|refine ak ?_|refine a7 ?_|refine a8 ?_|refine aa a2 rfl rfl ?_)
 refine aJ [1, 9, 10] (α := Nat × AL) (fun i => [(11, aM i.1)]) (fun i => i.1 ≤ l.length ∧ J i.1 i.2 ∧ dE err l.length = dy err (l.length - i.1) i.1) (fun i => i.2) (fun i => l.length - i.1) (0, L0) rfl ⟨rfl, trivial⟩ ⟨Nat.zero_le _, h0, rfl⟩ (fun _ _ h => h) ?_
 rintro ⟨i, L⟩ ⟨hi, hj, he⟩
 dsimp only at hi hj he ⊢
 try dsimp only [Gr, Gq, Gp, Gj]
 repeat' (first|refine ae ?_|refine a6 ?_|refine a7 ?_|refine a8 ?_|refine aa a2 rfl rfl ?_)
 refine aw rfl (fun h => ?_) (fun h => ?_)
 ·have hil : i < l.length := by have := Gz h; simp at this; omega
  obtain ⟨z, hz⟩ : ∃ z, l[i]? = some z := ⟨_, Ee hil⟩
  have hzg := bn (c := cN) hz
  repeat' (first|refine ae ?_|refine a6 ?_|refine ak ?_|refine ar ?_|refine a7 ?_|refine a8 ?_|refine aa a2 rfl rfl ?_|(apply aX; first|refine aW a2 ?_|refine aP a2 ?_)|(apply aG; first|refine ah 7 a2 0 rfl rfl rfl rfl rfl rfl rfl rfl ?_|refine ah 7 a2 1 rfl rfl rfl rfl rfl rfl rfl rfl ?_|refine ah 7 a2 2 rfl rfl rfl rfl rfl rfl rfl rfl ?_|refine ai a2 0 rfl rfl rfl rfl rfl rfl rfl ?_|refine ai a2 1 rfl rfl rfl rfl rfl rfl rfl ?_|refine ai a2 2 rfl rfl rfl rfl rfl rfl rfl ?_|refine ai a2 3 rfl rfl rfl rfl rfl rfl rfl ?_|fail)|refine b7 a2 fun _=>?_|fail)
  refine dh L [] (hw i z L hz hj) rfl hu rfl (bT rfl) rfl rfl fun c L1 ⟨hc, hj'⟩ => ?_
  subst hc
  rw [List.append_nil]
  repeat' (first|refine ae ?_|refine a6 ?_|refine a7 ?_|refine a8 ?_|refine aa a2 rfl rfl ?_)
  refine aw rfl (fun h2 => ?_) (fun h2 => ?_)
  ·have h2' := Gz h2
   repeat' (first|refine ae ?_|refine a6 ?_|refine aq ?_|refine a7 ?_|refine aE ?_|refine aS ?_|refine bJ ?_|refine a8 ?_|refine aa a2 rfl rfl ?_)
   refine b9 rfl rfl rfl ?_
   rw [he, cT hil h2']
   rfl
  ·have h2' := Decidable.not_not.1 (Gy h2)
   repeat' (first|refine a6 ?_|refine ar ?_|refine a7 ?_|refine aH ?_|refine a8 ?_|refine aa a2 rfl rfl ?_|(apply aV; refine aU ?_)|fail)
   exact aB (i + 1, L1) rfl ⟨by rw [Gw]; rfl, trivial⟩ ⟨by dsimp only; omega, hj' h2', by rw [he]; exact cE hil h2'⟩ (by dsimp only; omega) (fun _ _ h => h)
 ·have hil : i = l.length := by have := Gy h; simp at this; omega
  subst hil
  repeat' (first|refine ae ?_|refine a6 ?_|refine aq ?_|refine aO ?_|refine a7 ?_|refine au ?_|refine ay ?_|refine av ?_|refine a8 ?_|refine aa a2 rfl rfl ?_)
  refine b9 rfl rfl rfl ?_
  rw [he, Nat.sub_self]
  rfl
theorem Cq {g : FuncId} {caps : List AV} {u : AV} [bF Tryz.prog g] (hu : jj u = some (g, caps)) (l : List cR) (most : Int) (err : Nat → Int) (J : Nat → AL → Prop) (L0 : AL) (h0 : J 0 L0) (hw : (l.length : Int) ≤ most → ∀ i x L, l[i]? = some x → J i L → AC Tryz.prog g ([aM i, .agg (cN x)] ++ caps) L fun c L' => c = aM (err i) ∧ (err i = 0 → J (i + 1) L')) :
  AC Tryz.prog 217 [.iptr [.imm 3 (l.map cN)], .iptr [aM most], .iptr [u]] L0 fun r _ => r = cA (dv most err l.length) := by
 refine aQ Tryz.func217 rfl Tryz.ntmps217 rfl fun B => ?_
 repeat' (first|refine ae ?_|refine a6 ?_|refine a7 ?_|refine a8 ?_|refine aa a2 rfl rfl ?_)
 refine aw rfl (fun h => ?_) (fun h => ?_)
 ·have h' := Gz h
  rw [Gu] at h'
  repeat' (first|refine ae ?_|refine a6 ?_|refine aq ?_|refine a7 ?_|refine aE ?_|refine a8 ?_|refine aa a2 rfl rfl ?_)
  refine b9 rfl rfl rfl ?_
  unfold dv
  rw [if_pos h']
  rfl
 ·have h' := Gy h
  rw [Gu] at h'
  repeat' (first|refine ae ?_|refine a6 ?_|refine ar ?_|refine a7 ?_|refine aa a2 rfl rfl ?_)
  refine bb L0 [] (BD hu l err J L0 h0 (hw (by omega))) rfl (fy hu) (bT rfl) rfl fun c L1 hc => ?_
  subst hc
  repeat' (first|refine aq ?_|refine a7 ?_|refine a8 ?_|refine aa a2 rfl rfl ?_)
  refine b9 rfl rfl rfl ?_
  unfold dv
  rw [if_neg h']
  rfl
theorem ER {g : FuncId} {caps : List AV} (l : List cR) (most : Int) : bQ Tryz.prog 162 [.imm 3 (l.map cN), aM most, .fn g caps] (.fn 217 [.iptr [.imm 3 (l.map cN)], .iptr [aM most], .iptr [.fn g caps]]) := by
 refine aQ Tryz.func162 rfl Tryz.ntmps162 rfl fun B => ?_
 repeat' (first|refine ae ?_|refine a6 ?_|refine aq ?_|refine a7 ?_|refine a8 ?_|refine aa a2 rfl rfl ?_|refine bg ?_|fail)
 exact aA rfl rfl rfl
instance {g : FuncId} {caps : List AV} (l : List cR) (most : Int) : AD Tryz.prog 162 [.imm 3 (l.map cN), aM most, .fn g caps] (.fn 217 [.iptr [.imm 3 (l.map cN)], .iptr [aM most], .iptr [.fn g caps]]) := ⟨ER l most⟩
theorem BE {g : FuncId} {caps : List AV} {u : AV} [bF Tryz.prog g] (hu : jj u = some (g, caps)) (l : List dH) (err : Nat → Int) (J : Nat → AL → Prop) (L0 : AL) (h0 : J 0 L0) (hw : ∀ i x L, l[i]? = some x → J i L → AC Tryz.prog g ([aM i, .agg (cB x)] ++ caps) L fun c L' => c = aM (err i) ∧ (err i = 0 → J (i + 1) L')) :
  AC Tryz.prog 220 [.imm 4 (l.map cB), u] L0 fun r _ => r = cA (dE err l.length) := by
 refine aQ Tryz.func220 rfl Tryz.ntmps220 rfl fun B => ?_
 refine cG 0 rfl rfl fun hlen => ?_
 rw [Gu] at hlen
 repeat' (first|refine ae ?_|refine a6 ?_|refine ak ?_|refine a7 ?_|refine a8 ?_|refine aa a2 rfl rfl ?_)
 refine aJ [1, 9, 10] (α := Nat × AL) (fun i => [(11, aM i.1)]) (fun i => i.1 ≤ l.length ∧ J i.1 i.2 ∧ dE err l.length = dy err (l.length - i.1) i.1) (fun i => i.2) (fun i => l.length - i.1) (0, L0) rfl ⟨rfl, trivial⟩ ⟨Nat.zero_le _, h0, rfl⟩ (fun _ _ h => h) ?_
 rintro ⟨i, L⟩ ⟨hi, hj, he⟩
 dsimp only at hi hj he ⊢
 try dsimp only [Gr, Gq, Gp, Gj]
 repeat' (first|refine ae ?_|refine a6 ?_|refine a7 ?_|refine a8 ?_|refine aa a2 rfl rfl ?_)
 refine aw rfl (fun h => ?_) (fun h => ?_)
 ·have hil : i < l.length := by have := Gz h; simp at this; omega
  obtain ⟨z, hz⟩ : ∃ z, l[i]? = some z := ⟨_, Ee hil⟩
  have hzg := bn (c := cB) hz
  repeat' (first|refine ae ?_|refine a6 ?_|refine ak ?_|refine ar ?_|refine a7 ?_|refine a8 ?_|refine aa a2 rfl rfl ?_|(apply aX; first|refine aW a2 ?_|refine aP a2 ?_)|(apply aG; first|refine ah 7 a2 0 rfl rfl rfl rfl rfl rfl rfl rfl ?_|refine ah 7 a2 1 rfl rfl rfl rfl rfl rfl rfl rfl ?_|refine ah 7 a2 2 rfl rfl rfl rfl rfl rfl rfl rfl ?_|refine ai a2 0 rfl rfl rfl rfl rfl rfl rfl ?_|refine ai a2 1 rfl rfl rfl rfl rfl rfl rfl ?_|refine ai a2 2 rfl rfl rfl rfl rfl rfl rfl ?_|refine ai a2 3 rfl rfl rfl rfl rfl rfl rfl ?_|fail)|refine b7 a2 fun _=>?_|fail)
  refine dh L [] (hw i z L hz hj) rfl hu rfl (bT rfl) rfl rfl fun c L1 ⟨hc, hj'⟩ => ?_
  subst hc
  rw [List.append_nil]
  repeat' (first|refine ae ?_|refine a6 ?_|refine a7 ?_|refine a8 ?_|refine aa a2 rfl rfl ?_)
  refine aw rfl (fun h2 => ?_) (fun h2 => ?_)
  ·have h2' := Gz h2
   repeat' (first|refine ae ?_|refine a6 ?_|refine aq ?_|refine a7 ?_|refine aE ?_|refine aS ?_|refine bJ ?_|refine a8 ?_|refine aa a2 rfl rfl ?_)
   refine b9 rfl rfl rfl ?_
   rw [he, cT hil h2']
   rfl
  ·have h2' := Decidable.not_not.1 (Gy h2)
   repeat' (first|refine a6 ?_|refine ar ?_|refine a7 ?_|refine aH ?_|refine a8 ?_|refine aa a2 rfl rfl ?_|(apply aV; refine aU ?_)|fail)
   exact aB (i + 1, L1) rfl ⟨by rw [Gw]; rfl, trivial⟩ ⟨by dsimp only; omega, hj' h2', by rw [he]; exact cE hil h2'⟩ (by dsimp only; omega) (fun _ _ h => h)
 ·have hil : i = l.length := by have := Gy h; simp at this; omega
  subst hil
  repeat' (first|refine ae ?_|refine a6 ?_|refine aq ?_|refine aO ?_|refine a7 ?_|refine au ?_|refine ay ?_|refine av ?_|refine a8 ?_|refine aa a2 rfl rfl ?_)
  refine b9 rfl rfl rfl ?_
  rw [he, Nat.sub_self]
  rfl
theorem Cr {g : FuncId} {caps : List AV} {u : AV} [bF Tryz.prog g] (hu : jj u = some (g, caps)) (l : List dH) (most : Int) (err : Nat → Int) (J : Nat → AL → Prop) (L0 : AL) (h0 : J 0 L0) (hw : (l.length : Int) ≤ most → ∀ i x L, l[i]? = some x → J i L → AC Tryz.prog g ([aM i, .agg (cB x)] ++ caps) L fun c L' => c = aM (err i) ∧ (err i = 0 → J (i + 1) L')) :
  AC Tryz.prog 219 [.iptr [.imm 4 (l.map cB)], .iptr [aM most], .iptr [u]] L0 fun r _ => r = cA (dv most err l.length) := by
 refine aQ Tryz.func219 rfl Tryz.ntmps219 rfl fun B => ?_
 repeat' (first|refine ae ?_|refine a6 ?_|refine a7 ?_|refine a8 ?_|refine aa a2 rfl rfl ?_)
 refine aw rfl (fun h => ?_) (fun h => ?_)
 ·have h' := Gz h
  rw [Gu] at h'
  repeat' (first|refine ae ?_|refine a6 ?_|refine aq ?_|refine a7 ?_|refine aE ?_|refine a8 ?_|refine aa a2 rfl rfl ?_)
  refine b9 rfl rfl rfl ?_
  unfold dv
  rw [if_pos h']
  rfl
 ·have h' := Gy h
  rw [Gu] at h'
  repeat' (first|refine ae ?_|refine a6 ?_|refine ar ?_|refine a7 ?_|refine aa a2 rfl rfl ?_)
  refine bb L0 [] (BE hu l err J L0 h0 (hw (by omega))) rfl (fy hu) (bT rfl) rfl fun c L1 hc => ?_
  subst hc
  repeat' (first|refine aq ?_|refine a7 ?_|refine a8 ?_|refine aa a2 rfl rfl ?_)
  refine b9 rfl rfl rfl ?_
  unfold dv
  rw [if_neg h']
  rfl
theorem ES {g : FuncId} {caps : List AV} (l : List dH) (most : Int) : bQ Tryz.prog 165 [.imm 4 (l.map cB), aM most, .fn g caps] (.fn 219 [.iptr [.imm 4 (l.map cB)], .iptr [aM most], .iptr [.fn g caps]]) := by
 refine aQ Tryz.func165 rfl Tryz.ntmps165 rfl fun B => ?_
 repeat' (first|refine ae ?_|refine a6 ?_|refine aq ?_|refine a7 ?_|refine a8 ?_|refine aa a2 rfl rfl ?_|refine bg ?_|fail)
 exact aA rfl rfl rfl
instance {g : FuncId} {caps : List AV} (l : List dH) (most : Int) : AD Tryz.prog 165 [.imm 4 (l.map cB), aM most, .fn g caps] (.fn 219 [.iptr [.imm 4 (l.map cB)], .iptr [aM most], .iptr [.fn g caps]]) := ⟨ES l most⟩
theorem BF {g : FuncId} {caps : List AV} {u : AV} [bF Tryz.prog g] (hu : jj u = some (g, caps)) (l : List dN) (err : Nat → Int) (J : Nat → AL → Prop) (L0 : AL) (h0 : J 0 L0) (hw : ∀ i x L, l[i]? = some x → J i L → AC Tryz.prog g ([aM i, .agg (dk x)] ++ caps) L fun c L' => c = aM (err i) ∧ (err i = 0 → J (i + 1) L')) :
  AC Tryz.prog 223 [.imm 4 (l.map dk), u] L0 fun r _ => r = cA (dE err l.length) := by
 refine aQ Tryz.func223 rfl Tryz.ntmps223 rfl fun B => ?_
 refine cG 0 rfl rfl fun hlen => ?_
 rw [Gu] at hlen
 repeat' (first|refine ae ?_|refine a6 ?_|refine ak ?_|refine a7 ?_|refine a8 ?_|refine aa a2 rfl rfl ?_)
 refine aJ [1, 9, 10] (α := Nat × AL) (fun i => [(11, aM i.1)]) (fun i => i.1 ≤ l.length ∧ J i.1 i.2 ∧ dE err l.length = dy err (l.length - i.1) i.1) (fun i => i.2) (fun i => l.length - i.1) (0, L0) rfl ⟨rfl, trivial⟩ ⟨Nat.zero_le _, h0, rfl⟩ (fun _ _ h => h) ?_
 rintro ⟨i, L⟩ ⟨hi, hj, he⟩
 dsimp only at hi hj he ⊢
 try dsimp only [Gr, Gq, Gp, Gj]
 repeat' (first|refine ae ?_|refine a6 ?_|refine a7 ?_|refine a8 ?_|refine aa a2 rfl rfl ?_)
 refine aw rfl (fun h => ?_) (fun h => ?_)
 ·have hil : i < l.length := by have := Gz h; simp at this; omega
  obtain ⟨z, hz⟩ : ∃ z, l[i]? = some z := ⟨_, Ee hil⟩
  have hzg := bn (c := dk) hz
  repeat' (first|refine ae ?_|refine a6 ?_|refine ak ?_|refine ar ?_|refine a7 ?_|refine a8 ?_|refine aa a2 rfl rfl ?_|(apply aX; first|refine aW a2 ?_|refine aP a2 ?_)|(apply aG; first|refine ah 7 a2 0 rfl rfl rfl rfl rfl rfl rfl rfl ?_|refine ah 7 a2 1 rfl rfl rfl rfl rfl rfl rfl rfl ?_|refine ah 7 a2 2 rfl rfl rfl rfl rfl rfl rfl rfl ?_|refine ai a2 0 rfl rfl rfl rfl rfl rfl rfl ?_|refine ai a2 1 rfl rfl rfl rfl rfl rfl rfl ?_|refine ai a2 2 rfl rfl rfl rfl rfl rfl rfl ?_|refine ai a2 3 rfl rfl rfl rfl rfl rfl rfl ?_|fail)|refine b7 a2 fun _=>?_|fail)
  refine dh L [] (hw i z L hz hj) rfl hu rfl (bT rfl) rfl rfl fun c L1 ⟨hc, hj'⟩ => ?_
  subst hc
  rw [List.append_nil]
  repeat' (first|refine ae ?_|refine a6 ?_|refine a7 ?_|refine a8 ?_|refine aa a2 rfl rfl ?_)
  refine aw rfl (fun h2 => ?_) (fun h2 => ?_)
  ·have h2' := Gz h2
   repeat' (first|refine ae ?_|refine a6 ?_|refine aq ?_|refine a7 ?_|refine aE ?_|refine aS ?_|refine bJ ?_|refine a8 ?_|refine aa a2 rfl rfl ?_)
   refine b9 rfl rfl rfl ?_
   rw [he, cT hil h2']
   rfl
  ·have h2' := Decidable.not_not.1 (Gy h2)
   repeat' (first|refine a6 ?_|refine ar ?_|refine a7 ?_|refine aH ?_|refine a8 ?_|refine aa a2 rfl rfl ?_|(apply aV; refine aU ?_)|fail)
   exact aB (i + 1, L1) rfl ⟨by rw [Gw]; rfl, trivial⟩ ⟨by dsimp only; omega, hj' h2', by rw [he]; exact cE hil h2'⟩ (by dsimp only; omega) (fun _ _ h => h)
 ·have hil : i = l.length := by have := Gy h; simp at this; omega
  subst hil
  repeat' (first|refine ae ?_|refine a6 ?_|refine aq ?_|refine aO ?_|refine a7 ?_|refine au ?_|refine ay ?_|refine av ?_|refine a8 ?_|refine aa a2 rfl rfl ?_)
  refine b9 rfl rfl rfl ?_
  rw [he, Nat.sub_self]
  rfl
theorem Cs {g : FuncId} {caps : List AV} {u : AV} [bF Tryz.prog g] (hu : jj u = some (g, caps)) (l : List dN) (most : Int) (err : Nat → Int) (J : Nat → AL → Prop) (L0 : AL) (h0 : J 0 L0) (hw : (l.length : Int) ≤ most → ∀ i x L, l[i]? = some x → J i L → AC Tryz.prog g ([aM i, .agg (dk x)] ++ caps) L fun c L' => c = aM (err i) ∧ (err i = 0 → J (i + 1) L')) :
  AC Tryz.prog 222 [.iptr [.imm 4 (l.map dk)], .iptr [aM most], .iptr [u]] L0 fun r _ => r = cA (dv most err l.length) := by
 refine aQ Tryz.func222 rfl Tryz.ntmps222 rfl fun B => ?_
 repeat' (first|refine ae ?_|refine a6 ?_|refine a7 ?_|refine a8 ?_|refine aa a2 rfl rfl ?_)
 refine aw rfl (fun h => ?_) (fun h => ?_)
 ·have h' := Gz h
  rw [Gu] at h'
  repeat' (first|refine ae ?_|refine a6 ?_|refine aq ?_|refine a7 ?_|refine aE ?_|refine a8 ?_|refine aa a2 rfl rfl ?_)
  refine b9 rfl rfl rfl ?_
  unfold dv
  rw [if_pos h']
  rfl
 ·have h' := Gy h
  rw [Gu] at h'
  repeat' (first|refine ae ?_|refine a6 ?_|refine ar ?_|refine a7 ?_|refine aa a2 rfl rfl ?_)
  refine bb L0 [] (BF hu l err J L0 h0 (hw (by omega))) rfl (fy hu) (bT rfl) rfl fun c L1 hc => ?_
  subst hc
  repeat' (first|refine aq ?_|refine a7 ?_|refine a8 ?_|refine aa a2 rfl rfl ?_)
  refine b9 rfl rfl rfl ?_
  unfold dv
  rw [if_neg h']
  rfl
theorem ET {g : FuncId} {caps : List AV} (l : List dN) (most : Int) : bQ Tryz.prog 167 [.imm 4 (l.map dk), aM most, .fn g caps] (.fn 222 [.iptr [.imm 4 (l.map dk)], .iptr [aM most], .iptr [.fn g caps]]) := by
 refine aQ Tryz.func167 rfl Tryz.ntmps167 rfl fun B => ?_
 repeat' (first|refine ae ?_|refine a6 ?_|refine aq ?_|refine a7 ?_|refine a8 ?_|refine aa a2 rfl rfl ?_|refine bg ?_|fail)
 exact aA rfl rfl rfl
instance {g : FuncId} {caps : List AV} (l : List dN) (most : Int) : AD Tryz.prog 167 [.imm 4 (l.map dk), aM most, .fn g caps] (.fn 222 [.iptr [.imm 4 (l.map dk)], .iptr [aM most], .iptr [.fn g caps]]) := ⟨ET l most⟩
theorem BG {g : FuncId} {caps : List AV} {u : AV} [bF Tryz.prog g] (hu : jj u = some (g, caps)) (l : List (List Int)) (err : Nat → Int) (J : Nat → AL → Prop) (L0 : AL) (h0 : J 0 L0) (hw : ∀ i x L, l[i]? = some x → J i L → AC Tryz.prog g ([aM i, .imm 1 (aT x)] ++ caps) L fun c L' => c = aM (err i) ∧ (err i = 0 → J (i + 1) L')) :
  AC Tryz.prog 231 [.imm 1 (l.map lL), u] L0 fun r _ => r = cA (dE err l.length) := by
 refine aQ Tryz.func231 rfl Tryz.ntmps231 rfl fun B => ?_
 refine cG 0 rfl rfl fun hlen => ?_
 rw [Gu] at hlen
 repeat' (first|refine ae ?_|refine a6 ?_|refine ak ?_|refine a7 ?_|refine a8 ?_|refine aa a2 rfl rfl ?_)
 refine aJ [1, 9, 10] (α := Nat × AL) (fun i => [(11, aM i.1)]) (fun i => i.1 ≤ l.length ∧ J i.1 i.2 ∧ dE err l.length = dy err (l.length - i.1) i.1) (fun i => i.2) (fun i => l.length - i.1) (0, L0) rfl ⟨rfl, trivial⟩ ⟨Nat.zero_le _, h0, rfl⟩ (fun _ _ h => h) ?_
 rintro ⟨i, L⟩ ⟨hi, hj, he⟩
 dsimp only at hi hj he ⊢
 try dsimp only [Gr, Gq, Gp, Gj]
 repeat' (first|refine ae ?_|refine a6 ?_|refine a7 ?_|refine a8 ?_|refine aa a2 rfl rfl ?_)
 refine aw rfl (fun h => ?_) (fun h => ?_)
 ·have hil : i < l.length := by have := Gz h; simp at this; omega
  obtain ⟨z, hz⟩ : ∃ z, l[i]? = some z := ⟨_, Ee hil⟩
  have hzg := bn (c := lL) hz
  repeat' (first|refine ae ?_|refine a6 ?_|refine ak ?_|refine ar ?_|refine a7 ?_|refine a8 ?_|refine aa a2 rfl rfl ?_|(apply aX; first|refine aW a2 ?_|refine aP a2 ?_)|fail)
  refine dh L [] (hw i z L hz hj) rfl hu rfl (bT rfl) rfl rfl fun c L1 ⟨hc, hj'⟩ => ?_
  subst hc
  rw [List.append_nil]
  repeat' (first|refine ae ?_|refine a6 ?_|refine a7 ?_|refine a8 ?_|refine aa a2 rfl rfl ?_)
  refine aw rfl (fun h2 => ?_) (fun h2 => ?_)
  ·have h2' := Gz h2
   repeat' (first|refine ae ?_|refine a6 ?_|refine aq ?_|refine a7 ?_|refine aE ?_|refine aS ?_|refine bJ ?_|refine a8 ?_|refine aa a2 rfl rfl ?_)
   refine b9 rfl rfl rfl ?_
   rw [he, cT hil h2']
   rfl
  ·have h2' := Decidable.not_not.1 (Gy h2)
   repeat' (first|refine a6 ?_|refine ar ?_|refine a7 ?_|refine aH ?_|refine a8 ?_|refine aa a2 rfl rfl ?_|(apply aV; refine aU ?_)|fail)
   exact aB (i + 1, L1) rfl ⟨by rw [Gw]; rfl, trivial⟩ ⟨by dsimp only; omega, hj' h2', by rw [he]; exact cE hil h2'⟩ (by dsimp only; omega) (fun _ _ h => h)
 ·have hil : i = l.length := by have := Gy h; simp at this; omega
  subst hil
  repeat' (first|refine ae ?_|refine a6 ?_|refine aq ?_|refine aO ?_|refine a7 ?_|refine au ?_|refine ay ?_|refine av ?_|refine a8 ?_|refine aa a2 rfl rfl ?_)
  refine b9 rfl rfl rfl ?_
  rw [he, Nat.sub_self]
  rfl
theorem BH {g : FuncId} {caps : List AV} {u : AV} [bF Tryz.prog g] (hu : jj u = some (g, caps)) (l : List ew) (err : Nat → Int) (J : Nat → AL → Prop) (L0 : AL) (h0 : J 0 L0) (hw : ∀ i x L, l[i]? = some x → J i L → AC Tryz.prog g ([aM i, .agg (dS x)] ++ caps) L fun c L' => c = aM (err i) ∧ (err i = 0 → J (i + 1) L')) :
  AC Tryz.prog 243 [.imm 2 (l.map dS), u] L0 fun r _ => r = cA (dE err l.length) := by
 refine aQ Tryz.func243 rfl Tryz.ntmps243 rfl fun B => ?_
 refine cG 0 rfl rfl fun hlen => ?_
 rw [Gu] at hlen
 repeat' (first|refine ae ?_|refine a6 ?_|refine ak ?_|refine a7 ?_|refine a8 ?_|refine aa a2 rfl rfl ?_)
 refine aJ [1, 9, 10] (α := Nat × AL) (fun i => [(11, aM i.1)]) (fun i => i.1 ≤ l.length ∧ J i.1 i.2 ∧ dE err l.length = dy err (l.length - i.1) i.1) (fun i => i.2) (fun i => l.length - i.1) (0, L0) rfl ⟨rfl, trivial⟩ ⟨Nat.zero_le _, h0, rfl⟩ (fun _ _ h => h) ?_
 rintro ⟨i, L⟩ ⟨hi, hj, he⟩
 dsimp only at hi hj he ⊢
 try dsimp only [Gr, Gq, Gp, Gj]
 repeat' (first|refine ae ?_|refine a6 ?_|refine a7 ?_|refine a8 ?_|refine aa a2 rfl rfl ?_)
 refine aw rfl (fun h => ?_) (fun h => ?_)
 ·have hil : i < l.length := by have := Gz h; simp at this; omega
  obtain ⟨z, hz⟩ : ∃ z, l[i]? = some z := ⟨_, Ee hil⟩
  have hzg := bn (c := dS) hz
  repeat' (first|refine ae ?_|refine a6 ?_|refine ak ?_|refine ar ?_|refine a7 ?_|refine a8 ?_|refine aa a2 rfl rfl ?_|(apply aX; first|refine aW a2 ?_|refine aP a2 ?_)|(apply aG; first|refine ah 7 a2 0 rfl rfl rfl rfl rfl rfl rfl rfl ?_|refine ah 7 a2 1 rfl rfl rfl rfl rfl rfl rfl rfl ?_|refine ah 7 a2 2 rfl rfl rfl rfl rfl rfl rfl rfl ?_|refine ai a2 0 rfl rfl rfl rfl rfl rfl rfl ?_|refine ai a2 1 rfl rfl rfl rfl rfl rfl rfl ?_|refine ai a2 2 rfl rfl rfl rfl rfl rfl rfl ?_|refine ai a2 3 rfl rfl rfl rfl rfl rfl rfl ?_|fail)|refine b7 a2 fun _=>?_|fail)
  refine dh L [] (hw i z L hz hj) rfl hu rfl (bT rfl) rfl rfl fun c L1 ⟨hc, hj'⟩ => ?_
  subst hc
  rw [List.append_nil]
  repeat' (first|refine ae ?_|refine a6 ?_|refine a7 ?_|refine a8 ?_|refine aa a2 rfl rfl ?_)
  refine aw rfl (fun h2 => ?_) (fun h2 => ?_)
  ·have h2' := Gz h2
   repeat' (first|refine ae ?_|refine a6 ?_|refine aq ?_|refine a7 ?_|refine aE ?_|refine aS ?_|refine bJ ?_|refine a8 ?_|refine aa a2 rfl rfl ?_)
   refine b9 rfl rfl rfl ?_
   rw [he, cT hil h2']
   rfl
  ·have h2' := Decidable.not_not.1 (Gy h2)
   repeat' (first|refine a6 ?_|refine ar ?_|refine a7 ?_|refine aH ?_|refine a8 ?_|refine aa a2 rfl rfl ?_|(apply aV; refine aU ?_)|fail)
   exact aB (i + 1, L1) rfl ⟨by rw [Gw]; rfl, trivial⟩ ⟨by dsimp only; omega, hj' h2', by rw [he]; exact cE hil h2'⟩ (by dsimp only; omega) (fun _ _ h => h)
 ·have hil : i = l.length := by have := Gy h; simp at this; omega
  subst hil
  repeat' (first|refine ae ?_|refine a6 ?_|refine aq ?_|refine aO ?_|refine a7 ?_|refine au ?_|refine ay ?_|refine av ?_|refine a8 ?_|refine aa a2 rfl rfl ?_)
  refine b9 rfl rfl rfl ?_
  rw [he, Nat.sub_self]
  rfl
theorem Ct {g : FuncId} {caps : List AV} {u : AV} [bF Tryz.prog g] (hu : jj u = some (g, caps)) (l : List ew) (most : Int) (err : Nat → Int) (J : Nat → AL → Prop) (L0 : AL) (h0 : J 0 L0) (hw : (l.length : Int) ≤ most → ∀ i x L, l[i]? = some x → J i L → AC Tryz.prog g ([aM i, .agg (dS x)] ++ caps) L fun c L' => c = aM (err i) ∧ (err i = 0 → J (i + 1) L')) :
  AC Tryz.prog 242 [.iptr [.imm 2 (l.map dS)], .iptr [aM most], .iptr [u]] L0 fun r _ => r = cA (dv most err l.length) := by
 refine aQ Tryz.func242 rfl Tryz.ntmps242 rfl fun B => ?_
 repeat' (first|refine ae ?_|refine a6 ?_|refine a7 ?_|refine a8 ?_|refine aa a2 rfl rfl ?_)
 refine aw rfl (fun h => ?_) (fun h => ?_)
 ·have h' := Gz h
  rw [Gu] at h'
  repeat' (first|refine ae ?_|refine a6 ?_|refine aq ?_|refine a7 ?_|refine aE ?_|refine a8 ?_|refine aa a2 rfl rfl ?_)
  refine b9 rfl rfl rfl ?_
  unfold dv
  rw [if_pos h']
  rfl
 ·have h' := Gy h
  rw [Gu] at h'
  repeat' (first|refine ae ?_|refine a6 ?_|refine ar ?_|refine a7 ?_|refine aa a2 rfl rfl ?_)
  refine bb L0 [] (BH hu l err J L0 h0 (hw (by omega))) rfl (fy hu) (bT rfl) rfl fun c L1 hc => ?_
  subst hc
  repeat' (first|refine aq ?_|refine a7 ?_|refine a8 ?_|refine aa a2 rfl rfl ?_)
  refine b9 rfl rfl rfl ?_
  unfold dv
  rw [if_neg h']
  rfl
theorem DP {g : FuncId} (l : List ew) (most : Int) : bQ Tryz.prog 198 [.imm 2 (l.map dS), aM most, .sc (.func (.func g) #[] #[])] (.fn 242 [.iptr [.imm 2 (l.map dS)], .iptr [aM most], .iptr [.sc (.func (.func g) #[] #[])]]) := by
 refine aQ Tryz.func198 rfl Tryz.ntmps198 rfl fun B => ?_
 repeat' (first|refine ae ?_|refine a6 ?_|refine aq ?_|refine a7 ?_|refine a8 ?_|refine aa a2 rfl rfl ?_|refine bg ?_|fail)
 exact aA rfl rfl rfl
instance {g : FuncId} (l : List ew) (most : Int) : AD Tryz.prog 198 [.imm 2 (l.map dS), aM most, .sc (.func (.func g) #[] #[])] (.fn 242 [.iptr [.imm 2 (l.map dS)], .iptr [aM most], .iptr [.sc (.func (.func g) #[] #[])]]) := ⟨DP l most⟩
theorem BI {g : FuncId} {caps : List AV} {u : AV} [bF Tryz.prog g] (hu : jj u = some (g, caps)) (l : List fT) (err : Nat → Int) (J : Nat → AL → Prop) (L0 : AL) (h0 : J 0 L0) (hw : ∀ i x L, l[i]? = some x → J i L → AC Tryz.prog g ([aM i, .agg (dD x)] ++ caps) L fun c L' => c = aM (err i) ∧ (err i = 0 → J (i + 1) L')) :
  AC Tryz.prog 259 [.imm 2 (l.map dD), u] L0 fun r _ => r = cA (dE err l.length) := by
 refine aQ Tryz.func259 rfl Tryz.ntmps259 rfl fun B => ?_
 refine cG 0 rfl rfl fun hlen => ?_
 rw [Gu] at hlen
 repeat' (first|refine ae ?_|refine a6 ?_|refine ak ?_|refine a7 ?_|refine a8 ?_|refine aa a2 rfl rfl ?_)
 refine aJ [1, 9, 10] (α := Nat × AL) (fun i => [(11, aM i.1)]) (fun i => i.1 ≤ l.length ∧ J i.1 i.2 ∧ dE err l.length = dy err (l.length - i.1) i.1) (fun i => i.2) (fun i => l.length - i.1) (0, L0) rfl ⟨rfl, trivial⟩ ⟨Nat.zero_le _, h0, rfl⟩ (fun _ _ h => h) ?_
 rintro ⟨i, L⟩ ⟨hi, hj, he⟩
 dsimp only at hi hj he ⊢
 try dsimp only [Gr, Gq, Gp, Gj]
 repeat' (first|refine ae ?_|refine a6 ?_|refine a7 ?_|refine a8 ?_|refine aa a2 rfl rfl ?_)
 refine aw rfl (fun h => ?_) (fun h => ?_)
 ·have hil : i < l.length := by have := Gz h; simp at this; omega
  obtain ⟨z, hz⟩ : ∃ z, l[i]? = some z := ⟨_, Ee hil⟩
  have hzg := bn (c := dD) hz
  repeat' (first|refine ae ?_|refine a6 ?_|refine ak ?_|refine ar ?_|refine a7 ?_|refine a8 ?_|refine aa a2 rfl rfl ?_|(apply aX; first|refine aW a2 ?_|refine aP a2 ?_)|(apply aG; first|refine ah 7 a2 0 rfl rfl rfl rfl rfl rfl rfl rfl ?_|refine ah 7 a2 1 rfl rfl rfl rfl rfl rfl rfl rfl ?_|refine ah 7 a2 2 rfl rfl rfl rfl rfl rfl rfl rfl ?_|refine ai a2 0 rfl rfl rfl rfl rfl rfl rfl ?_|refine ai a2 1 rfl rfl rfl rfl rfl rfl rfl ?_|refine ai a2 2 rfl rfl rfl rfl rfl rfl rfl ?_|refine ai a2 3 rfl rfl rfl rfl rfl rfl rfl ?_|fail)|refine b7 a2 fun _=>?_|fail)
  refine dh L [] (hw i z L hz hj) rfl hu rfl (bT rfl) rfl rfl fun c L1 ⟨hc, hj'⟩ => ?_
  subst hc
  rw [List.append_nil]
  repeat' (first|refine ae ?_|refine a6 ?_|refine a7 ?_|refine a8 ?_|refine aa a2 rfl rfl ?_)
  refine aw rfl (fun h2 => ?_) (fun h2 => ?_)
  ·have h2' := Gz h2
   repeat' (first|refine ae ?_|refine a6 ?_|refine aq ?_|refine a7 ?_|refine aE ?_|refine aS ?_|refine bJ ?_|refine a8 ?_|refine aa a2 rfl rfl ?_)
   refine b9 rfl rfl rfl ?_
   rw [he, cT hil h2']
   rfl
  ·have h2' := Decidable.not_not.1 (Gy h2)
   repeat' (first|refine a6 ?_|refine ar ?_|refine a7 ?_|refine aH ?_|refine a8 ?_|refine aa a2 rfl rfl ?_|(apply aV; refine aU ?_)|fail)
   exact aB (i + 1, L1) rfl ⟨by rw [Gw]; rfl, trivial⟩ ⟨by dsimp only; omega, hj' h2', by rw [he]; exact cE hil h2'⟩ (by dsimp only; omega) (fun _ _ h => h)
 ·have hil : i = l.length := by have := Gy h; simp at this; omega
  subst hil
  repeat' (first|refine ae ?_|refine a6 ?_|refine aq ?_|refine aO ?_|refine a7 ?_|refine au ?_|refine ay ?_|refine av ?_|refine a8 ?_|refine aa a2 rfl rfl ?_)
  refine b9 rfl rfl rfl ?_
  rw [he, Nat.sub_self]
  rfl
theorem lT {g : FuncId} {caps : List AV} {u : AV} [bF Tryz.prog g] (hu : jj u = some (g, caps)) (l : List Int) (err : Nat → Int) (J : Nat → AL → Prop) (L0 : AL) (h0 : J 0 L0) (hw : ∀ i x L, l[i]? = some x → J i L → AC Tryz.prog g ([aM i, aM x] ++ caps) L fun c L' => c = aM (err i) ∧ (err i = 0 → J (i + 1) L')) :
  AC Tryz.prog 173 [.imm 1 (l.map gi), u] L0 fun r _ => r = cA (dE err l.length) := by
 refine aQ Tryz.func173 rfl Tryz.ntmps173 rfl fun B => ?_
 refine cG 0 rfl rfl fun hlen => ?_
 rw [Gu] at hlen
 repeat' (first|refine ae ?_|refine a6 ?_|refine ak ?_|refine a7 ?_|refine a8 ?_|refine aa a2 rfl rfl ?_)
 refine aJ [1, 9, 10] (α := Nat × AL) (fun i => [(11, aM i.1)]) (fun i => i.1 ≤ l.length ∧ J i.1 i.2 ∧ dE err l.length = dy err (l.length - i.1) i.1) (fun i => i.2) (fun i => l.length - i.1) (0, L0) rfl ⟨rfl, trivial⟩ ⟨Nat.zero_le _, h0, rfl⟩ (fun _ _ h => h) ?_
 rintro ⟨i, L⟩ ⟨hi, hj, he⟩
 dsimp only at hi hj he ⊢
 try dsimp only [Gr, Gq, Gp, Gj]
 repeat' (first|refine ae ?_|refine a6 ?_|refine a7 ?_|refine a8 ?_|refine aa a2 rfl rfl ?_)
 refine aw rfl (fun h => ?_) (fun h => ?_)
 ·have hil : i < l.length := by have := Gz h; simp at this; omega
  obtain ⟨z, hz⟩ : ∃ z, l[i]? = some z := ⟨_, Ee hil⟩
  have hzg := bn (c := gi) hz
  repeat' (first|refine ae ?_|refine a6 ?_|refine ak ?_|refine ar ?_|refine a7 ?_|refine a8 ?_|refine aa a2 rfl rfl ?_|(apply aX; first|refine aW a2 ?_|refine aP a2 ?_)|fail)
  refine dh L [] (hw i z L hz hj) rfl hu rfl (bT rfl) rfl rfl fun c L1 ⟨hc, hj'⟩ => ?_
  subst hc
  rw [List.append_nil]
  repeat' (first|refine ae ?_|refine a6 ?_|refine a7 ?_|refine a8 ?_|refine aa a2 rfl rfl ?_)
  refine aw rfl (fun h2 => ?_) (fun h2 => ?_)
  ·have h2' := Gz h2
   repeat' (first|refine ae ?_|refine a6 ?_|refine aq ?_|refine a7 ?_|refine aE ?_|refine aS ?_|refine bJ ?_|refine a8 ?_|refine aa a2 rfl rfl ?_)
   refine b9 rfl rfl rfl ?_
   rw [he, cT hil h2']
   rfl
  ·have h2' := Decidable.not_not.1 (Gy h2)
   repeat' (first|refine a6 ?_|refine ar ?_|refine a7 ?_|refine aH ?_|refine a8 ?_|refine aa a2 rfl rfl ?_|(apply aV; refine aU ?_)|fail)
   exact aB (i + 1, L1) rfl ⟨by rw [Gw]; rfl, trivial⟩ ⟨by dsimp only; omega, hj' h2', by rw [he]; exact cE hil h2'⟩ (by dsimp only; omega) (fun _ _ h => h)
 ·have hil : i = l.length := by have := Gy h; simp at this; omega
  subst hil
  repeat' (first|refine ae ?_|refine a6 ?_|refine aq ?_|refine aO ?_|refine a7 ?_|refine au ?_|refine ay ?_|refine av ?_|refine a8 ?_|refine aa a2 rfl rfl ?_)
  refine b9 rfl rfl rfl ?_
  rw [he, Nat.sub_self]
  rfl
theorem Cp {g : FuncId} {caps : List AV} {u : AV} [bF Tryz.prog g] (hu : jj u = some (g, caps)) (l : List Int) (most : Int) (err : Nat → Int) (J : Nat → AL → Prop) (L0 : AL) (h0 : J 0 L0) (hw : (l.length : Int) ≤ most → ∀ i x L, l[i]? = some x → J i L → AC Tryz.prog g ([aM i, aM x] ++ caps) L fun c L' => c = aM (err i) ∧ (err i = 0 → J (i + 1) L')) :
  AC Tryz.prog 200 [.iptr [.imm 1 (l.map gi)], .iptr [aM most], .iptr [u]] L0 fun r _ => r = cA (dv most err l.length) := by
 refine aQ Tryz.func200 rfl Tryz.ntmps200 rfl fun B => ?_
 repeat' (first|refine ae ?_|refine a6 ?_|refine a7 ?_|refine a8 ?_|refine aa a2 rfl rfl ?_)
 refine aw rfl (fun h => ?_) (fun h => ?_)
 ·have h' := Gz h
  rw [Gu] at h'
  repeat' (first|refine ae ?_|refine a6 ?_|refine aq ?_|refine a7 ?_|refine aE ?_|refine a8 ?_|refine aa a2 rfl rfl ?_)
  refine b9 rfl rfl rfl ?_
  unfold dv
  rw [if_pos h']
  rfl
 ·have h' := Gy h
  rw [Gu] at h'
  repeat' (first|refine ae ?_|refine a6 ?_|refine ar ?_|refine a7 ?_|refine aa a2 rfl rfl ?_)
  refine bb L0 [] (lT hu l err J L0 h0 (hw (by omega))) rfl (fy hu) (bT rfl) rfl fun c L1 hc => ?_
  subst hc
  repeat' (first|refine aq ?_|refine a7 ?_|refine a8 ?_|refine aa a2 rfl rfl ?_)
  refine b9 rfl rfl rfl ?_
  unfold dv
  rw [if_neg h']
  rfl
theorem DO {g : FuncId} (l : List Int) (most : Int) : bQ Tryz.prog 142 [.imm 1 (l.map gi), aM most, .sc (.func (.func g) #[] #[])] (.fn 200 [.iptr [.imm 1 (l.map gi)], .iptr [aM most], .iptr [.sc (.func (.func g) #[] #[])]]) := by
 refine aQ Tryz.func142 rfl Tryz.ntmps142 rfl fun B => ?_
 repeat' (first|refine ae ?_|refine a6 ?_|refine aq ?_|refine a7 ?_|refine a8 ?_|refine aa a2 rfl rfl ?_|refine bg ?_|fail)
 exact aA rfl rfl rfl
end Go.Proofs.YtjjpkibjffmceaaGreat
