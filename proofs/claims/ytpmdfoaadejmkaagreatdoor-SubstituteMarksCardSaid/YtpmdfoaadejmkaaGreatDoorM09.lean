/-
  The program: looks at things, one by one.
-/
import Derived.Test.YtpmdfoaadejmkaaGreatDoorM06
import Derived.Test.YtpmdfoaadejmkaaGreatDoorM08
import Derived.Test.YtpmdfoaadejmkaaGreatDoorM05
namespace Go.Proofs.YtpmdfoaadejmkaaGreatDoor
open Go.RowKit
attribute [local irreducible] AT bh AX AO Av Kt b6 di DA cC
def cx (err : Nat → Int) : Nat → Nat → Int × Int
 | 0, _ => (0, 0)
 | k + 1, i => if err i = 0 then cx err k (i + 1) else (err i, i)
def cw (err : Nat → Int) (n : Nat) : Int × Int := cx err n 0
def cu (most : Int) (err : Nat → Int) (n : Nat) : Int × Int := if (n : Int) > most then (2, 0) else cw err n
def bL (p : Int × Int) : AV := .tup [aA p.1, aA p.2]
theorem bR {err : Nat → Int} {n i : Nat} (hi : i < n) (h : err i = 0) : cx err (n - i) i = cx err (n - (i + 1)) (i + 1) := by
 rw [show n - i = (n - (i + 1)) + 1 by omega]
 simp only [cx, h, if_true]
theorem bY {err : Nat → Int} {n i : Nat} (hi : i < n) (h : err i ≠ 0) : cx err (n - i) i = (err i, (i : Int)) := by
 rw [show n - i = (n - (i + 1)) + 1 by omega]
 simp only [cx, h, if_false]
def BM (q : List Int) : List AV := [.imm 1 (aT q)]
def ue (z : Int) : List AV := [aA z]
theorem dV {g : FuncId} {caps : List AV} {u : AV} (hu : i5 u = some (g, caps)) {s : Nat} {l : List (List AV)} : l9 [.imm s l, u] = some [.imm s l, u] := by
 unfold i5 at hu
 split at hu <;> first | rfl | cases hu
theorem bA {L L' : AL} (h : L = L') : L.Perm (L' ++ []) := by rw [List.append_nil, h]
def CW (P : Program) (g : FuncId) (caps : List AV) (n : Nat) (arg : Nat → AV) (err : Nat → Int) (J : Nat → AL → Prop) : Prop := ∀ i L, i < n → J i L → AC P g ([aA i, arg i] ++ caps) L fun c L' => c = aA (err i) ∧ (err i = 0 → J (i + 1) L')
theorem yq {g : FuncId} {caps : List AV} {u : AV} [bj Tryz.prog g] (hu : i5 u = some (g, caps)) (l : List bb) (err : Nat → Int) (J : Nat → AL → Prop) (L0 : AL) (h0 : J 0 L0) (hw : ∀ i x L, l[i]? = some x → J i L → AC Tryz.prog g ([aA i, .agg (c7 x)] ++ caps) L fun c L' => c = aA (err i) ∧ (err i = 0 → J (i + 1) L')) :
  AC Tryz.prog 113 [.imm 9 (l.map c7), u] L0 fun r _ => r = bL (cw err l.length) := by
 refine aC Tryz.func113 rfl Tryz.ntmps113 rfl fun B => ?_
 refine ci 0 rfl rfl fun hlen => ?_
 rw [Du] at hlen
 repeat' (first|refine a9 ?_|refine a4 ?_|refine ak ?_|refine a6 ?_|refine a7 ?_|refine a8 a5 rfl rfl ?_)
 refine aL [1, 9, 10] (α := Nat × AL) (fun i => [(11, aA i.1)]) (fun i => i.1 ≤ l.length ∧ J i.1 i.2 ∧ cw err l.length = cx err (l.length - i.1) i.1) (fun i => i.2) (fun i => l.length - i.1) (0, L0) rfl ⟨rfl, trivial⟩ ⟨Nat.zero_le _, h0, rfl⟩ (fun _ _ h => h) ?_
 rintro ⟨i, L⟩ ⟨hi, hj, he⟩
 dsimp only at hi hj he ⊢
 try dsimp only [Ds, Dr, Dq, Dn]
 repeat' (first|refine a9 ?_|refine a4 ?_|refine a6 ?_|refine a7 ?_|refine a8 a5 rfl rfl ?_)
 refine ar rfl (fun h => ?_) (fun h => ?_)
 ·have hil : i < l.length := by have := Dz h; simp at this; omega
  obtain ⟨z, hz⟩ : ∃ z, l[i]? = some z := ⟨_, Bn hil⟩
  have hzg := bW (c := c7) hz
  repeat' (first|refine a9 ?_|refine a4 ?_|refine ak ?_|refine ai ?_|refine a6 ?_|refine a7 ?_|refine a8 a5 rfl rfl ?_|(apply aF; first|refine aE a5 ?_|refine aB a5 ?_)|(apply aP; first|refine aa 7 a5 0 rfl rfl rfl rfl rfl rfl rfl rfl ?_|refine aa 7 a5 1 rfl rfl rfl rfl rfl rfl rfl rfl ?_|refine aa 7 a5 2 rfl rfl rfl rfl rfl rfl rfl rfl ?_|refine ad a5 0 rfl rfl rfl rfl rfl rfl rfl ?_|refine ad a5 1 rfl rfl rfl rfl rfl rfl rfl ?_|refine ad a5 2 rfl rfl rfl rfl rfl rfl rfl ?_|refine ad a5 3 rfl rfl rfl rfl rfl rfl rfl ?_|fail)|refine b4 a5 fun _=>?_|fail)
  refine cH L [] (hw i z L hz hj) rfl hu rfl (bA rfl) rfl rfl fun c L1 ⟨hc, hj'⟩ => ?_
  subst hc
  rw [List.append_nil]
  repeat' (first|refine a9 ?_|refine a4 ?_|refine a6 ?_|refine a7 ?_|refine a8 a5 rfl rfl ?_)
  refine ar rfl (fun h2 => ?_) (fun h2 => ?_)
  ·have h2' := Dz h2
   repeat' (first|refine a9 ?_|refine a4 ?_|refine ah ?_|refine a6 ?_|refine aq ?_|refine aJ ?_|refine bf ?_|refine a7 ?_|refine a8 a5 rfl rfl ?_)
   refine aK rfl rfl rfl ?_
   rw [he, bY hil h2']
   rfl
  ·have h2' := Decidable.not_not.1 (Dy h2)
   repeat' (first|refine a4 ?_|refine ai ?_|refine a6 ?_|refine aH ?_|refine a7 ?_|refine a8 a5 rfl rfl ?_|(apply aU; refine aS ?_)|fail)
   exact az (i + 1, L1) rfl ⟨by rw [Dv]; rfl, trivial⟩ ⟨by dsimp only; omega, hj' h2', by rw [he]; exact bR hil h2'⟩ (by dsimp only; omega) (fun _ _ h => h)
 ·have hil : i = l.length := by have := Dy h; simp at this; omega
  subst hil
  repeat' (first|refine a9 ?_|refine a4 ?_|refine ah ?_|refine aM ?_|refine a6 ?_|refine au ?_|refine aw ?_|refine av ?_|refine a7 ?_|refine a8 a5 rfl rfl ?_)
  refine aK rfl rfl rfl ?_
  rw [he, Nat.sub_self]
  rfl
theorem zb {g : FuncId} {caps : List AV} {u : AV} [bj Tryz.prog g] (hu : i5 u = some (g, caps)) (l : List bb) (most : Int) (err : Nat → Int) (J : Nat → AL → Prop) (L0 : AL) (h0 : J 0 L0) (hw : (l.length : Int) ≤ most → ∀ i x L, l[i]? = some x → J i L → AC Tryz.prog g ([aA i, .agg (c7 x)] ++ caps) L fun c L' => c = aA (err i) ∧ (err i = 0 → J (i + 1) L')) :
  AC Tryz.prog 112 [.iptr [.imm 9 (l.map c7)], .iptr [aA most], .iptr [u]] L0 fun r _ => r = bL (cu most err l.length) := by
 refine aC Tryz.func112 rfl Tryz.ntmps112 rfl fun B => ?_
 repeat' (first|refine a9 ?_|refine a4 ?_|refine a6 ?_|refine a7 ?_|refine a8 a5 rfl rfl ?_)
 refine ar rfl (fun h => ?_) (fun h => ?_)
 ·have h' := Dz h
  rw [Du] at h'
  repeat' (first|refine a9 ?_|refine a4 ?_|refine ah ?_|refine a6 ?_|refine aq ?_|refine a7 ?_|refine a8 a5 rfl rfl ?_)
  refine aK rfl rfl rfl ?_
  unfold cu
  rw [if_pos h']
  rfl
 ·have h' := Dy h
  rw [Du] at h'
  repeat' (first|refine a9 ?_|refine a4 ?_|refine ai ?_|refine a6 ?_|refine a8 a5 rfl rfl ?_)
  refine aO L0 [] (yq hu l err J L0 h0 (hw (by omega))) rfl (dV hu) (bA rfl) rfl fun c L1 hc => ?_
  subst hc
  repeat' (first|refine ah ?_|refine a6 ?_|refine a7 ?_|refine a8 a5 rfl rfl ?_)
  refine aK rfl rfl rfl ?_
  unfold cu
  rw [if_neg h']
  rfl
theorem CC {g : FuncId} {caps : List AV} (l : List bb) (most : Int) : bn Tryz.prog 50 [.imm 9 (l.map c7), aA most, .fn g caps] (.fn 112 [.iptr [.imm 9 (l.map c7)], .iptr [aA most], .iptr [.fn g caps]]) := by
 refine aC Tryz.func50 rfl Tryz.ntmps50 rfl fun B => ?_
 repeat' (first|refine a9 ?_|refine a4 ?_|refine ah ?_|refine a6 ?_|refine a7 ?_|refine a8 a5 rfl rfl ?_|refine aZ ?_|fail)
 exact an rfl rfl rfl
instance {g : FuncId} {caps : List AV} (l : List bb) (most : Int) : AD Tryz.prog 50 [.imm 9 (l.map c7), aA most, .fn g caps] (.fn 112 [.iptr [.imm 9 (l.map c7)], .iptr [aA most], .iptr [.fn g caps]]) := ⟨CC l most⟩
theorem yr {g : FuncId} {caps : List AV} {u : AV} [bj Tryz.prog g] (hu : i5 u = some (g, caps)) (l : List hH) (err : Nat → Int) (J : Nat → AL → Prop) (L0 : AL) (h0 : J 0 L0) (hw : ∀ i x L, l[i]? = some x → J i L → AC Tryz.prog g ([aA i, .agg (fb x)] ++ caps) L fun c L' => c = aA (err i) ∧ (err i = 0 → J (i + 1) L')) :
  AC Tryz.prog 133 [.imm 2 (l.map fb), u] L0 fun r _ => r = bL (cw err l.length) := by
 refine aC Tryz.func133 rfl Tryz.ntmps133 rfl fun B => ?_
 refine ci 0 rfl rfl fun hlen => ?_
 rw [Du] at hlen
 repeat' (first|refine a9 ?_|refine a4 ?_|refine ak ?_|refine a6 ?_|refine a7 ?_|refine a8 a5 rfl rfl ?_)
 refine aL [1, 9, 10] (α := Nat × AL) (fun i => [(11, aA i.1)]) (fun i => i.1 ≤ l.length ∧ J i.1 i.2 ∧ cw err l.length = cx err (l.length - i.1) i.1) (fun i => i.2) (fun i => l.length - i.1) (0, L0) rfl ⟨rfl, trivial⟩ ⟨Nat.zero_le _, h0, rfl⟩ (fun _ _ h => h) ?_
 rintro ⟨i, L⟩ ⟨hi, hj, he⟩
 dsimp only at hi hj he ⊢
 try dsimp only [Ds, Dr, Dq, Dn]
 repeat' (first|refine a9 ?_|refine a4 ?_|refine a6 ?_|refine a7 ?_|refine a8 a5 rfl rfl ?_)
 refine ar rfl (fun h => ?_) (fun h => ?_)
 ·have hil : i < l.length := by have := Dz h; simp at this; omega
  obtain ⟨z, hz⟩ : ∃ z, l[i]? = some z := ⟨_, Bn hil⟩
  have hzg := bW (c := fb) hz
  repeat' (first|refine a9 ?_|refine a4 ?_|refine ak ?_|refine ai ?_|refine a6 ?_|refine a7 ?_|refine a8 a5 rfl rfl ?_|(apply aF; first|refine aE a5 ?_|refine aB a5 ?_)|(apply aP; first|refine aa 7 a5 0 rfl rfl rfl rfl rfl rfl rfl rfl ?_|refine aa 7 a5 1 rfl rfl rfl rfl rfl rfl rfl rfl ?_|refine aa 7 a5 2 rfl rfl rfl rfl rfl rfl rfl rfl ?_|refine ad a5 0 rfl rfl rfl rfl rfl rfl rfl ?_|refine ad a5 1 rfl rfl rfl rfl rfl rfl rfl ?_|refine ad a5 2 rfl rfl rfl rfl rfl rfl rfl ?_|refine ad a5 3 rfl rfl rfl rfl rfl rfl rfl ?_|fail)|refine b4 a5 fun _=>?_|fail)
  refine cH L [] (hw i z L hz hj) rfl hu rfl (bA rfl) rfl rfl fun c L1 ⟨hc, hj'⟩ => ?_
  subst hc
  rw [List.append_nil]
  repeat' (first|refine a9 ?_|refine a4 ?_|refine a6 ?_|refine a7 ?_|refine a8 a5 rfl rfl ?_)
  refine ar rfl (fun h2 => ?_) (fun h2 => ?_)
  ·have h2' := Dz h2
   repeat' (first|refine a9 ?_|refine a4 ?_|refine ah ?_|refine a6 ?_|refine aq ?_|refine aJ ?_|refine bf ?_|refine a7 ?_|refine a8 a5 rfl rfl ?_)
   refine aK rfl rfl rfl ?_
   rw [he, bY hil h2']
   rfl
  ·have h2' := Decidable.not_not.1 (Dy h2)
   repeat' (first|refine a4 ?_|refine ai ?_|refine a6 ?_|refine aH ?_|refine a7 ?_|refine a8 a5 rfl rfl ?_|(apply aU; refine aS ?_)|fail)
   exact az (i + 1, L1) rfl ⟨by rw [Dv]; rfl, trivial⟩ ⟨by dsimp only; omega, hj' h2', by rw [he]; exact bR hil h2'⟩ (by dsimp only; omega) (fun _ _ h => h)
 ·have hil : i = l.length := by have := Dy h; simp at this; omega
  subst hil
  repeat' (first|refine a9 ?_|refine a4 ?_|refine ah ?_|refine aM ?_|refine a6 ?_|refine au ?_|refine aw ?_|refine av ?_|refine a7 ?_|refine a8 a5 rfl rfl ?_)
  refine aK rfl rfl rfl ?_
  rw [he, Nat.sub_self]
  rfl
theorem zf {g : FuncId} {caps : List AV} {u : AV} [bj Tryz.prog g] (hu : i5 u = some (g, caps)) (l : List hH) (most : Int) (err : Nat → Int) (J : Nat → AL → Prop) (L0 : AL) (h0 : J 0 L0) (hw : (l.length : Int) ≤ most → ∀ i x L, l[i]? = some x → J i L → AC Tryz.prog g ([aA i, .agg (fb x)] ++ caps) L fun c L' => c = aA (err i) ∧ (err i = 0 → J (i + 1) L')) :
  AC Tryz.prog 132 [.iptr [.imm 2 (l.map fb)], .iptr [aA most], .iptr [u]] L0 fun r _ => r = bL (cu most err l.length) := by
 refine aC Tryz.func132 rfl Tryz.ntmps132 rfl fun B => ?_
 repeat' (first|refine a9 ?_|refine a4 ?_|refine a6 ?_|refine a7 ?_|refine a8 a5 rfl rfl ?_)
 refine ar rfl (fun h => ?_) (fun h => ?_)
 ·have h' := Dz h
  rw [Du] at h'
  repeat' (first|refine a9 ?_|refine a4 ?_|refine ah ?_|refine a6 ?_|refine aq ?_|refine a7 ?_|refine a8 a5 rfl rfl ?_)
  refine aK rfl rfl rfl ?_
  unfold cu
  rw [if_pos h']
  rfl
 ·have h' := Dy h
  rw [Du] at h'
  repeat' (first|refine a9 ?_|refine a4 ?_|refine ai ?_|refine a6 ?_|refine a8 a5 rfl rfl ?_)
  refine aO L0 [] (yr hu l err J L0 h0 (hw (by omega))) rfl (dV hu) (bA rfl) rfl fun c L1 hc => ?_
  subst hc
  repeat' (first|refine ah ?_|refine a6 ?_|refine a7 ?_|refine a8 a5 rfl rfl ?_)
  refine aK rfl rfl rfl ?_
  unfold cu
  rw [if_neg h']
  rfl
theorem CD {g : FuncId} {caps : List AV} (l : List hH) (most : Int) : bn Tryz.prog 57 [.imm 2 (l.map fb), aA most, .fn g caps] (.fn 132 [.iptr [.imm 2 (l.map fb)], .iptr [aA most], .iptr [.fn g caps]]) := by
 refine aC Tryz.func57 rfl Tryz.ntmps57 rfl fun B => ?_
 repeat' (first|refine a9 ?_|refine a4 ?_|refine ah ?_|refine a6 ?_|refine a7 ?_|refine a8 a5 rfl rfl ?_|refine aZ ?_|fail)
 exact an rfl rfl rfl
instance {g : FuncId} {caps : List AV} (l : List hH) (most : Int) : AD Tryz.prog 57 [.imm 2 (l.map fb), aA most, .fn g caps] (.fn 132 [.iptr [.imm 2 (l.map fb)], .iptr [aA most], .iptr [.fn g caps]]) := ⟨CD l most⟩
theorem yt {g : FuncId} {caps : List AV} {u : AV} [bj Tryz.prog g] (hu : i5 u = some (g, caps)) (l : List aQ) (err : Nat → Int) (J : Nat → AL → Prop) (L0 : AL) (h0 : J 0 L0) (hw : ∀ i x L, l[i]? = some x → J i L → AC Tryz.prog g ([aA i, .agg (bo x)] ++ caps) L fun c L' => c = aA (err i) ∧ (err i = 0 → J (i + 1) L')) :
  AC Tryz.prog 135 [.imm 3 (l.map bo), u] L0 fun r _ => r = bL (cw err l.length) := by
 refine aC Tryz.func135 rfl Tryz.ntmps135 rfl fun B => ?_
 refine ci 0 rfl rfl fun hlen => ?_
 rw [Du] at hlen
 repeat' (first|refine a9 ?_|refine a4 ?_|refine ak ?_|refine a6 ?_|refine a7 ?_|refine a8 a5 rfl rfl ?_)
 refine aL [1, 9, 10] (α := Nat × AL) (fun i => [(11, aA i.1)]) (fun i => i.1 ≤ l.length ∧ J i.1 i.2 ∧ cw err l.length = cx err (l.length - i.1) i.1) (fun i => i.2) (fun i => l.length - i.1) (0, L0) rfl ⟨rfl, trivial⟩ ⟨Nat.zero_le _, h0, rfl⟩ (fun _ _ h => h) ?_
 rintro ⟨i, L⟩ ⟨hi, hj, he⟩
 dsimp only at hi hj he ⊢
 try dsimp only [Ds, Dr, Dq, Dn]
 repeat' (first|refine a9 ?_|refine a4 ?_|refine a6 ?_|refine a7 ?_|refine a8 a5 rfl rfl ?_)
 refine ar rfl (fun h => ?_) (fun h => ?_)
 ·have hil : i < l.length := by have := Dz h; simp at this; omega
  obtain ⟨z, hz⟩ : ∃ z, l[i]? = some z := ⟨_, Bn hil⟩
  have hzg := bW (c := bo) hz
  repeat' (first|refine a9 ?_|refine a4 ?_|refine ak ?_|refine ai ?_|refine a6 ?_|refine a7 ?_|refine a8 a5 rfl rfl ?_|(apply aF; first|refine aE a5 ?_|refine aB a5 ?_)|(apply aP; first|refine aa 7 a5 0 rfl rfl rfl rfl rfl rfl rfl rfl ?_|refine aa 7 a5 1 rfl rfl rfl rfl rfl rfl rfl rfl ?_|refine aa 7 a5 2 rfl rfl rfl rfl rfl rfl rfl rfl ?_|refine ad a5 0 rfl rfl rfl rfl rfl rfl rfl ?_|refine ad a5 1 rfl rfl rfl rfl rfl rfl rfl ?_|refine ad a5 2 rfl rfl rfl rfl rfl rfl rfl ?_|refine ad a5 3 rfl rfl rfl rfl rfl rfl rfl ?_|fail)|refine b4 a5 fun _=>?_|fail)
  refine cH L [] (hw i z L hz hj) rfl hu rfl (bA rfl) rfl rfl fun c L1 ⟨hc, hj'⟩ => ?_
  subst hc
  rw [List.append_nil]
  repeat' (first|refine a9 ?_|refine a4 ?_|refine a6 ?_|refine a7 ?_|refine a8 a5 rfl rfl ?_)
  refine ar rfl (fun h2 => ?_) (fun h2 => ?_)
  ·have h2' := Dz h2
   repeat' (first|refine a9 ?_|refine a4 ?_|refine ah ?_|refine a6 ?_|refine aq ?_|refine aJ ?_|refine bf ?_|refine a7 ?_|refine a8 a5 rfl rfl ?_)
   refine aK rfl rfl rfl ?_
   rw [he, bY hil h2']
   rfl
  ·have h2' := Decidable.not_not.1 (Dy h2)
   repeat' (first|refine a4 ?_|refine ai ?_|refine a6 ?_|refine aH ?_|refine a7 ?_|refine a8 a5 rfl rfl ?_|(apply aU; refine aS ?_)|fail)
   exact az (i + 1, L1) rfl ⟨by rw [Dv]; rfl, trivial⟩ ⟨by dsimp only; omega, hj' h2', by rw [he]; exact bR hil h2'⟩ (by dsimp only; omega) (fun _ _ h => h)
 ·have hil : i = l.length := by have := Dy h; simp at this; omega
  subst hil
  repeat' (first|refine a9 ?_|refine a4 ?_|refine ah ?_|refine aM ?_|refine a6 ?_|refine au ?_|refine aw ?_|refine av ?_|refine a7 ?_|refine a8 a5 rfl rfl ?_)
  refine aK rfl rfl rfl ?_
  rw [he, Nat.sub_self]
  rfl
theorem zg {g : FuncId} {caps : List AV} {u : AV} [bj Tryz.prog g] (hu : i5 u = some (g, caps)) (l : List aQ) (most : Int) (err : Nat → Int) (J : Nat → AL → Prop) (L0 : AL) (h0 : J 0 L0) (hw : (l.length : Int) ≤ most → ∀ i x L, l[i]? = some x → J i L → AC Tryz.prog g ([aA i, .agg (bo x)] ++ caps) L fun c L' => c = aA (err i) ∧ (err i = 0 → J (i + 1) L')) :
  AC Tryz.prog 134 [.iptr [.imm 3 (l.map bo)], .iptr [aA most], .iptr [u]] L0 fun r _ => r = bL (cu most err l.length) := by
 refine aC Tryz.func134 rfl Tryz.ntmps134 rfl fun B => ?_
 repeat' (first|refine a9 ?_|refine a4 ?_|refine a6 ?_|refine a7 ?_|refine a8 a5 rfl rfl ?_)
 refine ar rfl (fun h => ?_) (fun h => ?_)
 ·have h' := Dz h
  rw [Du] at h'
  repeat' (first|refine a9 ?_|refine a4 ?_|refine ah ?_|refine a6 ?_|refine aq ?_|refine a7 ?_|refine a8 a5 rfl rfl ?_)
  refine aK rfl rfl rfl ?_
  unfold cu
  rw [if_pos h']
  rfl
 ·have h' := Dy h
  rw [Du] at h'
  repeat' (first|refine a9 ?_|refine a4 ?_|refine ai ?_|refine a6 ?_|refine a8 a5 rfl rfl ?_)
  refine aO L0 [] (yt hu l err J L0 h0 (hw (by omega))) rfl (dV hu) (bA rfl) rfl fun c L1 hc => ?_
  subst hc
  repeat' (first|refine ah ?_|refine a6 ?_|refine a7 ?_|refine a8 a5 rfl rfl ?_)
  refine aK rfl rfl rfl ?_
  unfold cu
  rw [if_neg h']
  rfl
theorem CE {g : FuncId} {caps : List AV} (l : List aQ) (most : Int) : bn Tryz.prog 60 [.imm 3 (l.map bo), aA most, .fn g caps] (.fn 134 [.iptr [.imm 3 (l.map bo)], .iptr [aA most], .iptr [.fn g caps]]) := by
 refine aC Tryz.func60 rfl Tryz.ntmps60 rfl fun B => ?_
 repeat' (first|refine a9 ?_|refine a4 ?_|refine ah ?_|refine a6 ?_|refine a7 ?_|refine a8 a5 rfl rfl ?_|refine aZ ?_|fail)
 exact an rfl rfl rfl
instance {g : FuncId} {caps : List AV} (l : List aQ) (most : Int) : AD Tryz.prog 60 [.imm 3 (l.map bo), aA most, .fn g caps] (.fn 134 [.iptr [.imm 3 (l.map bo)], .iptr [aA most], .iptr [.fn g caps]]) := ⟨CE l most⟩
theorem yu {g : FuncId} {caps : List AV} {u : AV} [bj Tryz.prog g] (hu : i5 u = some (g, caps)) (l : List aV) (err : Nat → Int) (J : Nat → AL → Prop) (L0 : AL) (h0 : J 0 L0) (hw : ∀ i x L, l[i]? = some x → J i L → AC Tryz.prog g ([aA i, .agg (bI x)] ++ caps) L fun c L' => c = aA (err i) ∧ (err i = 0 → J (i + 1) L')) :
  AC Tryz.prog 139 [.imm 6 (l.map bI), u] L0 fun r _ => r = bL (cw err l.length) := by
 refine aC Tryz.func139 rfl Tryz.ntmps139 rfl fun B => ?_
 refine ci 0 rfl rfl fun hlen => ?_
 rw [Du] at hlen
 repeat' (first|refine a9 ?_|refine a4 ?_|refine ak ?_|refine a6 ?_|refine a7 ?_|refine a8 a5 rfl rfl ?_)
 refine aL [1, 9, 10] (α := Nat × AL) (fun i => [(11, aA i.1)]) (fun i => i.1 ≤ l.length ∧ J i.1 i.2 ∧ cw err l.length = cx err (l.length - i.1) i.1) (fun i => i.2) (fun i => l.length - i.1) (0, L0) rfl ⟨rfl, trivial⟩ ⟨Nat.zero_le _, h0, rfl⟩ (fun _ _ h => h) ?_
 rintro ⟨i, L⟩ ⟨hi, hj, he⟩
 dsimp only at hi hj he ⊢
 try dsimp only [Ds, Dr, Dq, Dn]
 repeat' (first|refine a9 ?_|refine a4 ?_|refine a6 ?_|refine a7 ?_|refine a8 a5 rfl rfl ?_)
 refine ar rfl (fun h => ?_) (fun h => ?_)
 ·have hil : i < l.length := by have := Dz h; simp at this; omega
  obtain ⟨z, hz⟩ : ∃ z, l[i]? = some z := ⟨_, Bn hil⟩
  have hzg := bW (c := bI) hz
  repeat' (first|refine a9 ?_|refine a4 ?_|refine ak ?_|refine ai ?_|refine a6 ?_|refine a7 ?_|refine a8 a5 rfl rfl ?_|(apply aF; first|refine aE a5 ?_|refine aB a5 ?_)|(apply aP; first|refine aa 7 a5 0 rfl rfl rfl rfl rfl rfl rfl rfl ?_|refine aa 7 a5 1 rfl rfl rfl rfl rfl rfl rfl rfl ?_|refine aa 7 a5 2 rfl rfl rfl rfl rfl rfl rfl rfl ?_|refine ad a5 0 rfl rfl rfl rfl rfl rfl rfl ?_|refine ad a5 1 rfl rfl rfl rfl rfl rfl rfl ?_|refine ad a5 2 rfl rfl rfl rfl rfl rfl rfl ?_|refine ad a5 3 rfl rfl rfl rfl rfl rfl rfl ?_|fail)|refine b4 a5 fun _=>?_|fail)
  refine cH L [] (hw i z L hz hj) rfl hu rfl (bA rfl) rfl rfl fun c L1 ⟨hc, hj'⟩ => ?_
  subst hc
  rw [List.append_nil]
  repeat' (first|refine a9 ?_|refine a4 ?_|refine a6 ?_|refine a7 ?_|refine a8 a5 rfl rfl ?_)
  refine ar rfl (fun h2 => ?_) (fun h2 => ?_)
  ·have h2' := Dz h2
   repeat' (first|refine a9 ?_|refine a4 ?_|refine ah ?_|refine a6 ?_|refine aq ?_|refine aJ ?_|refine bf ?_|refine a7 ?_|refine a8 a5 rfl rfl ?_)
   refine aK rfl rfl rfl ?_
   rw [he, bY hil h2']
   rfl
  ·have h2' := Decidable.not_not.1 (Dy h2)
   repeat' (first|refine a4 ?_|refine ai ?_|refine a6 ?_|refine aH ?_|refine a7 ?_|refine a8 a5 rfl rfl ?_|(apply aU; refine aS ?_)|fail)
   exact az (i + 1, L1) rfl ⟨by rw [Dv]; rfl, trivial⟩ ⟨by dsimp only; omega, hj' h2', by rw [he]; exact bR hil h2'⟩ (by dsimp only; omega) (fun _ _ h => h)
 ·have hil : i = l.length := by have := Dy h; simp at this; omega
  subst hil
  repeat' (first|refine a9 ?_|refine a4 ?_|refine ah ?_|refine aM ?_|refine a6 ?_|refine au ?_|refine aw ?_|refine av ?_|refine a7 ?_|refine a8 a5 rfl rfl ?_)
  refine aK rfl rfl rfl ?_
  rw [he, Nat.sub_self]
  rfl
theorem yw {g : FuncId} {caps : List AV} {u : AV} [bj Tryz.prog g] (hu : i5 u = some (g, caps)) (l : List bQ) (err : Nat → Int) (J : Nat → AL → Prop) (L0 : AL) (h0 : J 0 L0) (hw : ∀ i x L, l[i]? = some x → J i L → AC Tryz.prog g ([aA i, .agg (ca x)] ++ caps) L fun c L' => c = aA (err i) ∧ (err i = 0 → J (i + 1) L')) :
  AC Tryz.prog 143 [.imm 2 (l.map ca), u] L0 fun r _ => r = bL (cw err l.length) := by
 refine aC Tryz.func143 rfl Tryz.ntmps143 rfl fun B => ?_
 refine ci 0 rfl rfl fun hlen => ?_
 rw [Du] at hlen
 repeat' (first|refine a9 ?_|refine a4 ?_|refine ak ?_|refine a6 ?_|refine a7 ?_|refine a8 a5 rfl rfl ?_)
 refine aL [1, 9, 10] (α := Nat × AL) (fun i => [(11, aA i.1)]) (fun i => i.1 ≤ l.length ∧ J i.1 i.2 ∧ cw err l.length = cx err (l.length - i.1) i.1) (fun i => i.2) (fun i => l.length - i.1) (0, L0) rfl ⟨rfl, trivial⟩ ⟨Nat.zero_le _, h0, rfl⟩ (fun _ _ h => h) ?_
 rintro ⟨i, L⟩ ⟨hi, hj, he⟩
 dsimp only at hi hj he ⊢
 try dsimp only [Ds, Dr, Dq, Dn]
 repeat' (first|refine a9 ?_|refine a4 ?_|refine a6 ?_|refine a7 ?_|refine a8 a5 rfl rfl ?_)
 refine ar rfl (fun h => ?_) (fun h => ?_)
 ·have hil : i < l.length := by have := Dz h; simp at this; omega
  obtain ⟨z, hz⟩ : ∃ z, l[i]? = some z := ⟨_, Bn hil⟩
  have hzg := bW (c := ca) hz
  repeat' (first|refine a9 ?_|refine a4 ?_|refine ak ?_|refine ai ?_|refine a6 ?_|refine a7 ?_|refine a8 a5 rfl rfl ?_|(apply aF; first|refine aE a5 ?_|refine aB a5 ?_)|(apply aP; first|refine aa 7 a5 0 rfl rfl rfl rfl rfl rfl rfl rfl ?_|refine aa 7 a5 1 rfl rfl rfl rfl rfl rfl rfl rfl ?_|refine aa 7 a5 2 rfl rfl rfl rfl rfl rfl rfl rfl ?_|refine ad a5 0 rfl rfl rfl rfl rfl rfl rfl ?_|refine ad a5 1 rfl rfl rfl rfl rfl rfl rfl ?_|refine ad a5 2 rfl rfl rfl rfl rfl rfl rfl ?_|refine ad a5 3 rfl rfl rfl rfl rfl rfl rfl ?_|fail)|refine b4 a5 fun _=>?_|fail)
  refine cH L [] (hw i z L hz hj) rfl hu rfl (bA rfl) rfl rfl fun c L1 ⟨hc, hj'⟩ => ?_
  subst hc
  rw [List.append_nil]
  repeat' (first|refine a9 ?_|refine a4 ?_|refine a6 ?_|refine a7 ?_|refine a8 a5 rfl rfl ?_)
  refine ar rfl (fun h2 => ?_) (fun h2 => ?_)
  ·have h2' := Dz h2
   repeat' (first|refine a9 ?_|refine a4 ?_|refine ah ?_|refine a6 ?_|refine aq ?_|refine aJ ?_|refine bf ?_|refine a7 ?_|refine a8 a5 rfl rfl ?_)
   refine aK rfl rfl rfl ?_
   rw [he, bY hil h2']
   rfl
  ·have h2' := Decidable.not_not.1 (Dy h2)
   repeat' (first|refine a4 ?_|refine ai ?_|refine a6 ?_|refine aH ?_|refine a7 ?_|refine a8 a5 rfl rfl ?_|(apply aU; refine aS ?_)|fail)
   exact az (i + 1, L1) rfl ⟨by rw [Dv]; rfl, trivial⟩ ⟨by dsimp only; omega, hj' h2', by rw [he]; exact bR hil h2'⟩ (by dsimp only; omega) (fun _ _ h => h)
 ·have hil : i = l.length := by have := Dy h; simp at this; omega
  subst hil
  repeat' (first|refine a9 ?_|refine a4 ?_|refine ah ?_|refine aM ?_|refine a6 ?_|refine au ?_|refine aw ?_|refine av ?_|refine a7 ?_|refine a8 a5 rfl rfl ?_)
  refine aK rfl rfl rfl ?_
  rw [he, Nat.sub_self]
  rfl
theorem zh {g : FuncId} {caps : List AV} {u : AV} [bj Tryz.prog g] (hu : i5 u = some (g, caps)) (l : List bQ) (most : Int) (err : Nat → Int) (J : Nat → AL → Prop) (L0 : AL) (h0 : J 0 L0) (hw : (l.length : Int) ≤ most → ∀ i x L, l[i]? = some x → J i L → AC Tryz.prog g ([aA i, .agg (ca x)] ++ caps) L fun c L' => c = aA (err i) ∧ (err i = 0 → J (i + 1) L')) :
  AC Tryz.prog 142 [.iptr [.imm 2 (l.map ca)], .iptr [aA most], .iptr [u]] L0 fun r _ => r = bL (cu most err l.length) := by
 refine aC Tryz.func142 rfl Tryz.ntmps142 rfl fun B => ?_
 repeat' (first|refine a9 ?_|refine a4 ?_|refine a6 ?_|refine a7 ?_|refine a8 a5 rfl rfl ?_)
 refine ar rfl (fun h => ?_) (fun h => ?_)
 ·have h' := Dz h
  rw [Du] at h'
  repeat' (first|refine a9 ?_|refine a4 ?_|refine ah ?_|refine a6 ?_|refine aq ?_|refine a7 ?_|refine a8 a5 rfl rfl ?_)
  refine aK rfl rfl rfl ?_
  unfold cu
  rw [if_pos h']
  rfl
 ·have h' := Dy h
  rw [Du] at h'
  repeat' (first|refine a9 ?_|refine a4 ?_|refine ai ?_|refine a6 ?_|refine a8 a5 rfl rfl ?_)
  refine aO L0 [] (yw hu l err J L0 h0 (hw (by omega))) rfl (dV hu) (bA rfl) rfl fun c L1 hc => ?_
  subst hc
  repeat' (first|refine ah ?_|refine a6 ?_|refine a7 ?_|refine a8 a5 rfl rfl ?_)
  refine aK rfl rfl rfl ?_
  unfold cu
  rw [if_neg h']
  rfl
theorem CF {g : FuncId} {caps : List AV} (l : List bQ) (most : Int) : bn Tryz.prog 63 [.imm 2 (l.map ca), aA most, .fn g caps] (.fn 142 [.iptr [.imm 2 (l.map ca)], .iptr [aA most], .iptr [.fn g caps]]) := by
 refine aC Tryz.func63 rfl Tryz.ntmps63 rfl fun B => ?_
 repeat' (first|refine a9 ?_|refine a4 ?_|refine ah ?_|refine a6 ?_|refine a7 ?_|refine a8 a5 rfl rfl ?_|refine aZ ?_|fail)
 exact an rfl rfl rfl
instance {g : FuncId} {caps : List AV} (l : List bQ) (most : Int) : AD Tryz.prog 63 [.imm 2 (l.map ca), aA most, .fn g caps] (.fn 142 [.iptr [.imm 2 (l.map ca)], .iptr [aA most], .iptr [.fn g caps]]) := ⟨CF l most⟩
theorem yx {g : FuncId} {caps : List AV} {u : AV} [bj Tryz.prog g] (hu : i5 u = some (g, caps)) (l : List ea) (err : Nat → Int) (J : Nat → AL → Prop) (L0 : AL) (h0 : J 0 L0) (hw : ∀ i x L, l[i]? = some x → J i L → AC Tryz.prog g ([aA i, .agg (ep x)] ++ caps) L fun c L' => c = aA (err i) ∧ (err i = 0 → J (i + 1) L')) :
  AC Tryz.prog 146 [.imm 4 (l.map ep), u] L0 fun r _ => r = bL (cw err l.length) := by
 refine aC Tryz.func146 rfl Tryz.ntmps146 rfl fun B => ?_
 refine ci 0 rfl rfl fun hlen => ?_
 rw [Du] at hlen
 repeat' (first|refine a9 ?_|refine a4 ?_|refine ak ?_|refine a6 ?_|refine a7 ?_|refine a8 a5 rfl rfl ?_)
 refine aL [1, 9, 10] (α := Nat × AL) (fun i => [(11, aA i.1)]) (fun i => i.1 ≤ l.length ∧ J i.1 i.2 ∧ cw err l.length = cx err (l.length - i.1) i.1) (fun i => i.2) (fun i => l.length - i.1) (0, L0) rfl ⟨rfl, trivial⟩ ⟨Nat.zero_le _, h0, rfl⟩ (fun _ _ h => h) ?_
 rintro ⟨i, L⟩ ⟨hi, hj, he⟩
 dsimp only at hi hj he ⊢
 try dsimp only [Ds, Dr, Dq, Dn]
 repeat' (first|refine a9 ?_|refine a4 ?_|refine a6 ?_|refine a7 ?_|refine a8 a5 rfl rfl ?_)
 refine ar rfl (fun h => ?_) (fun h => ?_)
 ·have hil : i < l.length := by have := Dz h; simp at this; omega
  obtain ⟨z, hz⟩ : ∃ z, l[i]? = some z := ⟨_, Bn hil⟩
  have hzg := bW (c := ep) hz
  repeat' (first|refine a9 ?_|refine a4 ?_|refine ak ?_|refine ai ?_|refine a6 ?_|refine a7 ?_|refine a8 a5 rfl rfl ?_|(apply aF; first|refine aE a5 ?_|refine aB a5 ?_)|(apply aP; first|refine aa 7 a5 0 rfl rfl rfl rfl rfl rfl rfl rfl ?_|refine aa 7 a5 1 rfl rfl rfl rfl rfl rfl rfl rfl ?_|refine aa 7 a5 2 rfl rfl rfl rfl rfl rfl rfl rfl ?_|refine ad a5 0 rfl rfl rfl rfl rfl rfl rfl ?_|refine ad a5 1 rfl rfl rfl rfl rfl rfl rfl ?_|refine ad a5 2 rfl rfl rfl rfl rfl rfl rfl ?_|refine ad a5 3 rfl rfl rfl rfl rfl rfl rfl ?_|fail)|refine b4 a5 fun _=>?_|fail)
  refine cH L [] (hw i z L hz hj) rfl hu rfl (bA rfl) rfl rfl fun c L1 ⟨hc, hj'⟩ => ?_
  subst hc
  rw [List.append_nil]
  repeat' (first|refine a9 ?_|refine a4 ?_|refine a6 ?_|refine a7 ?_|refine a8 a5 rfl rfl ?_)
  refine ar rfl (fun h2 => ?_) (fun h2 => ?_)
  ·have h2' := Dz h2
   repeat' (first|refine a9 ?_|refine a4 ?_|refine ah ?_|refine a6 ?_|refine aq ?_|refine aJ ?_|refine bf ?_|refine a7 ?_|refine a8 a5 rfl rfl ?_)
   refine aK rfl rfl rfl ?_
   rw [he, bY hil h2']
   rfl
  ·have h2' := Decidable.not_not.1 (Dy h2)
   repeat' (first|refine a4 ?_|refine ai ?_|refine a6 ?_|refine aH ?_|refine a7 ?_|refine a8 a5 rfl rfl ?_|(apply aU; refine aS ?_)|fail)
   exact az (i + 1, L1) rfl ⟨by rw [Dv]; rfl, trivial⟩ ⟨by dsimp only; omega, hj' h2', by rw [he]; exact bR hil h2'⟩ (by dsimp only; omega) (fun _ _ h => h)
 ·have hil : i = l.length := by have := Dy h; simp at this; omega
  subst hil
  repeat' (first|refine a9 ?_|refine a4 ?_|refine ah ?_|refine aM ?_|refine a6 ?_|refine au ?_|refine aw ?_|refine av ?_|refine a7 ?_|refine a8 a5 rfl rfl ?_)
  refine aK rfl rfl rfl ?_
  rw [he, Nat.sub_self]
  rfl
theorem zi {g : FuncId} {caps : List AV} {u : AV} [bj Tryz.prog g] (hu : i5 u = some (g, caps)) (l : List ea) (most : Int) (err : Nat → Int) (J : Nat → AL → Prop) (L0 : AL) (h0 : J 0 L0) (hw : (l.length : Int) ≤ most → ∀ i x L, l[i]? = some x → J i L → AC Tryz.prog g ([aA i, .agg (ep x)] ++ caps) L fun c L' => c = aA (err i) ∧ (err i = 0 → J (i + 1) L')) :
  AC Tryz.prog 145 [.iptr [.imm 4 (l.map ep)], .iptr [aA most], .iptr [u]] L0 fun r _ => r = bL (cu most err l.length) := by
 refine aC Tryz.func145 rfl Tryz.ntmps145 rfl fun B => ?_
 repeat' (first|refine a9 ?_|refine a4 ?_|refine a6 ?_|refine a7 ?_|refine a8 a5 rfl rfl ?_)
 refine ar rfl (fun h => ?_) (fun h => ?_)
 ·have h' := Dz h
  rw [Du] at h'
  repeat' (first|refine a9 ?_|refine a4 ?_|refine ah ?_|refine a6 ?_|refine aq ?_|refine a7 ?_|refine a8 a5 rfl rfl ?_)
  refine aK rfl rfl rfl ?_
  unfold cu
  rw [if_pos h']
  rfl
 ·have h' := Dy h
  rw [Du] at h'
  repeat' (first|refine a9 ?_|refine a4 ?_|refine ai ?_|refine a6 ?_|refine a8 a5 rfl rfl ?_)
  refine aO L0 [] (yx hu l err J L0 h0 (hw (by omega))) rfl (dV hu) (bA rfl) rfl fun c L1 hc => ?_
  subst hc
  repeat' (first|refine ah ?_|refine a6 ?_|refine a7 ?_|refine a8 a5 rfl rfl ?_)
  refine aK rfl rfl rfl ?_
  unfold cu
  rw [if_neg h']
  rfl
theorem BZ {g : FuncId} {caps : List AV} (l : List ea) (most : Int) : bn Tryz.prog 67 [.imm 4 (l.map ep), aA most, .fn g caps] (.fn 145 [.iptr [.imm 4 (l.map ep)], .iptr [aA most], .iptr [.fn g caps]]) := by
 refine aC Tryz.func67 rfl Tryz.ntmps67 rfl fun B => ?_
 repeat' (first|refine a9 ?_|refine a4 ?_|refine ah ?_|refine a6 ?_|refine a7 ?_|refine a8 a5 rfl rfl ?_|refine aZ ?_|fail)
 exact an rfl rfl rfl
instance {g : FuncId} {caps : List AV} (l : List ea) (most : Int) : AD Tryz.prog 67 [.imm 4 (l.map ep), aA most, .fn g caps] (.fn 145 [.iptr [.imm 4 (l.map ep)], .iptr [aA most], .iptr [.fn g caps]]) := ⟨BZ l most⟩
theorem yz {g : FuncId} {caps : List AV} {u : AV} [bj Tryz.prog g] (hu : i5 u = some (g, caps)) (l : List (List fv)) (err : Nat → Int) (J : Nat → AL → Prop) (L0 : AL) (h0 : J 0 L0) (hw : ∀ i x L, l[i]? = some x → J i L → AC Tryz.prog g ([aA i, .agg (dc x)] ++ caps) L fun c L' => c = aA (err i) ∧ (err i = 0 → J (i + 1) L')) :
  AC Tryz.prog 148 [.imm 1 (l.map dc), u] L0 fun r _ => r = bL (cw err l.length) := by
 refine aC Tryz.func148 rfl Tryz.ntmps148 rfl fun B => ?_
 refine ci 0 rfl rfl fun hlen => ?_
 rw [Du] at hlen
 repeat' (first|refine a9 ?_|refine a4 ?_|refine ak ?_|refine a6 ?_|refine a7 ?_|refine a8 a5 rfl rfl ?_)
 refine aL [1, 9, 10] (α := Nat × AL) (fun i => [(11, aA i.1)]) (fun i => i.1 ≤ l.length ∧ J i.1 i.2 ∧ cw err l.length = cx err (l.length - i.1) i.1) (fun i => i.2) (fun i => l.length - i.1) (0, L0) rfl ⟨rfl, trivial⟩ ⟨Nat.zero_le _, h0, rfl⟩ (fun _ _ h => h) ?_
 rintro ⟨i, L⟩ ⟨hi, hj, he⟩
 dsimp only at hi hj he ⊢
 try dsimp only [Ds, Dr, Dq, Dn]
 repeat' (first|refine a9 ?_|refine a4 ?_|refine a6 ?_|refine a7 ?_|refine a8 a5 rfl rfl ?_)
 refine ar rfl (fun h => ?_) (fun h => ?_)
 ·have hil : i < l.length := by have := Dz h; simp at this; omega
  obtain ⟨z, hz⟩ : ∃ z, l[i]? = some z := ⟨_, Bn hil⟩
  have hzg := bW (c := dc) hz
  repeat' (first|refine a9 ?_|refine a4 ?_|refine ak ?_|refine ai ?_|refine a6 ?_|refine a7 ?_|refine a8 a5 rfl rfl ?_|(apply aF; first|refine aE a5 ?_|refine aB a5 ?_)|(apply aP; first|refine aa 7 a5 0 rfl rfl rfl rfl rfl rfl rfl rfl ?_|refine aa 7 a5 1 rfl rfl rfl rfl rfl rfl rfl rfl ?_|refine aa 7 a5 2 rfl rfl rfl rfl rfl rfl rfl rfl ?_|refine ad a5 0 rfl rfl rfl rfl rfl rfl rfl ?_|refine ad a5 1 rfl rfl rfl rfl rfl rfl rfl ?_|refine ad a5 2 rfl rfl rfl rfl rfl rfl rfl ?_|refine ad a5 3 rfl rfl rfl rfl rfl rfl rfl ?_|fail)|refine b4 a5 fun _=>?_|fail)
  refine cH L [] (hw i z L hz hj) rfl hu rfl (bA rfl) rfl rfl fun c L1 ⟨hc, hj'⟩ => ?_
  subst hc
  rw [List.append_nil]
  repeat' (first|refine a9 ?_|refine a4 ?_|refine a6 ?_|refine a7 ?_|refine a8 a5 rfl rfl ?_)
  refine ar rfl (fun h2 => ?_) (fun h2 => ?_)
  ·have h2' := Dz h2
   repeat' (first|refine a9 ?_|refine a4 ?_|refine ah ?_|refine a6 ?_|refine aq ?_|refine aJ ?_|refine bf ?_|refine a7 ?_|refine a8 a5 rfl rfl ?_)
   refine aK rfl rfl rfl ?_
   rw [he, bY hil h2']
   rfl
  ·have h2' := Decidable.not_not.1 (Dy h2)
   repeat' (first|refine a4 ?_|refine ai ?_|refine a6 ?_|refine aH ?_|refine a7 ?_|refine a8 a5 rfl rfl ?_|(apply aU; refine aS ?_)|fail)
   exact az (i + 1, L1) rfl ⟨by rw [Dv]; rfl, trivial⟩ ⟨by dsimp only; omega, hj' h2', by rw [he]; exact bR hil h2'⟩ (by dsimp only; omega) (fun _ _ h => h)
 ·have hil : i = l.length := by have := Dy h; simp at this; omega
  subst hil
  repeat' (first|refine a9 ?_|refine a4 ?_|refine ah ?_|refine aM ?_|refine a6 ?_|refine au ?_|refine aw ?_|refine av ?_|refine a7 ?_|refine a8 a5 rfl rfl ?_)
  refine aK rfl rfl rfl ?_
  rw [he, Nat.sub_self]
  rfl
theorem zj {g : FuncId} {caps : List AV} {u : AV} [bj Tryz.prog g] (hu : i5 u = some (g, caps)) (l : List (List fv)) (most : Int) (err : Nat → Int) (J : Nat → AL → Prop) (L0 : AL) (h0 : J 0 L0) (hw : (l.length : Int) ≤ most → ∀ i x L, l[i]? = some x → J i L → AC Tryz.prog g ([aA i, .agg (dc x)] ++ caps) L fun c L' => c = aA (err i) ∧ (err i = 0 → J (i + 1) L')) :
  AC Tryz.prog 147 [.iptr [.imm 1 (l.map dc)], .iptr [aA most], .iptr [u]] L0 fun r _ => r = bL (cu most err l.length) := by
 refine aC Tryz.func147 rfl Tryz.ntmps147 rfl fun B => ?_
 repeat' (first|refine a9 ?_|refine a4 ?_|refine a6 ?_|refine a7 ?_|refine a8 a5 rfl rfl ?_)
 refine ar rfl (fun h => ?_) (fun h => ?_)
 ·have h' := Dz h
  rw [Du] at h'
  repeat' (first|refine a9 ?_|refine a4 ?_|refine ah ?_|refine a6 ?_|refine aq ?_|refine a7 ?_|refine a8 a5 rfl rfl ?_)
  refine aK rfl rfl rfl ?_
  unfold cu
  rw [if_pos h']
  rfl
 ·have h' := Dy h
  rw [Du] at h'
  repeat' (first|refine a9 ?_|refine a4 ?_|refine ai ?_|refine a6 ?_|refine a8 a5 rfl rfl ?_)
  refine aO L0 [] (yz hu l err J L0 h0 (hw (by omega))) rfl (dV hu) (bA rfl) rfl fun c L1 hc => ?_
  subst hc
  repeat' (first|refine ah ?_|refine a6 ?_|refine a7 ?_|refine a8 a5 rfl rfl ?_)
  refine aK rfl rfl rfl ?_
  unfold cu
  rw [if_neg h']
  rfl
theorem C0 {g : FuncId} {caps : List AV} (l : List (List fv)) (most : Int) : bn Tryz.prog 70 [.imm 1 (l.map dc), aA most, .fn g caps] (.fn 147 [.iptr [.imm 1 (l.map dc)], .iptr [aA most], .iptr [.fn g caps]]) := by
 refine aC Tryz.func70 rfl Tryz.ntmps70 rfl fun B => ?_
 repeat' (first|refine a9 ?_|refine a4 ?_|refine ah ?_|refine a6 ?_|refine a7 ?_|refine a8 a5 rfl rfl ?_|refine aZ ?_|fail)
 exact an rfl rfl rfl
instance {g : FuncId} {caps : List AV} (l : List (List fv)) (most : Int) : AD Tryz.prog 70 [.imm 1 (l.map dc), aA most, .fn g caps] (.fn 147 [.iptr [.imm 1 (l.map dc)], .iptr [aA most], .iptr [.fn g caps]]) := ⟨C0 l most⟩
theorem yA {g : FuncId} {caps : List AV} {u : AV} [bj Tryz.prog g] (hu : i5 u = some (g, caps)) (l : List fv) (err : Nat → Int) (J : Nat → AL → Prop) (L0 : AL) (h0 : J 0 L0) (hw : ∀ i x L, l[i]? = some x → J i L → AC Tryz.prog g ([aA i, .agg (qj x)] ++ caps) L fun c L' => c = aA (err i) ∧ (err i = 0 → J (i + 1) L')) :
  AC Tryz.prog 149 [.imm 3 (l.map qj), u] L0 fun r _ => r = bL (cw err l.length) := by
 refine aC Tryz.func149 rfl Tryz.ntmps149 rfl fun B => ?_
 refine ci 0 rfl rfl fun hlen => ?_
 rw [Du] at hlen
 repeat' (first|refine a9 ?_|refine a4 ?_|refine ak ?_|refine a6 ?_|refine a7 ?_|refine a8 a5 rfl rfl ?_)
 refine aL [1, 9, 10] (α := Nat × AL) (fun i => [(11, aA i.1)]) (fun i => i.1 ≤ l.length ∧ J i.1 i.2 ∧ cw err l.length = cx err (l.length - i.1) i.1) (fun i => i.2) (fun i => l.length - i.1) (0, L0) rfl ⟨rfl, trivial⟩ ⟨Nat.zero_le _, h0, rfl⟩ (fun _ _ h => h) ?_
 rintro ⟨i, L⟩ ⟨hi, hj, he⟩
 dsimp only at hi hj he ⊢
 try dsimp only [Ds, Dr, Dq, Dn]
 repeat' (first|refine a9 ?_|refine a4 ?_|refine a6 ?_|refine a7 ?_|refine a8 a5 rfl rfl ?_)
 refine ar rfl (fun h => ?_) (fun h => ?_)
 ·have hil : i < l.length := by have := Dz h; simp at this; omega
  obtain ⟨z, hz⟩ : ∃ z, l[i]? = some z := ⟨_, Bn hil⟩
  have hzg := bW (c := qj) hz
  repeat' (first|refine a9 ?_|refine a4 ?_|refine ak ?_|refine ai ?_|refine a6 ?_|refine a7 ?_|refine a8 a5 rfl rfl ?_|(apply aF; first|refine aE a5 ?_|refine aB a5 ?_)|(apply aP; first|refine aa 7 a5 0 rfl rfl rfl rfl rfl rfl rfl rfl ?_|refine aa 7 a5 1 rfl rfl rfl rfl rfl rfl rfl rfl ?_|refine aa 7 a5 2 rfl rfl rfl rfl rfl rfl rfl rfl ?_|refine ad a5 0 rfl rfl rfl rfl rfl rfl rfl ?_|refine ad a5 1 rfl rfl rfl rfl rfl rfl rfl ?_|refine ad a5 2 rfl rfl rfl rfl rfl rfl rfl ?_|refine ad a5 3 rfl rfl rfl rfl rfl rfl rfl ?_|fail)|refine b4 a5 fun _=>?_|fail)
  refine cH L [] (hw i z L hz hj) rfl hu rfl (bA rfl) rfl rfl fun c L1 ⟨hc, hj'⟩ => ?_
  subst hc
  rw [List.append_nil]
  repeat' (first|refine a9 ?_|refine a4 ?_|refine a6 ?_|refine a7 ?_|refine a8 a5 rfl rfl ?_)
  refine ar rfl (fun h2 => ?_) (fun h2 => ?_)
  ·have h2' := Dz h2
   repeat' (first|refine a9 ?_|refine a4 ?_|refine ah ?_|refine a6 ?_|refine aq ?_|refine aJ ?_|refine bf ?_|refine a7 ?_|refine a8 a5 rfl rfl ?_)
   refine aK rfl rfl rfl ?_
   rw [he, bY hil h2']
   rfl
  ·have h2' := Decidable.not_not.1 (Dy h2)
   repeat' (first|refine a4 ?_|refine ai ?_|refine a6 ?_|refine aH ?_|refine a7 ?_|refine a8 a5 rfl rfl ?_|(apply aU; refine aS ?_)|fail)
   exact az (i + 1, L1) rfl ⟨by rw [Dv]; rfl, trivial⟩ ⟨by dsimp only; omega, hj' h2', by rw [he]; exact bR hil h2'⟩ (by dsimp only; omega) (fun _ _ h => h)
 ·have hil : i = l.length := by have := Dy h; simp at this; omega
  subst hil
  repeat' (first|refine a9 ?_|refine a4 ?_|refine ah ?_|refine aM ?_|refine a6 ?_|refine au ?_|refine aw ?_|refine av ?_|refine a7 ?_|refine a8 a5 rfl rfl ?_)
  refine aK rfl rfl rfl ?_
  rw [he, Nat.sub_self]
  rfl
theorem yB {g : FuncId} {caps : List AV} {u : AV} [bj Tryz.prog g] (hu : i5 u = some (g, caps)) (l : List (List gC)) (err : Nat → Int) (J : Nat → AL → Prop) (L0 : AL) (h0 : J 0 L0) (hw : ∀ i x L, l[i]? = some x → J i L → AC Tryz.prog g ([aA i, .imm 2 (x.map ip)] ++ caps) L fun c L' => c = aA (err i) ∧ (err i = 0 → J (i + 1) L')) :
  AC Tryz.prog 152 [.imm 1 (l.map jS), u] L0 fun r _ => r = bL (cw err l.length) := by
 refine aC Tryz.func152 rfl Tryz.ntmps152 rfl fun B => ?_
 refine ci 0 rfl rfl fun hlen => ?_
 rw [Du] at hlen
 repeat' (first|refine a9 ?_|refine a4 ?_|refine ak ?_|refine a6 ?_|refine a7 ?_|refine a8 a5 rfl rfl ?_)
 refine aL [1, 9, 10] (α := Nat × AL) (fun i => [(11, aA i.1)]) (fun i => i.1 ≤ l.length ∧ J i.1 i.2 ∧ cw err l.length = cx err (l.length - i.1) i.1) (fun i => i.2) (fun i => l.length - i.1) (0, L0) rfl ⟨rfl, trivial⟩ ⟨Nat.zero_le _, h0, rfl⟩ (fun _ _ h => h) ?_
 rintro ⟨i, L⟩ ⟨hi, hj, he⟩
 dsimp only at hi hj he ⊢
 try dsimp only [Ds, Dr, Dq, Dn]
 repeat' (first|refine a9 ?_|refine a4 ?_|refine a6 ?_|refine a7 ?_|refine a8 a5 rfl rfl ?_)
 refine ar rfl (fun h => ?_) (fun h => ?_)
 ·have hil : i < l.length := by have := Dz h; simp at this; omega
  obtain ⟨z, hz⟩ : ∃ z, l[i]? = some z := ⟨_, Bn hil⟩
  have hzg := bW (c := jS) hz
  repeat' (first|refine a9 ?_|refine a4 ?_|refine ak ?_|refine ai ?_|refine a6 ?_|refine a7 ?_|refine a8 a5 rfl rfl ?_|(apply aF; first|refine aE a5 ?_|refine aB a5 ?_)|fail)
  refine cH L [] (hw i z L hz hj) rfl hu rfl (bA rfl) rfl rfl fun c L1 ⟨hc, hj'⟩ => ?_
  subst hc
  rw [List.append_nil]
  repeat' (first|refine a9 ?_|refine a4 ?_|refine a6 ?_|refine a7 ?_|refine a8 a5 rfl rfl ?_)
  refine ar rfl (fun h2 => ?_) (fun h2 => ?_)
  ·have h2' := Dz h2
   repeat' (first|refine a9 ?_|refine a4 ?_|refine ah ?_|refine a6 ?_|refine aq ?_|refine aJ ?_|refine bf ?_|refine a7 ?_|refine a8 a5 rfl rfl ?_)
   refine aK rfl rfl rfl ?_
   rw [he, bY hil h2']
   rfl
  ·have h2' := Decidable.not_not.1 (Dy h2)
   repeat' (first|refine a4 ?_|refine ai ?_|refine a6 ?_|refine aH ?_|refine a7 ?_|refine a8 a5 rfl rfl ?_|(apply aU; refine aS ?_)|fail)
   exact az (i + 1, L1) rfl ⟨by rw [Dv]; rfl, trivial⟩ ⟨by dsimp only; omega, hj' h2', by rw [he]; exact bR hil h2'⟩ (by dsimp only; omega) (fun _ _ h => h)
 ·have hil : i = l.length := by have := Dy h; simp at this; omega
  subst hil
  repeat' (first|refine a9 ?_|refine a4 ?_|refine ah ?_|refine aM ?_|refine a6 ?_|refine au ?_|refine aw ?_|refine av ?_|refine a7 ?_|refine a8 a5 rfl rfl ?_)
  refine aK rfl rfl rfl ?_
  rw [he, Nat.sub_self]
  rfl
theorem zk {g : FuncId} {caps : List AV} {u : AV} [bj Tryz.prog g] (hu : i5 u = some (g, caps)) (l : List (List gC)) (most : Int) (err : Nat → Int) (J : Nat → AL → Prop) (L0 : AL) (h0 : J 0 L0) (hw : (l.length : Int) ≤ most → ∀ i x L, l[i]? = some x → J i L → AC Tryz.prog g ([aA i, .imm 2 (x.map ip)] ++ caps) L fun c L' => c = aA (err i) ∧ (err i = 0 → J (i + 1) L')) :
  AC Tryz.prog 151 [.iptr [.imm 1 (l.map jS)], .iptr [aA most], .iptr [u]] L0 fun r _ => r = bL (cu most err l.length) := by
 refine aC Tryz.func151 rfl Tryz.ntmps151 rfl fun B => ?_
 repeat' (first|refine a9 ?_|refine a4 ?_|refine a6 ?_|refine a7 ?_|refine a8 a5 rfl rfl ?_)
 refine ar rfl (fun h => ?_) (fun h => ?_)
 ·have h' := Dz h
  rw [Du] at h'
  repeat' (first|refine a9 ?_|refine a4 ?_|refine ah ?_|refine a6 ?_|refine aq ?_|refine a7 ?_|refine a8 a5 rfl rfl ?_)
  refine aK rfl rfl rfl ?_
  unfold cu
  rw [if_pos h']
  rfl
 ·have h' := Dy h
  rw [Du] at h'
  repeat' (first|refine a9 ?_|refine a4 ?_|refine ai ?_|refine a6 ?_|refine a8 a5 rfl rfl ?_)
  refine aO L0 [] (yB hu l err J L0 h0 (hw (by omega))) rfl (dV hu) (bA rfl) rfl fun c L1 hc => ?_
  subst hc
  repeat' (first|refine ah ?_|refine a6 ?_|refine a7 ?_|refine a8 a5 rfl rfl ?_)
  refine aK rfl rfl rfl ?_
  unfold cu
  rw [if_neg h']
  rfl
theorem AU {g : FuncId} (l : List (List gC)) (most : Int) : bn Tryz.prog 73 [.imm 1 (l.map jS), aA most, .sc (.func (.func g) #[] #[])] (.fn 151 [.iptr [.imm 1 (l.map jS)], .iptr [aA most], .iptr [.sc (.func (.func g) #[] #[])]]) := by
 refine aC Tryz.func73 rfl Tryz.ntmps73 rfl fun B => ?_
 repeat' (first|refine a9 ?_|refine a4 ?_|refine ah ?_|refine a6 ?_|refine a7 ?_|refine a8 a5 rfl rfl ?_|refine aZ ?_|fail)
 exact an rfl rfl rfl
instance {g : FuncId} (l : List (List gC)) (most : Int) : AD Tryz.prog 73 [.imm 1 (l.map jS), aA most, .sc (.func (.func g) #[] #[])] (.fn 151 [.iptr [.imm 1 (l.map jS)], .iptr [aA most], .iptr [.sc (.func (.func g) #[] #[])]]) := ⟨AU l most⟩
theorem yC {g : FuncId} {caps : List AV} {u : AV} [bj Tryz.prog g] (hu : i5 u = some (g, caps)) (l : List ie) (err : Nat → Int) (J : Nat → AL → Prop) (L0 : AL) (h0 : J 0 L0) (hw : ∀ i x L, l[i]? = some x → J i L → AC Tryz.prog g ([aA i, .agg (fz x)] ++ caps) L fun c L' => c = aA (err i) ∧ (err i = 0 → J (i + 1) L')) :
  AC Tryz.prog 198 [.imm 3 (l.map fz), u] L0 fun r _ => r = bL (cw err l.length) := by
 refine aC Tryz.func198 rfl Tryz.ntmps198 rfl fun B => ?_
 refine ci 0 rfl rfl fun hlen => ?_
 rw [Du] at hlen
 repeat' (first|refine a9 ?_|refine a4 ?_|refine ak ?_|refine a6 ?_|refine a7 ?_|refine a8 a5 rfl rfl ?_)
 refine aL [1, 9, 10] (α := Nat × AL) (fun i => [(11, aA i.1)]) (fun i => i.1 ≤ l.length ∧ J i.1 i.2 ∧ cw err l.length = cx err (l.length - i.1) i.1) (fun i => i.2) (fun i => l.length - i.1) (0, L0) rfl ⟨rfl, trivial⟩ ⟨Nat.zero_le _, h0, rfl⟩ (fun _ _ h => h) ?_
 rintro ⟨i, L⟩ ⟨hi, hj, he⟩
 dsimp only at hi hj he ⊢
 try dsimp only [Ds, Dr, Dq, Dn]
 repeat' (first|refine a9 ?_|refine a4 ?_|refine a6 ?_|refine a7 ?_|refine a8 a5 rfl rfl ?_)
 refine ar rfl (fun h => ?_) (fun h => ?_)
 ·have hil : i < l.length := by have := Dz h; simp at this; omega
  obtain ⟨z, hz⟩ : ∃ z, l[i]? = some z := ⟨_, Bn hil⟩
  have hzg := bW (c := fz) hz
  repeat' (first|refine a9 ?_|refine a4 ?_|refine ak ?_|refine ai ?_|refine a6 ?_|refine a7 ?_|refine a8 a5 rfl rfl ?_|(apply aF; first|refine aE a5 ?_|refine aB a5 ?_)|(apply aP; first|refine aa 7 a5 0 rfl rfl rfl rfl rfl rfl rfl rfl ?_|refine aa 7 a5 1 rfl rfl rfl rfl rfl rfl rfl rfl ?_|refine aa 7 a5 2 rfl rfl rfl rfl rfl rfl rfl rfl ?_|refine ad a5 0 rfl rfl rfl rfl rfl rfl rfl ?_|refine ad a5 1 rfl rfl rfl rfl rfl rfl rfl ?_|refine ad a5 2 rfl rfl rfl rfl rfl rfl rfl ?_|refine ad a5 3 rfl rfl rfl rfl rfl rfl rfl ?_|fail)|refine b4 a5 fun _=>?_|fail)
  refine cH L [] (hw i z L hz hj) rfl hu rfl (bA rfl) rfl rfl fun c L1 ⟨hc, hj'⟩ => ?_
  subst hc
  rw [List.append_nil]
  repeat' (first|refine a9 ?_|refine a4 ?_|refine a6 ?_|refine a7 ?_|refine a8 a5 rfl rfl ?_)
  refine ar rfl (fun h2 => ?_) (fun h2 => ?_)
  ·have h2' := Dz h2
   repeat' (first|refine a9 ?_|refine a4 ?_|refine ah ?_|refine a6 ?_|refine aq ?_|refine aJ ?_|refine bf ?_|refine a7 ?_|refine a8 a5 rfl rfl ?_)
   refine aK rfl rfl rfl ?_
   rw [he, bY hil h2']
   rfl
  ·have h2' := Decidable.not_not.1 (Dy h2)
   repeat' (first|refine a4 ?_|refine ai ?_|refine a6 ?_|refine aH ?_|refine a7 ?_|refine a8 a5 rfl rfl ?_|(apply aU; refine aS ?_)|fail)
   exact az (i + 1, L1) rfl ⟨by rw [Dv]; rfl, trivial⟩ ⟨by dsimp only; omega, hj' h2', by rw [he]; exact bR hil h2'⟩ (by dsimp only; omega) (fun _ _ h => h)
 ·have hil : i = l.length := by have := Dy h; simp at this; omega
  subst hil
  repeat' (first|refine a9 ?_|refine a4 ?_|refine ah ?_|refine aM ?_|refine a6 ?_|refine au ?_|refine aw ?_|refine av ?_|refine a7 ?_|refine a8 a5 rfl rfl ?_)
  refine aK rfl rfl rfl ?_
  rw [he, Nat.sub_self]
  rfl
theorem yD {g : FuncId} {caps : List AV} {u : AV} [bj Tryz.prog g] (hu : i5 u = some (g, caps)) (l : List cS) (err : Nat → Int) (J : Nat → AL → Prop) (L0 : AL) (h0 : J 0 L0) (hw : ∀ i x L, l[i]? = some x → J i L → AC Tryz.prog g ([aA i, .agg (eZ x)] ++ caps) L fun c L' => c = aA (err i) ∧ (err i = 0 → J (i + 1) L')) :
  AC Tryz.prog 202 [.imm 3 (l.map eZ), u] L0 fun r _ => r = bL (cw err l.length) := by
 refine aC Tryz.func202 rfl Tryz.ntmps202 rfl fun B => ?_
 refine ci 0 rfl rfl fun hlen => ?_
 rw [Du] at hlen
 repeat' (first|refine a9 ?_|refine a4 ?_|refine ak ?_|refine a6 ?_|refine a7 ?_|refine a8 a5 rfl rfl ?_)
 refine aL [1, 9, 10] (α := Nat × AL) (fun i => [(11, aA i.1)]) (fun i => i.1 ≤ l.length ∧ J i.1 i.2 ∧ cw err l.length = cx err (l.length - i.1) i.1) (fun i => i.2) (fun i => l.length - i.1) (0, L0) rfl ⟨rfl, trivial⟩ ⟨Nat.zero_le _, h0, rfl⟩ (fun _ _ h => h) ?_
 rintro ⟨i, L⟩ ⟨hi, hj, he⟩
 dsimp only at hi hj he ⊢
 try dsimp only [Ds, Dr, Dq, Dn]
 repeat' (first|refine a9 ?_|refine a4 ?_|refine a6 ?_|refine a7 ?_|refine a8 a5 rfl rfl ?_)
 refine ar rfl (fun h => ?_) (fun h => ?_)
 ·have hil : i < l.length := by have := Dz h; simp at this; omega
  obtain ⟨z, hz⟩ : ∃ z, l[i]? = some z := ⟨_, Bn hil⟩
  have hzg := bW (c := eZ) hz
  repeat' (first|refine a9 ?_|refine a4 ?_|refine ak ?_|refine ai ?_|refine a6 ?_|refine a7 ?_|refine a8 a5 rfl rfl ?_|(apply aF; first|refine aE a5 ?_|refine aB a5 ?_)|(apply aP; first|refine aa 7 a5 0 rfl rfl rfl rfl rfl rfl rfl rfl ?_|refine aa 7 a5 1 rfl rfl rfl rfl rfl rfl rfl rfl ?_|refine aa 7 a5 2 rfl rfl rfl rfl rfl rfl rfl rfl ?_|refine ad a5 0 rfl rfl rfl rfl rfl rfl rfl ?_|refine ad a5 1 rfl rfl rfl rfl rfl rfl rfl ?_|refine ad a5 2 rfl rfl rfl rfl rfl rfl rfl ?_|refine ad a5 3 rfl rfl rfl rfl rfl rfl rfl ?_|fail)|refine b4 a5 fun _=>?_|fail)
  refine cH L [] (hw i z L hz hj) rfl hu rfl (bA rfl) rfl rfl fun c L1 ⟨hc, hj'⟩ => ?_
  subst hc
  rw [List.append_nil]
  repeat' (first|refine a9 ?_|refine a4 ?_|refine a6 ?_|refine a7 ?_|refine a8 a5 rfl rfl ?_)
  refine ar rfl (fun h2 => ?_) (fun h2 => ?_)
  ·have h2' := Dz h2
   repeat' (first|refine a9 ?_|refine a4 ?_|refine ah ?_|refine a6 ?_|refine aq ?_|refine aJ ?_|refine bf ?_|refine a7 ?_|refine a8 a5 rfl rfl ?_)
   refine aK rfl rfl rfl ?_
   rw [he, bY hil h2']
   rfl
  ·have h2' := Decidable.not_not.1 (Dy h2)
   repeat' (first|refine a4 ?_|refine ai ?_|refine a6 ?_|refine aH ?_|refine a7 ?_|refine a8 a5 rfl rfl ?_|(apply aU; refine aS ?_)|fail)
   exact az (i + 1, L1) rfl ⟨by rw [Dv]; rfl, trivial⟩ ⟨by dsimp only; omega, hj' h2', by rw [he]; exact bR hil h2'⟩ (by dsimp only; omega) (fun _ _ h => h)
 ·have hil : i = l.length := by have := Dy h; simp at this; omega
  subst hil
  repeat' (first|refine a9 ?_|refine a4 ?_|refine ah ?_|refine aM ?_|refine a6 ?_|refine au ?_|refine aw ?_|refine av ?_|refine a7 ?_|refine a8 a5 rfl rfl ?_)
  refine aK rfl rfl rfl ?_
  rw [he, Nat.sub_self]
  rfl
theorem zm {g : FuncId} {caps : List AV} {u : AV} [bj Tryz.prog g] (hu : i5 u = some (g, caps)) (l : List cS) (most : Int) (err : Nat → Int) (J : Nat → AL → Prop) (L0 : AL) (h0 : J 0 L0) (hw : (l.length : Int) ≤ most → ∀ i x L, l[i]? = some x → J i L → AC Tryz.prog g ([aA i, .agg (eZ x)] ++ caps) L fun c L' => c = aA (err i) ∧ (err i = 0 → J (i + 1) L')) :
  AC Tryz.prog 201 [.iptr [.imm 3 (l.map eZ)], .iptr [aA most], .iptr [u]] L0 fun r _ => r = bL (cu most err l.length) := by
 refine aC Tryz.func201 rfl Tryz.ntmps201 rfl fun B => ?_
 repeat' (first|refine a9 ?_|refine a4 ?_|refine a6 ?_|refine a7 ?_|refine a8 a5 rfl rfl ?_)
 refine ar rfl (fun h => ?_) (fun h => ?_)
 ·have h' := Dz h
  rw [Du] at h'
  repeat' (first|refine a9 ?_|refine a4 ?_|refine ah ?_|refine a6 ?_|refine aq ?_|refine a7 ?_|refine a8 a5 rfl rfl ?_)
  refine aK rfl rfl rfl ?_
  unfold cu
  rw [if_pos h']
  rfl
 ·have h' := Dy h
  rw [Du] at h'
  repeat' (first|refine a9 ?_|refine a4 ?_|refine ai ?_|refine a6 ?_|refine a8 a5 rfl rfl ?_)
  refine aO L0 [] (yD hu l err J L0 h0 (hw (by omega))) rfl (dV hu) (bA rfl) rfl fun c L1 hc => ?_
  subst hc
  repeat' (first|refine ah ?_|refine a6 ?_|refine a7 ?_|refine a8 a5 rfl rfl ?_)
  refine aK rfl rfl rfl ?_
  unfold cu
  rw [if_neg h']
  rfl
theorem C2 {g : FuncId} {caps : List AV} (l : List cS) (most : Int) : bn Tryz.prog 117 [.imm 3 (l.map eZ), aA most, .fn g caps] (.fn 201 [.iptr [.imm 3 (l.map eZ)], .iptr [aA most], .iptr [.fn g caps]]) := by
 refine aC Tryz.func117 rfl Tryz.ntmps117 rfl fun B => ?_
 repeat' (first|refine a9 ?_|refine a4 ?_|refine ah ?_|refine a6 ?_|refine a7 ?_|refine a8 a5 rfl rfl ?_|refine aZ ?_|fail)
 exact an rfl rfl rfl
instance {g : FuncId} {caps : List AV} (l : List cS) (most : Int) : AD Tryz.prog 117 [.imm 3 (l.map eZ), aA most, .fn g caps] (.fn 201 [.iptr [.imm 3 (l.map eZ)], .iptr [aA most], .iptr [.fn g caps]]) := ⟨C2 l most⟩
theorem yE {g : FuncId} {caps : List AV} {u : AV} [bj Tryz.prog g] (hu : i5 u = some (g, caps)) (l : List dy) (err : Nat → Int) (J : Nat → AL → Prop) (L0 : AL) (h0 : J 0 L0) (hw : ∀ i x L, l[i]? = some x → J i L → AC Tryz.prog g ([aA i, .agg (dU x)] ++ caps) L fun c L' => c = aA (err i) ∧ (err i = 0 → J (i + 1) L')) :
  AC Tryz.prog 204 [.imm 4 (l.map dU), u] L0 fun r _ => r = bL (cw err l.length) := by
 refine aC Tryz.func204 rfl Tryz.ntmps204 rfl fun B => ?_
 refine ci 0 rfl rfl fun hlen => ?_
 rw [Du] at hlen
 repeat' (first|refine a9 ?_|refine a4 ?_|refine ak ?_|refine a6 ?_|refine a7 ?_|refine a8 a5 rfl rfl ?_)
 refine aL [1, 9, 10] (α := Nat × AL) (fun i => [(11, aA i.1)]) (fun i => i.1 ≤ l.length ∧ J i.1 i.2 ∧ cw err l.length = cx err (l.length - i.1) i.1) (fun i => i.2) (fun i => l.length - i.1) (0, L0) rfl ⟨rfl, trivial⟩ ⟨Nat.zero_le _, h0, rfl⟩ (fun _ _ h => h) ?_
 rintro ⟨i, L⟩ ⟨hi, hj, he⟩
 dsimp only at hi hj he ⊢
 try dsimp only [Ds, Dr, Dq, Dn]
 repeat' (first|refine a9 ?_|refine a4 ?_|refine a6 ?_|refine a7 ?_|refine a8 a5 rfl rfl ?_)
 refine ar rfl (fun h => ?_) (fun h => ?_)
 ·have hil : i < l.length := by have := Dz h; simp at this; omega
  obtain ⟨z, hz⟩ : ∃ z, l[i]? = some z := ⟨_, Bn hil⟩
  have hzg := bW (c := dU) hz
  repeat' (first|refine a9 ?_|refine a4 ?_|refine ak ?_|refine ai ?_|refine a6 ?_|refine a7 ?_|refine a8 a5 rfl rfl ?_|(apply aF; first|refine aE a5 ?_|refine aB a5 ?_)|(apply aP; first|refine aa 7 a5 0 rfl rfl rfl rfl rfl rfl rfl rfl ?_|refine aa 7 a5 1 rfl rfl rfl rfl rfl rfl rfl rfl ?_|refine aa 7 a5 2 rfl rfl rfl rfl rfl rfl rfl rfl ?_|refine ad a5 0 rfl rfl rfl rfl rfl rfl rfl ?_|refine ad a5 1 rfl rfl rfl rfl rfl rfl rfl ?_|refine ad a5 2 rfl rfl rfl rfl rfl rfl rfl ?_|refine ad a5 3 rfl rfl rfl rfl rfl rfl rfl ?_|fail)|refine b4 a5 fun _=>?_|fail)
  refine cH L [] (hw i z L hz hj) rfl hu rfl (bA rfl) rfl rfl fun c L1 ⟨hc, hj'⟩ => ?_
  subst hc
  rw [List.append_nil]
  repeat' (first|refine a9 ?_|refine a4 ?_|refine a6 ?_|refine a7 ?_|refine a8 a5 rfl rfl ?_)
  refine ar rfl (fun h2 => ?_) (fun h2 => ?_)
  ·have h2' := Dz h2
   repeat' (first|refine a9 ?_|refine a4 ?_|refine ah ?_|refine a6 ?_|refine aq ?_|refine aJ ?_|refine bf ?_|refine a7 ?_|refine a8 a5 rfl rfl ?_)
   refine aK rfl rfl rfl ?_
   rw [he, bY hil h2']
   rfl
  ·have h2' := Decidable.not_not.1 (Dy h2)
   repeat' (first|refine a4 ?_|refine ai ?_|refine a6 ?_|refine aH ?_|refine a7 ?_|refine a8 a5 rfl rfl ?_|(apply aU; refine aS ?_)|fail)
   exact az (i + 1, L1) rfl ⟨by rw [Dv]; rfl, trivial⟩ ⟨by dsimp only; omega, hj' h2', by rw [he]; exact bR hil h2'⟩ (by dsimp only; omega) (fun _ _ h => h)
 ·have hil : i = l.length := by have := Dy h; simp at this; omega
  subst hil
  repeat' (first|refine a9 ?_|refine a4 ?_|refine ah ?_|refine aM ?_|refine a6 ?_|refine au ?_|refine aw ?_|refine av ?_|refine a7 ?_|refine a8 a5 rfl rfl ?_)
  refine aK rfl rfl rfl ?_
  rw [he, Nat.sub_self]
  rfl
theorem zn {g : FuncId} {caps : List AV} {u : AV} [bj Tryz.prog g] (hu : i5 u = some (g, caps)) (l : List dy) (most : Int) (err : Nat → Int) (J : Nat → AL → Prop) (L0 : AL) (h0 : J 0 L0) (hw : (l.length : Int) ≤ most → ∀ i x L, l[i]? = some x → J i L → AC Tryz.prog g ([aA i, .agg (dU x)] ++ caps) L fun c L' => c = aA (err i) ∧ (err i = 0 → J (i + 1) L')) :
  AC Tryz.prog 203 [.iptr [.imm 4 (l.map dU)], .iptr [aA most], .iptr [u]] L0 fun r _ => r = bL (cu most err l.length) := by
 refine aC Tryz.func203 rfl Tryz.ntmps203 rfl fun B => ?_
 repeat' (first|refine a9 ?_|refine a4 ?_|refine a6 ?_|refine a7 ?_|refine a8 a5 rfl rfl ?_)
 refine ar rfl (fun h => ?_) (fun h => ?_)
 ·have h' := Dz h
  rw [Du] at h'
  repeat' (first|refine a9 ?_|refine a4 ?_|refine ah ?_|refine a6 ?_|refine aq ?_|refine a7 ?_|refine a8 a5 rfl rfl ?_)
  refine aK rfl rfl rfl ?_
  unfold cu
  rw [if_pos h']
  rfl
 ·have h' := Dy h
  rw [Du] at h'
  repeat' (first|refine a9 ?_|refine a4 ?_|refine ai ?_|refine a6 ?_|refine a8 a5 rfl rfl ?_)
  refine aO L0 [] (yE hu l err J L0 h0 (hw (by omega))) rfl (dV hu) (bA rfl) rfl fun c L1 hc => ?_
  subst hc
  repeat' (first|refine ah ?_|refine a6 ?_|refine a7 ?_|refine a8 a5 rfl rfl ?_)
  refine aK rfl rfl rfl ?_
  unfold cu
  rw [if_neg h']
  rfl
theorem C3 {g : FuncId} {caps : List AV} (l : List dy) (most : Int) : bn Tryz.prog 120 [.imm 4 (l.map dU), aA most, .fn g caps] (.fn 203 [.iptr [.imm 4 (l.map dU)], .iptr [aA most], .iptr [.fn g caps]]) := by
 refine aC Tryz.func120 rfl Tryz.ntmps120 rfl fun B => ?_
 repeat' (first|refine a9 ?_|refine a4 ?_|refine ah ?_|refine a6 ?_|refine a7 ?_|refine a8 a5 rfl rfl ?_|refine aZ ?_|fail)
 exact an rfl rfl rfl
instance {g : FuncId} {caps : List AV} (l : List dy) (most : Int) : AD Tryz.prog 120 [.imm 4 (l.map dU), aA most, .fn g caps] (.fn 203 [.iptr [.imm 4 (l.map dU)], .iptr [aA most], .iptr [.fn g caps]]) := ⟨C3 l most⟩
theorem yF {g : FuncId} {caps : List AV} {u : AV} [bj Tryz.prog g] (hu : i5 u = some (g, caps)) (l : List f3) (err : Nat → Int) (J : Nat → AL → Prop) (L0 : AL) (h0 : J 0 L0) (hw : ∀ i x L, l[i]? = some x → J i L → AC Tryz.prog g ([aA i, .agg (f5 x)] ++ caps) L fun c L' => c = aA (err i) ∧ (err i = 0 → J (i + 1) L')) :
  AC Tryz.prog 207 [.imm 4 (l.map f5), u] L0 fun r _ => r = bL (cw err l.length) := by
 refine aC Tryz.func207 rfl Tryz.ntmps207 rfl fun B => ?_
 refine ci 0 rfl rfl fun hlen => ?_
 rw [Du] at hlen
 repeat' (first|refine a9 ?_|refine a4 ?_|refine ak ?_|refine a6 ?_|refine a7 ?_|refine a8 a5 rfl rfl ?_)
 refine aL [1, 9, 10] (α := Nat × AL) (fun i => [(11, aA i.1)]) (fun i => i.1 ≤ l.length ∧ J i.1 i.2 ∧ cw err l.length = cx err (l.length - i.1) i.1) (fun i => i.2) (fun i => l.length - i.1) (0, L0) rfl ⟨rfl, trivial⟩ ⟨Nat.zero_le _, h0, rfl⟩ (fun _ _ h => h) ?_
 rintro ⟨i, L⟩ ⟨hi, hj, he⟩
 dsimp only at hi hj he ⊢
 try dsimp only [Ds, Dr, Dq, Dn]
 repeat' (first|refine a9 ?_|refine a4 ?_|refine a6 ?_|refine a7 ?_|refine a8 a5 rfl rfl ?_)
 refine ar rfl (fun h => ?_) (fun h => ?_)
 ·have hil : i < l.length := by have := Dz h; simp at this; omega
  obtain ⟨z, hz⟩ : ∃ z, l[i]? = some z := ⟨_, Bn hil⟩
  have hzg := bW (c := f5) hz
  repeat' (first|refine a9 ?_|refine a4 ?_|refine ak ?_|refine ai ?_|refine a6 ?_|refine a7 ?_|refine a8 a5 rfl rfl ?_|(apply aF; first|refine aE a5 ?_|refine aB a5 ?_)|(apply aP; first|refine aa 7 a5 0 rfl rfl rfl rfl rfl rfl rfl rfl ?_|refine aa 7 a5 1 rfl rfl rfl rfl rfl rfl rfl rfl ?_|refine aa 7 a5 2 rfl rfl rfl rfl rfl rfl rfl rfl ?_|refine ad a5 0 rfl rfl rfl rfl rfl rfl rfl ?_|refine ad a5 1 rfl rfl rfl rfl rfl rfl rfl ?_|refine ad a5 2 rfl rfl rfl rfl rfl rfl rfl ?_|refine ad a5 3 rfl rfl rfl rfl rfl rfl rfl ?_|fail)|refine b4 a5 fun _=>?_|fail)
  refine cH L [] (hw i z L hz hj) rfl hu rfl (bA rfl) rfl rfl fun c L1 ⟨hc, hj'⟩ => ?_
  subst hc
  rw [List.append_nil]
  repeat' (first|refine a9 ?_|refine a4 ?_|refine a6 ?_|refine a7 ?_|refine a8 a5 rfl rfl ?_)
  refine ar rfl (fun h2 => ?_) (fun h2 => ?_)
  ·have h2' := Dz h2
   repeat' (first|refine a9 ?_|refine a4 ?_|refine ah ?_|refine a6 ?_|refine aq ?_|refine aJ ?_|refine bf ?_|refine a7 ?_|refine a8 a5 rfl rfl ?_)
   refine aK rfl rfl rfl ?_
   rw [he, bY hil h2']
   rfl
  ·have h2' := Decidable.not_not.1 (Dy h2)
   repeat' (first|refine a4 ?_|refine ai ?_|refine a6 ?_|refine aH ?_|refine a7 ?_|refine a8 a5 rfl rfl ?_|(apply aU; refine aS ?_)|fail)
   exact az (i + 1, L1) rfl ⟨by rw [Dv]; rfl, trivial⟩ ⟨by dsimp only; omega, hj' h2', by rw [he]; exact bR hil h2'⟩ (by dsimp only; omega) (fun _ _ h => h)
 ·have hil : i = l.length := by have := Dy h; simp at this; omega
  subst hil
  repeat' (first|refine a9 ?_|refine a4 ?_|refine ah ?_|refine aM ?_|refine a6 ?_|refine au ?_|refine aw ?_|refine av ?_|refine a7 ?_|refine a8 a5 rfl rfl ?_)
  refine aK rfl rfl rfl ?_
  rw [he, Nat.sub_self]
  rfl
theorem zo {g : FuncId} {caps : List AV} {u : AV} [bj Tryz.prog g] (hu : i5 u = some (g, caps)) (l : List f3) (most : Int) (err : Nat → Int) (J : Nat → AL → Prop) (L0 : AL) (h0 : J 0 L0) (hw : (l.length : Int) ≤ most → ∀ i x L, l[i]? = some x → J i L → AC Tryz.prog g ([aA i, .agg (f5 x)] ++ caps) L fun c L' => c = aA (err i) ∧ (err i = 0 → J (i + 1) L')) :
  AC Tryz.prog 206 [.iptr [.imm 4 (l.map f5)], .iptr [aA most], .iptr [u]] L0 fun r _ => r = bL (cu most err l.length) := by
 refine aC Tryz.func206 rfl Tryz.ntmps206 rfl fun B => ?_
 repeat' (first|refine a9 ?_|refine a4 ?_|refine a6 ?_|refine a7 ?_|refine a8 a5 rfl rfl ?_)
 refine ar rfl (fun h => ?_) (fun h => ?_)
 ·have h' := Dz h
  rw [Du] at h'
  repeat' (first|refine a9 ?_|refine a4 ?_|refine ah ?_|refine a6 ?_|refine aq ?_|refine a7 ?_|refine a8 a5 rfl rfl ?_)
  refine aK rfl rfl rfl ?_
  unfold cu
  rw [if_pos h']
  rfl
 ·have h' := Dy h
  rw [Du] at h'
  repeat' (first|refine a9 ?_|refine a4 ?_|refine ai ?_|refine a6 ?_|refine a8 a5 rfl rfl ?_)
  refine aO L0 [] (yF hu l err J L0 h0 (hw (by omega))) rfl (dV hu) (bA rfl) rfl fun c L1 hc => ?_
  subst hc
  repeat' (first|refine ah ?_|refine a6 ?_|refine a7 ?_|refine a8 a5 rfl rfl ?_)
  refine aK rfl rfl rfl ?_
  unfold cu
  rw [if_neg h']
  rfl
theorem C4 {g : FuncId} {caps : List AV} (l : List f3) (most : Int) : bn Tryz.prog 122 [.imm 4 (l.map f5), aA most, .fn g caps] (.fn 206 [.iptr [.imm 4 (l.map f5)], .iptr [aA most], .iptr [.fn g caps]]) := by
 refine aC Tryz.func122 rfl Tryz.ntmps122 rfl fun B => ?_
 repeat' (first|refine a9 ?_|refine a4 ?_|refine ah ?_|refine a6 ?_|refine a7 ?_|refine a8 a5 rfl rfl ?_|refine aZ ?_|fail)
 exact an rfl rfl rfl
instance {g : FuncId} {caps : List AV} (l : List f3) (most : Int) : AD Tryz.prog 122 [.imm 4 (l.map f5), aA most, .fn g caps] (.fn 206 [.iptr [.imm 4 (l.map f5)], .iptr [aA most], .iptr [.fn g caps]]) := ⟨C4 l most⟩
theorem yG {g : FuncId} {caps : List AV} {u : AV} [bj Tryz.prog g] (hu : i5 u = some (g, caps)) (l : List (List Int)) (err : Nat → Int) (J : Nat → AL → Prop) (L0 : AL) (h0 : J 0 L0) (hw : ∀ i x L, l[i]? = some x → J i L → AC Tryz.prog g ([aA i, .imm 1 (aT x)] ++ caps) L fun c L' => c = aA (err i) ∧ (err i = 0 → J (i + 1) L')) :
  AC Tryz.prog 215 [.imm 1 (l.map BM), u] L0 fun r _ => r = bL (cw err l.length) := by
 refine aC Tryz.func215 rfl Tryz.ntmps215 rfl fun B => ?_
 refine ci 0 rfl rfl fun hlen => ?_
 rw [Du] at hlen
 repeat' (first|refine a9 ?_|refine a4 ?_|refine ak ?_|refine a6 ?_|refine a7 ?_|refine a8 a5 rfl rfl ?_)
 refine aL [1, 9, 10] (α := Nat × AL) (fun i => [(11, aA i.1)]) (fun i => i.1 ≤ l.length ∧ J i.1 i.2 ∧ cw err l.length = cx err (l.length - i.1) i.1) (fun i => i.2) (fun i => l.length - i.1) (0, L0) rfl ⟨rfl, trivial⟩ ⟨Nat.zero_le _, h0, rfl⟩ (fun _ _ h => h) ?_
 rintro ⟨i, L⟩ ⟨hi, hj, he⟩
 dsimp only at hi hj he ⊢
 try dsimp only [Ds, Dr, Dq, Dn]
 repeat' (first|refine a9 ?_|refine a4 ?_|refine a6 ?_|refine a7 ?_|refine a8 a5 rfl rfl ?_)
 refine ar rfl (fun h => ?_) (fun h => ?_)
 ·have hil : i < l.length := by have := Dz h; simp at this; omega
  obtain ⟨z, hz⟩ : ∃ z, l[i]? = some z := ⟨_, Bn hil⟩
  have hzg := bW (c := BM) hz
  repeat' (first|refine a9 ?_|refine a4 ?_|refine ak ?_|refine ai ?_|refine a6 ?_|refine a7 ?_|refine a8 a5 rfl rfl ?_|(apply aF; first|refine aE a5 ?_|refine aB a5 ?_)|fail)
  refine cH L [] (hw i z L hz hj) rfl hu rfl (bA rfl) rfl rfl fun c L1 ⟨hc, hj'⟩ => ?_
  subst hc
  rw [List.append_nil]
  repeat' (first|refine a9 ?_|refine a4 ?_|refine a6 ?_|refine a7 ?_|refine a8 a5 rfl rfl ?_)
  refine ar rfl (fun h2 => ?_) (fun h2 => ?_)
  ·have h2' := Dz h2
   repeat' (first|refine a9 ?_|refine a4 ?_|refine ah ?_|refine a6 ?_|refine aq ?_|refine aJ ?_|refine bf ?_|refine a7 ?_|refine a8 a5 rfl rfl ?_)
   refine aK rfl rfl rfl ?_
   rw [he, bY hil h2']
   rfl
  ·have h2' := Decidable.not_not.1 (Dy h2)
   repeat' (first|refine a4 ?_|refine ai ?_|refine a6 ?_|refine aH ?_|refine a7 ?_|refine a8 a5 rfl rfl ?_|(apply aU; refine aS ?_)|fail)
   exact az (i + 1, L1) rfl ⟨by rw [Dv]; rfl, trivial⟩ ⟨by dsimp only; omega, hj' h2', by rw [he]; exact bR hil h2'⟩ (by dsimp only; omega) (fun _ _ h => h)
 ·have hil : i = l.length := by have := Dy h; simp at this; omega
  subst hil
  repeat' (first|refine a9 ?_|refine a4 ?_|refine ah ?_|refine aM ?_|refine a6 ?_|refine au ?_|refine aw ?_|refine av ?_|refine a7 ?_|refine a8 a5 rfl rfl ?_)
  refine aK rfl rfl rfl ?_
  rw [he, Nat.sub_self]
  rfl
theorem yH {g : FuncId} {caps : List AV} {u : AV} [bj Tryz.prog g] (hu : i5 u = some (g, caps)) (l : List gC) (err : Nat → Int) (J : Nat → AL → Prop) (L0 : AL) (h0 : J 0 L0) (hw : ∀ i x L, l[i]? = some x → J i L → AC Tryz.prog g ([aA i, .agg (ip x)] ++ caps) L fun c L' => c = aA (err i) ∧ (err i = 0 → J (i + 1) L')) :
  AC Tryz.prog 228 [.imm 2 (l.map ip), u] L0 fun r _ => r = bL (cw err l.length) := by
 refine aC Tryz.func228 rfl Tryz.ntmps228 rfl fun B => ?_
 refine ci 0 rfl rfl fun hlen => ?_
 rw [Du] at hlen
 repeat' (first|refine a9 ?_|refine a4 ?_|refine ak ?_|refine a6 ?_|refine a7 ?_|refine a8 a5 rfl rfl ?_)
 refine aL [1, 9, 10] (α := Nat × AL) (fun i => [(11, aA i.1)]) (fun i => i.1 ≤ l.length ∧ J i.1 i.2 ∧ cw err l.length = cx err (l.length - i.1) i.1) (fun i => i.2) (fun i => l.length - i.1) (0, L0) rfl ⟨rfl, trivial⟩ ⟨Nat.zero_le _, h0, rfl⟩ (fun _ _ h => h) ?_
 rintro ⟨i, L⟩ ⟨hi, hj, he⟩
 dsimp only at hi hj he ⊢
 try dsimp only [Ds, Dr, Dq, Dn]
 repeat' (first|refine a9 ?_|refine a4 ?_|refine a6 ?_|refine a7 ?_|refine a8 a5 rfl rfl ?_)
 refine ar rfl (fun h => ?_) (fun h => ?_)
 ·have hil : i < l.length := by have := Dz h; simp at this; omega
  obtain ⟨z, hz⟩ : ∃ z, l[i]? = some z := ⟨_, Bn hil⟩
  have hzg := bW (c := ip) hz
  repeat' (first|refine a9 ?_|refine a4 ?_|refine ak ?_|refine ai ?_|refine a6 ?_|refine a7 ?_|refine a8 a5 rfl rfl ?_|(apply aF; first|refine aE a5 ?_|refine aB a5 ?_)|(apply aP; first|refine aa 7 a5 0 rfl rfl rfl rfl rfl rfl rfl rfl ?_|refine aa 7 a5 1 rfl rfl rfl rfl rfl rfl rfl rfl ?_|refine aa 7 a5 2 rfl rfl rfl rfl rfl rfl rfl rfl ?_|refine ad a5 0 rfl rfl rfl rfl rfl rfl rfl ?_|refine ad a5 1 rfl rfl rfl rfl rfl rfl rfl ?_|refine ad a5 2 rfl rfl rfl rfl rfl rfl rfl ?_|refine ad a5 3 rfl rfl rfl rfl rfl rfl rfl ?_|fail)|refine b4 a5 fun _=>?_|fail)
  refine cH L [] (hw i z L hz hj) rfl hu rfl (bA rfl) rfl rfl fun c L1 ⟨hc, hj'⟩ => ?_
  subst hc
  rw [List.append_nil]
  repeat' (first|refine a9 ?_|refine a4 ?_|refine a6 ?_|refine a7 ?_|refine a8 a5 rfl rfl ?_)
  refine ar rfl (fun h2 => ?_) (fun h2 => ?_)
  ·have h2' := Dz h2
   repeat' (first|refine a9 ?_|refine a4 ?_|refine ah ?_|refine a6 ?_|refine aq ?_|refine aJ ?_|refine bf ?_|refine a7 ?_|refine a8 a5 rfl rfl ?_)
   refine aK rfl rfl rfl ?_
   rw [he, bY hil h2']
   rfl
  ·have h2' := Decidable.not_not.1 (Dy h2)
   repeat' (first|refine a4 ?_|refine ai ?_|refine a6 ?_|refine aH ?_|refine a7 ?_|refine a8 a5 rfl rfl ?_|(apply aU; refine aS ?_)|fail)
   exact az (i + 1, L1) rfl ⟨by rw [Dv]; rfl, trivial⟩ ⟨by dsimp only; omega, hj' h2', by rw [he]; exact bR hil h2'⟩ (by dsimp only; omega) (fun _ _ h => h)
 ·have hil : i = l.length := by have := Dy h; simp at this; omega
  subst hil
  repeat' (first|refine a9 ?_|refine a4 ?_|refine ah ?_|refine aM ?_|refine a6 ?_|refine au ?_|refine aw ?_|refine av ?_|refine a7 ?_|refine a8 a5 rfl rfl ?_)
  refine aK rfl rfl rfl ?_
  rw [he, Nat.sub_self]
  rfl
theorem zp {g : FuncId} {caps : List AV} {u : AV} [bj Tryz.prog g] (hu : i5 u = some (g, caps)) (l : List gC) (most : Int) (err : Nat → Int) (J : Nat → AL → Prop) (L0 : AL) (h0 : J 0 L0) (hw : (l.length : Int) ≤ most → ∀ i x L, l[i]? = some x → J i L → AC Tryz.prog g ([aA i, .agg (ip x)] ++ caps) L fun c L' => c = aA (err i) ∧ (err i = 0 → J (i + 1) L')) :
  AC Tryz.prog 227 [.iptr [.imm 2 (l.map ip)], .iptr [aA most], .iptr [u]] L0 fun r _ => r = bL (cu most err l.length) := by
 refine aC Tryz.func227 rfl Tryz.ntmps227 rfl fun B => ?_
 repeat' (first|refine a9 ?_|refine a4 ?_|refine a6 ?_|refine a7 ?_|refine a8 a5 rfl rfl ?_)
 refine ar rfl (fun h => ?_) (fun h => ?_)
 ·have h' := Dz h
  rw [Du] at h'
  repeat' (first|refine a9 ?_|refine a4 ?_|refine ah ?_|refine a6 ?_|refine aq ?_|refine a7 ?_|refine a8 a5 rfl rfl ?_)
  refine aK rfl rfl rfl ?_
  unfold cu
  rw [if_pos h']
  rfl
 ·have h' := Dy h
  rw [Du] at h'
  repeat' (first|refine a9 ?_|refine a4 ?_|refine ai ?_|refine a6 ?_|refine a8 a5 rfl rfl ?_)
  refine aO L0 [] (yH hu l err J L0 h0 (hw (by omega))) rfl (dV hu) (bA rfl) rfl fun c L1 hc => ?_
  subst hc
  repeat' (first|refine ah ?_|refine a6 ?_|refine a7 ?_|refine a8 a5 rfl rfl ?_)
  refine aK rfl rfl rfl ?_
  unfold cu
  rw [if_neg h']
  rfl
theorem AZ {g : FuncId} (l : List gC) (most : Int) : bn Tryz.prog 153 [.imm 2 (l.map ip), aA most, .sc (.func (.func g) #[] #[])] (.fn 227 [.iptr [.imm 2 (l.map ip)], .iptr [aA most], .iptr [.sc (.func (.func g) #[] #[])]]) := by
 refine aC Tryz.func153 rfl Tryz.ntmps153 rfl fun B => ?_
 repeat' (first|refine a9 ?_|refine a4 ?_|refine ah ?_|refine a6 ?_|refine a7 ?_|refine a8 a5 rfl rfl ?_|refine aZ ?_|fail)
 exact an rfl rfl rfl
instance {g : FuncId} (l : List gC) (most : Int) : AD Tryz.prog 153 [.imm 2 (l.map ip), aA most, .sc (.func (.func g) #[] #[])] (.fn 227 [.iptr [.imm 2 (l.map ip)], .iptr [aA most], .iptr [.sc (.func (.func g) #[] #[])]]) := ⟨AZ l most⟩
theorem yI {g : FuncId} {caps : List AV} {u : AV} [bj Tryz.prog g] (hu : i5 u = some (g, caps)) (l : List ic) (err : Nat → Int) (J : Nat → AL → Prop) (L0 : AL) (h0 : J 0 L0) (hw : ∀ i x L, l[i]? = some x → J i L → AC Tryz.prog g ([aA i, .agg (fa x)] ++ caps) L fun c L' => c = aA (err i) ∧ (err i = 0 → J (i + 1) L')) :
  AC Tryz.prog 272 [.imm 2 (l.map fa), u] L0 fun r _ => r = bL (cw err l.length) := by
 refine aC Tryz.func272 rfl Tryz.ntmps272 rfl fun B => ?_
 refine ci 0 rfl rfl fun hlen => ?_
 rw [Du] at hlen
 repeat' (first|refine a9 ?_|refine a4 ?_|refine ak ?_|refine a6 ?_|refine a7 ?_|refine a8 a5 rfl rfl ?_)
 refine aL [1, 9, 10] (α := Nat × AL) (fun i => [(11, aA i.1)]) (fun i => i.1 ≤ l.length ∧ J i.1 i.2 ∧ cw err l.length = cx err (l.length - i.1) i.1) (fun i => i.2) (fun i => l.length - i.1) (0, L0) rfl ⟨rfl, trivial⟩ ⟨Nat.zero_le _, h0, rfl⟩ (fun _ _ h => h) ?_
 rintro ⟨i, L⟩ ⟨hi, hj, he⟩
 dsimp only at hi hj he ⊢
 try dsimp only [Ds, Dr, Dq, Dn]
 repeat' (first|refine a9 ?_|refine a4 ?_|refine a6 ?_|refine a7 ?_|refine a8 a5 rfl rfl ?_)
 refine ar rfl (fun h => ?_) (fun h => ?_)
 ·have hil : i < l.length := by have := Dz h; simp at this; omega
  obtain ⟨z, hz⟩ : ∃ z, l[i]? = some z := ⟨_, Bn hil⟩
  have hzg := bW (c := fa) hz
  repeat' (first|refine a9 ?_|refine a4 ?_|refine ak ?_|refine ai ?_|refine a6 ?_|refine a7 ?_|refine a8 a5 rfl rfl ?_|(apply aF; first|refine aE a5 ?_|refine aB a5 ?_)|(apply aP; first|refine aa 7 a5 0 rfl rfl rfl rfl rfl rfl rfl rfl ?_|refine aa 7 a5 1 rfl rfl rfl rfl rfl rfl rfl rfl ?_|refine aa 7 a5 2 rfl rfl rfl rfl rfl rfl rfl rfl ?_|refine ad a5 0 rfl rfl rfl rfl rfl rfl rfl ?_|refine ad a5 1 rfl rfl rfl rfl rfl rfl rfl ?_|refine ad a5 2 rfl rfl rfl rfl rfl rfl rfl ?_|refine ad a5 3 rfl rfl rfl rfl rfl rfl rfl ?_|fail)|refine b4 a5 fun _=>?_|fail)
  refine cH L [] (hw i z L hz hj) rfl hu rfl (bA rfl) rfl rfl fun c L1 ⟨hc, hj'⟩ => ?_
  subst hc
  rw [List.append_nil]
  repeat' (first|refine a9 ?_|refine a4 ?_|refine a6 ?_|refine a7 ?_|refine a8 a5 rfl rfl ?_)
  refine ar rfl (fun h2 => ?_) (fun h2 => ?_)
  ·have h2' := Dz h2
   repeat' (first|refine a9 ?_|refine a4 ?_|refine ah ?_|refine a6 ?_|refine aq ?_|refine aJ ?_|refine bf ?_|refine a7 ?_|refine a8 a5 rfl rfl ?_)
   refine aK rfl rfl rfl ?_
   rw [he, bY hil h2']
   rfl
  ·have h2' := Decidable.not_not.1 (Dy h2)
   repeat' (first|refine a4 ?_|refine ai ?_|refine a6 ?_|refine aH ?_|refine a7 ?_|refine a8 a5 rfl rfl ?_|(apply aU; refine aS ?_)|fail)
   exact az (i + 1, L1) rfl ⟨by rw [Dv]; rfl, trivial⟩ ⟨by dsimp only; omega, hj' h2', by rw [he]; exact bR hil h2'⟩ (by dsimp only; omega) (fun _ _ h => h)
 ·have hil : i = l.length := by have := Dy h; simp at this; omega
  subst hil
  repeat' (first|refine a9 ?_|refine a4 ?_|refine ah ?_|refine aM ?_|refine a6 ?_|refine au ?_|refine aw ?_|refine av ?_|refine a7 ?_|refine a8 a5 rfl rfl ?_)
  refine aK rfl rfl rfl ?_
  rw [he, Nat.sub_self]
  rfl
theorem jW {g : FuncId} {caps : List AV} {u : AV} [bj Tryz.prog g] (hu : i5 u = some (g, caps)) (l : List Int) (err : Nat → Int) (J : Nat → AL → Prop) (L0 : AL) (h0 : J 0 L0) (hw : ∀ i x L, l[i]? = some x → J i L → AC Tryz.prog g ([aA i, aA x] ++ caps) L fun c L' => c = aA (err i) ∧ (err i = 0 → J (i + 1) L')) :
  AC Tryz.prog 128 [.imm 1 (l.map ue), u] L0 fun r _ => r = bL (cw err l.length) := by
 refine aC Tryz.func128 rfl Tryz.ntmps128 rfl fun B => ?_
 refine ci 0 rfl rfl fun hlen => ?_
 rw [Du] at hlen
 repeat' (first|refine a9 ?_|refine a4 ?_|refine ak ?_|refine a6 ?_|refine a7 ?_|refine a8 a5 rfl rfl ?_)
 refine aL [1, 9, 10] (α := Nat × AL) (fun i => [(11, aA i.1)]) (fun i => i.1 ≤ l.length ∧ J i.1 i.2 ∧ cw err l.length = cx err (l.length - i.1) i.1) (fun i => i.2) (fun i => l.length - i.1) (0, L0) rfl ⟨rfl, trivial⟩ ⟨Nat.zero_le _, h0, rfl⟩ (fun _ _ h => h) ?_
 rintro ⟨i, L⟩ ⟨hi, hj, he⟩
 dsimp only at hi hj he ⊢
 try dsimp only [Ds, Dr, Dq, Dn]
 repeat' (first|refine a9 ?_|refine a4 ?_|refine a6 ?_|refine a7 ?_|refine a8 a5 rfl rfl ?_)
 refine ar rfl (fun h => ?_) (fun h => ?_)
 ·have hil : i < l.length := by have := Dz h; simp at this; omega
  obtain ⟨z, hz⟩ : ∃ z, l[i]? = some z := ⟨_, Bn hil⟩
  have hzg := bW (c := ue) hz
  repeat' (first|refine a9 ?_|refine a4 ?_|refine ak ?_|refine ai ?_|refine a6 ?_|refine a7 ?_|refine a8 a5 rfl rfl ?_|(apply aF; first|refine aE a5 ?_|refine aB a5 ?_)|fail)
  refine cH L [] (hw i z L hz hj) rfl hu rfl (bA rfl) rfl rfl fun c L1 ⟨hc, hj'⟩ => ?_
  subst hc
  rw [List.append_nil]
  repeat' (first|refine a9 ?_|refine a4 ?_|refine a6 ?_|refine a7 ?_|refine a8 a5 rfl rfl ?_)
  refine ar rfl (fun h2 => ?_) (fun h2 => ?_)
  ·have h2' := Dz h2
   repeat' (first|refine a9 ?_|refine a4 ?_|refine ah ?_|refine a6 ?_|refine aq ?_|refine aJ ?_|refine bf ?_|refine a7 ?_|refine a8 a5 rfl rfl ?_)
   refine aK rfl rfl rfl ?_
   rw [he, bY hil h2']
   rfl
  ·have h2' := Decidable.not_not.1 (Dy h2)
   repeat' (first|refine a4 ?_|refine ai ?_|refine a6 ?_|refine aH ?_|refine a7 ?_|refine a8 a5 rfl rfl ?_|(apply aU; refine aS ?_)|fail)
   exact az (i + 1, L1) rfl ⟨by rw [Dv]; rfl, trivial⟩ ⟨by dsimp only; omega, hj' h2', by rw [he]; exact bR hil h2'⟩ (by dsimp only; omega) (fun _ _ h => h)
 ·have hil : i = l.length := by have := Dy h; simp at this; omega
  subst hil
  repeat' (first|refine a9 ?_|refine a4 ?_|refine ah ?_|refine aM ?_|refine a6 ?_|refine au ?_|refine aw ?_|refine av ?_|refine a7 ?_|refine a8 a5 rfl rfl ?_)
  refine aK rfl rfl rfl ?_
  rw [he, Nat.sub_self]
  rfl
theorem zl {g : FuncId} {caps : List AV} {u : AV} [bj Tryz.prog g] (hu : i5 u = some (g, caps)) (l : List Int) (most : Int) (err : Nat → Int) (J : Nat → AL → Prop) (L0 : AL) (h0 : J 0 L0) (hw : (l.length : Int) ≤ most → ∀ i x L, l[i]? = some x → J i L → AC Tryz.prog g ([aA i, aA x] ++ caps) L fun c L' => c = aA (err i) ∧ (err i = 0 → J (i + 1) L')) :
  AC Tryz.prog 155 [.iptr [.imm 1 (l.map ue)], .iptr [aA most], .iptr [u]] L0 fun r _ => r = bL (cu most err l.length) := by
 refine aC Tryz.func155 rfl Tryz.ntmps155 rfl fun B => ?_
 repeat' (first|refine a9 ?_|refine a4 ?_|refine a6 ?_|refine a7 ?_|refine a8 a5 rfl rfl ?_)
 refine ar rfl (fun h => ?_) (fun h => ?_)
 ·have h' := Dz h
  rw [Du] at h'
  repeat' (first|refine a9 ?_|refine a4 ?_|refine ah ?_|refine a6 ?_|refine aq ?_|refine a7 ?_|refine a8 a5 rfl rfl ?_)
  refine aK rfl rfl rfl ?_
  unfold cu
  rw [if_pos h']
  rfl
 ·have h' := Dy h
  rw [Du] at h'
  repeat' (first|refine a9 ?_|refine a4 ?_|refine ai ?_|refine a6 ?_|refine a8 a5 rfl rfl ?_)
  refine aO L0 [] (jW hu l err J L0 h0 (hw (by omega))) rfl (dV hu) (bA rfl) rfl fun c L1 hc => ?_
  subst hc
  repeat' (first|refine ah ?_|refine a6 ?_|refine a7 ?_|refine a8 a5 rfl rfl ?_)
  refine aK rfl rfl rfl ?_
  unfold cu
  rw [if_neg h']
  rfl
theorem AW {g : FuncId} (l : List Int) (most : Int) : bn Tryz.prog 76 [.imm 1 (l.map ue), aA most, .sc (.func (.func g) #[] #[])] (.fn 155 [.iptr [.imm 1 (l.map ue)], .iptr [aA most], .iptr [.sc (.func (.func g) #[] #[])]]) := by
 refine aC Tryz.func76 rfl Tryz.ntmps76 rfl fun B => ?_
 repeat' (first|refine a9 ?_|refine a4 ?_|refine ah ?_|refine a6 ?_|refine a7 ?_|refine a8 a5 rfl rfl ?_|refine aZ ?_|fail)
 exact an rfl rfl rfl
end Go.Proofs.YtpmdfoaadejmkaaGreatDoor
