/-
  The program: looks at things, one by one.
-/
import Derived.Test.YtpmdfoaadejmkaaGreatDoorM06
import Derived.Test.YtpmdfoaadejmkaaGreatDoorM08
import Derived.Test.YtpmdfoaadejmkaaGreatDoorM05
namespace Go.Proofs.YtpmdfoaadejmkaaGreatDoor
open Go.RowKit
attribute [local irreducible] AT bh AX AO Av Kt b6 dh DA cE
def cy (err : Nat → Int) : Nat → Nat → Int × Int
 | 0, _ => (0, 0)
 | k + 1, i => if err i = 0 then cy err k (i + 1) else (err i, i)
def cx (err : Nat → Int) (n : Nat) : Int × Int := cy err n 0
def cv (most : Int) (err : Nat → Int) (n : Nat) : Int × Int := if (n : Int) > most then (2, 0) else cx err n
def bK (p : Int × Int) : AV := .tup [az p.1, az p.2]
theorem bP {err : Nat → Int} {n i : Nat} (hi : i < n) (h : err i = 0) : cy err (n - i) i = cy err (n - (i + 1)) (i + 1) := by
 rw [show n - i = (n - (i + 1)) + 1 by omega]
 simp only [cy, h, if_true]
theorem bY {err : Nat → Int} {n i : Nat} (hi : i < n) (h : err i ≠ 0) : cy err (n - i) i = (err i, (i : Int)) := by
 rw [show n - i = (n - (i + 1)) + 1 by omega]
 simp only [cy, h, if_false]
def BF (q : List Int) : List AV := [.imm 1 (aR q)]
def ua (z : Int) : List AV := [az z]
theorem dW {g : FuncId} {caps : List AV} {u : AV} (hu : i5 u = some (g, caps)) {s : Nat} {l : List (List AV)} : lc [.imm s l, u] = some [.imm s l, u] := by
 unfold i5 at hu
 split at hu <;> first | rfl | cases hu
theorem bz {L L' : AL} (h : L = L') : L.Perm (L' ++ []) := by rw [List.append_nil, h]
def CP (P : Program) (g : FuncId) (caps : List AV) (n : Nat) (arg : Nat → AV) (err : Nat → Int) (J : Nat → AL → Prop) : Prop := ∀ i L, i < n → J i L → AC P g ([az i, arg i] ++ caps) L fun c L' => c = az (err i) ∧ (err i = 0 → J (i + 1) L')
theorem yl {g : FuncId} {caps : List AV} {u : AV} [bi Tryz.prog g] (hu : i5 u = some (g, caps)) (l : List b9) (err : Nat → Int) (J : Nat → AL → Prop) (L0 : AL) (h0 : J 0 L0) (hw : ∀ i x L, l[i]? = some x → J i L → AC Tryz.prog g ([az i, .agg (c9 x)] ++ caps) L fun c L' => c = az (err i) ∧ (err i = 0 → J (i + 1) L')) :
  AC Tryz.prog 113 [.imm 9 (l.map c9), u] L0 fun r _ => r = bK (cx err l.length) := by
 refine aB Tryz.func113 rfl Tryz.ntmps113 rfl fun B => ?_
 refine ci 0 rfl rfl fun hlen => ?_
 rw [Du] at hlen
 repeat' (first|refine a8 ?_|refine a0 ?_|refine aj ?_|refine a5 ?_|refine a6 ?_|refine a7 a4 rfl rfl ?_)
 refine aK [1, 9, 10] (α := Nat × AL) (fun i => [(11, az i.1)]) (fun i => i.1 ≤ l.length ∧ J i.1 i.2 ∧ cx err l.length = cy err (l.length - i.1) i.1) (fun i => i.2) (fun i => l.length - i.1) (0, L0) rfl ⟨rfl, trivial⟩ ⟨Nat.zero_le _, h0, rfl⟩ (fun _ _ h => h) ?_
 rintro ⟨i, L⟩ ⟨hi, hj, he⟩
 dsimp only at hi hj he ⊢
 try dsimp only [Ds, Dr, Dq, Dn]
 repeat' (first|refine a8 ?_|refine a0 ?_|refine a5 ?_|refine a6 ?_|refine a7 a4 rfl rfl ?_)
 refine aq rfl (fun h => ?_) (fun h => ?_)
 ·have hil : i < l.length := by have := Dz h; simp at this; omega
  obtain ⟨z, hz⟩ : ∃ z, l[i]? = some z := ⟨_, Bg hil⟩
  have hzg := bW (c := c9) hz
  repeat' (first|refine a8 ?_|refine a0 ?_|refine aj ?_|refine ah ?_|refine a5 ?_|refine a6 ?_|refine a7 a4 rfl rfl ?_|(apply aE; first|refine aD a4 ?_|refine aA a4 ?_)|(apply aO; first|refine a9 7 a4 0 rfl rfl rfl rfl rfl rfl rfl rfl ?_|refine a9 7 a4 1 rfl rfl rfl rfl rfl rfl rfl rfl ?_|refine a9 7 a4 2 rfl rfl rfl rfl rfl rfl rfl rfl ?_|refine aa a4 0 rfl rfl rfl rfl rfl rfl rfl ?_|refine aa a4 1 rfl rfl rfl rfl rfl rfl rfl ?_|refine aa a4 2 rfl rfl rfl rfl rfl rfl rfl ?_|refine aa a4 3 rfl rfl rfl rfl rfl rfl rfl ?_|fail)|refine aZ a4 fun _=>?_|fail)
  refine cG L [] (hw i z L hz hj) rfl hu rfl (bz rfl) rfl rfl fun c L1 ⟨hc, hj'⟩ => ?_
  subst hc
  rw [List.append_nil]
  repeat' (first|refine a8 ?_|refine a0 ?_|refine a5 ?_|refine a6 ?_|refine a7 a4 rfl rfl ?_)
  refine aq rfl (fun h2 => ?_) (fun h2 => ?_)
  ·have h2' := Dz h2
   repeat' (first|refine a8 ?_|refine a0 ?_|refine ae ?_|refine a5 ?_|refine an ?_|refine aI ?_|refine bc ?_|refine a6 ?_|refine a7 a4 rfl rfl ?_)
   refine aJ rfl rfl rfl ?_
   rw [he, bY hil h2']
   rfl
  ·have h2' := Decidable.not_not.1 (Dy h2)
   repeat' (first|refine a0 ?_|refine ah ?_|refine a5 ?_|refine aG ?_|refine a6 ?_|refine a7 a4 rfl rfl ?_|(apply aT; refine aS ?_)|fail)
   exact ay (i + 1, L1) rfl ⟨by rw [Dv]; rfl, trivial⟩ ⟨by dsimp only; omega, hj' h2', by rw [he]; exact bP hil h2'⟩ (by dsimp only; omega) (fun _ _ h => h)
 ·have hil : i = l.length := by have := Dy h; simp at this; omega
  subst hil
  repeat' (first|refine a8 ?_|refine a0 ?_|refine ae ?_|refine aM ?_|refine a5 ?_|refine ar ?_|refine aw ?_|refine au ?_|refine a6 ?_|refine a7 a4 rfl rfl ?_)
  refine aJ rfl rfl rfl ?_
  rw [he, Nat.sub_self]
  rfl
theorem z4 {g : FuncId} {caps : List AV} {u : AV} [bi Tryz.prog g] (hu : i5 u = some (g, caps)) (l : List b9) (most : Int) (err : Nat → Int) (J : Nat → AL → Prop) (L0 : AL) (h0 : J 0 L0) (hw : (l.length : Int) ≤ most → ∀ i x L, l[i]? = some x → J i L → AC Tryz.prog g ([az i, .agg (c9 x)] ++ caps) L fun c L' => c = az (err i) ∧ (err i = 0 → J (i + 1) L')) :
  AC Tryz.prog 112 [.iptr [.imm 9 (l.map c9)], .iptr [az most], .iptr [u]] L0 fun r _ => r = bK (cv most err l.length) := by
 refine aB Tryz.func112 rfl Tryz.ntmps112 rfl fun B => ?_
 repeat' (first|refine a8 ?_|refine a0 ?_|refine a5 ?_|refine a6 ?_|refine a7 a4 rfl rfl ?_)
 refine aq rfl (fun h => ?_) (fun h => ?_)
 ·have h' := Dz h
  rw [Du] at h'
  repeat' (first|refine a8 ?_|refine a0 ?_|refine ae ?_|refine a5 ?_|refine an ?_|refine a6 ?_|refine a7 a4 rfl rfl ?_)
  refine aJ rfl rfl rfl ?_
  unfold cv
  rw [if_pos h']
  rfl
 ·have h' := Dy h
  rw [Du] at h'
  repeat' (first|refine a8 ?_|refine a0 ?_|refine ah ?_|refine a5 ?_|refine a7 a4 rfl rfl ?_)
  refine aL L0 [] (yl hu l err J L0 h0 (hw (by omega))) rfl (dW hu) (bz rfl) rfl fun c L1 hc => ?_
  subst hc
  repeat' (first|refine ae ?_|refine a5 ?_|refine a6 ?_|refine a7 a4 rfl rfl ?_)
  refine aJ rfl rfl rfl ?_
  unfold cv
  rw [if_neg h']
  rfl
theorem Cv {g : FuncId} {caps : List AV} (l : List b9) (most : Int) : bk Tryz.prog 50 [.imm 9 (l.map c9), az most, .fn g caps] (.fn 112 [.iptr [.imm 9 (l.map c9)], .iptr [az most], .iptr [.fn g caps]]) := by
 refine aB Tryz.func50 rfl Tryz.ntmps50 rfl fun B => ?_
 repeat' (first|refine a8 ?_|refine a0 ?_|refine ae ?_|refine a5 ?_|refine a6 ?_|refine a7 a4 rfl rfl ?_|refine aY ?_|fail)
 exact am rfl rfl rfl
instance {g : FuncId} {caps : List AV} (l : List b9) (most : Int) : AD Tryz.prog 50 [.imm 9 (l.map c9), az most, .fn g caps] (.fn 112 [.iptr [.imm 9 (l.map c9)], .iptr [az most], .iptr [.fn g caps]]) := ⟨Cv l most⟩
theorem ym {g : FuncId} {caps : List AV} {u : AV} [bi Tryz.prog g] (hu : i5 u = some (g, caps)) (l : List hP) (err : Nat → Int) (J : Nat → AL → Prop) (L0 : AL) (h0 : J 0 L0) (hw : ∀ i x L, l[i]? = some x → J i L → AC Tryz.prog g ([az i, .agg (fc x)] ++ caps) L fun c L' => c = az (err i) ∧ (err i = 0 → J (i + 1) L')) :
  AC Tryz.prog 133 [.imm 2 (l.map fc), u] L0 fun r _ => r = bK (cx err l.length) := by
 refine aB Tryz.func133 rfl Tryz.ntmps133 rfl fun B => ?_
 refine ci 0 rfl rfl fun hlen => ?_
 rw [Du] at hlen
 repeat' (first|refine a8 ?_|refine a0 ?_|refine aj ?_|refine a5 ?_|refine a6 ?_|refine a7 a4 rfl rfl ?_)
 refine aK [1, 9, 10] (α := Nat × AL) (fun i => [(11, az i.1)]) (fun i => i.1 ≤ l.length ∧ J i.1 i.2 ∧ cx err l.length = cy err (l.length - i.1) i.1) (fun i => i.2) (fun i => l.length - i.1) (0, L0) rfl ⟨rfl, trivial⟩ ⟨Nat.zero_le _, h0, rfl⟩ (fun _ _ h => h) ?_
 rintro ⟨i, L⟩ ⟨hi, hj, he⟩
 dsimp only at hi hj he ⊢
 try dsimp only [Ds, Dr, Dq, Dn]
 repeat' (first|refine a8 ?_|refine a0 ?_|refine a5 ?_|refine a6 ?_|refine a7 a4 rfl rfl ?_)
 refine aq rfl (fun h => ?_) (fun h => ?_)
 ·have hil : i < l.length := by have := Dz h; simp at this; omega
  obtain ⟨z, hz⟩ : ∃ z, l[i]? = some z := ⟨_, Bg hil⟩
  have hzg := bW (c := fc) hz
  repeat' (first|refine a8 ?_|refine a0 ?_|refine aj ?_|refine ah ?_|refine a5 ?_|refine a6 ?_|refine a7 a4 rfl rfl ?_|(apply aE; first|refine aD a4 ?_|refine aA a4 ?_)|(apply aO; first|refine a9 7 a4 0 rfl rfl rfl rfl rfl rfl rfl rfl ?_|refine a9 7 a4 1 rfl rfl rfl rfl rfl rfl rfl rfl ?_|refine a9 7 a4 2 rfl rfl rfl rfl rfl rfl rfl rfl ?_|refine aa a4 0 rfl rfl rfl rfl rfl rfl rfl ?_|refine aa a4 1 rfl rfl rfl rfl rfl rfl rfl ?_|refine aa a4 2 rfl rfl rfl rfl rfl rfl rfl ?_|refine aa a4 3 rfl rfl rfl rfl rfl rfl rfl ?_|fail)|refine aZ a4 fun _=>?_|fail)
  refine cG L [] (hw i z L hz hj) rfl hu rfl (bz rfl) rfl rfl fun c L1 ⟨hc, hj'⟩ => ?_
  subst hc
  rw [List.append_nil]
  repeat' (first|refine a8 ?_|refine a0 ?_|refine a5 ?_|refine a6 ?_|refine a7 a4 rfl rfl ?_)
  refine aq rfl (fun h2 => ?_) (fun h2 => ?_)
  ·have h2' := Dz h2
   repeat' (first|refine a8 ?_|refine a0 ?_|refine ae ?_|refine a5 ?_|refine an ?_|refine aI ?_|refine bc ?_|refine a6 ?_|refine a7 a4 rfl rfl ?_)
   refine aJ rfl rfl rfl ?_
   rw [he, bY hil h2']
   rfl
  ·have h2' := Decidable.not_not.1 (Dy h2)
   repeat' (first|refine a0 ?_|refine ah ?_|refine a5 ?_|refine aG ?_|refine a6 ?_|refine a7 a4 rfl rfl ?_|(apply aT; refine aS ?_)|fail)
   exact ay (i + 1, L1) rfl ⟨by rw [Dv]; rfl, trivial⟩ ⟨by dsimp only; omega, hj' h2', by rw [he]; exact bP hil h2'⟩ (by dsimp only; omega) (fun _ _ h => h)
 ·have hil : i = l.length := by have := Dy h; simp at this; omega
  subst hil
  repeat' (first|refine a8 ?_|refine a0 ?_|refine ae ?_|refine aM ?_|refine a5 ?_|refine ar ?_|refine aw ?_|refine au ?_|refine a6 ?_|refine a7 a4 rfl rfl ?_)
  refine aJ rfl rfl rfl ?_
  rw [he, Nat.sub_self]
  rfl
theorem z5 {g : FuncId} {caps : List AV} {u : AV} [bi Tryz.prog g] (hu : i5 u = some (g, caps)) (l : List hP) (most : Int) (err : Nat → Int) (J : Nat → AL → Prop) (L0 : AL) (h0 : J 0 L0) (hw : (l.length : Int) ≤ most → ∀ i x L, l[i]? = some x → J i L → AC Tryz.prog g ([az i, .agg (fc x)] ++ caps) L fun c L' => c = az (err i) ∧ (err i = 0 → J (i + 1) L')) :
  AC Tryz.prog 132 [.iptr [.imm 2 (l.map fc)], .iptr [az most], .iptr [u]] L0 fun r _ => r = bK (cv most err l.length) := by
 refine aB Tryz.func132 rfl Tryz.ntmps132 rfl fun B => ?_
 repeat' (first|refine a8 ?_|refine a0 ?_|refine a5 ?_|refine a6 ?_|refine a7 a4 rfl rfl ?_)
 refine aq rfl (fun h => ?_) (fun h => ?_)
 ·have h' := Dz h
  rw [Du] at h'
  repeat' (first|refine a8 ?_|refine a0 ?_|refine ae ?_|refine a5 ?_|refine an ?_|refine a6 ?_|refine a7 a4 rfl rfl ?_)
  refine aJ rfl rfl rfl ?_
  unfold cv
  rw [if_pos h']
  rfl
 ·have h' := Dy h
  rw [Du] at h'
  repeat' (first|refine a8 ?_|refine a0 ?_|refine ah ?_|refine a5 ?_|refine a7 a4 rfl rfl ?_)
  refine aL L0 [] (ym hu l err J L0 h0 (hw (by omega))) rfl (dW hu) (bz rfl) rfl fun c L1 hc => ?_
  subst hc
  repeat' (first|refine ae ?_|refine a5 ?_|refine a6 ?_|refine a7 a4 rfl rfl ?_)
  refine aJ rfl rfl rfl ?_
  unfold cv
  rw [if_neg h']
  rfl
theorem Cw {g : FuncId} {caps : List AV} (l : List hP) (most : Int) : bk Tryz.prog 57 [.imm 2 (l.map fc), az most, .fn g caps] (.fn 132 [.iptr [.imm 2 (l.map fc)], .iptr [az most], .iptr [.fn g caps]]) := by
 refine aB Tryz.func57 rfl Tryz.ntmps57 rfl fun B => ?_
 repeat' (first|refine a8 ?_|refine a0 ?_|refine ae ?_|refine a5 ?_|refine a6 ?_|refine a7 a4 rfl rfl ?_|refine aY ?_|fail)
 exact am rfl rfl rfl
instance {g : FuncId} {caps : List AV} (l : List hP) (most : Int) : AD Tryz.prog 57 [.imm 2 (l.map fc), az most, .fn g caps] (.fn 132 [.iptr [.imm 2 (l.map fc)], .iptr [az most], .iptr [.fn g caps]]) := ⟨Cw l most⟩
theorem yn {g : FuncId} {caps : List AV} {u : AV} [bi Tryz.prog g] (hu : i5 u = some (g, caps)) (l : List aQ) (err : Nat → Int) (J : Nat → AL → Prop) (L0 : AL) (h0 : J 0 L0) (hw : ∀ i x L, l[i]? = some x → J i L → AC Tryz.prog g ([az i, .agg (bn x)] ++ caps) L fun c L' => c = az (err i) ∧ (err i = 0 → J (i + 1) L')) :
  AC Tryz.prog 135 [.imm 3 (l.map bn), u] L0 fun r _ => r = bK (cx err l.length) := by
 refine aB Tryz.func135 rfl Tryz.ntmps135 rfl fun B => ?_
 refine ci 0 rfl rfl fun hlen => ?_
 rw [Du] at hlen
 repeat' (first|refine a8 ?_|refine a0 ?_|refine aj ?_|refine a5 ?_|refine a6 ?_|refine a7 a4 rfl rfl ?_)
 refine aK [1, 9, 10] (α := Nat × AL) (fun i => [(11, az i.1)]) (fun i => i.1 ≤ l.length ∧ J i.1 i.2 ∧ cx err l.length = cy err (l.length - i.1) i.1) (fun i => i.2) (fun i => l.length - i.1) (0, L0) rfl ⟨rfl, trivial⟩ ⟨Nat.zero_le _, h0, rfl⟩ (fun _ _ h => h) ?_
 rintro ⟨i, L⟩ ⟨hi, hj, he⟩
 dsimp only at hi hj he ⊢
 try dsimp only [Ds, Dr, Dq, Dn]
 repeat' (first|refine a8 ?_|refine a0 ?_|refine a5 ?_|refine a6 ?_|refine a7 a4 rfl rfl ?_)
 refine aq rfl (fun h => ?_) (fun h => ?_)
 ·have hil : i < l.length := by have := Dz h; simp at this; omega
  obtain ⟨z, hz⟩ : ∃ z, l[i]? = some z := ⟨_, Bg hil⟩
  have hzg := bW (c := bn) hz
  repeat' (first|refine a8 ?_|refine a0 ?_|refine aj ?_|refine ah ?_|refine a5 ?_|refine a6 ?_|refine a7 a4 rfl rfl ?_|(apply aE; first|refine aD a4 ?_|refine aA a4 ?_)|(apply aO; first|refine a9 7 a4 0 rfl rfl rfl rfl rfl rfl rfl rfl ?_|refine a9 7 a4 1 rfl rfl rfl rfl rfl rfl rfl rfl ?_|refine a9 7 a4 2 rfl rfl rfl rfl rfl rfl rfl rfl ?_|refine aa a4 0 rfl rfl rfl rfl rfl rfl rfl ?_|refine aa a4 1 rfl rfl rfl rfl rfl rfl rfl ?_|refine aa a4 2 rfl rfl rfl rfl rfl rfl rfl ?_|refine aa a4 3 rfl rfl rfl rfl rfl rfl rfl ?_|fail)|refine aZ a4 fun _=>?_|fail)
  refine cG L [] (hw i z L hz hj) rfl hu rfl (bz rfl) rfl rfl fun c L1 ⟨hc, hj'⟩ => ?_
  subst hc
  rw [List.append_nil]
  repeat' (first|refine a8 ?_|refine a0 ?_|refine a5 ?_|refine a6 ?_|refine a7 a4 rfl rfl ?_)
  refine aq rfl (fun h2 => ?_) (fun h2 => ?_)
  ·have h2' := Dz h2
   repeat' (first|refine a8 ?_|refine a0 ?_|refine ae ?_|refine a5 ?_|refine an ?_|refine aI ?_|refine bc ?_|refine a6 ?_|refine a7 a4 rfl rfl ?_)
   refine aJ rfl rfl rfl ?_
   rw [he, bY hil h2']
   rfl
  ·have h2' := Decidable.not_not.1 (Dy h2)
   repeat' (first|refine a0 ?_|refine ah ?_|refine a5 ?_|refine aG ?_|refine a6 ?_|refine a7 a4 rfl rfl ?_|(apply aT; refine aS ?_)|fail)
   exact ay (i + 1, L1) rfl ⟨by rw [Dv]; rfl, trivial⟩ ⟨by dsimp only; omega, hj' h2', by rw [he]; exact bP hil h2'⟩ (by dsimp only; omega) (fun _ _ h => h)
 ·have hil : i = l.length := by have := Dy h; simp at this; omega
  subst hil
  repeat' (first|refine a8 ?_|refine a0 ?_|refine ae ?_|refine aM ?_|refine a5 ?_|refine ar ?_|refine aw ?_|refine au ?_|refine a6 ?_|refine a7 a4 rfl rfl ?_)
  refine aJ rfl rfl rfl ?_
  rw [he, Nat.sub_self]
  rfl
theorem z6 {g : FuncId} {caps : List AV} {u : AV} [bi Tryz.prog g] (hu : i5 u = some (g, caps)) (l : List aQ) (most : Int) (err : Nat → Int) (J : Nat → AL → Prop) (L0 : AL) (h0 : J 0 L0) (hw : (l.length : Int) ≤ most → ∀ i x L, l[i]? = some x → J i L → AC Tryz.prog g ([az i, .agg (bn x)] ++ caps) L fun c L' => c = az (err i) ∧ (err i = 0 → J (i + 1) L')) :
  AC Tryz.prog 134 [.iptr [.imm 3 (l.map bn)], .iptr [az most], .iptr [u]] L0 fun r _ => r = bK (cv most err l.length) := by
 refine aB Tryz.func134 rfl Tryz.ntmps134 rfl fun B => ?_
 repeat' (first|refine a8 ?_|refine a0 ?_|refine a5 ?_|refine a6 ?_|refine a7 a4 rfl rfl ?_)
 refine aq rfl (fun h => ?_) (fun h => ?_)
 ·have h' := Dz h
  rw [Du] at h'
  repeat' (first|refine a8 ?_|refine a0 ?_|refine ae ?_|refine a5 ?_|refine an ?_|refine a6 ?_|refine a7 a4 rfl rfl ?_)
  refine aJ rfl rfl rfl ?_
  unfold cv
  rw [if_pos h']
  rfl
 ·have h' := Dy h
  rw [Du] at h'
  repeat' (first|refine a8 ?_|refine a0 ?_|refine ah ?_|refine a5 ?_|refine a7 a4 rfl rfl ?_)
  refine aL L0 [] (yn hu l err J L0 h0 (hw (by omega))) rfl (dW hu) (bz rfl) rfl fun c L1 hc => ?_
  subst hc
  repeat' (first|refine ae ?_|refine a5 ?_|refine a6 ?_|refine a7 a4 rfl rfl ?_)
  refine aJ rfl rfl rfl ?_
  unfold cv
  rw [if_neg h']
  rfl
theorem Cx {g : FuncId} {caps : List AV} (l : List aQ) (most : Int) : bk Tryz.prog 60 [.imm 3 (l.map bn), az most, .fn g caps] (.fn 134 [.iptr [.imm 3 (l.map bn)], .iptr [az most], .iptr [.fn g caps]]) := by
 refine aB Tryz.func60 rfl Tryz.ntmps60 rfl fun B => ?_
 repeat' (first|refine a8 ?_|refine a0 ?_|refine ae ?_|refine a5 ?_|refine a6 ?_|refine a7 a4 rfl rfl ?_|refine aY ?_|fail)
 exact am rfl rfl rfl
instance {g : FuncId} {caps : List AV} (l : List aQ) (most : Int) : AD Tryz.prog 60 [.imm 3 (l.map bn), az most, .fn g caps] (.fn 134 [.iptr [.imm 3 (l.map bn)], .iptr [az most], .iptr [.fn g caps]]) := ⟨Cx l most⟩
theorem yo {g : FuncId} {caps : List AV} {u : AV} [bi Tryz.prog g] (hu : i5 u = some (g, caps)) (l : List aU) (err : Nat → Int) (J : Nat → AL → Prop) (L0 : AL) (h0 : J 0 L0) (hw : ∀ i x L, l[i]? = some x → J i L → AC Tryz.prog g ([az i, .agg (bH x)] ++ caps) L fun c L' => c = az (err i) ∧ (err i = 0 → J (i + 1) L')) :
  AC Tryz.prog 139 [.imm 6 (l.map bH), u] L0 fun r _ => r = bK (cx err l.length) := by
 refine aB Tryz.func139 rfl Tryz.ntmps139 rfl fun B => ?_
 refine ci 0 rfl rfl fun hlen => ?_
 rw [Du] at hlen
 repeat' (first|refine a8 ?_|refine a0 ?_|refine aj ?_|refine a5 ?_|refine a6 ?_|refine a7 a4 rfl rfl ?_)
 refine aK [1, 9, 10] (α := Nat × AL) (fun i => [(11, az i.1)]) (fun i => i.1 ≤ l.length ∧ J i.1 i.2 ∧ cx err l.length = cy err (l.length - i.1) i.1) (fun i => i.2) (fun i => l.length - i.1) (0, L0) rfl ⟨rfl, trivial⟩ ⟨Nat.zero_le _, h0, rfl⟩ (fun _ _ h => h) ?_
 rintro ⟨i, L⟩ ⟨hi, hj, he⟩
 dsimp only at hi hj he ⊢
 try dsimp only [Ds, Dr, Dq, Dn]
 repeat' (first|refine a8 ?_|refine a0 ?_|refine a5 ?_|refine a6 ?_|refine a7 a4 rfl rfl ?_)
 refine aq rfl (fun h => ?_) (fun h => ?_)
 ·have hil : i < l.length := by have := Dz h; simp at this; omega
  obtain ⟨z, hz⟩ : ∃ z, l[i]? = some z := ⟨_, Bg hil⟩
  have hzg := bW (c := bH) hz
  repeat' (first|refine a8 ?_|refine a0 ?_|refine aj ?_|refine ah ?_|refine a5 ?_|refine a6 ?_|refine a7 a4 rfl rfl ?_|(apply aE; first|refine aD a4 ?_|refine aA a4 ?_)|(apply aO; first|refine a9 7 a4 0 rfl rfl rfl rfl rfl rfl rfl rfl ?_|refine a9 7 a4 1 rfl rfl rfl rfl rfl rfl rfl rfl ?_|refine a9 7 a4 2 rfl rfl rfl rfl rfl rfl rfl rfl ?_|refine aa a4 0 rfl rfl rfl rfl rfl rfl rfl ?_|refine aa a4 1 rfl rfl rfl rfl rfl rfl rfl ?_|refine aa a4 2 rfl rfl rfl rfl rfl rfl rfl ?_|refine aa a4 3 rfl rfl rfl rfl rfl rfl rfl ?_|fail)|refine aZ a4 fun _=>?_|fail)
  refine cG L [] (hw i z L hz hj) rfl hu rfl (bz rfl) rfl rfl fun c L1 ⟨hc, hj'⟩ => ?_
  subst hc
  rw [List.append_nil]
  repeat' (first|refine a8 ?_|refine a0 ?_|refine a5 ?_|refine a6 ?_|refine a7 a4 rfl rfl ?_)
  refine aq rfl (fun h2 => ?_) (fun h2 => ?_)
  ·have h2' := Dz h2
   repeat' (first|refine a8 ?_|refine a0 ?_|refine ae ?_|refine a5 ?_|refine an ?_|refine aI ?_|refine bc ?_|refine a6 ?_|refine a7 a4 rfl rfl ?_)
   refine aJ rfl rfl rfl ?_
   rw [he, bY hil h2']
   rfl
  ·have h2' := Decidable.not_not.1 (Dy h2)
   repeat' (first|refine a0 ?_|refine ah ?_|refine a5 ?_|refine aG ?_|refine a6 ?_|refine a7 a4 rfl rfl ?_|(apply aT; refine aS ?_)|fail)
   exact ay (i + 1, L1) rfl ⟨by rw [Dv]; rfl, trivial⟩ ⟨by dsimp only; omega, hj' h2', by rw [he]; exact bP hil h2'⟩ (by dsimp only; omega) (fun _ _ h => h)
 ·have hil : i = l.length := by have := Dy h; simp at this; omega
  subst hil
  repeat' (first|refine a8 ?_|refine a0 ?_|refine ae ?_|refine aM ?_|refine a5 ?_|refine ar ?_|refine aw ?_|refine au ?_|refine a6 ?_|refine a7 a4 rfl rfl ?_)
  refine aJ rfl rfl rfl ?_
  rw [he, Nat.sub_self]
  rfl
theorem yp {g : FuncId} {caps : List AV} {u : AV} [bi Tryz.prog g] (hu : i5 u = some (g, caps)) (l : List bO) (err : Nat → Int) (J : Nat → AL → Prop) (L0 : AL) (h0 : J 0 L0) (hw : ∀ i x L, l[i]? = some x → J i L → AC Tryz.prog g ([az i, .agg (cf x)] ++ caps) L fun c L' => c = az (err i) ∧ (err i = 0 → J (i + 1) L')) :
  AC Tryz.prog 143 [.imm 2 (l.map cf), u] L0 fun r _ => r = bK (cx err l.length) := by
 refine aB Tryz.func143 rfl Tryz.ntmps143 rfl fun B => ?_
 refine ci 0 rfl rfl fun hlen => ?_
 rw [Du] at hlen
 repeat' (first|refine a8 ?_|refine a0 ?_|refine aj ?_|refine a5 ?_|refine a6 ?_|refine a7 a4 rfl rfl ?_)
 refine aK [1, 9, 10] (α := Nat × AL) (fun i => [(11, az i.1)]) (fun i => i.1 ≤ l.length ∧ J i.1 i.2 ∧ cx err l.length = cy err (l.length - i.1) i.1) (fun i => i.2) (fun i => l.length - i.1) (0, L0) rfl ⟨rfl, trivial⟩ ⟨Nat.zero_le _, h0, rfl⟩ (fun _ _ h => h) ?_
 rintro ⟨i, L⟩ ⟨hi, hj, he⟩
 dsimp only at hi hj he ⊢
 try dsimp only [Ds, Dr, Dq, Dn]
 repeat' (first|refine a8 ?_|refine a0 ?_|refine a5 ?_|refine a6 ?_|refine a7 a4 rfl rfl ?_)
 refine aq rfl (fun h => ?_) (fun h => ?_)
 ·have hil : i < l.length := by have := Dz h; simp at this; omega
  obtain ⟨z, hz⟩ : ∃ z, l[i]? = some z := ⟨_, Bg hil⟩
  have hzg := bW (c := cf) hz
  repeat' (first|refine a8 ?_|refine a0 ?_|refine aj ?_|refine ah ?_|refine a5 ?_|refine a6 ?_|refine a7 a4 rfl rfl ?_|(apply aE; first|refine aD a4 ?_|refine aA a4 ?_)|(apply aO; first|refine a9 7 a4 0 rfl rfl rfl rfl rfl rfl rfl rfl ?_|refine a9 7 a4 1 rfl rfl rfl rfl rfl rfl rfl rfl ?_|refine a9 7 a4 2 rfl rfl rfl rfl rfl rfl rfl rfl ?_|refine aa a4 0 rfl rfl rfl rfl rfl rfl rfl ?_|refine aa a4 1 rfl rfl rfl rfl rfl rfl rfl ?_|refine aa a4 2 rfl rfl rfl rfl rfl rfl rfl ?_|refine aa a4 3 rfl rfl rfl rfl rfl rfl rfl ?_|fail)|refine aZ a4 fun _=>?_|fail)
  refine cG L [] (hw i z L hz hj) rfl hu rfl (bz rfl) rfl rfl fun c L1 ⟨hc, hj'⟩ => ?_
  subst hc
  rw [List.append_nil]
  repeat' (first|refine a8 ?_|refine a0 ?_|refine a5 ?_|refine a6 ?_|refine a7 a4 rfl rfl ?_)
  refine aq rfl (fun h2 => ?_) (fun h2 => ?_)
  ·have h2' := Dz h2
   repeat' (first|refine a8 ?_|refine a0 ?_|refine ae ?_|refine a5 ?_|refine an ?_|refine aI ?_|refine bc ?_|refine a6 ?_|refine a7 a4 rfl rfl ?_)
   refine aJ rfl rfl rfl ?_
   rw [he, bY hil h2']
   rfl
  ·have h2' := Decidable.not_not.1 (Dy h2)
   repeat' (first|refine a0 ?_|refine ah ?_|refine a5 ?_|refine aG ?_|refine a6 ?_|refine a7 a4 rfl rfl ?_|(apply aT; refine aS ?_)|fail)
   exact ay (i + 1, L1) rfl ⟨by rw [Dv]; rfl, trivial⟩ ⟨by dsimp only; omega, hj' h2', by rw [he]; exact bP hil h2'⟩ (by dsimp only; omega) (fun _ _ h => h)
 ·have hil : i = l.length := by have := Dy h; simp at this; omega
  subst hil
  repeat' (first|refine a8 ?_|refine a0 ?_|refine ae ?_|refine aM ?_|refine a5 ?_|refine ar ?_|refine aw ?_|refine au ?_|refine a6 ?_|refine a7 a4 rfl rfl ?_)
  refine aJ rfl rfl rfl ?_
  rw [he, Nat.sub_self]
  rfl
theorem z7 {g : FuncId} {caps : List AV} {u : AV} [bi Tryz.prog g] (hu : i5 u = some (g, caps)) (l : List bO) (most : Int) (err : Nat → Int) (J : Nat → AL → Prop) (L0 : AL) (h0 : J 0 L0) (hw : (l.length : Int) ≤ most → ∀ i x L, l[i]? = some x → J i L → AC Tryz.prog g ([az i, .agg (cf x)] ++ caps) L fun c L' => c = az (err i) ∧ (err i = 0 → J (i + 1) L')) :
  AC Tryz.prog 142 [.iptr [.imm 2 (l.map cf)], .iptr [az most], .iptr [u]] L0 fun r _ => r = bK (cv most err l.length) := by
 refine aB Tryz.func142 rfl Tryz.ntmps142 rfl fun B => ?_
 repeat' (first|refine a8 ?_|refine a0 ?_|refine a5 ?_|refine a6 ?_|refine a7 a4 rfl rfl ?_)
 refine aq rfl (fun h => ?_) (fun h => ?_)
 ·have h' := Dz h
  rw [Du] at h'
  repeat' (first|refine a8 ?_|refine a0 ?_|refine ae ?_|refine a5 ?_|refine an ?_|refine a6 ?_|refine a7 a4 rfl rfl ?_)
  refine aJ rfl rfl rfl ?_
  unfold cv
  rw [if_pos h']
  rfl
 ·have h' := Dy h
  rw [Du] at h'
  repeat' (first|refine a8 ?_|refine a0 ?_|refine ah ?_|refine a5 ?_|refine a7 a4 rfl rfl ?_)
  refine aL L0 [] (yp hu l err J L0 h0 (hw (by omega))) rfl (dW hu) (bz rfl) rfl fun c L1 hc => ?_
  subst hc
  repeat' (first|refine ae ?_|refine a5 ?_|refine a6 ?_|refine a7 a4 rfl rfl ?_)
  refine aJ rfl rfl rfl ?_
  unfold cv
  rw [if_neg h']
  rfl
theorem Cy {g : FuncId} {caps : List AV} (l : List bO) (most : Int) : bk Tryz.prog 63 [.imm 2 (l.map cf), az most, .fn g caps] (.fn 142 [.iptr [.imm 2 (l.map cf)], .iptr [az most], .iptr [.fn g caps]]) := by
 refine aB Tryz.func63 rfl Tryz.ntmps63 rfl fun B => ?_
 repeat' (first|refine a8 ?_|refine a0 ?_|refine ae ?_|refine a5 ?_|refine a6 ?_|refine a7 a4 rfl rfl ?_|refine aY ?_|fail)
 exact am rfl rfl rfl
instance {g : FuncId} {caps : List AV} (l : List bO) (most : Int) : AD Tryz.prog 63 [.imm 2 (l.map cf), az most, .fn g caps] (.fn 142 [.iptr [.imm 2 (l.map cf)], .iptr [az most], .iptr [.fn g caps]]) := ⟨Cy l most⟩
theorem yq {g : FuncId} {caps : List AV} {u : AV} [bi Tryz.prog g] (hu : i5 u = some (g, caps)) (l : List ee) (err : Nat → Int) (J : Nat → AL → Prop) (L0 : AL) (h0 : J 0 L0) (hw : ∀ i x L, l[i]? = some x → J i L → AC Tryz.prog g ([az i, .agg (eu x)] ++ caps) L fun c L' => c = az (err i) ∧ (err i = 0 → J (i + 1) L')) :
  AC Tryz.prog 146 [.imm 4 (l.map eu), u] L0 fun r _ => r = bK (cx err l.length) := by
 refine aB Tryz.func146 rfl Tryz.ntmps146 rfl fun B => ?_
 refine ci 0 rfl rfl fun hlen => ?_
 rw [Du] at hlen
 repeat' (first|refine a8 ?_|refine a0 ?_|refine aj ?_|refine a5 ?_|refine a6 ?_|refine a7 a4 rfl rfl ?_)
 refine aK [1, 9, 10] (α := Nat × AL) (fun i => [(11, az i.1)]) (fun i => i.1 ≤ l.length ∧ J i.1 i.2 ∧ cx err l.length = cy err (l.length - i.1) i.1) (fun i => i.2) (fun i => l.length - i.1) (0, L0) rfl ⟨rfl, trivial⟩ ⟨Nat.zero_le _, h0, rfl⟩ (fun _ _ h => h) ?_
 rintro ⟨i, L⟩ ⟨hi, hj, he⟩
 dsimp only at hi hj he ⊢
 try dsimp only [Ds, Dr, Dq, Dn]
 repeat' (first|refine a8 ?_|refine a0 ?_|refine a5 ?_|refine a6 ?_|refine a7 a4 rfl rfl ?_)
 refine aq rfl (fun h => ?_) (fun h => ?_)
 ·have hil : i < l.length := by have := Dz h; simp at this; omega
  obtain ⟨z, hz⟩ : ∃ z, l[i]? = some z := ⟨_, Bg hil⟩
  have hzg := bW (c := eu) hz
  repeat' (first|refine a8 ?_|refine a0 ?_|refine aj ?_|refine ah ?_|refine a5 ?_|refine a6 ?_|refine a7 a4 rfl rfl ?_|(apply aE; first|refine aD a4 ?_|refine aA a4 ?_)|(apply aO; first|refine a9 7 a4 0 rfl rfl rfl rfl rfl rfl rfl rfl ?_|refine a9 7 a4 1 rfl rfl rfl rfl rfl rfl rfl rfl ?_|refine a9 7 a4 2 rfl rfl rfl rfl rfl rfl rfl rfl ?_|refine aa a4 0 rfl rfl rfl rfl rfl rfl rfl ?_|refine aa a4 1 rfl rfl rfl rfl rfl rfl rfl ?_|refine aa a4 2 rfl rfl rfl rfl rfl rfl rfl ?_|refine aa a4 3 rfl rfl rfl rfl rfl rfl rfl ?_|fail)|refine aZ a4 fun _=>?_|fail)
  refine cG L [] (hw i z L hz hj) rfl hu rfl (bz rfl) rfl rfl fun c L1 ⟨hc, hj'⟩ => ?_
  subst hc
  rw [List.append_nil]
  repeat' (first|refine a8 ?_|refine a0 ?_|refine a5 ?_|refine a6 ?_|refine a7 a4 rfl rfl ?_)
  refine aq rfl (fun h2 => ?_) (fun h2 => ?_)
  ·have h2' := Dz h2
   repeat' (first|refine a8 ?_|refine a0 ?_|refine ae ?_|refine a5 ?_|refine an ?_|refine aI ?_|refine bc ?_|refine a6 ?_|refine a7 a4 rfl rfl ?_)
   refine aJ rfl rfl rfl ?_
   rw [he, bY hil h2']
   rfl
  ·have h2' := Decidable.not_not.1 (Dy h2)
   repeat' (first|refine a0 ?_|refine ah ?_|refine a5 ?_|refine aG ?_|refine a6 ?_|refine a7 a4 rfl rfl ?_|(apply aT; refine aS ?_)|fail)
   exact ay (i + 1, L1) rfl ⟨by rw [Dv]; rfl, trivial⟩ ⟨by dsimp only; omega, hj' h2', by rw [he]; exact bP hil h2'⟩ (by dsimp only; omega) (fun _ _ h => h)
 ·have hil : i = l.length := by have := Dy h; simp at this; omega
  subst hil
  repeat' (first|refine a8 ?_|refine a0 ?_|refine ae ?_|refine aM ?_|refine a5 ?_|refine ar ?_|refine aw ?_|refine au ?_|refine a6 ?_|refine a7 a4 rfl rfl ?_)
  refine aJ rfl rfl rfl ?_
  rw [he, Nat.sub_self]
  rfl
theorem z8 {g : FuncId} {caps : List AV} {u : AV} [bi Tryz.prog g] (hu : i5 u = some (g, caps)) (l : List ee) (most : Int) (err : Nat → Int) (J : Nat → AL → Prop) (L0 : AL) (h0 : J 0 L0) (hw : (l.length : Int) ≤ most → ∀ i x L, l[i]? = some x → J i L → AC Tryz.prog g ([az i, .agg (eu x)] ++ caps) L fun c L' => c = az (err i) ∧ (err i = 0 → J (i + 1) L')) :
  AC Tryz.prog 145 [.iptr [.imm 4 (l.map eu)], .iptr [az most], .iptr [u]] L0 fun r _ => r = bK (cv most err l.length) := by
 refine aB Tryz.func145 rfl Tryz.ntmps145 rfl fun B => ?_
 repeat' (first|refine a8 ?_|refine a0 ?_|refine a5 ?_|refine a6 ?_|refine a7 a4 rfl rfl ?_)
 refine aq rfl (fun h => ?_) (fun h => ?_)
 ·have h' := Dz h
  rw [Du] at h'
  repeat' (first|refine a8 ?_|refine a0 ?_|refine ae ?_|refine a5 ?_|refine an ?_|refine a6 ?_|refine a7 a4 rfl rfl ?_)
  refine aJ rfl rfl rfl ?_
  unfold cv
  rw [if_pos h']
  rfl
 ·have h' := Dy h
  rw [Du] at h'
  repeat' (first|refine a8 ?_|refine a0 ?_|refine ah ?_|refine a5 ?_|refine a7 a4 rfl rfl ?_)
  refine aL L0 [] (yq hu l err J L0 h0 (hw (by omega))) rfl (dW hu) (bz rfl) rfl fun c L1 hc => ?_
  subst hc
  repeat' (first|refine ae ?_|refine a5 ?_|refine a6 ?_|refine a7 a4 rfl rfl ?_)
  refine aJ rfl rfl rfl ?_
  unfold cv
  rw [if_neg h']
  rfl
theorem BT {g : FuncId} {caps : List AV} (l : List ee) (most : Int) : bk Tryz.prog 67 [.imm 4 (l.map eu), az most, .fn g caps] (.fn 145 [.iptr [.imm 4 (l.map eu)], .iptr [az most], .iptr [.fn g caps]]) := by
 refine aB Tryz.func67 rfl Tryz.ntmps67 rfl fun B => ?_
 repeat' (first|refine a8 ?_|refine a0 ?_|refine ae ?_|refine a5 ?_|refine a6 ?_|refine a7 a4 rfl rfl ?_|refine aY ?_|fail)
 exact am rfl rfl rfl
instance {g : FuncId} {caps : List AV} (l : List ee) (most : Int) : AD Tryz.prog 67 [.imm 4 (l.map eu), az most, .fn g caps] (.fn 145 [.iptr [.imm 4 (l.map eu)], .iptr [az most], .iptr [.fn g caps]]) := ⟨BT l most⟩
theorem yr {g : FuncId} {caps : List AV} {u : AV} [bi Tryz.prog g] (hu : i5 u = some (g, caps)) (l : List (List fw)) (err : Nat → Int) (J : Nat → AL → Prop) (L0 : AL) (h0 : J 0 L0) (hw : ∀ i x L, l[i]? = some x → J i L → AC Tryz.prog g ([az i, .agg (da x)] ++ caps) L fun c L' => c = az (err i) ∧ (err i = 0 → J (i + 1) L')) :
  AC Tryz.prog 148 [.imm 1 (l.map da), u] L0 fun r _ => r = bK (cx err l.length) := by
 refine aB Tryz.func148 rfl Tryz.ntmps148 rfl fun B => ?_
 refine ci 0 rfl rfl fun hlen => ?_
 rw [Du] at hlen
 repeat' (first|refine a8 ?_|refine a0 ?_|refine aj ?_|refine a5 ?_|refine a6 ?_|refine a7 a4 rfl rfl ?_)
 refine aK [1, 9, 10] (α := Nat × AL) (fun i => [(11, az i.1)]) (fun i => i.1 ≤ l.length ∧ J i.1 i.2 ∧ cx err l.length = cy err (l.length - i.1) i.1) (fun i => i.2) (fun i => l.length - i.1) (0, L0) rfl ⟨rfl, trivial⟩ ⟨Nat.zero_le _, h0, rfl⟩ (fun _ _ h => h) ?_
 rintro ⟨i, L⟩ ⟨hi, hj, he⟩
 dsimp only at hi hj he ⊢
 try dsimp only [Ds, Dr, Dq, Dn]
 repeat' (first|refine a8 ?_|refine a0 ?_|refine a5 ?_|refine a6 ?_|refine a7 a4 rfl rfl ?_)
 refine aq rfl (fun h => ?_) (fun h => ?_)
 ·have hil : i < l.length := by have := Dz h; simp at this; omega
  obtain ⟨z, hz⟩ : ∃ z, l[i]? = some z := ⟨_, Bg hil⟩
  have hzg := bW (c := da) hz
  repeat' (first|refine a8 ?_|refine a0 ?_|refine aj ?_|refine ah ?_|refine a5 ?_|refine a6 ?_|refine a7 a4 rfl rfl ?_|(apply aE; first|refine aD a4 ?_|refine aA a4 ?_)|(apply aO; first|refine a9 7 a4 0 rfl rfl rfl rfl rfl rfl rfl rfl ?_|refine a9 7 a4 1 rfl rfl rfl rfl rfl rfl rfl rfl ?_|refine a9 7 a4 2 rfl rfl rfl rfl rfl rfl rfl rfl ?_|refine aa a4 0 rfl rfl rfl rfl rfl rfl rfl ?_|refine aa a4 1 rfl rfl rfl rfl rfl rfl rfl ?_|refine aa a4 2 rfl rfl rfl rfl rfl rfl rfl ?_|refine aa a4 3 rfl rfl rfl rfl rfl rfl rfl ?_|fail)|refine aZ a4 fun _=>?_|fail)
  refine cG L [] (hw i z L hz hj) rfl hu rfl (bz rfl) rfl rfl fun c L1 ⟨hc, hj'⟩ => ?_
  subst hc
  rw [List.append_nil]
  repeat' (first|refine a8 ?_|refine a0 ?_|refine a5 ?_|refine a6 ?_|refine a7 a4 rfl rfl ?_)
  refine aq rfl (fun h2 => ?_) (fun h2 => ?_)
  ·have h2' := Dz h2
   repeat' (first|refine a8 ?_|refine a0 ?_|refine ae ?_|refine a5 ?_|refine an ?_|refine aI ?_|refine bc ?_|refine a6 ?_|refine a7 a4 rfl rfl ?_)
   refine aJ rfl rfl rfl ?_
   rw [he, bY hil h2']
   rfl
  ·have h2' := Decidable.not_not.1 (Dy h2)
   repeat' (first|refine a0 ?_|refine ah ?_|refine a5 ?_|refine aG ?_|refine a6 ?_|refine a7 a4 rfl rfl ?_|(apply aT; refine aS ?_)|fail)
   exact ay (i + 1, L1) rfl ⟨by rw [Dv]; rfl, trivial⟩ ⟨by dsimp only; omega, hj' h2', by rw [he]; exact bP hil h2'⟩ (by dsimp only; omega) (fun _ _ h => h)
 ·have hil : i = l.length := by have := Dy h; simp at this; omega
  subst hil
  repeat' (first|refine a8 ?_|refine a0 ?_|refine ae ?_|refine aM ?_|refine a5 ?_|refine ar ?_|refine aw ?_|refine au ?_|refine a6 ?_|refine a7 a4 rfl rfl ?_)
  refine aJ rfl rfl rfl ?_
  rw [he, Nat.sub_self]
  rfl
theorem z9 {g : FuncId} {caps : List AV} {u : AV} [bi Tryz.prog g] (hu : i5 u = some (g, caps)) (l : List (List fw)) (most : Int) (err : Nat → Int) (J : Nat → AL → Prop) (L0 : AL) (h0 : J 0 L0) (hw : (l.length : Int) ≤ most → ∀ i x L, l[i]? = some x → J i L → AC Tryz.prog g ([az i, .agg (da x)] ++ caps) L fun c L' => c = az (err i) ∧ (err i = 0 → J (i + 1) L')) :
  AC Tryz.prog 147 [.iptr [.imm 1 (l.map da)], .iptr [az most], .iptr [u]] L0 fun r _ => r = bK (cv most err l.length) := by
 refine aB Tryz.func147 rfl Tryz.ntmps147 rfl fun B => ?_
 repeat' (first|refine a8 ?_|refine a0 ?_|refine a5 ?_|refine a6 ?_|refine a7 a4 rfl rfl ?_)
 refine aq rfl (fun h => ?_) (fun h => ?_)
 ·have h' := Dz h
  rw [Du] at h'
  repeat' (first|refine a8 ?_|refine a0 ?_|refine ae ?_|refine a5 ?_|refine an ?_|refine a6 ?_|refine a7 a4 rfl rfl ?_)
  refine aJ rfl rfl rfl ?_
  unfold cv
  rw [if_pos h']
  rfl
 ·have h' := Dy h
  rw [Du] at h'
  repeat' (first|refine a8 ?_|refine a0 ?_|refine ah ?_|refine a5 ?_|refine a7 a4 rfl rfl ?_)
  refine aL L0 [] (yr hu l err J L0 h0 (hw (by omega))) rfl (dW hu) (bz rfl) rfl fun c L1 hc => ?_
  subst hc
  repeat' (first|refine ae ?_|refine a5 ?_|refine a6 ?_|refine a7 a4 rfl rfl ?_)
  refine aJ rfl rfl rfl ?_
  unfold cv
  rw [if_neg h']
  rfl
theorem BU {g : FuncId} {caps : List AV} (l : List (List fw)) (most : Int) : bk Tryz.prog 70 [.imm 1 (l.map da), az most, .fn g caps] (.fn 147 [.iptr [.imm 1 (l.map da)], .iptr [az most], .iptr [.fn g caps]]) := by
 refine aB Tryz.func70 rfl Tryz.ntmps70 rfl fun B => ?_
 repeat' (first|refine a8 ?_|refine a0 ?_|refine ae ?_|refine a5 ?_|refine a6 ?_|refine a7 a4 rfl rfl ?_|refine aY ?_|fail)
 exact am rfl rfl rfl
instance {g : FuncId} {caps : List AV} (l : List (List fw)) (most : Int) : AD Tryz.prog 70 [.imm 1 (l.map da), az most, .fn g caps] (.fn 147 [.iptr [.imm 1 (l.map da)], .iptr [az most], .iptr [.fn g caps]]) := ⟨BU l most⟩
theorem yt {g : FuncId} {caps : List AV} {u : AV} [bi Tryz.prog g] (hu : i5 u = some (g, caps)) (l : List fw) (err : Nat → Int) (J : Nat → AL → Prop) (L0 : AL) (h0 : J 0 L0) (hw : ∀ i x L, l[i]? = some x → J i L → AC Tryz.prog g ([az i, .agg (qm x)] ++ caps) L fun c L' => c = az (err i) ∧ (err i = 0 → J (i + 1) L')) :
  AC Tryz.prog 149 [.imm 3 (l.map qm), u] L0 fun r _ => r = bK (cx err l.length) := by
 refine aB Tryz.func149 rfl Tryz.ntmps149 rfl fun B => ?_
 refine ci 0 rfl rfl fun hlen => ?_
 rw [Du] at hlen
 repeat' (first|refine a8 ?_|refine a0 ?_|refine aj ?_|refine a5 ?_|refine a6 ?_|refine a7 a4 rfl rfl ?_)
 refine aK [1, 9, 10] (α := Nat × AL) (fun i => [(11, az i.1)]) (fun i => i.1 ≤ l.length ∧ J i.1 i.2 ∧ cx err l.length = cy err (l.length - i.1) i.1) (fun i => i.2) (fun i => l.length - i.1) (0, L0) rfl ⟨rfl, trivial⟩ ⟨Nat.zero_le _, h0, rfl⟩ (fun _ _ h => h) ?_
 rintro ⟨i, L⟩ ⟨hi, hj, he⟩
 dsimp only at hi hj he ⊢
 try dsimp only [Ds, Dr, Dq, Dn]
 repeat' (first|refine a8 ?_|refine a0 ?_|refine a5 ?_|refine a6 ?_|refine a7 a4 rfl rfl ?_)
 refine aq rfl (fun h => ?_) (fun h => ?_)
 ·have hil : i < l.length := by have := Dz h; simp at this; omega
  obtain ⟨z, hz⟩ : ∃ z, l[i]? = some z := ⟨_, Bg hil⟩
  have hzg := bW (c := qm) hz
  repeat' (first|refine a8 ?_|refine a0 ?_|refine aj ?_|refine ah ?_|refine a5 ?_|refine a6 ?_|refine a7 a4 rfl rfl ?_|(apply aE; first|refine aD a4 ?_|refine aA a4 ?_)|(apply aO; first|refine a9 7 a4 0 rfl rfl rfl rfl rfl rfl rfl rfl ?_|refine a9 7 a4 1 rfl rfl rfl rfl rfl rfl rfl rfl ?_|refine a9 7 a4 2 rfl rfl rfl rfl rfl rfl rfl rfl ?_|refine aa a4 0 rfl rfl rfl rfl rfl rfl rfl ?_|refine aa a4 1 rfl rfl rfl rfl rfl rfl rfl ?_|refine aa a4 2 rfl rfl rfl rfl rfl rfl rfl ?_|refine aa a4 3 rfl rfl rfl rfl rfl rfl rfl ?_|fail)|refine aZ a4 fun _=>?_|fail)
  refine cG L [] (hw i z L hz hj) rfl hu rfl (bz rfl) rfl rfl fun c L1 ⟨hc, hj'⟩ => ?_
  subst hc
  rw [List.append_nil]
  repeat' (first|refine a8 ?_|refine a0 ?_|refine a5 ?_|refine a6 ?_|refine a7 a4 rfl rfl ?_)
  refine aq rfl (fun h2 => ?_) (fun h2 => ?_)
  ·have h2' := Dz h2
   repeat' (first|refine a8 ?_|refine a0 ?_|refine ae ?_|refine a5 ?_|refine an ?_|refine aI ?_|refine bc ?_|refine a6 ?_|refine a7 a4 rfl rfl ?_)
   refine aJ rfl rfl rfl ?_
   rw [he, bY hil h2']
   rfl
  ·have h2' := Decidable.not_not.1 (Dy h2)
   repeat' (first|refine a0 ?_|refine ah ?_|refine a5 ?_|refine aG ?_|refine a6 ?_|refine a7 a4 rfl rfl ?_|(apply aT; refine aS ?_)|fail)
   exact ay (i + 1, L1) rfl ⟨by rw [Dv]; rfl, trivial⟩ ⟨by dsimp only; omega, hj' h2', by rw [he]; exact bP hil h2'⟩ (by dsimp only; omega) (fun _ _ h => h)
 ·have hil : i = l.length := by have := Dy h; simp at this; omega
  subst hil
  repeat' (first|refine a8 ?_|refine a0 ?_|refine ae ?_|refine aM ?_|refine a5 ?_|refine ar ?_|refine aw ?_|refine au ?_|refine a6 ?_|refine a7 a4 rfl rfl ?_)
  refine aJ rfl rfl rfl ?_
  rw [he, Nat.sub_self]
  rfl
theorem yu {g : FuncId} {caps : List AV} {u : AV} [bi Tryz.prog g] (hu : i5 u = some (g, caps)) (l : List (List gB)) (err : Nat → Int) (J : Nat → AL → Prop) (L0 : AL) (h0 : J 0 L0) (hw : ∀ i x L, l[i]? = some x → J i L → AC Tryz.prog g ([az i, .imm 2 (x.map ip)] ++ caps) L fun c L' => c = az (err i) ∧ (err i = 0 → J (i + 1) L')) :
  AC Tryz.prog 152 [.imm 1 (l.map jU), u] L0 fun r _ => r = bK (cx err l.length) := by
 refine aB Tryz.func152 rfl Tryz.ntmps152 rfl fun B => ?_
 refine ci 0 rfl rfl fun hlen => ?_
 rw [Du] at hlen
 repeat' (first|refine a8 ?_|refine a0 ?_|refine aj ?_|refine a5 ?_|refine a6 ?_|refine a7 a4 rfl rfl ?_)
 refine aK [1, 9, 10] (α := Nat × AL) (fun i => [(11, az i.1)]) (fun i => i.1 ≤ l.length ∧ J i.1 i.2 ∧ cx err l.length = cy err (l.length - i.1) i.1) (fun i => i.2) (fun i => l.length - i.1) (0, L0) rfl ⟨rfl, trivial⟩ ⟨Nat.zero_le _, h0, rfl⟩ (fun _ _ h => h) ?_
 rintro ⟨i, L⟩ ⟨hi, hj, he⟩
 dsimp only at hi hj he ⊢
 try dsimp only [Ds, Dr, Dq, Dn]
 repeat' (first|refine a8 ?_|refine a0 ?_|refine a5 ?_|refine a6 ?_|refine a7 a4 rfl rfl ?_)
 refine aq rfl (fun h => ?_) (fun h => ?_)
 ·have hil : i < l.length := by have := Dz h; simp at this; omega
  obtain ⟨z, hz⟩ : ∃ z, l[i]? = some z := ⟨_, Bg hil⟩
  have hzg := bW (c := jU) hz
  repeat' (first|refine a8 ?_|refine a0 ?_|refine aj ?_|refine ah ?_|refine a5 ?_|refine a6 ?_|refine a7 a4 rfl rfl ?_|(apply aE; first|refine aD a4 ?_|refine aA a4 ?_)|fail)
  refine cG L [] (hw i z L hz hj) rfl hu rfl (bz rfl) rfl rfl fun c L1 ⟨hc, hj'⟩ => ?_
  subst hc
  rw [List.append_nil]
  repeat' (first|refine a8 ?_|refine a0 ?_|refine a5 ?_|refine a6 ?_|refine a7 a4 rfl rfl ?_)
  refine aq rfl (fun h2 => ?_) (fun h2 => ?_)
  ·have h2' := Dz h2
   repeat' (first|refine a8 ?_|refine a0 ?_|refine ae ?_|refine a5 ?_|refine an ?_|refine aI ?_|refine bc ?_|refine a6 ?_|refine a7 a4 rfl rfl ?_)
   refine aJ rfl rfl rfl ?_
   rw [he, bY hil h2']
   rfl
  ·have h2' := Decidable.not_not.1 (Dy h2)
   repeat' (first|refine a0 ?_|refine ah ?_|refine a5 ?_|refine aG ?_|refine a6 ?_|refine a7 a4 rfl rfl ?_|(apply aT; refine aS ?_)|fail)
   exact ay (i + 1, L1) rfl ⟨by rw [Dv]; rfl, trivial⟩ ⟨by dsimp only; omega, hj' h2', by rw [he]; exact bP hil h2'⟩ (by dsimp only; omega) (fun _ _ h => h)
 ·have hil : i = l.length := by have := Dy h; simp at this; omega
  subst hil
  repeat' (first|refine a8 ?_|refine a0 ?_|refine ae ?_|refine aM ?_|refine a5 ?_|refine ar ?_|refine aw ?_|refine au ?_|refine a6 ?_|refine a7 a4 rfl rfl ?_)
  refine aJ rfl rfl rfl ?_
  rw [he, Nat.sub_self]
  rfl
theorem za {g : FuncId} {caps : List AV} {u : AV} [bi Tryz.prog g] (hu : i5 u = some (g, caps)) (l : List (List gB)) (most : Int) (err : Nat → Int) (J : Nat → AL → Prop) (L0 : AL) (h0 : J 0 L0) (hw : (l.length : Int) ≤ most → ∀ i x L, l[i]? = some x → J i L → AC Tryz.prog g ([az i, .imm 2 (x.map ip)] ++ caps) L fun c L' => c = az (err i) ∧ (err i = 0 → J (i + 1) L')) :
  AC Tryz.prog 151 [.iptr [.imm 1 (l.map jU)], .iptr [az most], .iptr [u]] L0 fun r _ => r = bK (cv most err l.length) := by
 refine aB Tryz.func151 rfl Tryz.ntmps151 rfl fun B => ?_
 repeat' (first|refine a8 ?_|refine a0 ?_|refine a5 ?_|refine a6 ?_|refine a7 a4 rfl rfl ?_)
 refine aq rfl (fun h => ?_) (fun h => ?_)
 ·have h' := Dz h
  rw [Du] at h'
  repeat' (first|refine a8 ?_|refine a0 ?_|refine ae ?_|refine a5 ?_|refine an ?_|refine a6 ?_|refine a7 a4 rfl rfl ?_)
  refine aJ rfl rfl rfl ?_
  unfold cv
  rw [if_pos h']
  rfl
 ·have h' := Dy h
  rw [Du] at h'
  repeat' (first|refine a8 ?_|refine a0 ?_|refine ah ?_|refine a5 ?_|refine a7 a4 rfl rfl ?_)
  refine aL L0 [] (yu hu l err J L0 h0 (hw (by omega))) rfl (dW hu) (bz rfl) rfl fun c L1 hc => ?_
  subst hc
  repeat' (first|refine ae ?_|refine a5 ?_|refine a6 ?_|refine a7 a4 rfl rfl ?_)
  refine aJ rfl rfl rfl ?_
  unfold cv
  rw [if_neg h']
  rfl
theorem AK {g : FuncId} (l : List (List gB)) (most : Int) : bk Tryz.prog 73 [.imm 1 (l.map jU), az most, .sc (.func (.func g) #[] #[])] (.fn 151 [.iptr [.imm 1 (l.map jU)], .iptr [az most], .iptr [.sc (.func (.func g) #[] #[])]]) := by
 refine aB Tryz.func73 rfl Tryz.ntmps73 rfl fun B => ?_
 repeat' (first|refine a8 ?_|refine a0 ?_|refine ae ?_|refine a5 ?_|refine a6 ?_|refine a7 a4 rfl rfl ?_|refine aY ?_|fail)
 exact am rfl rfl rfl
instance {g : FuncId} (l : List (List gB)) (most : Int) : AD Tryz.prog 73 [.imm 1 (l.map jU), az most, .sc (.func (.func g) #[] #[])] (.fn 151 [.iptr [.imm 1 (l.map jU)], .iptr [az most], .iptr [.sc (.func (.func g) #[] #[])]]) := ⟨AK l most⟩
theorem yw {g : FuncId} {caps : List AV} {u : AV} [bi Tryz.prog g] (hu : i5 u = some (g, caps)) (l : List ie) (err : Nat → Int) (J : Nat → AL → Prop) (L0 : AL) (h0 : J 0 L0) (hw : ∀ i x L, l[i]? = some x → J i L → AC Tryz.prog g ([az i, .agg (fA x)] ++ caps) L fun c L' => c = az (err i) ∧ (err i = 0 → J (i + 1) L')) :
  AC Tryz.prog 198 [.imm 3 (l.map fA), u] L0 fun r _ => r = bK (cx err l.length) := by
 refine aB Tryz.func198 rfl Tryz.ntmps198 rfl fun B => ?_
 refine ci 0 rfl rfl fun hlen => ?_
 rw [Du] at hlen
 repeat' (first|refine a8 ?_|refine a0 ?_|refine aj ?_|refine a5 ?_|refine a6 ?_|refine a7 a4 rfl rfl ?_)
 refine aK [1, 9, 10] (α := Nat × AL) (fun i => [(11, az i.1)]) (fun i => i.1 ≤ l.length ∧ J i.1 i.2 ∧ cx err l.length = cy err (l.length - i.1) i.1) (fun i => i.2) (fun i => l.length - i.1) (0, L0) rfl ⟨rfl, trivial⟩ ⟨Nat.zero_le _, h0, rfl⟩ (fun _ _ h => h) ?_
 rintro ⟨i, L⟩ ⟨hi, hj, he⟩
 dsimp only at hi hj he ⊢
 try dsimp only [Ds, Dr, Dq, Dn]
 repeat' (first|refine a8 ?_|refine a0 ?_|refine a5 ?_|refine a6 ?_|refine a7 a4 rfl rfl ?_)
 refine aq rfl (fun h => ?_) (fun h => ?_)
 ·have hil : i < l.length := by have := Dz h; simp at this; omega
  obtain ⟨z, hz⟩ : ∃ z, l[i]? = some z := ⟨_, Bg hil⟩
  have hzg := bW (c := fA) hz
  repeat' (first|refine a8 ?_|refine a0 ?_|refine aj ?_|refine ah ?_|refine a5 ?_|refine a6 ?_|refine a7 a4 rfl rfl ?_|(apply aE; first|refine aD a4 ?_|refine aA a4 ?_)|(apply aO; first|refine a9 7 a4 0 rfl rfl rfl rfl rfl rfl rfl rfl ?_|refine a9 7 a4 1 rfl rfl rfl rfl rfl rfl rfl rfl ?_|refine a9 7 a4 2 rfl rfl rfl rfl rfl rfl rfl rfl ?_|refine aa a4 0 rfl rfl rfl rfl rfl rfl rfl ?_|refine aa a4 1 rfl rfl rfl rfl rfl rfl rfl ?_|refine aa a4 2 rfl rfl rfl rfl rfl rfl rfl ?_|refine aa a4 3 rfl rfl rfl rfl rfl rfl rfl ?_|fail)|refine aZ a4 fun _=>?_|fail)
  refine cG L [] (hw i z L hz hj) rfl hu rfl (bz rfl) rfl rfl fun c L1 ⟨hc, hj'⟩ => ?_
  subst hc
  rw [List.append_nil]
  repeat' (first|refine a8 ?_|refine a0 ?_|refine a5 ?_|refine a6 ?_|refine a7 a4 rfl rfl ?_)
  refine aq rfl (fun h2 => ?_) (fun h2 => ?_)
  ·have h2' := Dz h2
   repeat' (first|refine a8 ?_|refine a0 ?_|refine ae ?_|refine a5 ?_|refine an ?_|refine aI ?_|refine bc ?_|refine a6 ?_|refine a7 a4 rfl rfl ?_)
   refine aJ rfl rfl rfl ?_
   rw [he, bY hil h2']
   rfl
  ·have h2' := Decidable.not_not.1 (Dy h2)
   repeat' (first|refine a0 ?_|refine ah ?_|refine a5 ?_|refine aG ?_|refine a6 ?_|refine a7 a4 rfl rfl ?_|(apply aT; refine aS ?_)|fail)
   exact ay (i + 1, L1) rfl ⟨by rw [Dv]; rfl, trivial⟩ ⟨by dsimp only; omega, hj' h2', by rw [he]; exact bP hil h2'⟩ (by dsimp only; omega) (fun _ _ h => h)
 ·have hil : i = l.length := by have := Dy h; simp at this; omega
  subst hil
  repeat' (first|refine a8 ?_|refine a0 ?_|refine ae ?_|refine aM ?_|refine a5 ?_|refine ar ?_|refine aw ?_|refine au ?_|refine a6 ?_|refine a7 a4 rfl rfl ?_)
  refine aJ rfl rfl rfl ?_
  rw [he, Nat.sub_self]
  rfl
theorem yx {g : FuncId} {caps : List AV} {u : AV} [bi Tryz.prog g] (hu : i5 u = some (g, caps)) (l : List cT) (err : Nat → Int) (J : Nat → AL → Prop) (L0 : AL) (h0 : J 0 L0) (hw : ∀ i x L, l[i]? = some x → J i L → AC Tryz.prog g ([az i, .agg (f3 x)] ++ caps) L fun c L' => c = az (err i) ∧ (err i = 0 → J (i + 1) L')) :
  AC Tryz.prog 202 [.imm 3 (l.map f3), u] L0 fun r _ => r = bK (cx err l.length) := by
 refine aB Tryz.func202 rfl Tryz.ntmps202 rfl fun B => ?_
 refine ci 0 rfl rfl fun hlen => ?_
 rw [Du] at hlen
 repeat' (first|refine a8 ?_|refine a0 ?_|refine aj ?_|refine a5 ?_|refine a6 ?_|refine a7 a4 rfl rfl ?_)
 refine aK [1, 9, 10] (α := Nat × AL) (fun i => [(11, az i.1)]) (fun i => i.1 ≤ l.length ∧ J i.1 i.2 ∧ cx err l.length = cy err (l.length - i.1) i.1) (fun i => i.2) (fun i => l.length - i.1) (0, L0) rfl ⟨rfl, trivial⟩ ⟨Nat.zero_le _, h0, rfl⟩ (fun _ _ h => h) ?_
 rintro ⟨i, L⟩ ⟨hi, hj, he⟩
 dsimp only at hi hj he ⊢
 try dsimp only [Ds, Dr, Dq, Dn]
 repeat' (first|refine a8 ?_|refine a0 ?_|refine a5 ?_|refine a6 ?_|refine a7 a4 rfl rfl ?_)
 refine aq rfl (fun h => ?_) (fun h => ?_)
 ·have hil : i < l.length := by have := Dz h; simp at this; omega
  obtain ⟨z, hz⟩ : ∃ z, l[i]? = some z := ⟨_, Bg hil⟩
  have hzg := bW (c := f3) hz
  repeat' (first|refine a8 ?_|refine a0 ?_|refine aj ?_|refine ah ?_|refine a5 ?_|refine a6 ?_|refine a7 a4 rfl rfl ?_|(apply aE; first|refine aD a4 ?_|refine aA a4 ?_)|(apply aO; first|refine a9 7 a4 0 rfl rfl rfl rfl rfl rfl rfl rfl ?_|refine a9 7 a4 1 rfl rfl rfl rfl rfl rfl rfl rfl ?_|refine a9 7 a4 2 rfl rfl rfl rfl rfl rfl rfl rfl ?_|refine aa a4 0 rfl rfl rfl rfl rfl rfl rfl ?_|refine aa a4 1 rfl rfl rfl rfl rfl rfl rfl ?_|refine aa a4 2 rfl rfl rfl rfl rfl rfl rfl ?_|refine aa a4 3 rfl rfl rfl rfl rfl rfl rfl ?_|fail)|refine aZ a4 fun _=>?_|fail)
  refine cG L [] (hw i z L hz hj) rfl hu rfl (bz rfl) rfl rfl fun c L1 ⟨hc, hj'⟩ => ?_
  subst hc
  rw [List.append_nil]
  repeat' (first|refine a8 ?_|refine a0 ?_|refine a5 ?_|refine a6 ?_|refine a7 a4 rfl rfl ?_)
  refine aq rfl (fun h2 => ?_) (fun h2 => ?_)
  ·have h2' := Dz h2
   repeat' (first|refine a8 ?_|refine a0 ?_|refine ae ?_|refine a5 ?_|refine an ?_|refine aI ?_|refine bc ?_|refine a6 ?_|refine a7 a4 rfl rfl ?_)
   refine aJ rfl rfl rfl ?_
   rw [he, bY hil h2']
   rfl
  ·have h2' := Decidable.not_not.1 (Dy h2)
   repeat' (first|refine a0 ?_|refine ah ?_|refine a5 ?_|refine aG ?_|refine a6 ?_|refine a7 a4 rfl rfl ?_|(apply aT; refine aS ?_)|fail)
   exact ay (i + 1, L1) rfl ⟨by rw [Dv]; rfl, trivial⟩ ⟨by dsimp only; omega, hj' h2', by rw [he]; exact bP hil h2'⟩ (by dsimp only; omega) (fun _ _ h => h)
 ·have hil : i = l.length := by have := Dy h; simp at this; omega
  subst hil
  repeat' (first|refine a8 ?_|refine a0 ?_|refine ae ?_|refine aM ?_|refine a5 ?_|refine ar ?_|refine aw ?_|refine au ?_|refine a6 ?_|refine a7 a4 rfl rfl ?_)
  refine aJ rfl rfl rfl ?_
  rw [he, Nat.sub_self]
  rfl
theorem zf {g : FuncId} {caps : List AV} {u : AV} [bi Tryz.prog g] (hu : i5 u = some (g, caps)) (l : List cT) (most : Int) (err : Nat → Int) (J : Nat → AL → Prop) (L0 : AL) (h0 : J 0 L0) (hw : (l.length : Int) ≤ most → ∀ i x L, l[i]? = some x → J i L → AC Tryz.prog g ([az i, .agg (f3 x)] ++ caps) L fun c L' => c = az (err i) ∧ (err i = 0 → J (i + 1) L')) :
  AC Tryz.prog 201 [.iptr [.imm 3 (l.map f3)], .iptr [az most], .iptr [u]] L0 fun r _ => r = bK (cv most err l.length) := by
 refine aB Tryz.func201 rfl Tryz.ntmps201 rfl fun B => ?_
 repeat' (first|refine a8 ?_|refine a0 ?_|refine a5 ?_|refine a6 ?_|refine a7 a4 rfl rfl ?_)
 refine aq rfl (fun h => ?_) (fun h => ?_)
 ·have h' := Dz h
  rw [Du] at h'
  repeat' (first|refine a8 ?_|refine a0 ?_|refine ae ?_|refine a5 ?_|refine an ?_|refine a6 ?_|refine a7 a4 rfl rfl ?_)
  refine aJ rfl rfl rfl ?_
  unfold cv
  rw [if_pos h']
  rfl
 ·have h' := Dy h
  rw [Du] at h'
  repeat' (first|refine a8 ?_|refine a0 ?_|refine ah ?_|refine a5 ?_|refine a7 a4 rfl rfl ?_)
  refine aL L0 [] (yx hu l err J L0 h0 (hw (by omega))) rfl (dW hu) (bz rfl) rfl fun c L1 hc => ?_
  subst hc
  repeat' (first|refine ae ?_|refine a5 ?_|refine a6 ?_|refine a7 a4 rfl rfl ?_)
  refine aJ rfl rfl rfl ?_
  unfold cv
  rw [if_neg h']
  rfl
theorem BV {g : FuncId} {caps : List AV} (l : List cT) (most : Int) : bk Tryz.prog 117 [.imm 3 (l.map f3), az most, .fn g caps] (.fn 201 [.iptr [.imm 3 (l.map f3)], .iptr [az most], .iptr [.fn g caps]]) := by
 refine aB Tryz.func117 rfl Tryz.ntmps117 rfl fun B => ?_
 repeat' (first|refine a8 ?_|refine a0 ?_|refine ae ?_|refine a5 ?_|refine a6 ?_|refine a7 a4 rfl rfl ?_|refine aY ?_|fail)
 exact am rfl rfl rfl
instance {g : FuncId} {caps : List AV} (l : List cT) (most : Int) : AD Tryz.prog 117 [.imm 3 (l.map f3), az most, .fn g caps] (.fn 201 [.iptr [.imm 3 (l.map f3)], .iptr [az most], .iptr [.fn g caps]]) := ⟨BV l most⟩
theorem yz {g : FuncId} {caps : List AV} {u : AV} [bi Tryz.prog g] (hu : i5 u = some (g, caps)) (l : List dw) (err : Nat → Int) (J : Nat → AL → Prop) (L0 : AL) (h0 : J 0 L0) (hw : ∀ i x L, l[i]? = some x → J i L → AC Tryz.prog g ([az i, .agg (dV x)] ++ caps) L fun c L' => c = az (err i) ∧ (err i = 0 → J (i + 1) L')) :
  AC Tryz.prog 204 [.imm 4 (l.map dV), u] L0 fun r _ => r = bK (cx err l.length) := by
 refine aB Tryz.func204 rfl Tryz.ntmps204 rfl fun B => ?_
 refine ci 0 rfl rfl fun hlen => ?_
 rw [Du] at hlen
 repeat' (first|refine a8 ?_|refine a0 ?_|refine aj ?_|refine a5 ?_|refine a6 ?_|refine a7 a4 rfl rfl ?_)
 refine aK [1, 9, 10] (α := Nat × AL) (fun i => [(11, az i.1)]) (fun i => i.1 ≤ l.length ∧ J i.1 i.2 ∧ cx err l.length = cy err (l.length - i.1) i.1) (fun i => i.2) (fun i => l.length - i.1) (0, L0) rfl ⟨rfl, trivial⟩ ⟨Nat.zero_le _, h0, rfl⟩ (fun _ _ h => h) ?_
 rintro ⟨i, L⟩ ⟨hi, hj, he⟩
 dsimp only at hi hj he ⊢
 try dsimp only [Ds, Dr, Dq, Dn]
 repeat' (first|refine a8 ?_|refine a0 ?_|refine a5 ?_|refine a6 ?_|refine a7 a4 rfl rfl ?_)
 refine aq rfl (fun h => ?_) (fun h => ?_)
 ·have hil : i < l.length := by have := Dz h; simp at this; omega
  obtain ⟨z, hz⟩ : ∃ z, l[i]? = some z := ⟨_, Bg hil⟩
  have hzg := bW (c := dV) hz
  repeat' (first|refine a8 ?_|refine a0 ?_|refine aj ?_|refine ah ?_|refine a5 ?_|refine a6 ?_|refine a7 a4 rfl rfl ?_|(apply aE; first|refine aD a4 ?_|refine aA a4 ?_)|(apply aO; first|refine a9 7 a4 0 rfl rfl rfl rfl rfl rfl rfl rfl ?_|refine a9 7 a4 1 rfl rfl rfl rfl rfl rfl rfl rfl ?_|refine a9 7 a4 2 rfl rfl rfl rfl rfl rfl rfl rfl ?_|refine aa a4 0 rfl rfl rfl rfl rfl rfl rfl ?_|refine aa a4 1 rfl rfl rfl rfl rfl rfl rfl ?_|refine aa a4 2 rfl rfl rfl rfl rfl rfl rfl ?_|refine aa a4 3 rfl rfl rfl rfl rfl rfl rfl ?_|fail)|refine aZ a4 fun _=>?_|fail)
  refine cG L [] (hw i z L hz hj) rfl hu rfl (bz rfl) rfl rfl fun c L1 ⟨hc, hj'⟩ => ?_
  subst hc
  rw [List.append_nil]
  repeat' (first|refine a8 ?_|refine a0 ?_|refine a5 ?_|refine a6 ?_|refine a7 a4 rfl rfl ?_)
  refine aq rfl (fun h2 => ?_) (fun h2 => ?_)
  ·have h2' := Dz h2
   repeat' (first|refine a8 ?_|refine a0 ?_|refine ae ?_|refine a5 ?_|refine an ?_|refine aI ?_|refine bc ?_|refine a6 ?_|refine a7 a4 rfl rfl ?_)
   refine aJ rfl rfl rfl ?_
   rw [he, bY hil h2']
   rfl
  ·have h2' := Decidable.not_not.1 (Dy h2)
   repeat' (first|refine a0 ?_|refine ah ?_|refine a5 ?_|refine aG ?_|refine a6 ?_|refine a7 a4 rfl rfl ?_|(apply aT; refine aS ?_)|fail)
   exact ay (i + 1, L1) rfl ⟨by rw [Dv]; rfl, trivial⟩ ⟨by dsimp only; omega, hj' h2', by rw [he]; exact bP hil h2'⟩ (by dsimp only; omega) (fun _ _ h => h)
 ·have hil : i = l.length := by have := Dy h; simp at this; omega
  subst hil
  repeat' (first|refine a8 ?_|refine a0 ?_|refine ae ?_|refine aM ?_|refine a5 ?_|refine ar ?_|refine aw ?_|refine au ?_|refine a6 ?_|refine a7 a4 rfl rfl ?_)
  refine aJ rfl rfl rfl ?_
  rw [he, Nat.sub_self]
  rfl
theorem zg {g : FuncId} {caps : List AV} {u : AV} [bi Tryz.prog g] (hu : i5 u = some (g, caps)) (l : List dw) (most : Int) (err : Nat → Int) (J : Nat → AL → Prop) (L0 : AL) (h0 : J 0 L0) (hw : (l.length : Int) ≤ most → ∀ i x L, l[i]? = some x → J i L → AC Tryz.prog g ([az i, .agg (dV x)] ++ caps) L fun c L' => c = az (err i) ∧ (err i = 0 → J (i + 1) L')) :
  AC Tryz.prog 203 [.iptr [.imm 4 (l.map dV)], .iptr [az most], .iptr [u]] L0 fun r _ => r = bK (cv most err l.length) := by
 refine aB Tryz.func203 rfl Tryz.ntmps203 rfl fun B => ?_
 repeat' (first|refine a8 ?_|refine a0 ?_|refine a5 ?_|refine a6 ?_|refine a7 a4 rfl rfl ?_)
 refine aq rfl (fun h => ?_) (fun h => ?_)
 ·have h' := Dz h
  rw [Du] at h'
  repeat' (first|refine a8 ?_|refine a0 ?_|refine ae ?_|refine a5 ?_|refine an ?_|refine a6 ?_|refine a7 a4 rfl rfl ?_)
  refine aJ rfl rfl rfl ?_
  unfold cv
  rw [if_pos h']
  rfl
 ·have h' := Dy h
  rw [Du] at h'
  repeat' (first|refine a8 ?_|refine a0 ?_|refine ah ?_|refine a5 ?_|refine a7 a4 rfl rfl ?_)
  refine aL L0 [] (yz hu l err J L0 h0 (hw (by omega))) rfl (dW hu) (bz rfl) rfl fun c L1 hc => ?_
  subst hc
  repeat' (first|refine ae ?_|refine a5 ?_|refine a6 ?_|refine a7 a4 rfl rfl ?_)
  refine aJ rfl rfl rfl ?_
  unfold cv
  rw [if_neg h']
  rfl
theorem BW {g : FuncId} {caps : List AV} (l : List dw) (most : Int) : bk Tryz.prog 120 [.imm 4 (l.map dV), az most, .fn g caps] (.fn 203 [.iptr [.imm 4 (l.map dV)], .iptr [az most], .iptr [.fn g caps]]) := by
 refine aB Tryz.func120 rfl Tryz.ntmps120 rfl fun B => ?_
 repeat' (first|refine a8 ?_|refine a0 ?_|refine ae ?_|refine a5 ?_|refine a6 ?_|refine a7 a4 rfl rfl ?_|refine aY ?_|fail)
 exact am rfl rfl rfl
instance {g : FuncId} {caps : List AV} (l : List dw) (most : Int) : AD Tryz.prog 120 [.imm 4 (l.map dV), az most, .fn g caps] (.fn 203 [.iptr [.imm 4 (l.map dV)], .iptr [az most], .iptr [.fn g caps]]) := ⟨BW l most⟩
theorem yA {g : FuncId} {caps : List AV} {u : AV} [bi Tryz.prog g] (hu : i5 u = some (g, caps)) (l : List f6) (err : Nat → Int) (J : Nat → AL → Prop) (L0 : AL) (h0 : J 0 L0) (hw : ∀ i x L, l[i]? = some x → J i L → AC Tryz.prog g ([az i, .agg (f8 x)] ++ caps) L fun c L' => c = az (err i) ∧ (err i = 0 → J (i + 1) L')) :
  AC Tryz.prog 207 [.imm 4 (l.map f8), u] L0 fun r _ => r = bK (cx err l.length) := by
 refine aB Tryz.func207 rfl Tryz.ntmps207 rfl fun B => ?_
 refine ci 0 rfl rfl fun hlen => ?_
 rw [Du] at hlen
 repeat' (first|refine a8 ?_|refine a0 ?_|refine aj ?_|refine a5 ?_|refine a6 ?_|refine a7 a4 rfl rfl ?_)
 refine aK [1, 9, 10] (α := Nat × AL) (fun i => [(11, az i.1)]) (fun i => i.1 ≤ l.length ∧ J i.1 i.2 ∧ cx err l.length = cy err (l.length - i.1) i.1) (fun i => i.2) (fun i => l.length - i.1) (0, L0) rfl ⟨rfl, trivial⟩ ⟨Nat.zero_le _, h0, rfl⟩ (fun _ _ h => h) ?_
 rintro ⟨i, L⟩ ⟨hi, hj, he⟩
 dsimp only at hi hj he ⊢
 try dsimp only [Ds, Dr, Dq, Dn]
 repeat' (first|refine a8 ?_|refine a0 ?_|refine a5 ?_|refine a6 ?_|refine a7 a4 rfl rfl ?_)
 refine aq rfl (fun h => ?_) (fun h => ?_)
 ·have hil : i < l.length := by have := Dz h; simp at this; omega
  obtain ⟨z, hz⟩ : ∃ z, l[i]? = some z := ⟨_, Bg hil⟩
  have hzg := bW (c := f8) hz
  repeat' (first|refine a8 ?_|refine a0 ?_|refine aj ?_|refine ah ?_|refine a5 ?_|refine a6 ?_|refine a7 a4 rfl rfl ?_|(apply aE; first|refine aD a4 ?_|refine aA a4 ?_)|(apply aO; first|refine a9 7 a4 0 rfl rfl rfl rfl rfl rfl rfl rfl ?_|refine a9 7 a4 1 rfl rfl rfl rfl rfl rfl rfl rfl ?_|refine a9 7 a4 2 rfl rfl rfl rfl rfl rfl rfl rfl ?_|refine aa a4 0 rfl rfl rfl rfl rfl rfl rfl ?_|refine aa a4 1 rfl rfl rfl rfl rfl rfl rfl ?_|refine aa a4 2 rfl rfl rfl rfl rfl rfl rfl ?_|refine aa a4 3 rfl rfl rfl rfl rfl rfl rfl ?_|fail)|refine aZ a4 fun _=>?_|fail)
  refine cG L [] (hw i z L hz hj) rfl hu rfl (bz rfl) rfl rfl fun c L1 ⟨hc, hj'⟩ => ?_
  subst hc
  rw [List.append_nil]
  repeat' (first|refine a8 ?_|refine a0 ?_|refine a5 ?_|refine a6 ?_|refine a7 a4 rfl rfl ?_)
  refine aq rfl (fun h2 => ?_) (fun h2 => ?_)
  ·have h2' := Dz h2
   repeat' (first|refine a8 ?_|refine a0 ?_|refine ae ?_|refine a5 ?_|refine an ?_|refine aI ?_|refine bc ?_|refine a6 ?_|refine a7 a4 rfl rfl ?_)
   refine aJ rfl rfl rfl ?_
   rw [he, bY hil h2']
   rfl
  ·have h2' := Decidable.not_not.1 (Dy h2)
   repeat' (first|refine a0 ?_|refine ah ?_|refine a5 ?_|refine aG ?_|refine a6 ?_|refine a7 a4 rfl rfl ?_|(apply aT; refine aS ?_)|fail)
   exact ay (i + 1, L1) rfl ⟨by rw [Dv]; rfl, trivial⟩ ⟨by dsimp only; omega, hj' h2', by rw [he]; exact bP hil h2'⟩ (by dsimp only; omega) (fun _ _ h => h)
 ·have hil : i = l.length := by have := Dy h; simp at this; omega
  subst hil
  repeat' (first|refine a8 ?_|refine a0 ?_|refine ae ?_|refine aM ?_|refine a5 ?_|refine ar ?_|refine aw ?_|refine au ?_|refine a6 ?_|refine a7 a4 rfl rfl ?_)
  refine aJ rfl rfl rfl ?_
  rw [he, Nat.sub_self]
  rfl
theorem zh {g : FuncId} {caps : List AV} {u : AV} [bi Tryz.prog g] (hu : i5 u = some (g, caps)) (l : List f6) (most : Int) (err : Nat → Int) (J : Nat → AL → Prop) (L0 : AL) (h0 : J 0 L0) (hw : (l.length : Int) ≤ most → ∀ i x L, l[i]? = some x → J i L → AC Tryz.prog g ([az i, .agg (f8 x)] ++ caps) L fun c L' => c = az (err i) ∧ (err i = 0 → J (i + 1) L')) :
  AC Tryz.prog 206 [.iptr [.imm 4 (l.map f8)], .iptr [az most], .iptr [u]] L0 fun r _ => r = bK (cv most err l.length) := by
 refine aB Tryz.func206 rfl Tryz.ntmps206 rfl fun B => ?_
 repeat' (first|refine a8 ?_|refine a0 ?_|refine a5 ?_|refine a6 ?_|refine a7 a4 rfl rfl ?_)
 refine aq rfl (fun h => ?_) (fun h => ?_)
 ·have h' := Dz h
  rw [Du] at h'
  repeat' (first|refine a8 ?_|refine a0 ?_|refine ae ?_|refine a5 ?_|refine an ?_|refine a6 ?_|refine a7 a4 rfl rfl ?_)
  refine aJ rfl rfl rfl ?_
  unfold cv
  rw [if_pos h']
  rfl
 ·have h' := Dy h
  rw [Du] at h'
  repeat' (first|refine a8 ?_|refine a0 ?_|refine ah ?_|refine a5 ?_|refine a7 a4 rfl rfl ?_)
  refine aL L0 [] (yA hu l err J L0 h0 (hw (by omega))) rfl (dW hu) (bz rfl) rfl fun c L1 hc => ?_
  subst hc
  repeat' (first|refine ae ?_|refine a5 ?_|refine a6 ?_|refine a7 a4 rfl rfl ?_)
  refine aJ rfl rfl rfl ?_
  unfold cv
  rw [if_neg h']
  rfl
theorem BX {g : FuncId} {caps : List AV} (l : List f6) (most : Int) : bk Tryz.prog 122 [.imm 4 (l.map f8), az most, .fn g caps] (.fn 206 [.iptr [.imm 4 (l.map f8)], .iptr [az most], .iptr [.fn g caps]]) := by
 refine aB Tryz.func122 rfl Tryz.ntmps122 rfl fun B => ?_
 repeat' (first|refine a8 ?_|refine a0 ?_|refine ae ?_|refine a5 ?_|refine a6 ?_|refine a7 a4 rfl rfl ?_|refine aY ?_|fail)
 exact am rfl rfl rfl
instance {g : FuncId} {caps : List AV} (l : List f6) (most : Int) : AD Tryz.prog 122 [.imm 4 (l.map f8), az most, .fn g caps] (.fn 206 [.iptr [.imm 4 (l.map f8)], .iptr [az most], .iptr [.fn g caps]]) := ⟨BX l most⟩
theorem yB {g : FuncId} {caps : List AV} {u : AV} [bi Tryz.prog g] (hu : i5 u = some (g, caps)) (l : List (List Int)) (err : Nat → Int) (J : Nat → AL → Prop) (L0 : AL) (h0 : J 0 L0) (hw : ∀ i x L, l[i]? = some x → J i L → AC Tryz.prog g ([az i, .imm 1 (aR x)] ++ caps) L fun c L' => c = az (err i) ∧ (err i = 0 → J (i + 1) L')) :
  AC Tryz.prog 215 [.imm 1 (l.map BF), u] L0 fun r _ => r = bK (cx err l.length) := by
 refine aB Tryz.func215 rfl Tryz.ntmps215 rfl fun B => ?_
 refine ci 0 rfl rfl fun hlen => ?_
 rw [Du] at hlen
 repeat' (first|refine a8 ?_|refine a0 ?_|refine aj ?_|refine a5 ?_|refine a6 ?_|refine a7 a4 rfl rfl ?_)
 refine aK [1, 9, 10] (α := Nat × AL) (fun i => [(11, az i.1)]) (fun i => i.1 ≤ l.length ∧ J i.1 i.2 ∧ cx err l.length = cy err (l.length - i.1) i.1) (fun i => i.2) (fun i => l.length - i.1) (0, L0) rfl ⟨rfl, trivial⟩ ⟨Nat.zero_le _, h0, rfl⟩ (fun _ _ h => h) ?_
 rintro ⟨i, L⟩ ⟨hi, hj, he⟩
 dsimp only at hi hj he ⊢
 try dsimp only [Ds, Dr, Dq, Dn]
 repeat' (first|refine a8 ?_|refine a0 ?_|refine a5 ?_|refine a6 ?_|refine a7 a4 rfl rfl ?_)
 refine aq rfl (fun h => ?_) (fun h => ?_)
 ·have hil : i < l.length := by have := Dz h; simp at this; omega
  obtain ⟨z, hz⟩ : ∃ z, l[i]? = some z := ⟨_, Bg hil⟩
  have hzg := bW (c := BF) hz
  repeat' (first|refine a8 ?_|refine a0 ?_|refine aj ?_|refine ah ?_|refine a5 ?_|refine a6 ?_|refine a7 a4 rfl rfl ?_|(apply aE; first|refine aD a4 ?_|refine aA a4 ?_)|fail)
  refine cG L [] (hw i z L hz hj) rfl hu rfl (bz rfl) rfl rfl fun c L1 ⟨hc, hj'⟩ => ?_
  subst hc
  rw [List.append_nil]
  repeat' (first|refine a8 ?_|refine a0 ?_|refine a5 ?_|refine a6 ?_|refine a7 a4 rfl rfl ?_)
  refine aq rfl (fun h2 => ?_) (fun h2 => ?_)
  ·have h2' := Dz h2
   repeat' (first|refine a8 ?_|refine a0 ?_|refine ae ?_|refine a5 ?_|refine an ?_|refine aI ?_|refine bc ?_|refine a6 ?_|refine a7 a4 rfl rfl ?_)
   refine aJ rfl rfl rfl ?_
   rw [he, bY hil h2']
   rfl
  ·have h2' := Decidable.not_not.1 (Dy h2)
   repeat' (first|refine a0 ?_|refine ah ?_|refine a5 ?_|refine aG ?_|refine a6 ?_|refine a7 a4 rfl rfl ?_|(apply aT; refine aS ?_)|fail)
   exact ay (i + 1, L1) rfl ⟨by rw [Dv]; rfl, trivial⟩ ⟨by dsimp only; omega, hj' h2', by rw [he]; exact bP hil h2'⟩ (by dsimp only; omega) (fun _ _ h => h)
 ·have hil : i = l.length := by have := Dy h; simp at this; omega
  subst hil
  repeat' (first|refine a8 ?_|refine a0 ?_|refine ae ?_|refine aM ?_|refine a5 ?_|refine ar ?_|refine aw ?_|refine au ?_|refine a6 ?_|refine a7 a4 rfl rfl ?_)
  refine aJ rfl rfl rfl ?_
  rw [he, Nat.sub_self]
  rfl
theorem yC {g : FuncId} {caps : List AV} {u : AV} [bi Tryz.prog g] (hu : i5 u = some (g, caps)) (l : List gB) (err : Nat → Int) (J : Nat → AL → Prop) (L0 : AL) (h0 : J 0 L0) (hw : ∀ i x L, l[i]? = some x → J i L → AC Tryz.prog g ([az i, .agg (ip x)] ++ caps) L fun c L' => c = az (err i) ∧ (err i = 0 → J (i + 1) L')) :
  AC Tryz.prog 228 [.imm 2 (l.map ip), u] L0 fun r _ => r = bK (cx err l.length) := by
 refine aB Tryz.func228 rfl Tryz.ntmps228 rfl fun B => ?_
 refine ci 0 rfl rfl fun hlen => ?_
 rw [Du] at hlen
 repeat' (first|refine a8 ?_|refine a0 ?_|refine aj ?_|refine a5 ?_|refine a6 ?_|refine a7 a4 rfl rfl ?_)
 refine aK [1, 9, 10] (α := Nat × AL) (fun i => [(11, az i.1)]) (fun i => i.1 ≤ l.length ∧ J i.1 i.2 ∧ cx err l.length = cy err (l.length - i.1) i.1) (fun i => i.2) (fun i => l.length - i.1) (0, L0) rfl ⟨rfl, trivial⟩ ⟨Nat.zero_le _, h0, rfl⟩ (fun _ _ h => h) ?_
 rintro ⟨i, L⟩ ⟨hi, hj, he⟩
 dsimp only at hi hj he ⊢
 try dsimp only [Ds, Dr, Dq, Dn]
 repeat' (first|refine a8 ?_|refine a0 ?_|refine a5 ?_|refine a6 ?_|refine a7 a4 rfl rfl ?_)
 refine aq rfl (fun h => ?_) (fun h => ?_)
 ·have hil : i < l.length := by have := Dz h; simp at this; omega
  obtain ⟨z, hz⟩ : ∃ z, l[i]? = some z := ⟨_, Bg hil⟩
  have hzg := bW (c := ip) hz
  repeat' (first|refine a8 ?_|refine a0 ?_|refine aj ?_|refine ah ?_|refine a5 ?_|refine a6 ?_|refine a7 a4 rfl rfl ?_|(apply aE; first|refine aD a4 ?_|refine aA a4 ?_)|(apply aO; first|refine a9 7 a4 0 rfl rfl rfl rfl rfl rfl rfl rfl ?_|refine a9 7 a4 1 rfl rfl rfl rfl rfl rfl rfl rfl ?_|refine a9 7 a4 2 rfl rfl rfl rfl rfl rfl rfl rfl ?_|refine aa a4 0 rfl rfl rfl rfl rfl rfl rfl ?_|refine aa a4 1 rfl rfl rfl rfl rfl rfl rfl ?_|refine aa a4 2 rfl rfl rfl rfl rfl rfl rfl ?_|refine aa a4 3 rfl rfl rfl rfl rfl rfl rfl ?_|fail)|refine aZ a4 fun _=>?_|fail)
  refine cG L [] (hw i z L hz hj) rfl hu rfl (bz rfl) rfl rfl fun c L1 ⟨hc, hj'⟩ => ?_
  subst hc
  rw [List.append_nil]
  repeat' (first|refine a8 ?_|refine a0 ?_|refine a5 ?_|refine a6 ?_|refine a7 a4 rfl rfl ?_)
  refine aq rfl (fun h2 => ?_) (fun h2 => ?_)
  ·have h2' := Dz h2
   repeat' (first|refine a8 ?_|refine a0 ?_|refine ae ?_|refine a5 ?_|refine an ?_|refine aI ?_|refine bc ?_|refine a6 ?_|refine a7 a4 rfl rfl ?_)
   refine aJ rfl rfl rfl ?_
   rw [he, bY hil h2']
   rfl
  ·have h2' := Decidable.not_not.1 (Dy h2)
   repeat' (first|refine a0 ?_|refine ah ?_|refine a5 ?_|refine aG ?_|refine a6 ?_|refine a7 a4 rfl rfl ?_|(apply aT; refine aS ?_)|fail)
   exact ay (i + 1, L1) rfl ⟨by rw [Dv]; rfl, trivial⟩ ⟨by dsimp only; omega, hj' h2', by rw [he]; exact bP hil h2'⟩ (by dsimp only; omega) (fun _ _ h => h)
 ·have hil : i = l.length := by have := Dy h; simp at this; omega
  subst hil
  repeat' (first|refine a8 ?_|refine a0 ?_|refine ae ?_|refine aM ?_|refine a5 ?_|refine ar ?_|refine aw ?_|refine au ?_|refine a6 ?_|refine a7 a4 rfl rfl ?_)
  refine aJ rfl rfl rfl ?_
  rw [he, Nat.sub_self]
  rfl
theorem zi {g : FuncId} {caps : List AV} {u : AV} [bi Tryz.prog g] (hu : i5 u = some (g, caps)) (l : List gB) (most : Int) (err : Nat → Int) (J : Nat → AL → Prop) (L0 : AL) (h0 : J 0 L0) (hw : (l.length : Int) ≤ most → ∀ i x L, l[i]? = some x → J i L → AC Tryz.prog g ([az i, .agg (ip x)] ++ caps) L fun c L' => c = az (err i) ∧ (err i = 0 → J (i + 1) L')) :
  AC Tryz.prog 227 [.iptr [.imm 2 (l.map ip)], .iptr [az most], .iptr [u]] L0 fun r _ => r = bK (cv most err l.length) := by
 refine aB Tryz.func227 rfl Tryz.ntmps227 rfl fun B => ?_
 repeat' (first|refine a8 ?_|refine a0 ?_|refine a5 ?_|refine a6 ?_|refine a7 a4 rfl rfl ?_)
 refine aq rfl (fun h => ?_) (fun h => ?_)
 ·have h' := Dz h
  rw [Du] at h'
  repeat' (first|refine a8 ?_|refine a0 ?_|refine ae ?_|refine a5 ?_|refine an ?_|refine a6 ?_|refine a7 a4 rfl rfl ?_)
  refine aJ rfl rfl rfl ?_
  unfold cv
  rw [if_pos h']
  rfl
 ·have h' := Dy h
  rw [Du] at h'
  repeat' (first|refine a8 ?_|refine a0 ?_|refine ah ?_|refine a5 ?_|refine a7 a4 rfl rfl ?_)
  refine aL L0 [] (yC hu l err J L0 h0 (hw (by omega))) rfl (dW hu) (bz rfl) rfl fun c L1 hc => ?_
  subst hc
  repeat' (first|refine ae ?_|refine a5 ?_|refine a6 ?_|refine a7 a4 rfl rfl ?_)
  refine aJ rfl rfl rfl ?_
  unfold cv
  rw [if_neg h']
  rfl
theorem AN {g : FuncId} (l : List gB) (most : Int) : bk Tryz.prog 153 [.imm 2 (l.map ip), az most, .sc (.func (.func g) #[] #[])] (.fn 227 [.iptr [.imm 2 (l.map ip)], .iptr [az most], .iptr [.sc (.func (.func g) #[] #[])]]) := by
 refine aB Tryz.func153 rfl Tryz.ntmps153 rfl fun B => ?_
 repeat' (first|refine a8 ?_|refine a0 ?_|refine ae ?_|refine a5 ?_|refine a6 ?_|refine a7 a4 rfl rfl ?_|refine aY ?_|fail)
 exact am rfl rfl rfl
instance {g : FuncId} (l : List gB) (most : Int) : AD Tryz.prog 153 [.imm 2 (l.map ip), az most, .sc (.func (.func g) #[] #[])] (.fn 227 [.iptr [.imm 2 (l.map ip)], .iptr [az most], .iptr [.sc (.func (.func g) #[] #[])]]) := ⟨AN l most⟩
theorem yD {g : FuncId} {caps : List AV} {u : AV} [bi Tryz.prog g] (hu : i5 u = some (g, caps)) (l : List ic) (err : Nat → Int) (J : Nat → AL → Prop) (L0 : AL) (h0 : J 0 L0) (hw : ∀ i x L, l[i]? = some x → J i L → AC Tryz.prog g ([az i, .agg (fb x)] ++ caps) L fun c L' => c = az (err i) ∧ (err i = 0 → J (i + 1) L')) :
  AC Tryz.prog 272 [.imm 2 (l.map fb), u] L0 fun r _ => r = bK (cx err l.length) := by
 refine aB Tryz.func272 rfl Tryz.ntmps272 rfl fun B => ?_
 refine ci 0 rfl rfl fun hlen => ?_
 rw [Du] at hlen
 repeat' (first|refine a8 ?_|refine a0 ?_|refine aj ?_|refine a5 ?_|refine a6 ?_|refine a7 a4 rfl rfl ?_)
 refine aK [1, 9, 10] (α := Nat × AL) (fun i => [(11, az i.1)]) (fun i => i.1 ≤ l.length ∧ J i.1 i.2 ∧ cx err l.length = cy err (l.length - i.1) i.1) (fun i => i.2) (fun i => l.length - i.1) (0, L0) rfl ⟨rfl, trivial⟩ ⟨Nat.zero_le _, h0, rfl⟩ (fun _ _ h => h) ?_
 rintro ⟨i, L⟩ ⟨hi, hj, he⟩
 dsimp only at hi hj he ⊢
 try dsimp only [Ds, Dr, Dq, Dn]
 repeat' (first|refine a8 ?_|refine a0 ?_|refine a5 ?_|refine a6 ?_|refine a7 a4 rfl rfl ?_)
 refine aq rfl (fun h => ?_) (fun h => ?_)
 ·have hil : i < l.length := by have := Dz h; simp at this; omega
  obtain ⟨z, hz⟩ : ∃ z, l[i]? = some z := ⟨_, Bg hil⟩
  have hzg := bW (c := fb) hz
  repeat' (first|refine a8 ?_|refine a0 ?_|refine aj ?_|refine ah ?_|refine a5 ?_|refine a6 ?_|refine a7 a4 rfl rfl ?_|(apply aE; first|refine aD a4 ?_|refine aA a4 ?_)|(apply aO; first|refine a9 7 a4 0 rfl rfl rfl rfl rfl rfl rfl rfl ?_|refine a9 7 a4 1 rfl rfl rfl rfl rfl rfl rfl rfl ?_|refine a9 7 a4 2 rfl rfl rfl rfl rfl rfl rfl rfl ?_|refine aa a4 0 rfl rfl rfl rfl rfl rfl rfl ?_|refine aa a4 1 rfl rfl rfl rfl rfl rfl rfl ?_|refine aa a4 2 rfl rfl rfl rfl rfl rfl rfl ?_|refine aa a4 3 rfl rfl rfl rfl rfl rfl rfl ?_|fail)|refine aZ a4 fun _=>?_|fail)
  refine cG L [] (hw i z L hz hj) rfl hu rfl (bz rfl) rfl rfl fun c L1 ⟨hc, hj'⟩ => ?_
  subst hc
  rw [List.append_nil]
  repeat' (first|refine a8 ?_|refine a0 ?_|refine a5 ?_|refine a6 ?_|refine a7 a4 rfl rfl ?_)
  refine aq rfl (fun h2 => ?_) (fun h2 => ?_)
  ·have h2' := Dz h2
   repeat' (first|refine a8 ?_|refine a0 ?_|refine ae ?_|refine a5 ?_|refine an ?_|refine aI ?_|refine bc ?_|refine a6 ?_|refine a7 a4 rfl rfl ?_)
   refine aJ rfl rfl rfl ?_
   rw [he, bY hil h2']
   rfl
  ·have h2' := Decidable.not_not.1 (Dy h2)
   repeat' (first|refine a0 ?_|refine ah ?_|refine a5 ?_|refine aG ?_|refine a6 ?_|refine a7 a4 rfl rfl ?_|(apply aT; refine aS ?_)|fail)
   exact ay (i + 1, L1) rfl ⟨by rw [Dv]; rfl, trivial⟩ ⟨by dsimp only; omega, hj' h2', by rw [he]; exact bP hil h2'⟩ (by dsimp only; omega) (fun _ _ h => h)
 ·have hil : i = l.length := by have := Dy h; simp at this; omega
  subst hil
  repeat' (first|refine a8 ?_|refine a0 ?_|refine ae ?_|refine aM ?_|refine a5 ?_|refine ar ?_|refine aw ?_|refine au ?_|refine a6 ?_|refine a7 a4 rfl rfl ?_)
  refine aJ rfl rfl rfl ?_
  rw [he, Nat.sub_self]
  rfl
theorem jY {g : FuncId} {caps : List AV} {u : AV} [bi Tryz.prog g] (hu : i5 u = some (g, caps)) (l : List Int) (err : Nat → Int) (J : Nat → AL → Prop) (L0 : AL) (h0 : J 0 L0) (hw : ∀ i x L, l[i]? = some x → J i L → AC Tryz.prog g ([az i, az x] ++ caps) L fun c L' => c = az (err i) ∧ (err i = 0 → J (i + 1) L')) :
  AC Tryz.prog 128 [.imm 1 (l.map ua), u] L0 fun r _ => r = bK (cx err l.length) := by
 refine aB Tryz.func128 rfl Tryz.ntmps128 rfl fun B => ?_
 refine ci 0 rfl rfl fun hlen => ?_
 rw [Du] at hlen
 repeat' (first|refine a8 ?_|refine a0 ?_|refine aj ?_|refine a5 ?_|refine a6 ?_|refine a7 a4 rfl rfl ?_)
 refine aK [1, 9, 10] (α := Nat × AL) (fun i => [(11, az i.1)]) (fun i => i.1 ≤ l.length ∧ J i.1 i.2 ∧ cx err l.length = cy err (l.length - i.1) i.1) (fun i => i.2) (fun i => l.length - i.1) (0, L0) rfl ⟨rfl, trivial⟩ ⟨Nat.zero_le _, h0, rfl⟩ (fun _ _ h => h) ?_
 rintro ⟨i, L⟩ ⟨hi, hj, he⟩
 dsimp only at hi hj he ⊢
 try dsimp only [Ds, Dr, Dq, Dn]
 repeat' (first|refine a8 ?_|refine a0 ?_|refine a5 ?_|refine a6 ?_|refine a7 a4 rfl rfl ?_)
 refine aq rfl (fun h => ?_) (fun h => ?_)
 ·have hil : i < l.length := by have := Dz h; simp at this; omega
  obtain ⟨z, hz⟩ : ∃ z, l[i]? = some z := ⟨_, Bg hil⟩
  have hzg := bW (c := ua) hz
  repeat' (first|refine a8 ?_|refine a0 ?_|refine aj ?_|refine ah ?_|refine a5 ?_|refine a6 ?_|refine a7 a4 rfl rfl ?_|(apply aE; first|refine aD a4 ?_|refine aA a4 ?_)|fail)
  refine cG L [] (hw i z L hz hj) rfl hu rfl (bz rfl) rfl rfl fun c L1 ⟨hc, hj'⟩ => ?_
  subst hc
  rw [List.append_nil]
  repeat' (first|refine a8 ?_|refine a0 ?_|refine a5 ?_|refine a6 ?_|refine a7 a4 rfl rfl ?_)
  refine aq rfl (fun h2 => ?_) (fun h2 => ?_)
  ·have h2' := Dz h2
   repeat' (first|refine a8 ?_|refine a0 ?_|refine ae ?_|refine a5 ?_|refine an ?_|refine aI ?_|refine bc ?_|refine a6 ?_|refine a7 a4 rfl rfl ?_)
   refine aJ rfl rfl rfl ?_
   rw [he, bY hil h2']
   rfl
  ·have h2' := Decidable.not_not.1 (Dy h2)
   repeat' (first|refine a0 ?_|refine ah ?_|refine a5 ?_|refine aG ?_|refine a6 ?_|refine a7 a4 rfl rfl ?_|(apply aT; refine aS ?_)|fail)
   exact ay (i + 1, L1) rfl ⟨by rw [Dv]; rfl, trivial⟩ ⟨by dsimp only; omega, hj' h2', by rw [he]; exact bP hil h2'⟩ (by dsimp only; omega) (fun _ _ h => h)
 ·have hil : i = l.length := by have := Dy h; simp at this; omega
  subst hil
  repeat' (first|refine a8 ?_|refine a0 ?_|refine ae ?_|refine aM ?_|refine a5 ?_|refine ar ?_|refine aw ?_|refine au ?_|refine a6 ?_|refine a7 a4 rfl rfl ?_)
  refine aJ rfl rfl rfl ?_
  rw [he, Nat.sub_self]
  rfl
theorem zb {g : FuncId} {caps : List AV} {u : AV} [bi Tryz.prog g] (hu : i5 u = some (g, caps)) (l : List Int) (most : Int) (err : Nat → Int) (J : Nat → AL → Prop) (L0 : AL) (h0 : J 0 L0) (hw : (l.length : Int) ≤ most → ∀ i x L, l[i]? = some x → J i L → AC Tryz.prog g ([az i, az x] ++ caps) L fun c L' => c = az (err i) ∧ (err i = 0 → J (i + 1) L')) :
  AC Tryz.prog 155 [.iptr [.imm 1 (l.map ua)], .iptr [az most], .iptr [u]] L0 fun r _ => r = bK (cv most err l.length) := by
 refine aB Tryz.func155 rfl Tryz.ntmps155 rfl fun B => ?_
 repeat' (first|refine a8 ?_|refine a0 ?_|refine a5 ?_|refine a6 ?_|refine a7 a4 rfl rfl ?_)
 refine aq rfl (fun h => ?_) (fun h => ?_)
 ·have h' := Dz h
  rw [Du] at h'
  repeat' (first|refine a8 ?_|refine a0 ?_|refine ae ?_|refine a5 ?_|refine an ?_|refine a6 ?_|refine a7 a4 rfl rfl ?_)
  refine aJ rfl rfl rfl ?_
  unfold cv
  rw [if_pos h']
  rfl
 ·have h' := Dy h
  rw [Du] at h'
  repeat' (first|refine a8 ?_|refine a0 ?_|refine ah ?_|refine a5 ?_|refine a7 a4 rfl rfl ?_)
  refine aL L0 [] (jY hu l err J L0 h0 (hw (by omega))) rfl (dW hu) (bz rfl) rfl fun c L1 hc => ?_
  subst hc
  repeat' (first|refine ae ?_|refine a5 ?_|refine a6 ?_|refine a7 a4 rfl rfl ?_)
  refine aJ rfl rfl rfl ?_
  unfold cv
  rw [if_neg h']
  rfl
theorem AM {g : FuncId} (l : List Int) (most : Int) : bk Tryz.prog 76 [.imm 1 (l.map ua), az most, .sc (.func (.func g) #[] #[])] (.fn 155 [.iptr [.imm 1 (l.map ua)], .iptr [az most], .iptr [.sc (.func (.func g) #[] #[])]]) := by
 refine aB Tryz.func76 rfl Tryz.ntmps76 rfl fun B => ?_
 repeat' (first|refine a8 ?_|refine a0 ?_|refine ae ?_|refine a5 ?_|refine a6 ?_|refine a7 a4 rfl rfl ?_|refine aY ?_|fail)
 exact am rfl rfl rfl
end Go.Proofs.YtpmdfoaadejmkaaGreatDoor
