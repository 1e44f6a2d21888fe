/-
  The program: looks at things, one by one.
-/
import Derived.Test.YtpmdfoaadejmkaaGreatDoorM06
import Derived.Test.YtpmdfoaadejmkaaGreatDoorM08
import Derived.Test.YtpmdfoaadejmkaaGreatDoorM05
namespace Go.Proofs.YtpmdfoaadejmkaaGreatDoor
open Go.RowKit
attribute [local irreducible] AT bf AX AO Av Kt aZ df DA cA
def cv (err : Nat → Int) : Nat → Nat → Int × Int
 | 0, _ => (0, 0)
 | k + 1, i => if err i = 0 then cv err k (i + 1) else (err i, i)
def ct (err : Nat → Int) (n : Nat) : Int × Int := cv err n 0
def cq (most : Int) (err : Nat → Int) (n : Nat) : Int × Int := if (n : Int) > most then (2, 0) else ct err n
def bK (p : Int × Int) : AV := .tup [az p.1, az p.2]
theorem bP {err : Nat → Int} {n i : Nat} (hi : i < n) (h : err i = 0) : cv err (n - i) i = cv err (n - (i + 1)) (i + 1) := by
 rw [show n - i = (n - (i + 1)) + 1 by omega]
 simp only [cv, h, if_true]
theorem bX {err : Nat → Int} {n i : Nat} (hi : i < n) (h : err i ≠ 0) : cv err (n - i) i = (err i, (i : Int)) := by
 rw [show n - i = (n - (i + 1)) + 1 by omega]
 simp only [cv, h, if_false]
def BH (q : List Int) : List AV := [.imm 1 (aU q)]
def u7 (z : Int) : List AV := [az z]
theorem dS {g : FuncId} {caps : List AV} {u : AV} (hu : hQ u = some (g, caps)) {s : Nat} {l : List (List AV)} : kZ [.imm s l, u] = some [.imm s l, u] := by
 unfold hQ at hu
 split at hu <;> first | rfl | cases hu
theorem bz {L L' : AL} (h : L = L') : L.Perm (L' ++ []) := by rw [List.append_nil, h]
def CQ (P : Program) (g : FuncId) (caps : List AV) (n : Nat) (arg : Nat → AV) (err : Nat → Int) (J : Nat → AL → Prop) : Prop := ∀ i L, i < n → J i L → AC P g ([az i, arg i] ++ caps) L fun c L' => c = az (err i) ∧ (err i = 0 → J (i + 1) L')
theorem yk {g : FuncId} {caps : List AV} {u : AV} [bi Tryz.prog g] (hu : hQ u = some (g, caps)) (l : List b9) (err : Nat → Int) (J : Nat → AL → Prop) (L0 : AL) (h0 : J 0 L0) (hw : ∀ i x L, l[i]? = some x → J i L → AC Tryz.prog g ([az i, .agg (c7 x)] ++ caps) L fun c L' => c = az (err i) ∧ (err i = 0 → J (i + 1) L')) :
  AC Tryz.prog 113 [.imm 9 (l.map c7), u] L0 fun r _ => r = bK (ct err l.length) := by
 refine aB Tryz.func113 rfl Tryz.ntmps113 rfl fun B => ?_
 refine cf 0 rfl rfl fun hlen => ?_
 rw [Du] at hlen
 repeat' (first|refine a8 ?_|refine a0 ?_|refine aj ?_|refine a5 ?_|refine a6 ?_|refine a7 a4 rfl rfl ?_)
 refine aK [1, 9, 10] (α := Nat × AL) (fun i => [(11, az i.1)]) (fun i => i.1 ≤ l.length ∧ J i.1 i.2 ∧ ct err l.length = cv err (l.length - i.1) i.1) (fun i => i.2) (fun i => l.length - i.1) (0, L0) rfl ⟨rfl, trivial⟩ ⟨Nat.zero_le _, h0, rfl⟩ (fun _ _ h => h) ?_
 rintro ⟨i, L⟩ ⟨hi, hj, he⟩
 dsimp only at hi hj he ⊢
 try dsimp only [Ds, Dr, Dq, Dn]
 repeat' (first|refine a8 ?_|refine a0 ?_|refine a5 ?_|refine a6 ?_|refine a7 a4 rfl rfl ?_)
 refine aq rfl (fun h => ?_) (fun h => ?_)
 ·have hil : i < l.length := by have := Dz h; simp at this; omega
  obtain ⟨z, hz⟩ : ∃ z, l[i]? = some z := ⟨_, Bj hil⟩
  have hzg := bV (c := c7) hz
  repeat' (first|refine a8 ?_|refine a0 ?_|refine aj ?_|refine ah ?_|refine a5 ?_|refine a6 ?_|refine a7 a4 rfl rfl ?_|(apply aE; first|refine aD a4 ?_|refine aA a4 ?_)|(apply aO; first|refine a9 7 a4 0 rfl rfl rfl rfl rfl rfl rfl rfl ?_|refine a9 7 a4 1 rfl rfl rfl rfl rfl rfl rfl rfl ?_|refine a9 7 a4 2 rfl rfl rfl rfl rfl rfl rfl rfl ?_|refine aa a4 0 rfl rfl rfl rfl rfl rfl rfl ?_|refine aa a4 1 rfl rfl rfl rfl rfl rfl rfl ?_|refine aa a4 2 rfl rfl rfl rfl rfl rfl rfl ?_|refine aa a4 3 rfl rfl rfl rfl rfl rfl rfl ?_|fail)|refine aY a4 fun _=>?_|fail)
  refine cF L [] (hw i z L hz hj) rfl hu rfl (bz rfl) rfl rfl fun c L1 ⟨hc, hj'⟩ => ?_
  subst hc
  rw [List.append_nil]
  repeat' (first|refine a8 ?_|refine a0 ?_|refine a5 ?_|refine a6 ?_|refine a7 a4 rfl rfl ?_)
  refine aq rfl (fun h2 => ?_) (fun h2 => ?_)
  ·have h2' := Dz h2
   repeat' (first|refine a8 ?_|refine a0 ?_|refine ae ?_|refine a5 ?_|refine am ?_|refine aI ?_|refine bc ?_|refine a6 ?_|refine a7 a4 rfl rfl ?_)
   refine aJ rfl rfl rfl ?_
   rw [he, bX hil h2']
   rfl
  ·have h2' := Decidable.not_not.1 (Dy h2)
   repeat' (first|refine a0 ?_|refine ah ?_|refine a5 ?_|refine aH ?_|refine a6 ?_|refine a7 a4 rfl rfl ?_|(apply aS; refine aR ?_)|fail)
   exact ay (i + 1, L1) rfl ⟨by rw [Dv]; rfl, trivial⟩ ⟨by dsimp only; omega, hj' h2', by rw [he]; exact bP hil h2'⟩ (by dsimp only; omega) (fun _ _ h => h)
 ·have hil : i = l.length := by have := Dy h; simp at this; omega
  subst hil
  repeat' (first|refine a8 ?_|refine a0 ?_|refine ae ?_|refine aL ?_|refine a5 ?_|refine ar ?_|refine av ?_|refine au ?_|refine a6 ?_|refine a7 a4 rfl rfl ?_)
  refine aJ rfl rfl rfl ?_
  rw [he, Nat.sub_self]
  rfl
theorem z4 {g : FuncId} {caps : List AV} {u : AV} [bi Tryz.prog g] (hu : hQ u = some (g, caps)) (l : List b9) (most : Int) (err : Nat → Int) (J : Nat → AL → Prop) (L0 : AL) (h0 : J 0 L0) (hw : (l.length : Int) ≤ most → ∀ i x L, l[i]? = some x → J i L → AC Tryz.prog g ([az i, .agg (c7 x)] ++ caps) L fun c L' => c = az (err i) ∧ (err i = 0 → J (i + 1) L')) :
  AC Tryz.prog 112 [.iptr [.imm 9 (l.map c7)], .iptr [az most], .iptr [u]] L0 fun r _ => r = bK (cq most err l.length) := by
 refine aB Tryz.func112 rfl Tryz.ntmps112 rfl fun B => ?_
 repeat' (first|refine a8 ?_|refine a0 ?_|refine a5 ?_|refine a6 ?_|refine a7 a4 rfl rfl ?_)
 refine aq rfl (fun h => ?_) (fun h => ?_)
 ·have h' := Dz h
  rw [Du] at h'
  repeat' (first|refine a8 ?_|refine a0 ?_|refine ae ?_|refine a5 ?_|refine am ?_|refine a6 ?_|refine a7 a4 rfl rfl ?_)
  refine aJ rfl rfl rfl ?_
  unfold cq
  rw [if_pos h']
  rfl
 ·have h' := Dy h
  rw [Du] at h'
  repeat' (first|refine a8 ?_|refine a0 ?_|refine ah ?_|refine a5 ?_|refine a7 a4 rfl rfl ?_)
  refine aN L0 [] (yk hu l err J L0 h0 (hw (by omega))) rfl (dS hu) (bz rfl) rfl fun c L1 hc => ?_
  subst hc
  repeat' (first|refine ae ?_|refine a5 ?_|refine a6 ?_|refine a7 a4 rfl rfl ?_)
  refine aJ rfl rfl rfl ?_
  unfold cq
  rw [if_neg h']
  rfl
theorem Cw {g : FuncId} {caps : List AV} (l : List b9) (most : Int) : bk Tryz.prog 50 [.imm 9 (l.map c7), az most, .fn g caps] (.fn 112 [.iptr [.imm 9 (l.map c7)], .iptr [az most], .iptr [.fn g caps]]) := by
 refine aB Tryz.func50 rfl Tryz.ntmps50 rfl fun B => ?_
 repeat' (first|refine a8 ?_|refine a0 ?_|refine ae ?_|refine a5 ?_|refine a6 ?_|refine a7 a4 rfl rfl ?_|refine aX ?_|fail)
 exact ak rfl rfl rfl
instance {g : FuncId} {caps : List AV} (l : List b9) (most : Int) : AD Tryz.prog 50 [.imm 9 (l.map c7), az most, .fn g caps] (.fn 112 [.iptr [.imm 9 (l.map c7)], .iptr [az most], .iptr [.fn g caps]]) := ⟨Cw l most⟩
theorem yl {g : FuncId} {caps : List AV} {u : AV} [bi Tryz.prog g] (hu : hQ u = some (g, caps)) (l : List gW) (err : Nat → Int) (J : Nat → AL → Prop) (L0 : AL) (h0 : J 0 L0) (hw : ∀ i x L, l[i]? = some x → J i L → AC Tryz.prog g ([az i, .agg (f8 x)] ++ caps) L fun c L' => c = az (err i) ∧ (err i = 0 → J (i + 1) L')) :
  AC Tryz.prog 133 [.imm 2 (l.map f8), u] L0 fun r _ => r = bK (ct err l.length) := by
 refine aB Tryz.func133 rfl Tryz.ntmps133 rfl fun B => ?_
 refine cf 0 rfl rfl fun hlen => ?_
 rw [Du] at hlen
 repeat' (first|refine a8 ?_|refine a0 ?_|refine aj ?_|refine a5 ?_|refine a6 ?_|refine a7 a4 rfl rfl ?_)
 refine aK [1, 9, 10] (α := Nat × AL) (fun i => [(11, az i.1)]) (fun i => i.1 ≤ l.length ∧ J i.1 i.2 ∧ ct err l.length = cv err (l.length - i.1) i.1) (fun i => i.2) (fun i => l.length - i.1) (0, L0) rfl ⟨rfl, trivial⟩ ⟨Nat.zero_le _, h0, rfl⟩ (fun _ _ h => h) ?_
 rintro ⟨i, L⟩ ⟨hi, hj, he⟩
 dsimp only at hi hj he ⊢
 try dsimp only [Ds, Dr, Dq, Dn]
 repeat' (first|refine a8 ?_|refine a0 ?_|refine a5 ?_|refine a6 ?_|refine a7 a4 rfl rfl ?_)
 refine aq rfl (fun h => ?_) (fun h => ?_)
 ·have hil : i < l.length := by have := Dz h; simp at this; omega
  obtain ⟨z, hz⟩ : ∃ z, l[i]? = some z := ⟨_, Bj hil⟩
  have hzg := bV (c := f8) hz
  repeat' (first|refine a8 ?_|refine a0 ?_|refine aj ?_|refine ah ?_|refine a5 ?_|refine a6 ?_|refine a7 a4 rfl rfl ?_|(apply aE; first|refine aD a4 ?_|refine aA a4 ?_)|(apply aO; first|refine a9 7 a4 0 rfl rfl rfl rfl rfl rfl rfl rfl ?_|refine a9 7 a4 1 rfl rfl rfl rfl rfl rfl rfl rfl ?_|refine a9 7 a4 2 rfl rfl rfl rfl rfl rfl rfl rfl ?_|refine aa a4 0 rfl rfl rfl rfl rfl rfl rfl ?_|refine aa a4 1 rfl rfl rfl rfl rfl rfl rfl ?_|refine aa a4 2 rfl rfl rfl rfl rfl rfl rfl ?_|refine aa a4 3 rfl rfl rfl rfl rfl rfl rfl ?_|fail)|refine aY a4 fun _=>?_|fail)
  refine cF L [] (hw i z L hz hj) rfl hu rfl (bz rfl) rfl rfl fun c L1 ⟨hc, hj'⟩ => ?_
  subst hc
  rw [List.append_nil]
  repeat' (first|refine a8 ?_|refine a0 ?_|refine a5 ?_|refine a6 ?_|refine a7 a4 rfl rfl ?_)
  refine aq rfl (fun h2 => ?_) (fun h2 => ?_)
  ·have h2' := Dz h2
   repeat' (first|refine a8 ?_|refine a0 ?_|refine ae ?_|refine a5 ?_|refine am ?_|refine aI ?_|refine bc ?_|refine a6 ?_|refine a7 a4 rfl rfl ?_)
   refine aJ rfl rfl rfl ?_
   rw [he, bX hil h2']
   rfl
  ·have h2' := Decidable.not_not.1 (Dy h2)
   repeat' (first|refine a0 ?_|refine ah ?_|refine a5 ?_|refine aH ?_|refine a6 ?_|refine a7 a4 rfl rfl ?_|(apply aS; refine aR ?_)|fail)
   exact ay (i + 1, L1) rfl ⟨by rw [Dv]; rfl, trivial⟩ ⟨by dsimp only; omega, hj' h2', by rw [he]; exact bP hil h2'⟩ (by dsimp only; omega) (fun _ _ h => h)
 ·have hil : i = l.length := by have := Dy h; simp at this; omega
  subst hil
  repeat' (first|refine a8 ?_|refine a0 ?_|refine ae ?_|refine aL ?_|refine a5 ?_|refine ar ?_|refine av ?_|refine au ?_|refine a6 ?_|refine a7 a4 rfl rfl ?_)
  refine aJ rfl rfl rfl ?_
  rw [he, Nat.sub_self]
  rfl
theorem z5 {g : FuncId} {caps : List AV} {u : AV} [bi Tryz.prog g] (hu : hQ u = some (g, caps)) (l : List gW) (most : Int) (err : Nat → Int) (J : Nat → AL → Prop) (L0 : AL) (h0 : J 0 L0) (hw : (l.length : Int) ≤ most → ∀ i x L, l[i]? = some x → J i L → AC Tryz.prog g ([az i, .agg (f8 x)] ++ caps) L fun c L' => c = az (err i) ∧ (err i = 0 → J (i + 1) L')) :
  AC Tryz.prog 132 [.iptr [.imm 2 (l.map f8)], .iptr [az most], .iptr [u]] L0 fun r _ => r = bK (cq most err l.length) := by
 refine aB Tryz.func132 rfl Tryz.ntmps132 rfl fun B => ?_
 repeat' (first|refine a8 ?_|refine a0 ?_|refine a5 ?_|refine a6 ?_|refine a7 a4 rfl rfl ?_)
 refine aq rfl (fun h => ?_) (fun h => ?_)
 ·have h' := Dz h
  rw [Du] at h'
  repeat' (first|refine a8 ?_|refine a0 ?_|refine ae ?_|refine a5 ?_|refine am ?_|refine a6 ?_|refine a7 a4 rfl rfl ?_)
  refine aJ rfl rfl rfl ?_
  unfold cq
  rw [if_pos h']
  rfl
 ·have h' := Dy h
  rw [Du] at h'
  repeat' (first|refine a8 ?_|refine a0 ?_|refine ah ?_|refine a5 ?_|refine a7 a4 rfl rfl ?_)
  refine aN L0 [] (yl hu l err J L0 h0 (hw (by omega))) rfl (dS hu) (bz rfl) rfl fun c L1 hc => ?_
  subst hc
  repeat' (first|refine ae ?_|refine a5 ?_|refine a6 ?_|refine a7 a4 rfl rfl ?_)
  refine aJ rfl rfl rfl ?_
  unfold cq
  rw [if_neg h']
  rfl
theorem Cx {g : FuncId} {caps : List AV} (l : List gW) (most : Int) : bk Tryz.prog 57 [.imm 2 (l.map f8), az most, .fn g caps] (.fn 132 [.iptr [.imm 2 (l.map f8)], .iptr [az most], .iptr [.fn g caps]]) := by
 refine aB Tryz.func57 rfl Tryz.ntmps57 rfl fun B => ?_
 repeat' (first|refine a8 ?_|refine a0 ?_|refine ae ?_|refine a5 ?_|refine a6 ?_|refine a7 a4 rfl rfl ?_|refine aX ?_|fail)
 exact ak rfl rfl rfl
instance {g : FuncId} {caps : List AV} (l : List gW) (most : Int) : AD Tryz.prog 57 [.imm 2 (l.map f8), az most, .fn g caps] (.fn 132 [.iptr [.imm 2 (l.map f8)], .iptr [az most], .iptr [.fn g caps]]) := ⟨Cx l most⟩
theorem ym {g : FuncId} {caps : List AV} {u : AV} [bi Tryz.prog g] (hu : hQ u = some (g, caps)) (l : List aQ) (err : Nat → Int) (J : Nat → AL → Prop) (L0 : AL) (h0 : J 0 L0) (hw : ∀ i x L, l[i]? = some x → J i L → AC Tryz.prog g ([az i, .agg (bn x)] ++ caps) L fun c L' => c = az (err i) ∧ (err i = 0 → J (i + 1) L')) :
  AC Tryz.prog 135 [.imm 3 (l.map bn), u] L0 fun r _ => r = bK (ct err l.length) := by
 refine aB Tryz.func135 rfl Tryz.ntmps135 rfl fun B => ?_
 refine cf 0 rfl rfl fun hlen => ?_
 rw [Du] at hlen
 repeat' (first|refine a8 ?_|refine a0 ?_|refine aj ?_|refine a5 ?_|refine a6 ?_|refine a7 a4 rfl rfl ?_)
 refine aK [1, 9, 10] (α := Nat × AL) (fun i => [(11, az i.1)]) (fun i => i.1 ≤ l.length ∧ J i.1 i.2 ∧ ct err l.length = cv err (l.length - i.1) i.1) (fun i => i.2) (fun i => l.length - i.1) (0, L0) rfl ⟨rfl, trivial⟩ ⟨Nat.zero_le _, h0, rfl⟩ (fun _ _ h => h) ?_
 rintro ⟨i, L⟩ ⟨hi, hj, he⟩
 dsimp only at hi hj he ⊢
 try dsimp only [Ds, Dr, Dq, Dn]
 repeat' (first|refine a8 ?_|refine a0 ?_|refine a5 ?_|refine a6 ?_|refine a7 a4 rfl rfl ?_)
 refine aq rfl (fun h => ?_) (fun h => ?_)
 ·have hil : i < l.length := by have := Dz h; simp at this; omega
  obtain ⟨z, hz⟩ : ∃ z, l[i]? = some z := ⟨_, Bj hil⟩
  have hzg := bV (c := bn) hz
  repeat' (first|refine a8 ?_|refine a0 ?_|refine aj ?_|refine ah ?_|refine a5 ?_|refine a6 ?_|refine a7 a4 rfl rfl ?_|(apply aE; first|refine aD a4 ?_|refine aA a4 ?_)|(apply aO; first|refine a9 7 a4 0 rfl rfl rfl rfl rfl rfl rfl rfl ?_|refine a9 7 a4 1 rfl rfl rfl rfl rfl rfl rfl rfl ?_|refine a9 7 a4 2 rfl rfl rfl rfl rfl rfl rfl rfl ?_|refine aa a4 0 rfl rfl rfl rfl rfl rfl rfl ?_|refine aa a4 1 rfl rfl rfl rfl rfl rfl rfl ?_|refine aa a4 2 rfl rfl rfl rfl rfl rfl rfl ?_|refine aa a4 3 rfl rfl rfl rfl rfl rfl rfl ?_|fail)|refine aY a4 fun _=>?_|fail)
  refine cF L [] (hw i z L hz hj) rfl hu rfl (bz rfl) rfl rfl fun c L1 ⟨hc, hj'⟩ => ?_
  subst hc
  rw [List.append_nil]
  repeat' (first|refine a8 ?_|refine a0 ?_|refine a5 ?_|refine a6 ?_|refine a7 a4 rfl rfl ?_)
  refine aq rfl (fun h2 => ?_) (fun h2 => ?_)
  ·have h2' := Dz h2
   repeat' (first|refine a8 ?_|refine a0 ?_|refine ae ?_|refine a5 ?_|refine am ?_|refine aI ?_|refine bc ?_|refine a6 ?_|refine a7 a4 rfl rfl ?_)
   refine aJ rfl rfl rfl ?_
   rw [he, bX hil h2']
   rfl
  ·have h2' := Decidable.not_not.1 (Dy h2)
   repeat' (first|refine a0 ?_|refine ah ?_|refine a5 ?_|refine aH ?_|refine a6 ?_|refine a7 a4 rfl rfl ?_|(apply aS; refine aR ?_)|fail)
   exact ay (i + 1, L1) rfl ⟨by rw [Dv]; rfl, trivial⟩ ⟨by dsimp only; omega, hj' h2', by rw [he]; exact bP hil h2'⟩ (by dsimp only; omega) (fun _ _ h => h)
 ·have hil : i = l.length := by have := Dy h; simp at this; omega
  subst hil
  repeat' (first|refine a8 ?_|refine a0 ?_|refine ae ?_|refine aL ?_|refine a5 ?_|refine ar ?_|refine av ?_|refine au ?_|refine a6 ?_|refine a7 a4 rfl rfl ?_)
  refine aJ rfl rfl rfl ?_
  rw [he, Nat.sub_self]
  rfl
theorem z6 {g : FuncId} {caps : List AV} {u : AV} [bi Tryz.prog g] (hu : hQ u = some (g, caps)) (l : List aQ) (most : Int) (err : Nat → Int) (J : Nat → AL → Prop) (L0 : AL) (h0 : J 0 L0) (hw : (l.length : Int) ≤ most → ∀ i x L, l[i]? = some x → J i L → AC Tryz.prog g ([az i, .agg (bn x)] ++ caps) L fun c L' => c = az (err i) ∧ (err i = 0 → J (i + 1) L')) :
  AC Tryz.prog 134 [.iptr [.imm 3 (l.map bn)], .iptr [az most], .iptr [u]] L0 fun r _ => r = bK (cq most err l.length) := by
 refine aB Tryz.func134 rfl Tryz.ntmps134 rfl fun B => ?_
 repeat' (first|refine a8 ?_|refine a0 ?_|refine a5 ?_|refine a6 ?_|refine a7 a4 rfl rfl ?_)
 refine aq rfl (fun h => ?_) (fun h => ?_)
 ·have h' := Dz h
  rw [Du] at h'
  repeat' (first|refine a8 ?_|refine a0 ?_|refine ae ?_|refine a5 ?_|refine am ?_|refine a6 ?_|refine a7 a4 rfl rfl ?_)
  refine aJ rfl rfl rfl ?_
  unfold cq
  rw [if_pos h']
  rfl
 ·have h' := Dy h
  rw [Du] at h'
  repeat' (first|refine a8 ?_|refine a0 ?_|refine ah ?_|refine a5 ?_|refine a7 a4 rfl rfl ?_)
  refine aN L0 [] (ym hu l err J L0 h0 (hw (by omega))) rfl (dS hu) (bz rfl) rfl fun c L1 hc => ?_
  subst hc
  repeat' (first|refine ae ?_|refine a5 ?_|refine a6 ?_|refine a7 a4 rfl rfl ?_)
  refine aJ rfl rfl rfl ?_
  unfold cq
  rw [if_neg h']
  rfl
theorem Cy {g : FuncId} {caps : List AV} (l : List aQ) (most : Int) : bk Tryz.prog 60 [.imm 3 (l.map bn), az most, .fn g caps] (.fn 134 [.iptr [.imm 3 (l.map bn)], .iptr [az most], .iptr [.fn g caps]]) := by
 refine aB Tryz.func60 rfl Tryz.ntmps60 rfl fun B => ?_
 repeat' (first|refine a8 ?_|refine a0 ?_|refine ae ?_|refine a5 ?_|refine a6 ?_|refine a7 a4 rfl rfl ?_|refine aX ?_|fail)
 exact ak rfl rfl rfl
instance {g : FuncId} {caps : List AV} (l : List aQ) (most : Int) : AD Tryz.prog 60 [.imm 3 (l.map bn), az most, .fn g caps] (.fn 134 [.iptr [.imm 3 (l.map bn)], .iptr [az most], .iptr [.fn g caps]]) := ⟨Cy l most⟩
theorem yn {g : FuncId} {caps : List AV} {u : AV} [bi Tryz.prog g] (hu : hQ u = some (g, caps)) (l : List aT) (err : Nat → Int) (J : Nat → AL → Prop) (L0 : AL) (h0 : J 0 L0) (hw : ∀ i x L, l[i]? = some x → J i L → AC Tryz.prog g ([az i, .agg (bH x)] ++ caps) L fun c L' => c = az (err i) ∧ (err i = 0 → J (i + 1) L')) :
  AC Tryz.prog 139 [.imm 6 (l.map bH), u] L0 fun r _ => r = bK (ct err l.length) := by
 refine aB Tryz.func139 rfl Tryz.ntmps139 rfl fun B => ?_
 refine cf 0 rfl rfl fun hlen => ?_
 rw [Du] at hlen
 repeat' (first|refine a8 ?_|refine a0 ?_|refine aj ?_|refine a5 ?_|refine a6 ?_|refine a7 a4 rfl rfl ?_)
 refine aK [1, 9, 10] (α := Nat × AL) (fun i => [(11, az i.1)]) (fun i => i.1 ≤ l.length ∧ J i.1 i.2 ∧ ct err l.length = cv err (l.length - i.1) i.1) (fun i => i.2) (fun i => l.length - i.1) (0, L0) rfl ⟨rfl, trivial⟩ ⟨Nat.zero_le _, h0, rfl⟩ (fun _ _ h => h) ?_
 rintro ⟨i, L⟩ ⟨hi, hj, he⟩
 dsimp only at hi hj he ⊢
 try dsimp only [Ds, Dr, Dq, Dn]
 repeat' (first|refine a8 ?_|refine a0 ?_|refine a5 ?_|refine a6 ?_|refine a7 a4 rfl rfl ?_)
 refine aq rfl (fun h => ?_) (fun h => ?_)
 ·have hil : i < l.length := by have := Dz h; simp at this; omega
  obtain ⟨z, hz⟩ : ∃ z, l[i]? = some z := ⟨_, Bj hil⟩
  have hzg := bV (c := bH) hz
  repeat' (first|refine a8 ?_|refine a0 ?_|refine aj ?_|refine ah ?_|refine a5 ?_|refine a6 ?_|refine a7 a4 rfl rfl ?_|(apply aE; first|refine aD a4 ?_|refine aA a4 ?_)|(apply aO; first|refine a9 7 a4 0 rfl rfl rfl rfl rfl rfl rfl rfl ?_|refine a9 7 a4 1 rfl rfl rfl rfl rfl rfl rfl rfl ?_|refine a9 7 a4 2 rfl rfl rfl rfl rfl rfl rfl rfl ?_|refine aa a4 0 rfl rfl rfl rfl rfl rfl rfl ?_|refine aa a4 1 rfl rfl rfl rfl rfl rfl rfl ?_|refine aa a4 2 rfl rfl rfl rfl rfl rfl rfl ?_|refine aa a4 3 rfl rfl rfl rfl rfl rfl rfl ?_|fail)|refine aY a4 fun _=>?_|fail)
  refine cF L [] (hw i z L hz hj) rfl hu rfl (bz rfl) rfl rfl fun c L1 ⟨hc, hj'⟩ => ?_
  subst hc
  rw [List.append_nil]
  repeat' (first|refine a8 ?_|refine a0 ?_|refine a5 ?_|refine a6 ?_|refine a7 a4 rfl rfl ?_)
  refine aq rfl (fun h2 => ?_) (fun h2 => ?_)
  ·have h2' := Dz h2
   repeat' (first|refine a8 ?_|refine a0 ?_|refine ae ?_|refine a5 ?_|refine am ?_|refine aI ?_|refine bc ?_|refine a6 ?_|refine a7 a4 rfl rfl ?_)
   refine aJ rfl rfl rfl ?_
   rw [he, bX hil h2']
   rfl
  ·have h2' := Decidable.not_not.1 (Dy h2)
   repeat' (first|refine a0 ?_|refine ah ?_|refine a5 ?_|refine aH ?_|refine a6 ?_|refine a7 a4 rfl rfl ?_|(apply aS; refine aR ?_)|fail)
   exact ay (i + 1, L1) rfl ⟨by rw [Dv]; rfl, trivial⟩ ⟨by dsimp only; omega, hj' h2', by rw [he]; exact bP hil h2'⟩ (by dsimp only; omega) (fun _ _ h => h)
 ·have hil : i = l.length := by have := Dy h; simp at this; omega
  subst hil
  repeat' (first|refine a8 ?_|refine a0 ?_|refine ae ?_|refine aL ?_|refine a5 ?_|refine ar ?_|refine av ?_|refine au ?_|refine a6 ?_|refine a7 a4 rfl rfl ?_)
  refine aJ rfl rfl rfl ?_
  rw [he, Nat.sub_self]
  rfl
theorem yo {g : FuncId} {caps : List AV} {u : AV} [bi Tryz.prog g] (hu : hQ u = some (g, caps)) (l : List bO) (err : Nat → Int) (J : Nat → AL → Prop) (L0 : AL) (h0 : J 0 L0) (hw : ∀ i x L, l[i]? = some x → J i L → AC Tryz.prog g ([az i, .agg (ca x)] ++ caps) L fun c L' => c = az (err i) ∧ (err i = 0 → J (i + 1) L')) :
  AC Tryz.prog 143 [.imm 2 (l.map ca), u] L0 fun r _ => r = bK (ct err l.length) := by
 refine aB Tryz.func143 rfl Tryz.ntmps143 rfl fun B => ?_
 refine cf 0 rfl rfl fun hlen => ?_
 rw [Du] at hlen
 repeat' (first|refine a8 ?_|refine a0 ?_|refine aj ?_|refine a5 ?_|refine a6 ?_|refine a7 a4 rfl rfl ?_)
 refine aK [1, 9, 10] (α := Nat × AL) (fun i => [(11, az i.1)]) (fun i => i.1 ≤ l.length ∧ J i.1 i.2 ∧ ct err l.length = cv err (l.length - i.1) i.1) (fun i => i.2) (fun i => l.length - i.1) (0, L0) rfl ⟨rfl, trivial⟩ ⟨Nat.zero_le _, h0, rfl⟩ (fun _ _ h => h) ?_
 rintro ⟨i, L⟩ ⟨hi, hj, he⟩
 dsimp only at hi hj he ⊢
 try dsimp only [Ds, Dr, Dq, Dn]
 repeat' (first|refine a8 ?_|refine a0 ?_|refine a5 ?_|refine a6 ?_|refine a7 a4 rfl rfl ?_)
 refine aq rfl (fun h => ?_) (fun h => ?_)
 ·have hil : i < l.length := by have := Dz h; simp at this; omega
  obtain ⟨z, hz⟩ : ∃ z, l[i]? = some z := ⟨_, Bj hil⟩
  have hzg := bV (c := ca) hz
  repeat' (first|refine a8 ?_|refine a0 ?_|refine aj ?_|refine ah ?_|refine a5 ?_|refine a6 ?_|refine a7 a4 rfl rfl ?_|(apply aE; first|refine aD a4 ?_|refine aA a4 ?_)|(apply aO; first|refine a9 7 a4 0 rfl rfl rfl rfl rfl rfl rfl rfl ?_|refine a9 7 a4 1 rfl rfl rfl rfl rfl rfl rfl rfl ?_|refine a9 7 a4 2 rfl rfl rfl rfl rfl rfl rfl rfl ?_|refine aa a4 0 rfl rfl rfl rfl rfl rfl rfl ?_|refine aa a4 1 rfl rfl rfl rfl rfl rfl rfl ?_|refine aa a4 2 rfl rfl rfl rfl rfl rfl rfl ?_|refine aa a4 3 rfl rfl rfl rfl rfl rfl rfl ?_|fail)|refine aY a4 fun _=>?_|fail)
  refine cF L [] (hw i z L hz hj) rfl hu rfl (bz rfl) rfl rfl fun c L1 ⟨hc, hj'⟩ => ?_
  subst hc
  rw [List.append_nil]
  repeat' (first|refine a8 ?_|refine a0 ?_|refine a5 ?_|refine a6 ?_|refine a7 a4 rfl rfl ?_)
  refine aq rfl (fun h2 => ?_) (fun h2 => ?_)
  ·have h2' := Dz h2
   repeat' (first|refine a8 ?_|refine a0 ?_|refine ae ?_|refine a5 ?_|refine am ?_|refine aI ?_|refine bc ?_|refine a6 ?_|refine a7 a4 rfl rfl ?_)
   refine aJ rfl rfl rfl ?_
   rw [he, bX hil h2']
   rfl
  ·have h2' := Decidable.not_not.1 (Dy h2)
   repeat' (first|refine a0 ?_|refine ah ?_|refine a5 ?_|refine aH ?_|refine a6 ?_|refine a7 a4 rfl rfl ?_|(apply aS; refine aR ?_)|fail)
   exact ay (i + 1, L1) rfl ⟨by rw [Dv]; rfl, trivial⟩ ⟨by dsimp only; omega, hj' h2', by rw [he]; exact bP hil h2'⟩ (by dsimp only; omega) (fun _ _ h => h)
 ·have hil : i = l.length := by have := Dy h; simp at this; omega
  subst hil
  repeat' (first|refine a8 ?_|refine a0 ?_|refine ae ?_|refine aL ?_|refine a5 ?_|refine ar ?_|refine av ?_|refine au ?_|refine a6 ?_|refine a7 a4 rfl rfl ?_)
  refine aJ rfl rfl rfl ?_
  rw [he, Nat.sub_self]
  rfl
theorem z7 {g : FuncId} {caps : List AV} {u : AV} [bi Tryz.prog g] (hu : hQ u = some (g, caps)) (l : List bO) (most : Int) (err : Nat → Int) (J : Nat → AL → Prop) (L0 : AL) (h0 : J 0 L0) (hw : (l.length : Int) ≤ most → ∀ i x L, l[i]? = some x → J i L → AC Tryz.prog g ([az i, .agg (ca x)] ++ caps) L fun c L' => c = az (err i) ∧ (err i = 0 → J (i + 1) L')) :
  AC Tryz.prog 142 [.iptr [.imm 2 (l.map ca)], .iptr [az most], .iptr [u]] L0 fun r _ => r = bK (cq most err l.length) := by
 refine aB Tryz.func142 rfl Tryz.ntmps142 rfl fun B => ?_
 repeat' (first|refine a8 ?_|refine a0 ?_|refine a5 ?_|refine a6 ?_|refine a7 a4 rfl rfl ?_)
 refine aq rfl (fun h => ?_) (fun h => ?_)
 ·have h' := Dz h
  rw [Du] at h'
  repeat' (first|refine a8 ?_|refine a0 ?_|refine ae ?_|refine a5 ?_|refine am ?_|refine a6 ?_|refine a7 a4 rfl rfl ?_)
  refine aJ rfl rfl rfl ?_
  unfold cq
  rw [if_pos h']
  rfl
 ·have h' := Dy h
  rw [Du] at h'
  repeat' (first|refine a8 ?_|refine a0 ?_|refine ah ?_|refine a5 ?_|refine a7 a4 rfl rfl ?_)
  refine aN L0 [] (yo hu l err J L0 h0 (hw (by omega))) rfl (dS hu) (bz rfl) rfl fun c L1 hc => ?_
  subst hc
  repeat' (first|refine ae ?_|refine a5 ?_|refine a6 ?_|refine a7 a4 rfl rfl ?_)
  refine aJ rfl rfl rfl ?_
  unfold cq
  rw [if_neg h']
  rfl
theorem Cz {g : FuncId} {caps : List AV} (l : List bO) (most : Int) : bk Tryz.prog 63 [.imm 2 (l.map ca), az most, .fn g caps] (.fn 142 [.iptr [.imm 2 (l.map ca)], .iptr [az most], .iptr [.fn g caps]]) := by
 refine aB Tryz.func63 rfl Tryz.ntmps63 rfl fun B => ?_
 repeat' (first|refine a8 ?_|refine a0 ?_|refine ae ?_|refine a5 ?_|refine a6 ?_|refine a7 a4 rfl rfl ?_|refine aX ?_|fail)
 exact ak rfl rfl rfl
instance {g : FuncId} {caps : List AV} (l : List bO) (most : Int) : AD Tryz.prog 63 [.imm 2 (l.map ca), az most, .fn g caps] (.fn 142 [.iptr [.imm 2 (l.map ca)], .iptr [az most], .iptr [.fn g caps]]) := ⟨Cz l most⟩
theorem yp {g : FuncId} {caps : List AV} {u : AV} [bi Tryz.prog g] (hu : hQ u = some (g, caps)) (l : List dY) (err : Nat → Int) (J : Nat → AL → Prop) (L0 : AL) (h0 : J 0 L0) (hw : ∀ i x L, l[i]? = some x → J i L → AC Tryz.prog g ([az i, .agg (ej x)] ++ caps) L fun c L' => c = az (err i) ∧ (err i = 0 → J (i + 1) L')) :
  AC Tryz.prog 146 [.imm 4 (l.map ej), u] L0 fun r _ => r = bK (ct err l.length) := by
 refine aB Tryz.func146 rfl Tryz.ntmps146 rfl fun B => ?_
 refine cf 0 rfl rfl fun hlen => ?_
 rw [Du] at hlen
 repeat' (first|refine a8 ?_|refine a0 ?_|refine aj ?_|refine a5 ?_|refine a6 ?_|refine a7 a4 rfl rfl ?_)
 refine aK [1, 9, 10] (α := Nat × AL) (fun i => [(11, az i.1)]) (fun i => i.1 ≤ l.length ∧ J i.1 i.2 ∧ ct err l.length = cv err (l.length - i.1) i.1) (fun i => i.2) (fun i => l.length - i.1) (0, L0) rfl ⟨rfl, trivial⟩ ⟨Nat.zero_le _, h0, rfl⟩ (fun _ _ h => h) ?_
 rintro ⟨i, L⟩ ⟨hi, hj, he⟩
 dsimp only at hi hj he ⊢
 try dsimp only [Ds, Dr, Dq, Dn]
 repeat' (first|refine a8 ?_|refine a0 ?_|refine a5 ?_|refine a6 ?_|refine a7 a4 rfl rfl ?_)
 refine aq rfl (fun h => ?_) (fun h => ?_)
 ·have hil : i < l.length := by have := Dz h; simp at this; omega
  obtain ⟨z, hz⟩ : ∃ z, l[i]? = some z := ⟨_, Bj hil⟩
  have hzg := bV (c := ej) hz
  repeat' (first|refine a8 ?_|refine a0 ?_|refine aj ?_|refine ah ?_|refine a5 ?_|refine a6 ?_|refine a7 a4 rfl rfl ?_|(apply aE; first|refine aD a4 ?_|refine aA a4 ?_)|(apply aO; first|refine a9 7 a4 0 rfl rfl rfl rfl rfl rfl rfl rfl ?_|refine a9 7 a4 1 rfl rfl rfl rfl rfl rfl rfl rfl ?_|refine a9 7 a4 2 rfl rfl rfl rfl rfl rfl rfl rfl ?_|refine aa a4 0 rfl rfl rfl rfl rfl rfl rfl ?_|refine aa a4 1 rfl rfl rfl rfl rfl rfl rfl ?_|refine aa a4 2 rfl rfl rfl rfl rfl rfl rfl ?_|refine aa a4 3 rfl rfl rfl rfl rfl rfl rfl ?_|fail)|refine aY a4 fun _=>?_|fail)
  refine cF L [] (hw i z L hz hj) rfl hu rfl (bz rfl) rfl rfl fun c L1 ⟨hc, hj'⟩ => ?_
  subst hc
  rw [List.append_nil]
  repeat' (first|refine a8 ?_|refine a0 ?_|refine a5 ?_|refine a6 ?_|refine a7 a4 rfl rfl ?_)
  refine aq rfl (fun h2 => ?_) (fun h2 => ?_)
  ·have h2' := Dz h2
   repeat' (first|refine a8 ?_|refine a0 ?_|refine ae ?_|refine a5 ?_|refine am ?_|refine aI ?_|refine bc ?_|refine a6 ?_|refine a7 a4 rfl rfl ?_)
   refine aJ rfl rfl rfl ?_
   rw [he, bX hil h2']
   rfl
  ·have h2' := Decidable.not_not.1 (Dy h2)
   repeat' (first|refine a0 ?_|refine ah ?_|refine a5 ?_|refine aH ?_|refine a6 ?_|refine a7 a4 rfl rfl ?_|(apply aS; refine aR ?_)|fail)
   exact ay (i + 1, L1) rfl ⟨by rw [Dv]; rfl, trivial⟩ ⟨by dsimp only; omega, hj' h2', by rw [he]; exact bP hil h2'⟩ (by dsimp only; omega) (fun _ _ h => h)
 ·have hil : i = l.length := by have := Dy h; simp at this; omega
  subst hil
  repeat' (first|refine a8 ?_|refine a0 ?_|refine ae ?_|refine aL ?_|refine a5 ?_|refine ar ?_|refine av ?_|refine au ?_|refine a6 ?_|refine a7 a4 rfl rfl ?_)
  refine aJ rfl rfl rfl ?_
  rw [he, Nat.sub_self]
  rfl
theorem z8 {g : FuncId} {caps : List AV} {u : AV} [bi Tryz.prog g] (hu : hQ u = some (g, caps)) (l : List dY) (most : Int) (err : Nat → Int) (J : Nat → AL → Prop) (L0 : AL) (h0 : J 0 L0) (hw : (l.length : Int) ≤ most → ∀ i x L, l[i]? = some x → J i L → AC Tryz.prog g ([az i, .agg (ej x)] ++ caps) L fun c L' => c = az (err i) ∧ (err i = 0 → J (i + 1) L')) :
  AC Tryz.prog 145 [.iptr [.imm 4 (l.map ej)], .iptr [az most], .iptr [u]] L0 fun r _ => r = bK (cq most err l.length) := by
 refine aB Tryz.func145 rfl Tryz.ntmps145 rfl fun B => ?_
 repeat' (first|refine a8 ?_|refine a0 ?_|refine a5 ?_|refine a6 ?_|refine a7 a4 rfl rfl ?_)
 refine aq rfl (fun h => ?_) (fun h => ?_)
 ·have h' := Dz h
  rw [Du] at h'
  repeat' (first|refine a8 ?_|refine a0 ?_|refine ae ?_|refine a5 ?_|refine am ?_|refine a6 ?_|refine a7 a4 rfl rfl ?_)
  refine aJ rfl rfl rfl ?_
  unfold cq
  rw [if_pos h']
  rfl
 ·have h' := Dy h
  rw [Du] at h'
  repeat' (first|refine a8 ?_|refine a0 ?_|refine ah ?_|refine a5 ?_|refine a7 a4 rfl rfl ?_)
  refine aN L0 [] (yp hu l err J L0 h0 (hw (by omega))) rfl (dS hu) (bz rfl) rfl fun c L1 hc => ?_
  subst hc
  repeat' (first|refine ae ?_|refine a5 ?_|refine a6 ?_|refine a7 a4 rfl rfl ?_)
  refine aJ rfl rfl rfl ?_
  unfold cq
  rw [if_neg h']
  rfl
theorem BU {g : FuncId} {caps : List AV} (l : List dY) (most : Int) : bk Tryz.prog 67 [.imm 4 (l.map ej), az most, .fn g caps] (.fn 145 [.iptr [.imm 4 (l.map ej)], .iptr [az most], .iptr [.fn g caps]]) := by
 refine aB Tryz.func67 rfl Tryz.ntmps67 rfl fun B => ?_
 repeat' (first|refine a8 ?_|refine a0 ?_|refine ae ?_|refine a5 ?_|refine a6 ?_|refine a7 a4 rfl rfl ?_|refine aX ?_|fail)
 exact ak rfl rfl rfl
instance {g : FuncId} {caps : List AV} (l : List dY) (most : Int) : AD Tryz.prog 67 [.imm 4 (l.map ej), az most, .fn g caps] (.fn 145 [.iptr [.imm 4 (l.map ej)], .iptr [az most], .iptr [.fn g caps]]) := ⟨BU l most⟩
theorem yq {g : FuncId} {caps : List AV} {u : AV} [bi Tryz.prog g] (hu : hQ u = some (g, caps)) (l : List (List fp)) (err : Nat → Int) (J : Nat → AL → Prop) (L0 : AL) (h0 : J 0 L0) (hw : ∀ i x L, l[i]? = some x → J i L → AC Tryz.prog g ([az i, .agg (d7 x)] ++ caps) L fun c L' => c = az (err i) ∧ (err i = 0 → J (i + 1) L')) :
  AC Tryz.prog 148 [.imm 1 (l.map d7), u] L0 fun r _ => r = bK (ct err l.length) := by
 refine aB Tryz.func148 rfl Tryz.ntmps148 rfl fun B => ?_
 refine cf 0 rfl rfl fun hlen => ?_
 rw [Du] at hlen
 repeat' (first|refine a8 ?_|refine a0 ?_|refine aj ?_|refine a5 ?_|refine a6 ?_|refine a7 a4 rfl rfl ?_)
 refine aK [1, 9, 10] (α := Nat × AL) (fun i => [(11, az i.1)]) (fun i => i.1 ≤ l.length ∧ J i.1 i.2 ∧ ct err l.length = cv err (l.length - i.1) i.1) (fun i => i.2) (fun i => l.length - i.1) (0, L0) rfl ⟨rfl, trivial⟩ ⟨Nat.zero_le _, h0, rfl⟩ (fun _ _ h => h) ?_
 rintro ⟨i, L⟩ ⟨hi, hj, he⟩
 dsimp only at hi hj he ⊢
 try dsimp only [Ds, Dr, Dq, Dn]
 repeat' (first|refine a8 ?_|refine a0 ?_|refine a5 ?_|refine a6 ?_|refine a7 a4 rfl rfl ?_)
 refine aq rfl (fun h => ?_) (fun h => ?_)
 ·have hil : i < l.length := by have := Dz h; simp at this; omega
  obtain ⟨z, hz⟩ : ∃ z, l[i]? = some z := ⟨_, Bj hil⟩
  have hzg := bV (c := d7) hz
  repeat' (first|refine a8 ?_|refine a0 ?_|refine aj ?_|refine ah ?_|refine a5 ?_|refine a6 ?_|refine a7 a4 rfl rfl ?_|(apply aE; first|refine aD a4 ?_|refine aA a4 ?_)|(apply aO; first|refine a9 7 a4 0 rfl rfl rfl rfl rfl rfl rfl rfl ?_|refine a9 7 a4 1 rfl rfl rfl rfl rfl rfl rfl rfl ?_|refine a9 7 a4 2 rfl rfl rfl rfl rfl rfl rfl rfl ?_|refine aa a4 0 rfl rfl rfl rfl rfl rfl rfl ?_|refine aa a4 1 rfl rfl rfl rfl rfl rfl rfl ?_|refine aa a4 2 rfl rfl rfl rfl rfl rfl rfl ?_|refine aa a4 3 rfl rfl rfl rfl rfl rfl rfl ?_|fail)|refine aY a4 fun _=>?_|fail)
  refine cF L [] (hw i z L hz hj) rfl hu rfl (bz rfl) rfl rfl fun c L1 ⟨hc, hj'⟩ => ?_
  subst hc
  rw [List.append_nil]
  repeat' (first|refine a8 ?_|refine a0 ?_|refine a5 ?_|refine a6 ?_|refine a7 a4 rfl rfl ?_)
  refine aq rfl (fun h2 => ?_) (fun h2 => ?_)
  ·have h2' := Dz h2
   repeat' (first|refine a8 ?_|refine a0 ?_|refine ae ?_|refine a5 ?_|refine am ?_|refine aI ?_|refine bc ?_|refine a6 ?_|refine a7 a4 rfl rfl ?_)
   refine aJ rfl rfl rfl ?_
   rw [he, bX hil h2']
   rfl
  ·have h2' := Decidable.not_not.1 (Dy h2)
   repeat' (first|refine a0 ?_|refine ah ?_|refine a5 ?_|refine aH ?_|refine a6 ?_|refine a7 a4 rfl rfl ?_|(apply aS; refine aR ?_)|fail)
   exact ay (i + 1, L1) rfl ⟨by rw [Dv]; rfl, trivial⟩ ⟨by dsimp only; omega, hj' h2', by rw [he]; exact bP hil h2'⟩ (by dsimp only; omega) (fun _ _ h => h)
 ·have hil : i = l.length := by have := Dy h; simp at this; omega
  subst hil
  repeat' (first|refine a8 ?_|refine a0 ?_|refine ae ?_|refine aL ?_|refine a5 ?_|refine ar ?_|refine av ?_|refine au ?_|refine a6 ?_|refine a7 a4 rfl rfl ?_)
  refine aJ rfl rfl rfl ?_
  rw [he, Nat.sub_self]
  rfl
theorem z9 {g : FuncId} {caps : List AV} {u : AV} [bi Tryz.prog g] (hu : hQ u = some (g, caps)) (l : List (List fp)) (most : Int) (err : Nat → Int) (J : Nat → AL → Prop) (L0 : AL) (h0 : J 0 L0) (hw : (l.length : Int) ≤ most → ∀ i x L, l[i]? = some x → J i L → AC Tryz.prog g ([az i, .agg (d7 x)] ++ caps) L fun c L' => c = az (err i) ∧ (err i = 0 → J (i + 1) L')) :
  AC Tryz.prog 147 [.iptr [.imm 1 (l.map d7)], .iptr [az most], .iptr [u]] L0 fun r _ => r = bK (cq most err l.length) := by
 refine aB Tryz.func147 rfl Tryz.ntmps147 rfl fun B => ?_
 repeat' (first|refine a8 ?_|refine a0 ?_|refine a5 ?_|refine a6 ?_|refine a7 a4 rfl rfl ?_)
 refine aq rfl (fun h => ?_) (fun h => ?_)
 ·have h' := Dz h
  rw [Du] at h'
  repeat' (first|refine a8 ?_|refine a0 ?_|refine ae ?_|refine a5 ?_|refine am ?_|refine a6 ?_|refine a7 a4 rfl rfl ?_)
  refine aJ rfl rfl rfl ?_
  unfold cq
  rw [if_pos h']
  rfl
 ·have h' := Dy h
  rw [Du] at h'
  repeat' (first|refine a8 ?_|refine a0 ?_|refine ah ?_|refine a5 ?_|refine a7 a4 rfl rfl ?_)
  refine aN L0 [] (yq hu l err J L0 h0 (hw (by omega))) rfl (dS hu) (bz rfl) rfl fun c L1 hc => ?_
  subst hc
  repeat' (first|refine ae ?_|refine a5 ?_|refine a6 ?_|refine a7 a4 rfl rfl ?_)
  refine aJ rfl rfl rfl ?_
  unfold cq
  rw [if_neg h']
  rfl
theorem BV {g : FuncId} {caps : List AV} (l : List (List fp)) (most : Int) : bk Tryz.prog 70 [.imm 1 (l.map d7), az most, .fn g caps] (.fn 147 [.iptr [.imm 1 (l.map d7)], .iptr [az most], .iptr [.fn g caps]]) := by
 refine aB Tryz.func70 rfl Tryz.ntmps70 rfl fun B => ?_
 repeat' (first|refine a8 ?_|refine a0 ?_|refine ae ?_|refine a5 ?_|refine a6 ?_|refine a7 a4 rfl rfl ?_|refine aX ?_|fail)
 exact ak rfl rfl rfl
instance {g : FuncId} {caps : List AV} (l : List (List fp)) (most : Int) : AD Tryz.prog 70 [.imm 1 (l.map d7), az most, .fn g caps] (.fn 147 [.iptr [.imm 1 (l.map d7)], .iptr [az most], .iptr [.fn g caps]]) := ⟨BV l most⟩
theorem yr {g : FuncId} {caps : List AV} {u : AV} [bi Tryz.prog g] (hu : hQ u = some (g, caps)) (l : List fp) (err : Nat → Int) (J : Nat → AL → Prop) (L0 : AL) (h0 : J 0 L0) (hw : ∀ i x L, l[i]? = some x → J i L → AC Tryz.prog g ([az i, .agg (qh x)] ++ caps) L fun c L' => c = az (err i) ∧ (err i = 0 → J (i + 1) L')) :
  AC Tryz.prog 149 [.imm 3 (l.map qh), u] L0 fun r _ => r = bK (ct err l.length) := by
 refine aB Tryz.func149 rfl Tryz.ntmps149 rfl fun B => ?_
 refine cf 0 rfl rfl fun hlen => ?_
 rw [Du] at hlen
 repeat' (first|refine a8 ?_|refine a0 ?_|refine aj ?_|refine a5 ?_|refine a6 ?_|refine a7 a4 rfl rfl ?_)
 refine aK [1, 9, 10] (α := Nat × AL) (fun i => [(11, az i.1)]) (fun i => i.1 ≤ l.length ∧ J i.1 i.2 ∧ ct err l.length = cv err (l.length - i.1) i.1) (fun i => i.2) (fun i => l.length - i.1) (0, L0) rfl ⟨rfl, trivial⟩ ⟨Nat.zero_le _, h0, rfl⟩ (fun _ _ h => h) ?_
 rintro ⟨i, L⟩ ⟨hi, hj, he⟩
 dsimp only at hi hj he ⊢
 try dsimp only [Ds, Dr, Dq, Dn]
 repeat' (first|refine a8 ?_|refine a0 ?_|refine a5 ?_|refine a6 ?_|refine a7 a4 rfl rfl ?_)
 refine aq rfl (fun h => ?_) (fun h => ?_)
 ·have hil : i < l.length := by have := Dz h; simp at this; omega
  obtain ⟨z, hz⟩ : ∃ z, l[i]? = some z := ⟨_, Bj hil⟩
  have hzg := bV (c := qh) hz
  repeat' (first|refine a8 ?_|refine a0 ?_|refine aj ?_|refine ah ?_|refine a5 ?_|refine a6 ?_|refine a7 a4 rfl rfl ?_|(apply aE; first|refine aD a4 ?_|refine aA a4 ?_)|(apply aO; first|refine a9 7 a4 0 rfl rfl rfl rfl rfl rfl rfl rfl ?_|refine a9 7 a4 1 rfl rfl rfl rfl rfl rfl rfl rfl ?_|refine a9 7 a4 2 rfl rfl rfl rfl rfl rfl rfl rfl ?_|refine aa a4 0 rfl rfl rfl rfl rfl rfl rfl ?_|refine aa a4 1 rfl rfl rfl rfl rfl rfl rfl ?_|refine aa a4 2 rfl rfl rfl rfl rfl rfl rfl ?_|refine aa a4 3 rfl rfl rfl rfl rfl rfl rfl ?_|fail)|refine aY a4 fun _=>?_|fail)
  refine cF L [] (hw i z L hz hj) rfl hu rfl (bz rfl) rfl rfl fun c L1 ⟨hc, hj'⟩ => ?_
  subst hc
  rw [List.append_nil]
  repeat' (first|refine a8 ?_|refine a0 ?_|refine a5 ?_|refine a6 ?_|refine a7 a4 rfl rfl ?_)
  refine aq rfl (fun h2 => ?_) (fun h2 => ?_)
  ·have h2' := Dz h2
   repeat' (first|refine a8 ?_|refine a0 ?_|refine ae ?_|refine a5 ?_|refine am ?_|refine aI ?_|refine bc ?_|refine a6 ?_|refine a7 a4 rfl rfl ?_)
   refine aJ rfl rfl rfl ?_
   rw [he, bX hil h2']
   rfl
  ·have h2' := Decidable.not_not.1 (Dy h2)
   repeat' (first|refine a0 ?_|refine ah ?_|refine a5 ?_|refine aH ?_|refine a6 ?_|refine a7 a4 rfl rfl ?_|(apply aS; refine aR ?_)|fail)
   exact ay (i + 1, L1) rfl ⟨by rw [Dv]; rfl, trivial⟩ ⟨by dsimp only; omega, hj' h2', by rw [he]; exact bP hil h2'⟩ (by dsimp only; omega) (fun _ _ h => h)
 ·have hil : i = l.length := by have := Dy h; simp at this; omega
  subst hil
  repeat' (first|refine a8 ?_|refine a0 ?_|refine ae ?_|refine aL ?_|refine a5 ?_|refine ar ?_|refine av ?_|refine au ?_|refine a6 ?_|refine a7 a4 rfl rfl ?_)
  refine aJ rfl rfl rfl ?_
  rw [he, Nat.sub_self]
  rfl
theorem yt {g : FuncId} {caps : List AV} {u : AV} [bi Tryz.prog g] (hu : hQ u = some (g, caps)) (l : List (List gy)) (err : Nat → Int) (J : Nat → AL → Prop) (L0 : AL) (h0 : J 0 L0) (hw : ∀ i x L, l[i]? = some x → J i L → AC Tryz.prog g ([az i, .imm 2 (x.map ie)] ++ caps) L fun c L' => c = az (err i) ∧ (err i = 0 → J (i + 1) L')) :
  AC Tryz.prog 152 [.imm 1 (l.map jM), u] L0 fun r _ => r = bK (ct err l.length) := by
 refine aB Tryz.func152 rfl Tryz.ntmps152 rfl fun B => ?_
 refine cf 0 rfl rfl fun hlen => ?_
 rw [Du] at hlen
 repeat' (first|refine a8 ?_|refine a0 ?_|refine aj ?_|refine a5 ?_|refine a6 ?_|refine a7 a4 rfl rfl ?_)
 refine aK [1, 9, 10] (α := Nat × AL) (fun i => [(11, az i.1)]) (fun i => i.1 ≤ l.length ∧ J i.1 i.2 ∧ ct err l.length = cv err (l.length - i.1) i.1) (fun i => i.2) (fun i => l.length - i.1) (0, L0) rfl ⟨rfl, trivial⟩ ⟨Nat.zero_le _, h0, rfl⟩ (fun _ _ h => h) ?_
 rintro ⟨i, L⟩ ⟨hi, hj, he⟩
 dsimp only at hi hj he ⊢
 try dsimp only [Ds, Dr, Dq, Dn]
 repeat' (first|refine a8 ?_|refine a0 ?_|refine a5 ?_|refine a6 ?_|refine a7 a4 rfl rfl ?_)
 refine aq rfl (fun h => ?_) (fun h => ?_)
 ·have hil : i < l.length := by have := Dz h; simp at this; omega
  obtain ⟨z, hz⟩ : ∃ z, l[i]? = some z := ⟨_, Bj hil⟩
  have hzg := bV (c := jM) hz
  repeat' (first|refine a8 ?_|refine a0 ?_|refine aj ?_|refine ah ?_|refine a5 ?_|refine a6 ?_|refine a7 a4 rfl rfl ?_|(apply aE; first|refine aD a4 ?_|refine aA a4 ?_)|fail)
  refine cF L [] (hw i z L hz hj) rfl hu rfl (bz rfl) rfl rfl fun c L1 ⟨hc, hj'⟩ => ?_
  subst hc
  rw [List.append_nil]
  repeat' (first|refine a8 ?_|refine a0 ?_|refine a5 ?_|refine a6 ?_|refine a7 a4 rfl rfl ?_)
  refine aq rfl (fun h2 => ?_) (fun h2 => ?_)
  ·have h2' := Dz h2
   repeat' (first|refine a8 ?_|refine a0 ?_|refine ae ?_|refine a5 ?_|refine am ?_|refine aI ?_|refine bc ?_|refine a6 ?_|refine a7 a4 rfl rfl ?_)
   refine aJ rfl rfl rfl ?_
   rw [he, bX hil h2']
   rfl
  ·have h2' := Decidable.not_not.1 (Dy h2)
   repeat' (first|refine a0 ?_|refine ah ?_|refine a5 ?_|refine aH ?_|refine a6 ?_|refine a7 a4 rfl rfl ?_|(apply aS; refine aR ?_)|fail)
   exact ay (i + 1, L1) rfl ⟨by rw [Dv]; rfl, trivial⟩ ⟨by dsimp only; omega, hj' h2', by rw [he]; exact bP hil h2'⟩ (by dsimp only; omega) (fun _ _ h => h)
 ·have hil : i = l.length := by have := Dy h; simp at this; omega
  subst hil
  repeat' (first|refine a8 ?_|refine a0 ?_|refine ae ?_|refine aL ?_|refine a5 ?_|refine ar ?_|refine av ?_|refine au ?_|refine a6 ?_|refine a7 a4 rfl rfl ?_)
  refine aJ rfl rfl rfl ?_
  rw [he, Nat.sub_self]
  rfl
theorem za {g : FuncId} {caps : List AV} {u : AV} [bi Tryz.prog g] (hu : hQ u = some (g, caps)) (l : List (List gy)) (most : Int) (err : Nat → Int) (J : Nat → AL → Prop) (L0 : AL) (h0 : J 0 L0) (hw : (l.length : Int) ≤ most → ∀ i x L, l[i]? = some x → J i L → AC Tryz.prog g ([az i, .imm 2 (x.map ie)] ++ caps) L fun c L' => c = az (err i) ∧ (err i = 0 → J (i + 1) L')) :
  AC Tryz.prog 151 [.iptr [.imm 1 (l.map jM)], .iptr [az most], .iptr [u]] L0 fun r _ => r = bK (cq most err l.length) := by
 refine aB Tryz.func151 rfl Tryz.ntmps151 rfl fun B => ?_
 repeat' (first|refine a8 ?_|refine a0 ?_|refine a5 ?_|refine a6 ?_|refine a7 a4 rfl rfl ?_)
 refine aq rfl (fun h => ?_) (fun h => ?_)
 ·have h' := Dz h
  rw [Du] at h'
  repeat' (first|refine a8 ?_|refine a0 ?_|refine ae ?_|refine a5 ?_|refine am ?_|refine a6 ?_|refine a7 a4 rfl rfl ?_)
  refine aJ rfl rfl rfl ?_
  unfold cq
  rw [if_pos h']
  rfl
 ·have h' := Dy h
  rw [Du] at h'
  repeat' (first|refine a8 ?_|refine a0 ?_|refine ah ?_|refine a5 ?_|refine a7 a4 rfl rfl ?_)
  refine aN L0 [] (yt hu l err J L0 h0 (hw (by omega))) rfl (dS hu) (bz rfl) rfl fun c L1 hc => ?_
  subst hc
  repeat' (first|refine ae ?_|refine a5 ?_|refine a6 ?_|refine a7 a4 rfl rfl ?_)
  refine aJ rfl rfl rfl ?_
  unfold cq
  rw [if_neg h']
  rfl
theorem AP {g : FuncId} (l : List (List gy)) (most : Int) : bk Tryz.prog 73 [.imm 1 (l.map jM), az most, .sc (.func (.func g) #[] #[])] (.fn 151 [.iptr [.imm 1 (l.map jM)], .iptr [az most], .iptr [.sc (.func (.func g) #[] #[])]]) := by
 refine aB Tryz.func73 rfl Tryz.ntmps73 rfl fun B => ?_
 repeat' (first|refine a8 ?_|refine a0 ?_|refine ae ?_|refine a5 ?_|refine a6 ?_|refine a7 a4 rfl rfl ?_|refine aX ?_|fail)
 exact ak rfl rfl rfl
instance {g : FuncId} (l : List (List gy)) (most : Int) : AD Tryz.prog 73 [.imm 1 (l.map jM), az most, .sc (.func (.func g) #[] #[])] (.fn 151 [.iptr [.imm 1 (l.map jM)], .iptr [az most], .iptr [.sc (.func (.func g) #[] #[])]]) := ⟨AP l most⟩
theorem yu {g : FuncId} {caps : List AV} {u : AV} [bi Tryz.prog g] (hu : hQ u = some (g, caps)) (l : List i7) (err : Nat → Int) (J : Nat → AL → Prop) (L0 : AL) (h0 : J 0 L0) (hw : ∀ i x L, l[i]? = some x → J i L → AC Tryz.prog g ([az i, .agg (fw x)] ++ caps) L fun c L' => c = az (err i) ∧ (err i = 0 → J (i + 1) L')) :
  AC Tryz.prog 198 [.imm 3 (l.map fw), u] L0 fun r _ => r = bK (ct err l.length) := by
 refine aB Tryz.func198 rfl Tryz.ntmps198 rfl fun B => ?_
 refine cf 0 rfl rfl fun hlen => ?_
 rw [Du] at hlen
 repeat' (first|refine a8 ?_|refine a0 ?_|refine aj ?_|refine a5 ?_|refine a6 ?_|refine a7 a4 rfl rfl ?_)
 refine aK [1, 9, 10] (α := Nat × AL) (fun i => [(11, az i.1)]) (fun i => i.1 ≤ l.length ∧ J i.1 i.2 ∧ ct err l.length = cv err (l.length - i.1) i.1) (fun i => i.2) (fun i => l.length - i.1) (0, L0) rfl ⟨rfl, trivial⟩ ⟨Nat.zero_le _, h0, rfl⟩ (fun _ _ h => h) ?_
 rintro ⟨i, L⟩ ⟨hi, hj, he⟩
 dsimp only at hi hj he ⊢
 try dsimp only [Ds, Dr, Dq, Dn]
 repeat' (first|refine a8 ?_|refine a0 ?_|refine a5 ?_|refine a6 ?_|refine a7 a4 rfl rfl ?_)
 refine aq rfl (fun h => ?_) (fun h => ?_)
 ·have hil : i < l.length := by have := Dz h; simp at this; omega
  obtain ⟨z, hz⟩ : ∃ z, l[i]? = some z := ⟨_, Bj hil⟩
  have hzg := bV (c := fw) hz
  repeat' (first|refine a8 ?_|refine a0 ?_|refine aj ?_|refine ah ?_|refine a5 ?_|refine a6 ?_|refine a7 a4 rfl rfl ?_|(apply aE; first|refine aD a4 ?_|refine aA a4 ?_)|(apply aO; first|refine a9 7 a4 0 rfl rfl rfl rfl rfl rfl rfl rfl ?_|refine a9 7 a4 1 rfl rfl rfl rfl rfl rfl rfl rfl ?_|refine a9 7 a4 2 rfl rfl rfl rfl rfl rfl rfl rfl ?_|refine aa a4 0 rfl rfl rfl rfl rfl rfl rfl ?_|refine aa a4 1 rfl rfl rfl rfl rfl rfl rfl ?_|refine aa a4 2 rfl rfl rfl rfl rfl rfl rfl ?_|refine aa a4 3 rfl rfl rfl rfl rfl rfl rfl ?_|fail)|refine aY a4 fun _=>?_|fail)
  refine cF L [] (hw i z L hz hj) rfl hu rfl (bz rfl) rfl rfl fun c L1 ⟨hc, hj'⟩ => ?_
  subst hc
  rw [List.append_nil]
  repeat' (first|refine a8 ?_|refine a0 ?_|refine a5 ?_|refine a6 ?_|refine a7 a4 rfl rfl ?_)
  refine aq rfl (fun h2 => ?_) (fun h2 => ?_)
  ·have h2' := Dz h2
   repeat' (first|refine a8 ?_|refine a0 ?_|refine ae ?_|refine a5 ?_|refine am ?_|refine aI ?_|refine bc ?_|refine a6 ?_|refine a7 a4 rfl rfl ?_)
   refine aJ rfl rfl rfl ?_
   rw [he, bX hil h2']
   rfl
  ·have h2' := Decidable.not_not.1 (Dy h2)
   repeat' (first|refine a0 ?_|refine ah ?_|refine a5 ?_|refine aH ?_|refine a6 ?_|refine a7 a4 rfl rfl ?_|(apply aS; refine aR ?_)|fail)
   exact ay (i + 1, L1) rfl ⟨by rw [Dv]; rfl, trivial⟩ ⟨by dsimp only; omega, hj' h2', by rw [he]; exact bP hil h2'⟩ (by dsimp only; omega) (fun _ _ h => h)
 ·have hil : i = l.length := by have := Dy h; simp at this; omega
  subst hil
  repeat' (first|refine a8 ?_|refine a0 ?_|refine ae ?_|refine aL ?_|refine a5 ?_|refine ar ?_|refine av ?_|refine au ?_|refine a6 ?_|refine a7 a4 rfl rfl ?_)
  refine aJ rfl rfl rfl ?_
  rw [he, Nat.sub_self]
  rfl
theorem yw {g : FuncId} {caps : List AV} {u : AV} [bi Tryz.prog g] (hu : hQ u = some (g, caps)) (l : List cQ) (err : Nat → Int) (J : Nat → AL → Prop) (L0 : AL) (h0 : J 0 L0) (hw : ∀ i x L, l[i]? = some x → J i L → AC Tryz.prog g ([az i, .agg (eX x)] ++ caps) L fun c L' => c = az (err i) ∧ (err i = 0 → J (i + 1) L')) :
  AC Tryz.prog 202 [.imm 3 (l.map eX), u] L0 fun r _ => r = bK (ct err l.length) := by
 refine aB Tryz.func202 rfl Tryz.ntmps202 rfl fun B => ?_
 refine cf 0 rfl rfl fun hlen => ?_
 rw [Du] at hlen
 repeat' (first|refine a8 ?_|refine a0 ?_|refine aj ?_|refine a5 ?_|refine a6 ?_|refine a7 a4 rfl rfl ?_)
 refine aK [1, 9, 10] (α := Nat × AL) (fun i => [(11, az i.1)]) (fun i => i.1 ≤ l.length ∧ J i.1 i.2 ∧ ct err l.length = cv err (l.length - i.1) i.1) (fun i => i.2) (fun i => l.length - i.1) (0, L0) rfl ⟨rfl, trivial⟩ ⟨Nat.zero_le _, h0, rfl⟩ (fun _ _ h => h) ?_
 rintro ⟨i, L⟩ ⟨hi, hj, he⟩
 dsimp only at hi hj he ⊢
 try dsimp only [Ds, Dr, Dq, Dn]
 repeat' (first|refine a8 ?_|refine a0 ?_|refine a5 ?_|refine a6 ?_|refine a7 a4 rfl rfl ?_)
 refine aq rfl (fun h => ?_) (fun h => ?_)
 ·have hil : i < l.length := by have := Dz h; simp at this; omega
  obtain ⟨z, hz⟩ : ∃ z, l[i]? = some z := ⟨_, Bj hil⟩
  have hzg := bV (c := eX) hz
  repeat' (first|refine a8 ?_|refine a0 ?_|refine aj ?_|refine ah ?_|refine a5 ?_|refine a6 ?_|refine a7 a4 rfl rfl ?_|(apply aE; first|refine aD a4 ?_|refine aA a4 ?_)|(apply aO; first|refine a9 7 a4 0 rfl rfl rfl rfl rfl rfl rfl rfl ?_|refine a9 7 a4 1 rfl rfl rfl rfl rfl rfl rfl rfl ?_|refine a9 7 a4 2 rfl rfl rfl rfl rfl rfl rfl rfl ?_|refine aa a4 0 rfl rfl rfl rfl rfl rfl rfl ?_|refine aa a4 1 rfl rfl rfl rfl rfl rfl rfl ?_|refine aa a4 2 rfl rfl rfl rfl rfl rfl rfl ?_|refine aa a4 3 rfl rfl rfl rfl rfl rfl rfl ?_|fail)|refine aY a4 fun _=>?_|fail)
  refine cF L [] (hw i z L hz hj) rfl hu rfl (bz rfl) rfl rfl fun c L1 ⟨hc, hj'⟩ => ?_
  subst hc
  rw [List.append_nil]
  repeat' (first|refine a8 ?_|refine a0 ?_|refine a5 ?_|refine a6 ?_|refine a7 a4 rfl rfl ?_)
  refine aq rfl (fun h2 => ?_) (fun h2 => ?_)
  ·have h2' := Dz h2
   repeat' (first|refine a8 ?_|refine a0 ?_|refine ae ?_|refine a5 ?_|refine am ?_|refine aI ?_|refine bc ?_|refine a6 ?_|refine a7 a4 rfl rfl ?_)
   refine aJ rfl rfl rfl ?_
   rw [he, bX hil h2']
   rfl
  ·have h2' := Decidable.not_not.1 (Dy h2)
   repeat' (first|refine a0 ?_|refine ah ?_|refine a5 ?_|refine aH ?_|refine a6 ?_|refine a7 a4 rfl rfl ?_|(apply aS; refine aR ?_)|fail)
   exact ay (i + 1, L1) rfl ⟨by rw [Dv]; rfl, trivial⟩ ⟨by dsimp only; omega, hj' h2', by rw [he]; exact bP hil h2'⟩ (by dsimp only; omega) (fun _ _ h => h)
 ·have hil : i = l.length := by have := Dy h; simp at this; omega
  subst hil
  repeat' (first|refine a8 ?_|refine a0 ?_|refine ae ?_|refine aL ?_|refine a5 ?_|refine ar ?_|refine av ?_|refine au ?_|refine a6 ?_|refine a7 a4 rfl rfl ?_)
  refine aJ rfl rfl rfl ?_
  rw [he, Nat.sub_self]
  rfl
theorem zf {g : FuncId} {caps : List AV} {u : AV} [bi Tryz.prog g] (hu : hQ u = some (g, caps)) (l : List cQ) (most : Int) (err : Nat → Int) (J : Nat → AL → Prop) (L0 : AL) (h0 : J 0 L0) (hw : (l.length : Int) ≤ most → ∀ i x L, l[i]? = some x → J i L → AC Tryz.prog g ([az i, .agg (eX x)] ++ caps) L fun c L' => c = az (err i) ∧ (err i = 0 → J (i + 1) L')) :
  AC Tryz.prog 201 [.iptr [.imm 3 (l.map eX)], .iptr [az most], .iptr [u]] L0 fun r _ => r = bK (cq most err l.length) := by
 refine aB Tryz.func201 rfl Tryz.ntmps201 rfl fun B => ?_
 repeat' (first|refine a8 ?_|refine a0 ?_|refine a5 ?_|refine a6 ?_|refine a7 a4 rfl rfl ?_)
 refine aq rfl (fun h => ?_) (fun h => ?_)
 ·have h' := Dz h
  rw [Du] at h'
  repeat' (first|refine a8 ?_|refine a0 ?_|refine ae ?_|refine a5 ?_|refine am ?_|refine a6 ?_|refine a7 a4 rfl rfl ?_)
  refine aJ rfl rfl rfl ?_
  unfold cq
  rw [if_pos h']
  rfl
 ·have h' := Dy h
  rw [Du] at h'
  repeat' (first|refine a8 ?_|refine a0 ?_|refine ah ?_|refine a5 ?_|refine a7 a4 rfl rfl ?_)
  refine aN L0 [] (yw hu l err J L0 h0 (hw (by omega))) rfl (dS hu) (bz rfl) rfl fun c L1 hc => ?_
  subst hc
  repeat' (first|refine ae ?_|refine a5 ?_|refine a6 ?_|refine a7 a4 rfl rfl ?_)
  refine aJ rfl rfl rfl ?_
  unfold cq
  rw [if_neg h']
  rfl
theorem BW {g : FuncId} {caps : List AV} (l : List cQ) (most : Int) : bk Tryz.prog 117 [.imm 3 (l.map eX), az most, .fn g caps] (.fn 201 [.iptr [.imm 3 (l.map eX)], .iptr [az most], .iptr [.fn g caps]]) := by
 refine aB Tryz.func117 rfl Tryz.ntmps117 rfl fun B => ?_
 repeat' (first|refine a8 ?_|refine a0 ?_|refine ae ?_|refine a5 ?_|refine a6 ?_|refine a7 a4 rfl rfl ?_|refine aX ?_|fail)
 exact ak rfl rfl rfl
instance {g : FuncId} {caps : List AV} (l : List cQ) (most : Int) : AD Tryz.prog 117 [.imm 3 (l.map eX), az most, .fn g caps] (.fn 201 [.iptr [.imm 3 (l.map eX)], .iptr [az most], .iptr [.fn g caps]]) := ⟨BW l most⟩
theorem yx {g : FuncId} {caps : List AV} {u : AV} [bi Tryz.prog g] (hu : hQ u = some (g, caps)) (l : List dt) (err : Nat → Int) (J : Nat → AL → Prop) (L0 : AL) (h0 : J 0 L0) (hw : ∀ i x L, l[i]? = some x → J i L → AC Tryz.prog g ([az i, .agg (dR x)] ++ caps) L fun c L' => c = az (err i) ∧ (err i = 0 → J (i + 1) L')) :
  AC Tryz.prog 204 [.imm 4 (l.map dR), u] L0 fun r _ => r = bK (ct err l.length) := by
 refine aB Tryz.func204 rfl Tryz.ntmps204 rfl fun B => ?_
 refine cf 0 rfl rfl fun hlen => ?_
 rw [Du] at hlen
 repeat' (first|refine a8 ?_|refine a0 ?_|refine aj ?_|refine a5 ?_|refine a6 ?_|refine a7 a4 rfl rfl ?_)
 refine aK [1, 9, 10] (α := Nat × AL) (fun i => [(11, az i.1)]) (fun i => i.1 ≤ l.length ∧ J i.1 i.2 ∧ ct err l.length = cv err (l.length - i.1) i.1) (fun i => i.2) (fun i => l.length - i.1) (0, L0) rfl ⟨rfl, trivial⟩ ⟨Nat.zero_le _, h0, rfl⟩ (fun _ _ h => h) ?_
 rintro ⟨i, L⟩ ⟨hi, hj, he⟩
 dsimp only at hi hj he ⊢
 try dsimp only [Ds, Dr, Dq, Dn]
 repeat' (first|refine a8 ?_|refine a0 ?_|refine a5 ?_|refine a6 ?_|refine a7 a4 rfl rfl ?_)
 refine aq rfl (fun h => ?_) (fun h => ?_)
 ·have hil : i < l.length := by have := Dz h; simp at this; omega
  obtain ⟨z, hz⟩ : ∃ z, l[i]? = some z := ⟨_, Bj hil⟩
  have hzg := bV (c := dR) hz
  repeat' (first|refine a8 ?_|refine a0 ?_|refine aj ?_|refine ah ?_|refine a5 ?_|refine a6 ?_|refine a7 a4 rfl rfl ?_|(apply aE; first|refine aD a4 ?_|refine aA a4 ?_)|(apply aO; first|refine a9 7 a4 0 rfl rfl rfl rfl rfl rfl rfl rfl ?_|refine a9 7 a4 1 rfl rfl rfl rfl rfl rfl rfl rfl ?_|refine a9 7 a4 2 rfl rfl rfl rfl rfl rfl rfl rfl ?_|refine aa a4 0 rfl rfl rfl rfl rfl rfl rfl ?_|refine aa a4 1 rfl rfl rfl rfl rfl rfl rfl ?_|refine aa a4 2 rfl rfl rfl rfl rfl rfl rfl ?_|refine aa a4 3 rfl rfl rfl rfl rfl rfl rfl ?_|fail)|refine aY a4 fun _=>?_|fail)
  refine cF L [] (hw i z L hz hj) rfl hu rfl (bz rfl) rfl rfl fun c L1 ⟨hc, hj'⟩ => ?_
  subst hc
  rw [List.append_nil]
  repeat' (first|refine a8 ?_|refine a0 ?_|refine a5 ?_|refine a6 ?_|refine a7 a4 rfl rfl ?_)
  refine aq rfl (fun h2 => ?_) (fun h2 => ?_)
  ·have h2' := Dz h2
   repeat' (first|refine a8 ?_|refine a0 ?_|refine ae ?_|refine a5 ?_|refine am ?_|refine aI ?_|refine bc ?_|refine a6 ?_|refine a7 a4 rfl rfl ?_)
   refine aJ rfl rfl rfl ?_
   rw [he, bX hil h2']
   rfl
  ·have h2' := Decidable.not_not.1 (Dy h2)
   repeat' (first|refine a0 ?_|refine ah ?_|refine a5 ?_|refine aH ?_|refine a6 ?_|refine a7 a4 rfl rfl ?_|(apply aS; refine aR ?_)|fail)
   exact ay (i + 1, L1) rfl ⟨by rw [Dv]; rfl, trivial⟩ ⟨by dsimp only; omega, hj' h2', by rw [he]; exact bP hil h2'⟩ (by dsimp only; omega) (fun _ _ h => h)
 ·have hil : i = l.length := by have := Dy h; simp at this; omega
  subst hil
  repeat' (first|refine a8 ?_|refine a0 ?_|refine ae ?_|refine aL ?_|refine a5 ?_|refine ar ?_|refine av ?_|refine au ?_|refine a6 ?_|refine a7 a4 rfl rfl ?_)
  refine aJ rfl rfl rfl ?_
  rw [he, Nat.sub_self]
  rfl
theorem zg {g : FuncId} {caps : List AV} {u : AV} [bi Tryz.prog g] (hu : hQ u = some (g, caps)) (l : List dt) (most : Int) (err : Nat → Int) (J : Nat → AL → Prop) (L0 : AL) (h0 : J 0 L0) (hw : (l.length : Int) ≤ most → ∀ i x L, l[i]? = some x → J i L → AC Tryz.prog g ([az i, .agg (dR x)] ++ caps) L fun c L' => c = az (err i) ∧ (err i = 0 → J (i + 1) L')) :
  AC Tryz.prog 203 [.iptr [.imm 4 (l.map dR)], .iptr [az most], .iptr [u]] L0 fun r _ => r = bK (cq most err l.length) := by
 refine aB Tryz.func203 rfl Tryz.ntmps203 rfl fun B => ?_
 repeat' (first|refine a8 ?_|refine a0 ?_|refine a5 ?_|refine a6 ?_|refine a7 a4 rfl rfl ?_)
 refine aq rfl (fun h => ?_) (fun h => ?_)
 ·have h' := Dz h
  rw [Du] at h'
  repeat' (first|refine a8 ?_|refine a0 ?_|refine ae ?_|refine a5 ?_|refine am ?_|refine a6 ?_|refine a7 a4 rfl rfl ?_)
  refine aJ rfl rfl rfl ?_
  unfold cq
  rw [if_pos h']
  rfl
 ·have h' := Dy h
  rw [Du] at h'
  repeat' (first|refine a8 ?_|refine a0 ?_|refine ah ?_|refine a5 ?_|refine a7 a4 rfl rfl ?_)
  refine aN L0 [] (yx hu l err J L0 h0 (hw (by omega))) rfl (dS hu) (bz rfl) rfl fun c L1 hc => ?_
  subst hc
  repeat' (first|refine ae ?_|refine a5 ?_|refine a6 ?_|refine a7 a4 rfl rfl ?_)
  refine aJ rfl rfl rfl ?_
  unfold cq
  rw [if_neg h']
  rfl
theorem BX {g : FuncId} {caps : List AV} (l : List dt) (most : Int) : bk Tryz.prog 120 [.imm 4 (l.map dR), az most, .fn g caps] (.fn 203 [.iptr [.imm 4 (l.map dR)], .iptr [az most], .iptr [.fn g caps]]) := by
 refine aB Tryz.func120 rfl Tryz.ntmps120 rfl fun B => ?_
 repeat' (first|refine a8 ?_|refine a0 ?_|refine ae ?_|refine a5 ?_|refine a6 ?_|refine a7 a4 rfl rfl ?_|refine aX ?_|fail)
 exact ak rfl rfl rfl
instance {g : FuncId} {caps : List AV} (l : List dt) (most : Int) : AD Tryz.prog 120 [.imm 4 (l.map dR), az most, .fn g caps] (.fn 203 [.iptr [.imm 4 (l.map dR)], .iptr [az most], .iptr [.fn g caps]]) := ⟨BX l most⟩
theorem yz {g : FuncId} {caps : List AV} {u : AV} [bi Tryz.prog g] (hu : hQ u = some (g, caps)) (l : List f0) (err : Nat → Int) (J : Nat → AL → Prop) (L0 : AL) (h0 : J 0 L0) (hw : ∀ i x L, l[i]? = some x → J i L → AC Tryz.prog g ([az i, .agg (f4 x)] ++ caps) L fun c L' => c = az (err i) ∧ (err i = 0 → J (i + 1) L')) :
  AC Tryz.prog 207 [.imm 4 (l.map f4), u] L0 fun r _ => r = bK (ct err l.length) := by
 refine aB Tryz.func207 rfl Tryz.ntmps207 rfl fun B => ?_
 refine cf 0 rfl rfl fun hlen => ?_
 rw [Du] at hlen
 repeat' (first|refine a8 ?_|refine a0 ?_|refine aj ?_|refine a5 ?_|refine a6 ?_|refine a7 a4 rfl rfl ?_)
 refine aK [1, 9, 10] (α := Nat × AL) (fun i => [(11, az i.1)]) (fun i => i.1 ≤ l.length ∧ J i.1 i.2 ∧ ct err l.length = cv err (l.length - i.1) i.1) (fun i => i.2) (fun i => l.length - i.1) (0, L0) rfl ⟨rfl, trivial⟩ ⟨Nat.zero_le _, h0, rfl⟩ (fun _ _ h => h) ?_
 rintro ⟨i, L⟩ ⟨hi, hj, he⟩
 dsimp only at hi hj he ⊢
 try dsimp only [Ds, Dr, Dq, Dn]
 repeat' (first|refine a8 ?_|refine a0 ?_|refine a5 ?_|refine a6 ?_|refine a7 a4 rfl rfl ?_)
 refine aq rfl (fun h => ?_) (fun h => ?_)
 ·have hil : i < l.length := by have := Dz h; simp at this; omega
  obtain ⟨z, hz⟩ : ∃ z, l[i]? = some z := ⟨_, Bj hil⟩
  have hzg := bV (c := f4) hz
  repeat' (first|refine a8 ?_|refine a0 ?_|refine aj ?_|refine ah ?_|refine a5 ?_|refine a6 ?_|refine a7 a4 rfl rfl ?_|(apply aE; first|refine aD a4 ?_|refine aA a4 ?_)|(apply aO; first|refine a9 7 a4 0 rfl rfl rfl rfl rfl rfl rfl rfl ?_|refine a9 7 a4 1 rfl rfl rfl rfl rfl rfl rfl rfl ?_|refine a9 7 a4 2 rfl rfl rfl rfl rfl rfl rfl rfl ?_|refine aa a4 0 rfl rfl rfl rfl rfl rfl rfl ?_|refine aa a4 1 rfl rfl rfl rfl rfl rfl rfl ?_|refine aa a4 2 rfl rfl rfl rfl rfl rfl rfl ?_|refine aa a4 3 rfl rfl rfl rfl rfl rfl rfl ?_|fail)|refine aY a4 fun _=>?_|fail)
  refine cF L [] (hw i z L hz hj) rfl hu rfl (bz rfl) rfl rfl fun c L1 ⟨hc, hj'⟩ => ?_
  subst hc
  rw [List.append_nil]
  repeat' (first|refine a8 ?_|refine a0 ?_|refine a5 ?_|refine a6 ?_|refine a7 a4 rfl rfl ?_)
  refine aq rfl (fun h2 => ?_) (fun h2 => ?_)
  ·have h2' := Dz h2
   repeat' (first|refine a8 ?_|refine a0 ?_|refine ae ?_|refine a5 ?_|refine am ?_|refine aI ?_|refine bc ?_|refine a6 ?_|refine a7 a4 rfl rfl ?_)
   refine aJ rfl rfl rfl ?_
   rw [he, bX hil h2']
   rfl
  ·have h2' := Decidable.not_not.1 (Dy h2)
   repeat' (first|refine a0 ?_|refine ah ?_|refine a5 ?_|refine aH ?_|refine a6 ?_|refine a7 a4 rfl rfl ?_|(apply aS; refine aR ?_)|fail)
   exact ay (i + 1, L1) rfl ⟨by rw [Dv]; rfl, trivial⟩ ⟨by dsimp only; omega, hj' h2', by rw [he]; exact bP hil h2'⟩ (by dsimp only; omega) (fun _ _ h => h)
 ·have hil : i = l.length := by have := Dy h; simp at this; omega
  subst hil
  repeat' (first|refine a8 ?_|refine a0 ?_|refine ae ?_|refine aL ?_|refine a5 ?_|refine ar ?_|refine av ?_|refine au ?_|refine a6 ?_|refine a7 a4 rfl rfl ?_)
  refine aJ rfl rfl rfl ?_
  rw [he, Nat.sub_self]
  rfl
theorem zh {g : FuncId} {caps : List AV} {u : AV} [bi Tryz.prog g] (hu : hQ u = some (g, caps)) (l : List f0) (most : Int) (err : Nat → Int) (J : Nat → AL → Prop) (L0 : AL) (h0 : J 0 L0) (hw : (l.length : Int) ≤ most → ∀ i x L, l[i]? = some x → J i L → AC Tryz.prog g ([az i, .agg (f4 x)] ++ caps) L fun c L' => c = az (err i) ∧ (err i = 0 → J (i + 1) L')) :
  AC Tryz.prog 206 [.iptr [.imm 4 (l.map f4)], .iptr [az most], .iptr [u]] L0 fun r _ => r = bK (cq most err l.length) := by
 refine aB Tryz.func206 rfl Tryz.ntmps206 rfl fun B => ?_
 repeat' (first|refine a8 ?_|refine a0 ?_|refine a5 ?_|refine a6 ?_|refine a7 a4 rfl rfl ?_)
 refine aq rfl (fun h => ?_) (fun h => ?_)
 ·have h' := Dz h
  rw [Du] at h'
  repeat' (first|refine a8 ?_|refine a0 ?_|refine ae ?_|refine a5 ?_|refine am ?_|refine a6 ?_|refine a7 a4 rfl rfl ?_)
  refine aJ rfl rfl rfl ?_
  unfold cq
  rw [if_pos h']
  rfl
 ·have h' := Dy h
  rw [Du] at h'
  repeat' (first|refine a8 ?_|refine a0 ?_|refine ah ?_|refine a5 ?_|refine a7 a4 rfl rfl ?_)
  refine aN L0 [] (yz hu l err J L0 h0 (hw (by omega))) rfl (dS hu) (bz rfl) rfl fun c L1 hc => ?_
  subst hc
  repeat' (first|refine ae ?_|refine a5 ?_|refine a6 ?_|refine a7 a4 rfl rfl ?_)
  refine aJ rfl rfl rfl ?_
  unfold cq
  rw [if_neg h']
  rfl
theorem BY {g : FuncId} {caps : List AV} (l : List f0) (most : Int) : bk Tryz.prog 122 [.imm 4 (l.map f4), az most, .fn g caps] (.fn 206 [.iptr [.imm 4 (l.map f4)], .iptr [az most], .iptr [.fn g caps]]) := by
 refine aB Tryz.func122 rfl Tryz.ntmps122 rfl fun B => ?_
 repeat' (first|refine a8 ?_|refine a0 ?_|refine ae ?_|refine a5 ?_|refine a6 ?_|refine a7 a4 rfl rfl ?_|refine aX ?_|fail)
 exact ak rfl rfl rfl
instance {g : FuncId} {caps : List AV} (l : List f0) (most : Int) : AD Tryz.prog 122 [.imm 4 (l.map f4), az most, .fn g caps] (.fn 206 [.iptr [.imm 4 (l.map f4)], .iptr [az most], .iptr [.fn g caps]]) := ⟨BY l most⟩
theorem yA {g : FuncId} {caps : List AV} {u : AV} [bi Tryz.prog g] (hu : hQ u = some (g, caps)) (l : List (List Int)) (err : Nat → Int) (J : Nat → AL → Prop) (L0 : AL) (h0 : J 0 L0) (hw : ∀ i x L, l[i]? = some x → J i L → AC Tryz.prog g ([az i, .imm 1 (aU x)] ++ caps) L fun c L' => c = az (err i) ∧ (err i = 0 → J (i + 1) L')) :
  AC Tryz.prog 215 [.imm 1 (l.map BH), u] L0 fun r _ => r = bK (ct err l.length) := by
 refine aB Tryz.func215 rfl Tryz.ntmps215 rfl fun B => ?_
 refine cf 0 rfl rfl fun hlen => ?_
 rw [Du] at hlen
 repeat' (first|refine a8 ?_|refine a0 ?_|refine aj ?_|refine a5 ?_|refine a6 ?_|refine a7 a4 rfl rfl ?_)
 refine aK [1, 9, 10] (α := Nat × AL) (fun i => [(11, az i.1)]) (fun i => i.1 ≤ l.length ∧ J i.1 i.2 ∧ ct err l.length = cv err (l.length - i.1) i.1) (fun i => i.2) (fun i => l.length - i.1) (0, L0) rfl ⟨rfl, trivial⟩ ⟨Nat.zero_le _, h0, rfl⟩ (fun _ _ h => h) ?_
 rintro ⟨i, L⟩ ⟨hi, hj, he⟩
 dsimp only at hi hj he ⊢
 try dsimp only [Ds, Dr, Dq, Dn]
 repeat' (first|refine a8 ?_|refine a0 ?_|refine a5 ?_|refine a6 ?_|refine a7 a4 rfl rfl ?_)
 refine aq rfl (fun h => ?_) (fun h => ?_)
 ·have hil : i < l.length := by have := Dz h; simp at this; omega
  obtain ⟨z, hz⟩ : ∃ z, l[i]? = some z := ⟨_, Bj hil⟩
  have hzg := bV (c := BH) hz
  repeat' (first|refine a8 ?_|refine a0 ?_|refine aj ?_|refine ah ?_|refine a5 ?_|refine a6 ?_|refine a7 a4 rfl rfl ?_|(apply aE; first|refine aD a4 ?_|refine aA a4 ?_)|fail)
  refine cF L [] (hw i z L hz hj) rfl hu rfl (bz rfl) rfl rfl fun c L1 ⟨hc, hj'⟩ => ?_
  subst hc
  rw [List.append_nil]
  repeat' (first|refine a8 ?_|refine a0 ?_|refine a5 ?_|refine a6 ?_|refine a7 a4 rfl rfl ?_)
  refine aq rfl (fun h2 => ?_) (fun h2 => ?_)
  ·have h2' := Dz h2
   repeat' (first|refine a8 ?_|refine a0 ?_|refine ae ?_|refine a5 ?_|refine am ?_|refine aI ?_|refine bc ?_|refine a6 ?_|refine a7 a4 rfl rfl ?_)
   refine aJ rfl rfl rfl ?_
   rw [he, bX hil h2']
   rfl
  ·have h2' := Decidable.not_not.1 (Dy h2)
   repeat' (first|refine a0 ?_|refine ah ?_|refine a5 ?_|refine aH ?_|refine a6 ?_|refine a7 a4 rfl rfl ?_|(apply aS; refine aR ?_)|fail)
   exact ay (i + 1, L1) rfl ⟨by rw [Dv]; rfl, trivial⟩ ⟨by dsimp only; omega, hj' h2', by rw [he]; exact bP hil h2'⟩ (by dsimp only; omega) (fun _ _ h => h)
 ·have hil : i = l.length := by have := Dy h; simp at this; omega
  subst hil
  repeat' (first|refine a8 ?_|refine a0 ?_|refine ae ?_|refine aL ?_|refine a5 ?_|refine ar ?_|refine av ?_|refine au ?_|refine a6 ?_|refine a7 a4 rfl rfl ?_)
  refine aJ rfl rfl rfl ?_
  rw [he, Nat.sub_self]
  rfl
theorem yB {g : FuncId} {caps : List AV} {u : AV} [bi Tryz.prog g] (hu : hQ u = some (g, caps)) (l : List gy) (err : Nat → Int) (J : Nat → AL → Prop) (L0 : AL) (h0 : J 0 L0) (hw : ∀ i x L, l[i]? = some x → J i L → AC Tryz.prog g ([az i, .agg (ie x)] ++ caps) L fun c L' => c = az (err i) ∧ (err i = 0 → J (i + 1) L')) :
  AC Tryz.prog 228 [.imm 2 (l.map ie), u] L0 fun r _ => r = bK (ct err l.length) := by
 refine aB Tryz.func228 rfl Tryz.ntmps228 rfl fun B => ?_
 refine cf 0 rfl rfl fun hlen => ?_
 rw [Du] at hlen
 repeat' (first|refine a8 ?_|refine a0 ?_|refine aj ?_|refine a5 ?_|refine a6 ?_|refine a7 a4 rfl rfl ?_)
 refine aK [1, 9, 10] (α := Nat × AL) (fun i => [(11, az i.1)]) (fun i => i.1 ≤ l.length ∧ J i.1 i.2 ∧ ct err l.length = cv err (l.length - i.1) i.1) (fun i => i.2) (fun i => l.length - i.1) (0, L0) rfl ⟨rfl, trivial⟩ ⟨Nat.zero_le _, h0, rfl⟩ (fun _ _ h => h) ?_
 rintro ⟨i, L⟩ ⟨hi, hj, he⟩
 dsimp only at hi hj he ⊢
 try dsimp only [Ds, Dr, Dq, Dn]
 repeat' (first|refine a8 ?_|refine a0 ?_|refine a5 ?_|refine a6 ?_|refine a7 a4 rfl rfl ?_)
 refine aq rfl (fun h => ?_) (fun h => ?_)
 ·have hil : i < l.length := by have := Dz h; simp at this; omega
  obtain ⟨z, hz⟩ : ∃ z, l[i]? = some z := ⟨_, Bj hil⟩
  have hzg := bV (c := ie) hz
  repeat' (first|refine a8 ?_|refine a0 ?_|refine aj ?_|refine ah ?_|refine a5 ?_|refine a6 ?_|refine a7 a4 rfl rfl ?_|(apply aE; first|refine aD a4 ?_|refine aA a4 ?_)|(apply aO; first|refine a9 7 a4 0 rfl rfl rfl rfl rfl rfl rfl rfl ?_|refine a9 7 a4 1 rfl rfl rfl rfl rfl rfl rfl rfl ?_|refine a9 7 a4 2 rfl rfl rfl rfl rfl rfl rfl rfl ?_|refine aa a4 0 rfl rfl rfl rfl rfl rfl rfl ?_|refine aa a4 1 rfl rfl rfl rfl rfl rfl rfl ?_|refine aa a4 2 rfl rfl rfl rfl rfl rfl rfl ?_|refine aa a4 3 rfl rfl rfl rfl rfl rfl rfl ?_|fail)|refine aY a4 fun _=>?_|fail)
  refine cF L [] (hw i z L hz hj) rfl hu rfl (bz rfl) rfl rfl fun c L1 ⟨hc, hj'⟩ => ?_
  subst hc
  rw [List.append_nil]
  repeat' (first|refine a8 ?_|refine a0 ?_|refine a5 ?_|refine a6 ?_|refine a7 a4 rfl rfl ?_)
  refine aq rfl (fun h2 => ?_) (fun h2 => ?_)
  ·have h2' := Dz h2
   repeat' (first|refine a8 ?_|refine a0 ?_|refine ae ?_|refine a5 ?_|refine am ?_|refine aI ?_|refine bc ?_|refine a6 ?_|refine a7 a4 rfl rfl ?_)
   refine aJ rfl rfl rfl ?_
   rw [he, bX hil h2']
   rfl
  ·have h2' := Decidable.not_not.1 (Dy h2)
   repeat' (first|refine a0 ?_|refine ah ?_|refine a5 ?_|refine aH ?_|refine a6 ?_|refine a7 a4 rfl rfl ?_|(apply aS; refine aR ?_)|fail)
   exact ay (i + 1, L1) rfl ⟨by rw [Dv]; rfl, trivial⟩ ⟨by dsimp only; omega, hj' h2', by rw [he]; exact bP hil h2'⟩ (by dsimp only; omega) (fun _ _ h => h)
 ·have hil : i = l.length := by have := Dy h; simp at this; omega
  subst hil
  repeat' (first|refine a8 ?_|refine a0 ?_|refine ae ?_|refine aL ?_|refine a5 ?_|refine ar ?_|refine av ?_|refine au ?_|refine a6 ?_|refine a7 a4 rfl rfl ?_)
  refine aJ rfl rfl rfl ?_
  rw [he, Nat.sub_self]
  rfl
theorem zi {g : FuncId} {caps : List AV} {u : AV} [bi Tryz.prog g] (hu : hQ u = some (g, caps)) (l : List gy) (most : Int) (err : Nat → Int) (J : Nat → AL → Prop) (L0 : AL) (h0 : J 0 L0) (hw : (l.length : Int) ≤ most → ∀ i x L, l[i]? = some x → J i L → AC Tryz.prog g ([az i, .agg (ie x)] ++ caps) L fun c L' => c = az (err i) ∧ (err i = 0 → J (i + 1) L')) :
  AC Tryz.prog 227 [.iptr [.imm 2 (l.map ie)], .iptr [az most], .iptr [u]] L0 fun r _ => r = bK (cq most err l.length) := by
 refine aB Tryz.func227 rfl Tryz.ntmps227 rfl fun B => ?_
 repeat' (first|refine a8 ?_|refine a0 ?_|refine a5 ?_|refine a6 ?_|refine a7 a4 rfl rfl ?_)
 refine aq rfl (fun h => ?_) (fun h => ?_)
 ·have h' := Dz h
  rw [Du] at h'
  repeat' (first|refine a8 ?_|refine a0 ?_|refine ae ?_|refine a5 ?_|refine am ?_|refine a6 ?_|refine a7 a4 rfl rfl ?_)
  refine aJ rfl rfl rfl ?_
  unfold cq
  rw [if_pos h']
  rfl
 ·have h' := Dy h
  rw [Du] at h'
  repeat' (first|refine a8 ?_|refine a0 ?_|refine ah ?_|refine a5 ?_|refine a7 a4 rfl rfl ?_)
  refine aN L0 [] (yB hu l err J L0 h0 (hw (by omega))) rfl (dS hu) (bz rfl) rfl fun c L1 hc => ?_
  subst hc
  repeat' (first|refine ae ?_|refine a5 ?_|refine a6 ?_|refine a7 a4 rfl rfl ?_)
  refine aJ rfl rfl rfl ?_
  unfold cq
  rw [if_neg h']
  rfl
theorem AR {g : FuncId} (l : List gy) (most : Int) : bk Tryz.prog 153 [.imm 2 (l.map ie), az most, .sc (.func (.func g) #[] #[])] (.fn 227 [.iptr [.imm 2 (l.map ie)], .iptr [az most], .iptr [.sc (.func (.func g) #[] #[])]]) := by
 refine aB Tryz.func153 rfl Tryz.ntmps153 rfl fun B => ?_
 repeat' (first|refine a8 ?_|refine a0 ?_|refine ae ?_|refine a5 ?_|refine a6 ?_|refine a7 a4 rfl rfl ?_|refine aX ?_|fail)
 exact ak rfl rfl rfl
instance {g : FuncId} (l : List gy) (most : Int) : AD Tryz.prog 153 [.imm 2 (l.map ie), az most, .sc (.func (.func g) #[] #[])] (.fn 227 [.iptr [.imm 2 (l.map ie)], .iptr [az most], .iptr [.sc (.func (.func g) #[] #[])]]) := ⟨AR l most⟩
theorem yC {g : FuncId} {caps : List AV} {u : AV} [bi Tryz.prog g] (hu : hQ u = some (g, caps)) (l : List i6) (err : Nat → Int) (J : Nat → AL → Prop) (L0 : AL) (h0 : J 0 L0) (hw : ∀ i x L, l[i]? = some x → J i L → AC Tryz.prog g ([az i, .agg (f7 x)] ++ caps) L fun c L' => c = az (err i) ∧ (err i = 0 → J (i + 1) L')) :
  AC Tryz.prog 272 [.imm 2 (l.map f7), u] L0 fun r _ => r = bK (ct err l.length) := by
 refine aB Tryz.func272 rfl Tryz.ntmps272 rfl fun B => ?_
 refine cf 0 rfl rfl fun hlen => ?_
 rw [Du] at hlen
 repeat' (first|refine a8 ?_|refine a0 ?_|refine aj ?_|refine a5 ?_|refine a6 ?_|refine a7 a4 rfl rfl ?_)
 refine aK [1, 9, 10] (α := Nat × AL) (fun i => [(11, az i.1)]) (fun i => i.1 ≤ l.length ∧ J i.1 i.2 ∧ ct err l.length = cv err (l.length - i.1) i.1) (fun i => i.2) (fun i => l.length - i.1) (0, L0) rfl ⟨rfl, trivial⟩ ⟨Nat.zero_le _, h0, rfl⟩ (fun _ _ h => h) ?_
 rintro ⟨i, L⟩ ⟨hi, hj, he⟩
 dsimp only at hi hj he ⊢
 try dsimp only [Ds, Dr, Dq, Dn]
 repeat' (first|refine a8 ?_|refine a0 ?_|refine a5 ?_|refine a6 ?_|refine a7 a4 rfl rfl ?_)
 refine aq rfl (fun h => ?_) (fun h => ?_)
 ·have hil : i < l.length := by have := Dz h; simp at this; omega
  obtain ⟨z, hz⟩ : ∃ z, l[i]? = some z := ⟨_, Bj hil⟩
  have hzg := bV (c := f7) hz
  repeat' (first|refine a8 ?_|refine a0 ?_|refine aj ?_|refine ah ?_|refine a5 ?_|refine a6 ?_|refine a7 a4 rfl rfl ?_|(apply aE; first|refine aD a4 ?_|refine aA a4 ?_)|(apply aO; first|refine a9 7 a4 0 rfl rfl rfl rfl rfl rfl rfl rfl ?_|refine a9 7 a4 1 rfl rfl rfl rfl rfl rfl rfl rfl ?_|refine a9 7 a4 2 rfl rfl rfl rfl rfl rfl rfl rfl ?_|refine aa a4 0 rfl rfl rfl rfl rfl rfl rfl ?_|refine aa a4 1 rfl rfl rfl rfl rfl rfl rfl ?_|refine aa a4 2 rfl rfl rfl rfl rfl rfl rfl ?_|refine aa a4 3 rfl rfl rfl rfl rfl rfl rfl ?_|fail)|refine aY a4 fun _=>?_|fail)
  refine cF L [] (hw i z L hz hj) rfl hu rfl (bz rfl) rfl rfl fun c L1 ⟨hc, hj'⟩ => ?_
  subst hc
  rw [List.append_nil]
  repeat' (first|refine a8 ?_|refine a0 ?_|refine a5 ?_|refine a6 ?_|refine a7 a4 rfl rfl ?_)
  refine aq rfl (fun h2 => ?_) (fun h2 => ?_)
  ·have h2' := Dz h2
   repeat' (first|refine a8 ?_|refine a0 ?_|refine ae ?_|refine a5 ?_|refine am ?_|refine aI ?_|refine bc ?_|refine a6 ?_|refine a7 a4 rfl rfl ?_)
   refine aJ rfl rfl rfl ?_
   rw [he, bX hil h2']
   rfl
  ·have h2' := Decidable.not_not.1 (Dy h2)
   repeat' (first|refine a0 ?_|refine ah ?_|refine a5 ?_|refine aH ?_|refine a6 ?_|refine a7 a4 rfl rfl ?_|(apply aS; refine aR ?_)|fail)
   exact ay (i + 1, L1) rfl ⟨by rw [Dv]; rfl, trivial⟩ ⟨by dsimp only; omega, hj' h2', by rw [he]; exact bP hil h2'⟩ (by dsimp only; omega) (fun _ _ h => h)
 ·have hil : i = l.length := by have := Dy h; simp at this; omega
  subst hil
  repeat' (first|refine a8 ?_|refine a0 ?_|refine ae ?_|refine aL ?_|refine a5 ?_|refine ar ?_|refine av ?_|refine au ?_|refine a6 ?_|refine a7 a4 rfl rfl ?_)
  refine aJ rfl rfl rfl ?_
  rw [he, Nat.sub_self]
  rfl
theorem jQ {g : FuncId} {caps : List AV} {u : AV} [bi Tryz.prog g] (hu : hQ u = some (g, caps)) (l : List Int) (err : Nat → Int) (J : Nat → AL → Prop) (L0 : AL) (h0 : J 0 L0) (hw : ∀ i x L, l[i]? = some x → J i L → AC Tryz.prog g ([az i, az x] ++ caps) L fun c L' => c = az (err i) ∧ (err i = 0 → J (i + 1) L')) :
  AC Tryz.prog 128 [.imm 1 (l.map u7), u] L0 fun r _ => r = bK (ct err l.length) := by
 refine aB Tryz.func128 rfl Tryz.ntmps128 rfl fun B => ?_
 refine cf 0 rfl rfl fun hlen => ?_
 rw [Du] at hlen
 repeat' (first|refine a8 ?_|refine a0 ?_|refine aj ?_|refine a5 ?_|refine a6 ?_|refine a7 a4 rfl rfl ?_)
 refine aK [1, 9, 10] (α := Nat × AL) (fun i => [(11, az i.1)]) (fun i => i.1 ≤ l.length ∧ J i.1 i.2 ∧ ct err l.length = cv err (l.length - i.1) i.1) (fun i => i.2) (fun i => l.length - i.1) (0, L0) rfl ⟨rfl, trivial⟩ ⟨Nat.zero_le _, h0, rfl⟩ (fun _ _ h => h) ?_
 rintro ⟨i, L⟩ ⟨hi, hj, he⟩
 dsimp only at hi hj he ⊢
 try dsimp only [Ds, Dr, Dq, Dn]
 repeat' (first|refine a8 ?_|refine a0 ?_|refine a5 ?_|refine a6 ?_|refine a7 a4 rfl rfl ?_)
 refine aq rfl (fun h => ?_) (fun h => ?_)
 ·have hil : i < l.length := by have := Dz h; simp at this; omega
  obtain ⟨z, hz⟩ : ∃ z, l[i]? = some z := ⟨_, Bj hil⟩
  have hzg := bV (c := u7) hz
  repeat' (first|refine a8 ?_|refine a0 ?_|refine aj ?_|refine ah ?_|refine a5 ?_|refine a6 ?_|refine a7 a4 rfl rfl ?_|(apply aE; first|refine aD a4 ?_|refine aA a4 ?_)|fail)
  refine cF L [] (hw i z L hz hj) rfl hu rfl (bz rfl) rfl rfl fun c L1 ⟨hc, hj'⟩ => ?_
  subst hc
  rw [List.append_nil]
  repeat' (first|refine a8 ?_|refine a0 ?_|refine a5 ?_|refine a6 ?_|refine a7 a4 rfl rfl ?_)
  refine aq rfl (fun h2 => ?_) (fun h2 => ?_)
  ·have h2' := Dz h2
   repeat' (first|refine a8 ?_|refine a0 ?_|refine ae ?_|refine a5 ?_|refine am ?_|refine aI ?_|refine bc ?_|refine a6 ?_|refine a7 a4 rfl rfl ?_)
   refine aJ rfl rfl rfl ?_
   rw [he, bX hil h2']
   rfl
  ·have h2' := Decidable.not_not.1 (Dy h2)
   repeat' (first|refine a0 ?_|refine ah ?_|refine a5 ?_|refine aH ?_|refine a6 ?_|refine a7 a4 rfl rfl ?_|(apply aS; refine aR ?_)|fail)
   exact ay (i + 1, L1) rfl ⟨by rw [Dv]; rfl, trivial⟩ ⟨by dsimp only; omega, hj' h2', by rw [he]; exact bP hil h2'⟩ (by dsimp only; omega) (fun _ _ h => h)
 ·have hil : i = l.length := by have := Dy h; simp at this; omega
  subst hil
  repeat' (first|refine a8 ?_|refine a0 ?_|refine ae ?_|refine aL ?_|refine a5 ?_|refine ar ?_|refine av ?_|refine au ?_|refine a6 ?_|refine a7 a4 rfl rfl ?_)
  refine aJ rfl rfl rfl ?_
  rw [he, Nat.sub_self]
  rfl
theorem zb {g : FuncId} {caps : List AV} {u : AV} [bi Tryz.prog g] (hu : hQ u = some (g, caps)) (l : List Int) (most : Int) (err : Nat → Int) (J : Nat → AL → Prop) (L0 : AL) (h0 : J 0 L0) (hw : (l.length : Int) ≤ most → ∀ i x L, l[i]? = some x → J i L → AC Tryz.prog g ([az i, az x] ++ caps) L fun c L' => c = az (err i) ∧ (err i = 0 → J (i + 1) L')) :
  AC Tryz.prog 155 [.iptr [.imm 1 (l.map u7)], .iptr [az most], .iptr [u]] L0 fun r _ => r = bK (cq most err l.length) := by
 refine aB Tryz.func155 rfl Tryz.ntmps155 rfl fun B => ?_
 repeat' (first|refine a8 ?_|refine a0 ?_|refine a5 ?_|refine a6 ?_|refine a7 a4 rfl rfl ?_)
 refine aq rfl (fun h => ?_) (fun h => ?_)
 ·have h' := Dz h
  rw [Du] at h'
  repeat' (first|refine a8 ?_|refine a0 ?_|refine ae ?_|refine a5 ?_|refine am ?_|refine a6 ?_|refine a7 a4 rfl rfl ?_)
  refine aJ rfl rfl rfl ?_
  unfold cq
  rw [if_pos h']
  rfl
 ·have h' := Dy h
  rw [Du] at h'
  repeat' (first|refine a8 ?_|refine a0 ?_|refine ah ?_|refine a5 ?_|refine a7 a4 rfl rfl ?_)
  refine aN L0 [] (jQ hu l err J L0 h0 (hw (by omega))) rfl (dS hu) (bz rfl) rfl fun c L1 hc => ?_
  subst hc
  repeat' (first|refine ae ?_|refine a5 ?_|refine a6 ?_|refine a7 a4 rfl rfl ?_)
  refine aJ rfl rfl rfl ?_
  unfold cq
  rw [if_neg h']
  rfl
theorem AQ {g : FuncId} (l : List Int) (most : Int) : bk Tryz.prog 76 [.imm 1 (l.map u7), az most, .sc (.func (.func g) #[] #[])] (.fn 155 [.iptr [.imm 1 (l.map u7)], .iptr [az most], .iptr [.sc (.func (.func g) #[] #[])]]) := by
 refine aB Tryz.func76 rfl Tryz.ntmps76 rfl fun B => ?_
 repeat' (first|refine a8 ?_|refine a0 ?_|refine ae ?_|refine a5 ?_|refine a6 ?_|refine a7 a4 rfl rfl ?_|refine aX ?_|fail)
 exact ak rfl rfl rfl
end Go.Proofs.YtpmdfoaadejmkaaGreatDoor
