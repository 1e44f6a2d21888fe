/-
  The program: looks at things, one by one.
-/
import Derived.Test.YtamjlkdanllgjaaGreatDoorM06
import Derived.Test.YtamjlkdanllgjaaGreatDoorM07
import Derived.Test.YtamjlkdanllgjaaGreatDoorM05
namespace Go.Proofs.YtamjlkdanllgjaaGreatDoor
open Go.RowKit
attribute [local irreducible] AT br AX AO Av Kt aW cZ DA cw
def cQ (err : Nat → Int) : Nat → Nat → Int × Int
 | 0, _ => (0, 0)
 | k + 1, i => if err i = 0 then cQ err k (i + 1) else (err i, i)
def cN (err : Nat → Int) (n : Nat) : Int × Int := cQ err n 0
def cI (most : Int) (err : Nat → Int) (n : Nat) : Int × Int := if (n : Int) > most then (2, 0) else cN err n
def bX (p : Int × Int) : AV := .tup [aD p.1, aD p.2]
theorem c6 {err : Nat → Int} {n i : Nat} (hi : i < n) (h : err i = 0) : cQ err (n - i) i = cQ err (n - (i + 1)) (i + 1) := by
 rw [show n - i = (n - (i + 1)) + 1 by omega]
 simp only [cQ, h, if_true]
theorem ci {err : Nat → Int} {n i : Nat} (hi : i < n) (h : err i ≠ 0) : cQ err (n - i) i = (err i, (i : Int)) := by
 rw [show n - i = (n - (i + 1)) + 1 by omega]
 simp only [cQ, h, if_false]
def EL (q : List Int) : List AV := [.imm 1 (aT q)]
def vw (z : Int) : List AV := [aD z]
theorem eB {g : FuncId} {caps : List AV} {u : AV} (hu : iC u = some (g, caps)) {s : Nat} {l : List (List AV)} : lI [.imm s l, u] = some [.imm s l, u] := by
 unfold iC at hu
 split at hu <;> first | rfl | cases hu
theorem bR {L L' : AL} (h : L = L') : L.Perm (L' ++ []) := by rw [List.append_nil, h]
def GD (P : Program) (g : FuncId) (caps : List AV) (n : Nat) (arg : Nat → AV) (err : Nat → Int) (J : Nat → AL → Prop) : Prop := ∀ i L, i < n → J i L → AC P g ([aD i, arg i] ++ caps) L fun c L' => c = aD (err i) ∧ (err i = 0 → J (i + 1) L')
theorem Ay {g : FuncId} {caps : List AV} {u : AV} [bv Tryz.prog g] (hu : iC u = some (g, caps)) (l : List b7) (err : Nat → Int) (J : Nat → AL → Prop) (L0 : AL) (h0 : J 0 L0) (hw : ∀ i x L, l[i]? = some x → J i L → AC Tryz.prog g ([aD i, .agg (bE x)] ++ caps) L fun c L' => c = aD (err i) ∧ (err i = 0 → J (i + 1) L')) :
  AC Tryz.prog 172 [.imm 9 (l.map bE), u] L0 fun r _ => r = bX (cN err l.length) := by
 refine aG Tryz.func172 rfl Tryz.ntmps172 rfl fun B => ?_
 refine cJ 0 rfl rfl fun hlen => ?_
 rw [Hv] at hlen
 repeat' (first|refine ae ?_|refine a6 ?_|refine ar ?_|refine a8 ?_|refine aa ?_|refine ah a7 rfl rfl ?_)
 refine aI [1, 9, 10] (α := Nat × AL) (fun i => [(11, aD i.1)]) (fun i => i.1 ≤ l.length ∧ J i.1 i.2 ∧ cN err l.length = cQ err (l.length - i.1) i.1) (fun i => i.2) (fun i => l.length - i.1) (0, L0) rfl ⟨rfl, trivial⟩ ⟨Nat.zero_le _, h0, rfl⟩ (fun _ _ h => h) ?_
 rintro ⟨i, L⟩ ⟨hi, hj, he⟩
 dsimp only at hi hj he ⊢
 try dsimp only [Ht, Hs, Hr, Hn]
 repeat' (first|refine ae ?_|refine a6 ?_|refine a8 ?_|refine aa ?_|refine ah a7 rfl rfl ?_)
 refine ay rfl (fun h => ?_) (fun h => ?_)
 ·have hil : i < l.length := by have := Hz h; simp at this; omega
  obtain ⟨z, hz⟩ : ∃ z, l[i]? = some z := ⟨_, Eg hil⟩
  have hzg := bO (c := bE) hz
  repeat' (first|refine ae ?_|refine a6 ?_|refine ar ?_|refine aq ?_|refine a8 ?_|refine aa ?_|refine ah a7 rfl rfl ?_|(apply aO; first|refine aN a7 ?_|refine aH a7 ?_)|(apply aQ; first|refine ai 7 a7 0 rfl rfl rfl rfl rfl rfl rfl rfl ?_|refine ai 7 a7 1 rfl rfl rfl rfl rfl rfl rfl rfl ?_|refine ai 7 a7 2 rfl rfl rfl rfl rfl rfl rfl rfl ?_|refine aj a7 0 rfl rfl rfl rfl rfl rfl rfl ?_|refine aj a7 1 rfl rfl rfl rfl rfl rfl rfl ?_|refine aj a7 2 rfl rfl rfl rfl rfl rfl rfl ?_|refine aj a7 3 rfl rfl rfl rfl rfl rfl rfl ?_|fail)|refine aY a7 fun _=>?_|fail)
  refine cW L [] (hw i z L hz hj) rfl hu rfl (bR rfl) rfl rfl fun c L1 ⟨hc, hj'⟩ => ?_
  subst hc
  rw [List.append_nil]
  repeat' (first|refine ae ?_|refine a6 ?_|refine a8 ?_|refine aa ?_|refine ah a7 rfl rfl ?_)
  refine ay rfl (fun h2 => ?_) (fun h2 => ?_)
  ·have h2' := Hz h2
   repeat' (first|refine ae ?_|refine a6 ?_|refine am ?_|refine a8 ?_|refine aw ?_|refine aK ?_|refine bB ?_|refine aa ?_|refine ah a7 rfl rfl ?_)
   refine aS rfl rfl rfl ?_
   rw [he, ci hil h2']
   rfl
  ·have h2' := Decidable.not_not.1 (Hy h2)
   repeat' (first|refine a6 ?_|refine aq ?_|refine a8 ?_|refine aR ?_|refine aa ?_|refine ah a7 rfl rfl ?_|(apply b6; refine aZ ?_)|fail)
   exact aF (i + 1, L1) rfl ⟨by rw [Hw]; rfl, trivial⟩ ⟨by dsimp only; omega, hj' h2', by rw [he]; exact c6 hil h2'⟩ (by dsimp only; omega) (fun _ _ h => h)
 ·have hil : i = l.length := by have := Hy h; simp at this; omega
  subst hil
  repeat' (first|refine ae ?_|refine a6 ?_|refine am ?_|refine aL ?_|refine a8 ?_|refine av ?_|refine aA ?_|refine az ?_|refine aa ?_|refine ah a7 rfl rfl ?_)
  refine aS rfl rfl rfl ?_
  rw [he, Nat.sub_self]
  rfl
theorem BE {g : FuncId} {caps : List AV} {u : AV} [bv Tryz.prog g] (hu : iC u = some (g, caps)) (l : List b7) (most : Int) (err : Nat → Int) (J : Nat → AL → Prop) (L0 : AL) (h0 : J 0 L0) (hw : (l.length : Int) ≤ most → ∀ i x L, l[i]? = some x → J i L → AC Tryz.prog g ([aD i, .agg (bE x)] ++ caps) L fun c L' => c = aD (err i) ∧ (err i = 0 → J (i + 1) L')) :
  AC Tryz.prog 171 [.iptr [.imm 9 (l.map bE)], .iptr [aD most], .iptr [u]] L0 fun r _ => r = bX (cI most err l.length) := by
 refine aG Tryz.func171 rfl Tryz.ntmps171 rfl fun B => ?_
 repeat' (first|refine ae ?_|refine a6 ?_|refine a8 ?_|refine aa ?_|refine ah a7 rfl rfl ?_)
 refine ay rfl (fun h => ?_) (fun h => ?_)
 ·have h' := Hz h
  rw [Hv] at h'
  repeat' (first|refine ae ?_|refine a6 ?_|refine am ?_|refine a8 ?_|refine aw ?_|refine aa ?_|refine ah a7 rfl rfl ?_)
  refine aS rfl rfl rfl ?_
  unfold cI
  rw [if_pos h']
  rfl
 ·have h' := Hy h
  rw [Hv] at h'
  repeat' (first|refine ae ?_|refine a6 ?_|refine aq ?_|refine a8 ?_|refine ah a7 rfl rfl ?_)
  refine aV L0 [] (Ay hu l err J L0 h0 (hw (by omega))) rfl (eB hu) (bR rfl) rfl fun c L1 hc => ?_
  subst hc
  repeat' (first|refine am ?_|refine a8 ?_|refine aa ?_|refine ah a7 rfl rfl ?_)
  refine aS rfl rfl rfl ?_
  unfold cI
  rw [if_neg h']
  rfl
theorem Gk {g : FuncId} {caps : List AV} (l : List b7) (most : Int) : bw Tryz.prog 107 [.imm 9 (l.map bE), aD most, .fn g caps] (.fn 171 [.iptr [.imm 9 (l.map bE)], .iptr [aD most], .iptr [.fn g caps]]) := by
 refine aG Tryz.func107 rfl Tryz.ntmps107 rfl fun B => ?_
 repeat' (first|refine ae ?_|refine a6 ?_|refine am ?_|refine a8 ?_|refine aa ?_|refine ah a7 rfl rfl ?_|refine b9 ?_|fail)
 exact au rfl rfl rfl
instance {g : FuncId} {caps : List AV} (l : List b7) (most : Int) : AD Tryz.prog 107 [.imm 9 (l.map bE), aD most, .fn g caps] (.fn 171 [.iptr [.imm 9 (l.map bE)], .iptr [aD most], .iptr [.fn g caps]]) := ⟨Gk l most⟩
theorem Az {g : FuncId} {caps : List AV} {u : AV} [bv Tryz.prog g] (hu : iC u = some (g, caps)) (l : List d3) (err : Nat → Int) (J : Nat → AL → Prop) (L0 : AL) (h0 : J 0 L0) (hw : ∀ i x L, l[i]? = some x → J i L → AC Tryz.prog g ([aD i, .agg (dS x)] ++ caps) L fun c L' => c = aD (err i) ∧ (err i = 0 → J (i + 1) L')) :
  AC Tryz.prog 192 [.imm 2 (l.map dS), u] L0 fun r _ => r = bX (cN err l.length) := by
 refine aG Tryz.func192 rfl Tryz.ntmps192 rfl fun B => ?_
 refine cJ 0 rfl rfl fun hlen => ?_
 rw [Hv] at hlen
 repeat' (first|refine ae ?_|refine a6 ?_|refine ar ?_|refine a8 ?_|refine aa ?_|refine ah a7 rfl rfl ?_)
 refine aI [1, 9, 10] (α := Nat × AL) (fun i => [(11, aD i.1)]) (fun i => i.1 ≤ l.length ∧ J i.1 i.2 ∧ cN err l.length = cQ err (l.length - i.1) i.1) (fun i => i.2) (fun i => l.length - i.1) (0, L0) rfl ⟨rfl, trivial⟩ ⟨Nat.zero_le _, h0, rfl⟩ (fun _ _ h => h) ?_
 rintro ⟨i, L⟩ ⟨hi, hj, he⟩
 dsimp only at hi hj he ⊢
 try dsimp only [Ht, Hs, Hr, Hn]
 repeat' (first|refine ae ?_|refine a6 ?_|refine a8 ?_|refine aa ?_|refine ah a7 rfl rfl ?_)
 refine ay rfl (fun h => ?_) (fun h => ?_)
 ·have hil : i < l.length := by have := Hz h; simp at this; omega
  obtain ⟨z, hz⟩ : ∃ z, l[i]? = some z := ⟨_, Eg hil⟩
  have hzg := bO (c := dS) hz
  repeat' (first|refine ae ?_|refine a6 ?_|refine ar ?_|refine aq ?_|refine a8 ?_|refine aa ?_|refine ah a7 rfl rfl ?_|(apply aO; first|refine aN a7 ?_|refine aH a7 ?_)|(apply aQ; first|refine ai 7 a7 0 rfl rfl rfl rfl rfl rfl rfl rfl ?_|refine ai 7 a7 1 rfl rfl rfl rfl rfl rfl rfl rfl ?_|refine ai 7 a7 2 rfl rfl rfl rfl rfl rfl rfl rfl ?_|refine aj a7 0 rfl rfl rfl rfl rfl rfl rfl ?_|refine aj a7 1 rfl rfl rfl rfl rfl rfl rfl ?_|refine aj a7 2 rfl rfl rfl rfl rfl rfl rfl ?_|refine aj a7 3 rfl rfl rfl rfl rfl rfl rfl ?_|fail)|refine aY a7 fun _=>?_|fail)
  refine cW L [] (hw i z L hz hj) rfl hu rfl (bR rfl) rfl rfl fun c L1 ⟨hc, hj'⟩ => ?_
  subst hc
  rw [List.append_nil]
  repeat' (first|refine ae ?_|refine a6 ?_|refine a8 ?_|refine aa ?_|refine ah a7 rfl rfl ?_)
  refine ay rfl (fun h2 => ?_) (fun h2 => ?_)
  ·have h2' := Hz h2
   repeat' (first|refine ae ?_|refine a6 ?_|refine am ?_|refine a8 ?_|refine aw ?_|refine aK ?_|refine bB ?_|refine aa ?_|refine ah a7 rfl rfl ?_)
   refine aS rfl rfl rfl ?_
   rw [he, ci hil h2']
   rfl
  ·have h2' := Decidable.not_not.1 (Hy h2)
   repeat' (first|refine a6 ?_|refine aq ?_|refine a8 ?_|refine aR ?_|refine aa ?_|refine ah a7 rfl rfl ?_|(apply b6; refine aZ ?_)|fail)
   exact aF (i + 1, L1) rfl ⟨by rw [Hw]; rfl, trivial⟩ ⟨by dsimp only; omega, hj' h2', by rw [he]; exact c6 hil h2'⟩ (by dsimp only; omega) (fun _ _ h => h)
 ·have hil : i = l.length := by have := Hy h; simp at this; omega
  subst hil
  repeat' (first|refine ae ?_|refine a6 ?_|refine am ?_|refine aL ?_|refine a8 ?_|refine av ?_|refine aA ?_|refine az ?_|refine aa ?_|refine ah a7 rfl rfl ?_)
  refine aS rfl rfl rfl ?_
  rw [he, Nat.sub_self]
  rfl
theorem BF {g : FuncId} {caps : List AV} {u : AV} [bv Tryz.prog g] (hu : iC u = some (g, caps)) (l : List d3) (most : Int) (err : Nat → Int) (J : Nat → AL → Prop) (L0 : AL) (h0 : J 0 L0) (hw : (l.length : Int) ≤ most → ∀ i x L, l[i]? = some x → J i L → AC Tryz.prog g ([aD i, .agg (dS x)] ++ caps) L fun c L' => c = aD (err i) ∧ (err i = 0 → J (i + 1) L')) :
  AC Tryz.prog 191 [.iptr [.imm 2 (l.map dS)], .iptr [aD most], .iptr [u]] L0 fun r _ => r = bX (cI most err l.length) := by
 refine aG Tryz.func191 rfl Tryz.ntmps191 rfl fun B => ?_
 repeat' (first|refine ae ?_|refine a6 ?_|refine a8 ?_|refine aa ?_|refine ah a7 rfl rfl ?_)
 refine ay rfl (fun h => ?_) (fun h => ?_)
 ·have h' := Hz h
  rw [Hv] at h'
  repeat' (first|refine ae ?_|refine a6 ?_|refine am ?_|refine a8 ?_|refine aw ?_|refine aa ?_|refine ah a7 rfl rfl ?_)
  refine aS rfl rfl rfl ?_
  unfold cI
  rw [if_pos h']
  rfl
 ·have h' := Hy h
  rw [Hv] at h'
  repeat' (first|refine ae ?_|refine a6 ?_|refine aq ?_|refine a8 ?_|refine ah a7 rfl rfl ?_)
  refine aV L0 [] (Az hu l err J L0 h0 (hw (by omega))) rfl (eB hu) (bR rfl) rfl fun c L1 hc => ?_
  subst hc
  repeat' (first|refine am ?_|refine a8 ?_|refine aa ?_|refine ah a7 rfl rfl ?_)
  refine aS rfl rfl rfl ?_
  unfold cI
  rw [if_neg h']
  rfl
theorem Gl {g : FuncId} {caps : List AV} (l : List d3) (most : Int) : bw Tryz.prog 114 [.imm 2 (l.map dS), aD most, .fn g caps] (.fn 191 [.iptr [.imm 2 (l.map dS)], .iptr [aD most], .iptr [.fn g caps]]) := by
 refine aG Tryz.func114 rfl Tryz.ntmps114 rfl fun B => ?_
 repeat' (first|refine ae ?_|refine a6 ?_|refine am ?_|refine a8 ?_|refine aa ?_|refine ah a7 rfl rfl ?_|refine b9 ?_|fail)
 exact au rfl rfl rfl
instance {g : FuncId} {caps : List AV} (l : List d3) (most : Int) : AD Tryz.prog 114 [.imm 2 (l.map dS), aD most, .fn g caps] (.fn 191 [.iptr [.imm 2 (l.map dS)], .iptr [aD most], .iptr [.fn g caps]]) := ⟨Gl l most⟩
theorem AA {g : FuncId} {caps : List AV} {u : AV} [bv Tryz.prog g] (hu : iC u = some (g, caps)) (l : List bk) (err : Nat → Int) (J : Nat → AL → Prop) (L0 : AL) (h0 : J 0 L0) (hw : ∀ i x L, l[i]? = some x → J i L → AC Tryz.prog g ([aD i, .agg (bo x)] ++ caps) L fun c L' => c = aD (err i) ∧ (err i = 0 → J (i + 1) L')) :
  AC Tryz.prog 194 [.imm 3 (l.map bo), u] L0 fun r _ => r = bX (cN err l.length) := by
 refine aG Tryz.func194 rfl Tryz.ntmps194 rfl fun B => ?_
 refine cJ 0 rfl rfl fun hlen => ?_
 rw [Hv] at hlen
 repeat' (first|refine ae ?_|refine a6 ?_|refine ar ?_|refine a8 ?_|refine aa ?_|refine ah a7 rfl rfl ?_)
 refine aI [1, 9, 10] (α := Nat × AL) (fun i => [(11, aD i.1)]) (fun i => i.1 ≤ l.length ∧ J i.1 i.2 ∧ cN err l.length = cQ err (l.length - i.1) i.1) (fun i => i.2) (fun i => l.length - i.1) (0, L0) rfl ⟨rfl, trivial⟩ ⟨Nat.zero_le _, h0, rfl⟩ (fun _ _ h => h) ?_
 rintro ⟨i, L⟩ ⟨hi, hj, he⟩
 dsimp only at hi hj he ⊢
 try dsimp only [Ht, Hs, Hr, Hn]
 repeat' (first|refine ae ?_|refine a6 ?_|refine a8 ?_|refine aa ?_|refine ah a7 rfl rfl ?_)
 refine ay rfl (fun h => ?_) (fun h => ?_)
 ·have hil : i < l.length := by have := Hz h; simp at this; omega
  obtain ⟨z, hz⟩ : ∃ z, l[i]? = some z := ⟨_, Eg hil⟩
  have hzg := bO (c := bo) hz
  repeat' (first|refine ae ?_|refine a6 ?_|refine ar ?_|refine aq ?_|refine a8 ?_|refine aa ?_|refine ah a7 rfl rfl ?_|(apply aO; first|refine aN a7 ?_|refine aH a7 ?_)|(apply aQ; first|refine ai 7 a7 0 rfl rfl rfl rfl rfl rfl rfl rfl ?_|refine ai 7 a7 1 rfl rfl rfl rfl rfl rfl rfl rfl ?_|refine ai 7 a7 2 rfl rfl rfl rfl rfl rfl rfl rfl ?_|refine aj a7 0 rfl rfl rfl rfl rfl rfl rfl ?_|refine aj a7 1 rfl rfl rfl rfl rfl rfl rfl ?_|refine aj a7 2 rfl rfl rfl rfl rfl rfl rfl ?_|refine aj a7 3 rfl rfl rfl rfl rfl rfl rfl ?_|fail)|refine aY a7 fun _=>?_|fail)
  refine cW L [] (hw i z L hz hj) rfl hu rfl (bR rfl) rfl rfl fun c L1 ⟨hc, hj'⟩ => ?_
  subst hc
  rw [List.append_nil]
  repeat' (first|refine ae ?_|refine a6 ?_|refine a8 ?_|refine aa ?_|refine ah a7 rfl rfl ?_)
  refine ay rfl (fun h2 => ?_) (fun h2 => ?_)
  ·have h2' := Hz h2
   repeat' (first|refine ae ?_|refine a6 ?_|refine am ?_|refine a8 ?_|refine aw ?_|refine aK ?_|refine bB ?_|refine aa ?_|refine ah a7 rfl rfl ?_)
   refine aS rfl rfl rfl ?_
   rw [he, ci hil h2']
   rfl
  ·have h2' := Decidable.not_not.1 (Hy h2)
   repeat' (first|refine a6 ?_|refine aq ?_|refine a8 ?_|refine aR ?_|refine aa ?_|refine ah a7 rfl rfl ?_|(apply b6; refine aZ ?_)|fail)
   exact aF (i + 1, L1) rfl ⟨by rw [Hw]; rfl, trivial⟩ ⟨by dsimp only; omega, hj' h2', by rw [he]; exact c6 hil h2'⟩ (by dsimp only; omega) (fun _ _ h => h)
 ·have hil : i = l.length := by have := Hy h; simp at this; omega
  subst hil
  repeat' (first|refine ae ?_|refine a6 ?_|refine am ?_|refine aL ?_|refine a8 ?_|refine av ?_|refine aA ?_|refine az ?_|refine aa ?_|refine ah a7 rfl rfl ?_)
  refine aS rfl rfl rfl ?_
  rw [he, Nat.sub_self]
  rfl
theorem BG {g : FuncId} {caps : List AV} {u : AV} [bv Tryz.prog g] (hu : iC u = some (g, caps)) (l : List bk) (most : Int) (err : Nat → Int) (J : Nat → AL → Prop) (L0 : AL) (h0 : J 0 L0) (hw : (l.length : Int) ≤ most → ∀ i x L, l[i]? = some x → J i L → AC Tryz.prog g ([aD i, .agg (bo x)] ++ caps) L fun c L' => c = aD (err i) ∧ (err i = 0 → J (i + 1) L')) :
  AC Tryz.prog 193 [.iptr [.imm 3 (l.map bo)], .iptr [aD most], .iptr [u]] L0 fun r _ => r = bX (cI most err l.length) := by
 refine aG Tryz.func193 rfl Tryz.ntmps193 rfl fun B => ?_
 repeat' (first|refine ae ?_|refine a6 ?_|refine a8 ?_|refine aa ?_|refine ah a7 rfl rfl ?_)
 refine ay rfl (fun h => ?_) (fun h => ?_)
 ·have h' := Hz h
  rw [Hv] at h'
  repeat' (first|refine ae ?_|refine a6 ?_|refine am ?_|refine a8 ?_|refine aw ?_|refine aa ?_|refine ah a7 rfl rfl ?_)
  refine aS rfl rfl rfl ?_
  unfold cI
  rw [if_pos h']
  rfl
 ·have h' := Hy h
  rw [Hv] at h'
  repeat' (first|refine ae ?_|refine a6 ?_|refine aq ?_|refine a8 ?_|refine ah a7 rfl rfl ?_)
  refine aV L0 [] (AA hu l err J L0 h0 (hw (by omega))) rfl (eB hu) (bR rfl) rfl fun c L1 hc => ?_
  subst hc
  repeat' (first|refine am ?_|refine a8 ?_|refine aa ?_|refine ah a7 rfl rfl ?_)
  refine aS rfl rfl rfl ?_
  unfold cI
  rw [if_neg h']
  rfl
theorem Gm {g : FuncId} {caps : List AV} (l : List bk) (most : Int) : bw Tryz.prog 117 [.imm 3 (l.map bo), aD most, .fn g caps] (.fn 193 [.iptr [.imm 3 (l.map bo)], .iptr [aD most], .iptr [.fn g caps]]) := by
 refine aG Tryz.func117 rfl Tryz.ntmps117 rfl fun B => ?_
 repeat' (first|refine ae ?_|refine a6 ?_|refine am ?_|refine a8 ?_|refine aa ?_|refine ah a7 rfl rfl ?_|refine b9 ?_|fail)
 exact au rfl rfl rfl
instance {g : FuncId} {caps : List AV} (l : List bk) (most : Int) : AD Tryz.prog 117 [.imm 3 (l.map bo), aD most, .fn g caps] (.fn 193 [.iptr [.imm 3 (l.map bo)], .iptr [aD most], .iptr [.fn g caps]]) := ⟨Gm l most⟩
theorem AE {g : FuncId} {caps : List AV} {u : AV} [bv Tryz.prog g] (hu : iC u = some (g, caps)) (l : List bn) (err : Nat → Int) (J : Nat → AL → Prop) (L0 : AL) (h0 : J 0 L0) (hw : ∀ i x L, l[i]? = some x → J i L → AC Tryz.prog g ([aD i, .agg (bL x)] ++ caps) L fun c L' => c = aD (err i) ∧ (err i = 0 → J (i + 1) L')) :
  AC Tryz.prog 198 [.imm 6 (l.map bL), u] L0 fun r _ => r = bX (cN err l.length) := by
 refine aG Tryz.func198 rfl Tryz.ntmps198 rfl fun B => ?_
 refine cJ 0 rfl rfl fun hlen => ?_
 rw [Hv] at hlen
 repeat' (first|refine ae ?_|refine a6 ?_|refine ar ?_|refine a8 ?_|refine aa ?_|refine ah a7 rfl rfl ?_)
 refine aI [1, 9, 10] (α := Nat × AL) (fun i => [(11, aD i.1)]) (fun i => i.1 ≤ l.length ∧ J i.1 i.2 ∧ cN err l.length = cQ err (l.length - i.1) i.1) (fun i => i.2) (fun i => l.length - i.1) (0, L0) rfl ⟨rfl, trivial⟩ ⟨Nat.zero_le _, h0, rfl⟩ (fun _ _ h => h) ?_
 rintro ⟨i, L⟩ ⟨hi, hj, he⟩
 dsimp only at hi hj he ⊢
 try dsimp only [Ht, Hs, Hr, Hn]
 repeat' (first|refine ae ?_|refine a6 ?_|refine a8 ?_|refine aa ?_|refine ah a7 rfl rfl ?_)
 refine ay rfl (fun h => ?_) (fun h => ?_)
 ·have hil : i < l.length := by have := Hz h; simp at this; omega
  obtain ⟨z, hz⟩ : ∃ z, l[i]? = some z := ⟨_, Eg hil⟩
  have hzg := bO (c := bL) hz
  repeat' (first|refine ae ?_|refine a6 ?_|refine ar ?_|refine aq ?_|refine a8 ?_|refine aa ?_|refine ah a7 rfl rfl ?_|(apply aO; first|refine aN a7 ?_|refine aH a7 ?_)|(apply aQ; first|refine ai 7 a7 0 rfl rfl rfl rfl rfl rfl rfl rfl ?_|refine ai 7 a7 1 rfl rfl rfl rfl rfl rfl rfl rfl ?_|refine ai 7 a7 2 rfl rfl rfl rfl rfl rfl rfl rfl ?_|refine aj a7 0 rfl rfl rfl rfl rfl rfl rfl ?_|refine aj a7 1 rfl rfl rfl rfl rfl rfl rfl ?_|refine aj a7 2 rfl rfl rfl rfl rfl rfl rfl ?_|refine aj a7 3 rfl rfl rfl rfl rfl rfl rfl ?_|fail)|refine aY a7 fun _=>?_|fail)
  refine cW L [] (hw i z L hz hj) rfl hu rfl (bR rfl) rfl rfl fun c L1 ⟨hc, hj'⟩ => ?_
  subst hc
  rw [List.append_nil]
  repeat' (first|refine ae ?_|refine a6 ?_|refine a8 ?_|refine aa ?_|refine ah a7 rfl rfl ?_)
  refine ay rfl (fun h2 => ?_) (fun h2 => ?_)
  ·have h2' := Hz h2
   repeat' (first|refine ae ?_|refine a6 ?_|refine am ?_|refine a8 ?_|refine aw ?_|refine aK ?_|refine bB ?_|refine aa ?_|refine ah a7 rfl rfl ?_)
   refine aS rfl rfl rfl ?_
   rw [he, ci hil h2']
   rfl
  ·have h2' := Decidable.not_not.1 (Hy h2)
   repeat' (first|refine a6 ?_|refine aq ?_|refine a8 ?_|refine aR ?_|refine aa ?_|refine ah a7 rfl rfl ?_|(apply b6; refine aZ ?_)|fail)
   exact aF (i + 1, L1) rfl ⟨by rw [Hw]; rfl, trivial⟩ ⟨by dsimp only; omega, hj' h2', by rw [he]; exact c6 hil h2'⟩ (by dsimp only; omega) (fun _ _ h => h)
 ·have hil : i = l.length := by have := Hy h; simp at this; omega
  subst hil
  repeat' (first|refine ae ?_|refine a6 ?_|refine am ?_|refine aL ?_|refine a8 ?_|refine av ?_|refine aA ?_|refine az ?_|refine aa ?_|refine ah a7 rfl rfl ?_)
  refine aS rfl rfl rfl ?_
  rw [he, Nat.sub_self]
  rfl
theorem AF {g : FuncId} {caps : List AV} {u : AV} [bv Tryz.prog g] (hu : iC u = some (g, caps)) (l : List bI) (err : Nat → Int) (J : Nat → AL → Prop) (L0 : AL) (h0 : J 0 L0) (hw : ∀ i x L, l[i]? = some x → J i L → AC Tryz.prog g ([aD i, .agg (bC x)] ++ caps) L fun c L' => c = aD (err i) ∧ (err i = 0 → J (i + 1) L')) :
  AC Tryz.prog 202 [.imm 2 (l.map bC), u] L0 fun r _ => r = bX (cN err l.length) := by
 refine aG Tryz.func202 rfl Tryz.ntmps202 rfl fun B => ?_
 refine cJ 0 rfl rfl fun hlen => ?_
 rw [Hv] at hlen
 repeat' (first|refine ae ?_|refine a6 ?_|refine ar ?_|refine a8 ?_|refine aa ?_|refine ah a7 rfl rfl ?_)
 refine aI [1, 9, 10] (α := Nat × AL) (fun i => [(11, aD i.1)]) (fun i => i.1 ≤ l.length ∧ J i.1 i.2 ∧ cN err l.length = cQ err (l.length - i.1) i.1) (fun i => i.2) (fun i => l.length - i.1) (0, L0) rfl ⟨rfl, trivial⟩ ⟨Nat.zero_le _, h0, rfl⟩ (fun _ _ h => h) ?_
 rintro ⟨i, L⟩ ⟨hi, hj, he⟩
 dsimp only at hi hj he ⊢
 try dsimp only [Ht, Hs, Hr, Hn]
 repeat' (first|refine ae ?_|refine a6 ?_|refine a8 ?_|refine aa ?_|refine ah a7 rfl rfl ?_)
 refine ay rfl (fun h => ?_) (fun h => ?_)
 ·have hil : i < l.length := by have := Hz h; simp at this; omega
  obtain ⟨z, hz⟩ : ∃ z, l[i]? = some z := ⟨_, Eg hil⟩
  have hzg := bO (c := bC) hz
  repeat' (first|refine ae ?_|refine a6 ?_|refine ar ?_|refine aq ?_|refine a8 ?_|refine aa ?_|refine ah a7 rfl rfl ?_|(apply aO; first|refine aN a7 ?_|refine aH a7 ?_)|(apply aQ; first|refine ai 7 a7 0 rfl rfl rfl rfl rfl rfl rfl rfl ?_|refine ai 7 a7 1 rfl rfl rfl rfl rfl rfl rfl rfl ?_|refine ai 7 a7 2 rfl rfl rfl rfl rfl rfl rfl rfl ?_|refine aj a7 0 rfl rfl rfl rfl rfl rfl rfl ?_|refine aj a7 1 rfl rfl rfl rfl rfl rfl rfl ?_|refine aj a7 2 rfl rfl rfl rfl rfl rfl rfl ?_|refine aj a7 3 rfl rfl rfl rfl rfl rfl rfl ?_|fail)|refine aY a7 fun _=>?_|fail)
  refine cW L [] (hw i z L hz hj) rfl hu rfl (bR rfl) rfl rfl fun c L1 ⟨hc, hj'⟩ => ?_
  subst hc
  rw [List.append_nil]
  repeat' (first|refine ae ?_|refine a6 ?_|refine a8 ?_|refine aa ?_|refine ah a7 rfl rfl ?_)
  refine ay rfl (fun h2 => ?_) (fun h2 => ?_)
  ·have h2' := Hz h2
   repeat' (first|refine ae ?_|refine a6 ?_|refine am ?_|refine a8 ?_|refine aw ?_|refine aK ?_|refine bB ?_|refine aa ?_|refine ah a7 rfl rfl ?_)
   refine aS rfl rfl rfl ?_
   rw [he, ci hil h2']
   rfl
  ·have h2' := Decidable.not_not.1 (Hy h2)
   repeat' (first|refine a6 ?_|refine aq ?_|refine a8 ?_|refine aR ?_|refine aa ?_|refine ah a7 rfl rfl ?_|(apply b6; refine aZ ?_)|fail)
   exact aF (i + 1, L1) rfl ⟨by rw [Hw]; rfl, trivial⟩ ⟨by dsimp only; omega, hj' h2', by rw [he]; exact c6 hil h2'⟩ (by dsimp only; omega) (fun _ _ h => h)
 ·have hil : i = l.length := by have := Hy h; simp at this; omega
  subst hil
  repeat' (first|refine ae ?_|refine a6 ?_|refine am ?_|refine aL ?_|refine a8 ?_|refine av ?_|refine aA ?_|refine az ?_|refine aa ?_|refine ah a7 rfl rfl ?_)
  refine aS rfl rfl rfl ?_
  rw [he, Nat.sub_self]
  rfl
theorem BH {g : FuncId} {caps : List AV} {u : AV} [bv Tryz.prog g] (hu : iC u = some (g, caps)) (l : List bI) (most : Int) (err : Nat → Int) (J : Nat → AL → Prop) (L0 : AL) (h0 : J 0 L0) (hw : (l.length : Int) ≤ most → ∀ i x L, l[i]? = some x → J i L → AC Tryz.prog g ([aD i, .agg (bC x)] ++ caps) L fun c L' => c = aD (err i) ∧ (err i = 0 → J (i + 1) L')) :
  AC Tryz.prog 201 [.iptr [.imm 2 (l.map bC)], .iptr [aD most], .iptr [u]] L0 fun r _ => r = bX (cI most err l.length) := by
 refine aG Tryz.func201 rfl Tryz.ntmps201 rfl fun B => ?_
 repeat' (first|refine ae ?_|refine a6 ?_|refine a8 ?_|refine aa ?_|refine ah a7 rfl rfl ?_)
 refine ay rfl (fun h => ?_) (fun h => ?_)
 ·have h' := Hz h
  rw [Hv] at h'
  repeat' (first|refine ae ?_|refine a6 ?_|refine am ?_|refine a8 ?_|refine aw ?_|refine aa ?_|refine ah a7 rfl rfl ?_)
  refine aS rfl rfl rfl ?_
  unfold cI
  rw [if_pos h']
  rfl
 ·have h' := Hy h
  rw [Hv] at h'
  repeat' (first|refine ae ?_|refine a6 ?_|refine aq ?_|refine a8 ?_|refine ah a7 rfl rfl ?_)
  refine aV L0 [] (AF hu l err J L0 h0 (hw (by omega))) rfl (eB hu) (bR rfl) rfl fun c L1 hc => ?_
  subst hc
  repeat' (first|refine am ?_|refine a8 ?_|refine aa ?_|refine ah a7 rfl rfl ?_)
  refine aS rfl rfl rfl ?_
  unfold cI
  rw [if_neg h']
  rfl
theorem Gn {g : FuncId} {caps : List AV} (l : List bI) (most : Int) : bw Tryz.prog 120 [.imm 2 (l.map bC), aD most, .fn g caps] (.fn 201 [.iptr [.imm 2 (l.map bC)], .iptr [aD most], .iptr [.fn g caps]]) := by
 refine aG Tryz.func120 rfl Tryz.ntmps120 rfl fun B => ?_
 repeat' (first|refine ae ?_|refine a6 ?_|refine am ?_|refine a8 ?_|refine aa ?_|refine ah a7 rfl rfl ?_|refine b9 ?_|fail)
 exact au rfl rfl rfl
instance {g : FuncId} {caps : List AV} (l : List bI) (most : Int) : AD Tryz.prog 120 [.imm 2 (l.map bC), aD most, .fn g caps] (.fn 201 [.iptr [.imm 2 (l.map bC)], .iptr [aD most], .iptr [.fn g caps]]) := ⟨Gn l most⟩
theorem AG {g : FuncId} {caps : List AV} {u : AV} [bv Tryz.prog g] (hu : iC u = some (g, caps)) (l : List eu) (err : Nat → Int) (J : Nat → AL → Prop) (L0 : AL) (h0 : J 0 L0) (hw : ∀ i x L, l[i]? = some x → J i L → AC Tryz.prog g ([aD i, .agg (eH x)] ++ caps) L fun c L' => c = aD (err i) ∧ (err i = 0 → J (i + 1) L')) :
  AC Tryz.prog 205 [.imm 4 (l.map eH), u] L0 fun r _ => r = bX (cN err l.length) := by
 refine aG Tryz.func205 rfl Tryz.ntmps205 rfl fun B => ?_
 refine cJ 0 rfl rfl fun hlen => ?_
 rw [Hv] at hlen
 repeat' (first|refine ae ?_|refine a6 ?_|refine ar ?_|refine a8 ?_|refine aa ?_|refine ah a7 rfl rfl ?_)
 refine aI [1, 9, 10] (α := Nat × AL) (fun i => [(11, aD i.1)]) (fun i => i.1 ≤ l.length ∧ J i.1 i.2 ∧ cN err l.length = cQ err (l.length - i.1) i.1) (fun i => i.2) (fun i => l.length - i.1) (0, L0) rfl ⟨rfl, trivial⟩ ⟨Nat.zero_le _, h0, rfl⟩ (fun _ _ h => h) ?_
 rintro ⟨i, L⟩ ⟨hi, hj, he⟩
 dsimp only at hi hj he ⊢
 try dsimp only [Ht, Hs, Hr, Hn]
 repeat' (first|refine ae ?_|refine a6 ?_|refine a8 ?_|refine aa ?_|refine ah a7 rfl rfl ?_)
 refine ay rfl (fun h => ?_) (fun h => ?_)
 ·have hil : i < l.length := by have := Hz h; simp at this; omega
  obtain ⟨z, hz⟩ : ∃ z, l[i]? = some z := ⟨_, Eg hil⟩
  have hzg := bO (c := eH) hz
  repeat' (first|refine ae ?_|refine a6 ?_|refine ar ?_|refine aq ?_|refine a8 ?_|refine aa ?_|refine ah a7 rfl rfl ?_|(apply aO; first|refine aN a7 ?_|refine aH a7 ?_)|(apply aQ; first|refine ai 7 a7 0 rfl rfl rfl rfl rfl rfl rfl rfl ?_|refine ai 7 a7 1 rfl rfl rfl rfl rfl rfl rfl rfl ?_|refine ai 7 a7 2 rfl rfl rfl rfl rfl rfl rfl rfl ?_|refine aj a7 0 rfl rfl rfl rfl rfl rfl rfl ?_|refine aj a7 1 rfl rfl rfl rfl rfl rfl rfl ?_|refine aj a7 2 rfl rfl rfl rfl rfl rfl rfl ?_|refine aj a7 3 rfl rfl rfl rfl rfl rfl rfl ?_|fail)|refine aY a7 fun _=>?_|fail)
  refine cW L [] (hw i z L hz hj) rfl hu rfl (bR rfl) rfl rfl fun c L1 ⟨hc, hj'⟩ => ?_
  subst hc
  rw [List.append_nil]
  repeat' (first|refine ae ?_|refine a6 ?_|refine a8 ?_|refine aa ?_|refine ah a7 rfl rfl ?_)
  refine ay rfl (fun h2 => ?_) (fun h2 => ?_)
  ·have h2' := Hz h2
   repeat' (first|refine ae ?_|refine a6 ?_|refine am ?_|refine a8 ?_|refine aw ?_|refine aK ?_|refine bB ?_|refine aa ?_|refine ah a7 rfl rfl ?_)
   refine aS rfl rfl rfl ?_
   rw [he, ci hil h2']
   rfl
  ·have h2' := Decidable.not_not.1 (Hy h2)
   repeat' (first|refine a6 ?_|refine aq ?_|refine a8 ?_|refine aR ?_|refine aa ?_|refine ah a7 rfl rfl ?_|(apply b6; refine aZ ?_)|fail)
   exact aF (i + 1, L1) rfl ⟨by rw [Hw]; rfl, trivial⟩ ⟨by dsimp only; omega, hj' h2', by rw [he]; exact c6 hil h2'⟩ (by dsimp only; omega) (fun _ _ h => h)
 ·have hil : i = l.length := by have := Hy h; simp at this; omega
  subst hil
  repeat' (first|refine ae ?_|refine a6 ?_|refine am ?_|refine aL ?_|refine a8 ?_|refine av ?_|refine aA ?_|refine az ?_|refine aa ?_|refine ah a7 rfl rfl ?_)
  refine aS rfl rfl rfl ?_
  rw [he, Nat.sub_self]
  rfl
theorem BI {g : FuncId} {caps : List AV} {u : AV} [bv Tryz.prog g] (hu : iC u = some (g, caps)) (l : List eu) (most : Int) (err : Nat → Int) (J : Nat → AL → Prop) (L0 : AL) (h0 : J 0 L0) (hw : (l.length : Int) ≤ most → ∀ i x L, l[i]? = some x → J i L → AC Tryz.prog g ([aD i, .agg (eH x)] ++ caps) L fun c L' => c = aD (err i) ∧ (err i = 0 → J (i + 1) L')) :
  AC Tryz.prog 204 [.iptr [.imm 4 (l.map eH)], .iptr [aD most], .iptr [u]] L0 fun r _ => r = bX (cI most err l.length) := by
 refine aG Tryz.func204 rfl Tryz.ntmps204 rfl fun B => ?_
 repeat' (first|refine ae ?_|refine a6 ?_|refine a8 ?_|refine aa ?_|refine ah a7 rfl rfl ?_)
 refine ay rfl (fun h => ?_) (fun h => ?_)
 ·have h' := Hz h
  rw [Hv] at h'
  repeat' (first|refine ae ?_|refine a6 ?_|refine am ?_|refine a8 ?_|refine aw ?_|refine aa ?_|refine ah a7 rfl rfl ?_)
  refine aS rfl rfl rfl ?_
  unfold cI
  rw [if_pos h']
  rfl
 ·have h' := Hy h
  rw [Hv] at h'
  repeat' (first|refine ae ?_|refine a6 ?_|refine aq ?_|refine a8 ?_|refine ah a7 rfl rfl ?_)
  refine aV L0 [] (AG hu l err J L0 h0 (hw (by omega))) rfl (eB hu) (bR rfl) rfl fun c L1 hc => ?_
  subst hc
  repeat' (first|refine am ?_|refine a8 ?_|refine aa ?_|refine ah a7 rfl rfl ?_)
  refine aS rfl rfl rfl ?_
  unfold cI
  rw [if_neg h']
  rfl
theorem F9 {g : FuncId} {caps : List AV} (l : List eu) (most : Int) : bw Tryz.prog 124 [.imm 4 (l.map eH), aD most, .fn g caps] (.fn 204 [.iptr [.imm 4 (l.map eH)], .iptr [aD most], .iptr [.fn g caps]]) := by
 refine aG Tryz.func124 rfl Tryz.ntmps124 rfl fun B => ?_
 repeat' (first|refine ae ?_|refine a6 ?_|refine am ?_|refine a8 ?_|refine aa ?_|refine ah a7 rfl rfl ?_|refine b9 ?_|fail)
 exact au rfl rfl rfl
instance {g : FuncId} {caps : List AV} (l : List eu) (most : Int) : AD Tryz.prog 124 [.imm 4 (l.map eH), aD most, .fn g caps] (.fn 204 [.iptr [.imm 4 (l.map eH)], .iptr [aD most], .iptr [.fn g caps]]) := ⟨F9 l most⟩
theorem AH {g : FuncId} {caps : List AV} {u : AV} [bv Tryz.prog g] (hu : iC u = some (g, caps)) (l : List (List eL)) (err : Nat → Int) (J : Nat → AL → Prop) (L0 : AL) (h0 : J 0 L0) (hw : ∀ i x L, l[i]? = some x → J i L → AC Tryz.prog g ([aD i, .agg (dz x)] ++ caps) L fun c L' => c = aD (err i) ∧ (err i = 0 → J (i + 1) L')) :
  AC Tryz.prog 207 [.imm 1 (l.map dz), u] L0 fun r _ => r = bX (cN err l.length) := by
 refine aG Tryz.func207 rfl Tryz.ntmps207 rfl fun B => ?_
 refine cJ 0 rfl rfl fun hlen => ?_
 rw [Hv] at hlen
 repeat' (first|refine ae ?_|refine a6 ?_|refine ar ?_|refine a8 ?_|refine aa ?_|refine ah a7 rfl rfl ?_)
 refine aI [1, 9, 10] (α := Nat × AL) (fun i => [(11, aD i.1)]) (fun i => i.1 ≤ l.length ∧ J i.1 i.2 ∧ cN err l.length = cQ err (l.length - i.1) i.1) (fun i => i.2) (fun i => l.length - i.1) (0, L0) rfl ⟨rfl, trivial⟩ ⟨Nat.zero_le _, h0, rfl⟩ (fun _ _ h => h) ?_
 rintro ⟨i, L⟩ ⟨hi, hj, he⟩
 dsimp only at hi hj he ⊢
 try dsimp only [Ht, Hs, Hr, Hn]
 repeat' (first|refine ae ?_|refine a6 ?_|refine a8 ?_|refine aa ?_|refine ah a7 rfl rfl ?_)
 refine ay rfl (fun h => ?_) (fun h => ?_)
 ·have hil : i < l.length := by have := Hz h; simp at this; omega
  obtain ⟨z, hz⟩ : ∃ z, l[i]? = some z := ⟨_, Eg hil⟩
  have hzg := bO (c := dz) hz
  repeat' (first|refine ae ?_|refine a6 ?_|refine ar ?_|refine aq ?_|refine a8 ?_|refine aa ?_|refine ah a7 rfl rfl ?_|(apply aO; first|refine aN a7 ?_|refine aH a7 ?_)|(apply aQ; first|refine ai 7 a7 0 rfl rfl rfl rfl rfl rfl rfl rfl ?_|refine ai 7 a7 1 rfl rfl rfl rfl rfl rfl rfl rfl ?_|refine ai 7 a7 2 rfl rfl rfl rfl rfl rfl rfl rfl ?_|refine aj a7 0 rfl rfl rfl rfl rfl rfl rfl ?_|refine aj a7 1 rfl rfl rfl rfl rfl rfl rfl ?_|refine aj a7 2 rfl rfl rfl rfl rfl rfl rfl ?_|refine aj a7 3 rfl rfl rfl rfl rfl rfl rfl ?_|fail)|refine aY a7 fun _=>?_|fail)
  refine cW L [] (hw i z L hz hj) rfl hu rfl (bR rfl) rfl rfl fun c L1 ⟨hc, hj'⟩ => ?_
  subst hc
  rw [List.append_nil]
  repeat' (first|refine ae ?_|refine a6 ?_|refine a8 ?_|refine aa ?_|refine ah a7 rfl rfl ?_)
  refine ay rfl (fun h2 => ?_) (fun h2 => ?_)
  ·have h2' := Hz h2
   repeat' (first|refine ae ?_|refine a6 ?_|refine am ?_|refine a8 ?_|refine aw ?_|refine aK ?_|refine bB ?_|refine aa ?_|refine ah a7 rfl rfl ?_)
   refine aS rfl rfl rfl ?_
   rw [he, ci hil h2']
   rfl
  ·have h2' := Decidable.not_not.1 (Hy h2)
   repeat' (first|refine a6 ?_|refine aq ?_|refine a8 ?_|refine aR ?_|refine aa ?_|refine ah a7 rfl rfl ?_|(apply b6; refine aZ ?_)|fail)
   exact aF (i + 1, L1) rfl ⟨by rw [Hw]; rfl, trivial⟩ ⟨by dsimp only; omega, hj' h2', by rw [he]; exact c6 hil h2'⟩ (by dsimp only; omega) (fun _ _ h => h)
 ·have hil : i = l.length := by have := Hy h; simp at this; omega
  subst hil
  repeat' (first|refine ae ?_|refine a6 ?_|refine am ?_|refine aL ?_|refine a8 ?_|refine av ?_|refine aA ?_|refine az ?_|refine aa ?_|refine ah a7 rfl rfl ?_)
  refine aS rfl rfl rfl ?_
  rw [he, Nat.sub_self]
  rfl
theorem BJ {g : FuncId} {caps : List AV} {u : AV} [bv Tryz.prog g] (hu : iC u = some (g, caps)) (l : List (List eL)) (most : Int) (err : Nat → Int) (J : Nat → AL → Prop) (L0 : AL) (h0 : J 0 L0) (hw : (l.length : Int) ≤ most → ∀ i x L, l[i]? = some x → J i L → AC Tryz.prog g ([aD i, .agg (dz x)] ++ caps) L fun c L' => c = aD (err i) ∧ (err i = 0 → J (i + 1) L')) :
  AC Tryz.prog 206 [.iptr [.imm 1 (l.map dz)], .iptr [aD most], .iptr [u]] L0 fun r _ => r = bX (cI most err l.length) := by
 refine aG Tryz.func206 rfl Tryz.ntmps206 rfl fun B => ?_
 repeat' (first|refine ae ?_|refine a6 ?_|refine a8 ?_|refine aa ?_|refine ah a7 rfl rfl ?_)
 refine ay rfl (fun h => ?_) (fun h => ?_)
 ·have h' := Hz h
  rw [Hv] at h'
  repeat' (first|refine ae ?_|refine a6 ?_|refine am ?_|refine a8 ?_|refine aw ?_|refine aa ?_|refine ah a7 rfl rfl ?_)
  refine aS rfl rfl rfl ?_
  unfold cI
  rw [if_pos h']
  rfl
 ·have h' := Hy h
  rw [Hv] at h'
  repeat' (first|refine ae ?_|refine a6 ?_|refine aq ?_|refine a8 ?_|refine ah a7 rfl rfl ?_)
  refine aV L0 [] (AH hu l err J L0 h0 (hw (by omega))) rfl (eB hu) (bR rfl) rfl fun c L1 hc => ?_
  subst hc
  repeat' (first|refine am ?_|refine a8 ?_|refine aa ?_|refine ah a7 rfl rfl ?_)
  refine aS rfl rfl rfl ?_
  unfold cI
  rw [if_neg h']
  rfl
theorem Fa {g : FuncId} {caps : List AV} (l : List (List eL)) (most : Int) : bw Tryz.prog 127 [.imm 1 (l.map dz), aD most, .fn g caps] (.fn 206 [.iptr [.imm 1 (l.map dz)], .iptr [aD most], .iptr [.fn g caps]]) := by
 refine aG Tryz.func127 rfl Tryz.ntmps127 rfl fun B => ?_
 repeat' (first|refine ae ?_|refine a6 ?_|refine am ?_|refine a8 ?_|refine aa ?_|refine ah a7 rfl rfl ?_|refine b9 ?_|fail)
 exact au rfl rfl rfl
instance {g : FuncId} {caps : List AV} (l : List (List eL)) (most : Int) : AD Tryz.prog 127 [.imm 1 (l.map dz), aD most, .fn g caps] (.fn 206 [.iptr [.imm 1 (l.map dz)], .iptr [aD most], .iptr [.fn g caps]]) := ⟨Fa l most⟩
theorem AI {g : FuncId} {caps : List AV} {u : AV} [bv Tryz.prog g] (hu : iC u = some (g, caps)) (l : List eL) (err : Nat → Int) (J : Nat → AL → Prop) (L0 : AL) (h0 : J 0 L0) (hw : ∀ i x L, l[i]? = some x → J i L → AC Tryz.prog g ([aD i, .agg (rm x)] ++ caps) L fun c L' => c = aD (err i) ∧ (err i = 0 → J (i + 1) L')) :
  AC Tryz.prog 208 [.imm 3 (l.map rm), u] L0 fun r _ => r = bX (cN err l.length) := by
 refine aG Tryz.func208 rfl Tryz.ntmps208 rfl fun B => ?_
 refine cJ 0 rfl rfl fun hlen => ?_
 rw [Hv] at hlen
 repeat' (first|refine ae ?_|refine a6 ?_|refine ar ?_|refine a8 ?_|refine aa ?_|refine ah a7 rfl rfl ?_)
 refine aI [1, 9, 10] (α := Nat × AL) (fun i => [(11, aD i.1)]) (fun i => i.1 ≤ l.length ∧ J i.1 i.2 ∧ cN err l.length = cQ err (l.length - i.1) i.1) (fun i => i.2) (fun i => l.length - i.1) (0, L0) rfl ⟨rfl, trivial⟩ ⟨Nat.zero_le _, h0, rfl⟩ (fun _ _ h => h) ?_
 rintro ⟨i, L⟩ ⟨hi, hj, he⟩
 dsimp only at hi hj he ⊢
 try dsimp only [Ht, Hs, Hr, Hn]
 repeat' (first|refine ae ?_|refine a6 ?_|refine a8 ?_|refine aa ?_|refine ah a7 rfl rfl ?_)
 refine ay rfl (fun h => ?_) (fun h => ?_)
 ·have hil : i < l.length := by have := Hz h; simp at this; omega
  obtain ⟨z, hz⟩ : ∃ z, l[i]? = some z := ⟨_, Eg hil⟩
  have hzg := bO (c := rm) hz
  repeat' (first|refine ae ?_|refine a6 ?_|refine ar ?_|refine aq ?_|refine a8 ?_|refine aa ?_|refine ah a7 rfl rfl ?_|(apply aO; first|refine aN a7 ?_|refine aH a7 ?_)|(apply aQ; first|refine ai 7 a7 0 rfl rfl rfl rfl rfl rfl rfl rfl ?_|refine ai 7 a7 1 rfl rfl rfl rfl rfl rfl rfl rfl ?_|refine ai 7 a7 2 rfl rfl rfl rfl rfl rfl rfl rfl ?_|refine aj a7 0 rfl rfl rfl rfl rfl rfl rfl ?_|refine aj a7 1 rfl rfl rfl rfl rfl rfl rfl ?_|refine aj a7 2 rfl rfl rfl rfl rfl rfl rfl ?_|refine aj a7 3 rfl rfl rfl rfl rfl rfl rfl ?_|fail)|refine aY a7 fun _=>?_|fail)
  refine cW L [] (hw i z L hz hj) rfl hu rfl (bR rfl) rfl rfl fun c L1 ⟨hc, hj'⟩ => ?_
  subst hc
  rw [List.append_nil]
  repeat' (first|refine ae ?_|refine a6 ?_|refine a8 ?_|refine aa ?_|refine ah a7 rfl rfl ?_)
  refine ay rfl (fun h2 => ?_) (fun h2 => ?_)
  ·have h2' := Hz h2
   repeat' (first|refine ae ?_|refine a6 ?_|refine am ?_|refine a8 ?_|refine aw ?_|refine aK ?_|refine bB ?_|refine aa ?_|refine ah a7 rfl rfl ?_)
   refine aS rfl rfl rfl ?_
   rw [he, ci hil h2']
   rfl
  ·have h2' := Decidable.not_not.1 (Hy h2)
   repeat' (first|refine a6 ?_|refine aq ?_|refine a8 ?_|refine aR ?_|refine aa ?_|refine ah a7 rfl rfl ?_|(apply b6; refine aZ ?_)|fail)
   exact aF (i + 1, L1) rfl ⟨by rw [Hw]; rfl, trivial⟩ ⟨by dsimp only; omega, hj' h2', by rw [he]; exact c6 hil h2'⟩ (by dsimp only; omega) (fun _ _ h => h)
 ·have hil : i = l.length := by have := Hy h; simp at this; omega
  subst hil
  repeat' (first|refine ae ?_|refine a6 ?_|refine am ?_|refine aL ?_|refine a8 ?_|refine av ?_|refine aA ?_|refine az ?_|refine aa ?_|refine ah a7 rfl rfl ?_)
  refine aS rfl rfl rfl ?_
  rw [he, Nat.sub_self]
  rfl
theorem AJ {g : FuncId} {caps : List AV} {u : AV} [bv Tryz.prog g] (hu : iC u = some (g, caps)) (l : List (List eo)) (err : Nat → Int) (J : Nat → AL → Prop) (L0 : AL) (h0 : J 0 L0) (hw : ∀ i x L, l[i]? = some x → J i L → AC Tryz.prog g ([aD i, .imm 2 (x.map f3)] ++ caps) L fun c L' => c = aD (err i) ∧ (err i = 0 → J (i + 1) L')) :
  AC Tryz.prog 211 [.imm 1 (l.map eI), u] L0 fun r _ => r = bX (cN err l.length) := by
 refine aG Tryz.func211 rfl Tryz.ntmps211 rfl fun B => ?_
 refine cJ 0 rfl rfl fun hlen => ?_
 rw [Hv] at hlen
 repeat' (first|refine ae ?_|refine a6 ?_|refine ar ?_|refine a8 ?_|refine aa ?_|refine ah a7 rfl rfl ?_)
 refine aI [1, 9, 10] (α := Nat × AL) (fun i => [(11, aD i.1)]) (fun i => i.1 ≤ l.length ∧ J i.1 i.2 ∧ cN err l.length = cQ err (l.length - i.1) i.1) (fun i => i.2) (fun i => l.length - i.1) (0, L0) rfl ⟨rfl, trivial⟩ ⟨Nat.zero_le _, h0, rfl⟩ (fun _ _ h => h) ?_
 rintro ⟨i, L⟩ ⟨hi, hj, he⟩
 dsimp only at hi hj he ⊢
 try dsimp only [Ht, Hs, Hr, Hn]
 repeat' (first|refine ae ?_|refine a6 ?_|refine a8 ?_|refine aa ?_|refine ah a7 rfl rfl ?_)
 refine ay rfl (fun h => ?_) (fun h => ?_)
 ·have hil : i < l.length := by have := Hz h; simp at this; omega
  obtain ⟨z, hz⟩ : ∃ z, l[i]? = some z := ⟨_, Eg hil⟩
  have hzg := bO (c := eI) hz
  repeat' (first|refine ae ?_|refine a6 ?_|refine ar ?_|refine aq ?_|refine a8 ?_|refine aa ?_|refine ah a7 rfl rfl ?_|(apply aO; first|refine aN a7 ?_|refine aH a7 ?_)|fail)
  refine cW L [] (hw i z L hz hj) rfl hu rfl (bR rfl) rfl rfl fun c L1 ⟨hc, hj'⟩ => ?_
  subst hc
  rw [List.append_nil]
  repeat' (first|refine ae ?_|refine a6 ?_|refine a8 ?_|refine aa ?_|refine ah a7 rfl rfl ?_)
  refine ay rfl (fun h2 => ?_) (fun h2 => ?_)
  ·have h2' := Hz h2
   repeat' (first|refine ae ?_|refine a6 ?_|refine am ?_|refine a8 ?_|refine aw ?_|refine aK ?_|refine bB ?_|refine aa ?_|refine ah a7 rfl rfl ?_)
   refine aS rfl rfl rfl ?_
   rw [he, ci hil h2']
   rfl
  ·have h2' := Decidable.not_not.1 (Hy h2)
   repeat' (first|refine a6 ?_|refine aq ?_|refine a8 ?_|refine aR ?_|refine aa ?_|refine ah a7 rfl rfl ?_|(apply b6; refine aZ ?_)|fail)
   exact aF (i + 1, L1) rfl ⟨by rw [Hw]; rfl, trivial⟩ ⟨by dsimp only; omega, hj' h2', by rw [he]; exact c6 hil h2'⟩ (by dsimp only; omega) (fun _ _ h => h)
 ·have hil : i = l.length := by have := Hy h; simp at this; omega
  subst hil
  repeat' (first|refine ae ?_|refine a6 ?_|refine am ?_|refine aL ?_|refine a8 ?_|refine av ?_|refine aA ?_|refine az ?_|refine aa ?_|refine ah a7 rfl rfl ?_)
  refine aS rfl rfl rfl ?_
  rw [he, Nat.sub_self]
  rfl
theorem BK {g : FuncId} {caps : List AV} {u : AV} [bv Tryz.prog g] (hu : iC u = some (g, caps)) (l : List (List eo)) (most : Int) (err : Nat → Int) (J : Nat → AL → Prop) (L0 : AL) (h0 : J 0 L0) (hw : (l.length : Int) ≤ most → ∀ i x L, l[i]? = some x → J i L → AC Tryz.prog g ([aD i, .imm 2 (x.map f3)] ++ caps) L fun c L' => c = aD (err i) ∧ (err i = 0 → J (i + 1) L')) :
  AC Tryz.prog 210 [.iptr [.imm 1 (l.map eI)], .iptr [aD most], .iptr [u]] L0 fun r _ => r = bX (cI most err l.length) := by
 refine aG Tryz.func210 rfl Tryz.ntmps210 rfl fun B => ?_
 repeat' (first|refine ae ?_|refine a6 ?_|refine a8 ?_|refine aa ?_|refine ah a7 rfl rfl ?_)
 refine ay rfl (fun h => ?_) (fun h => ?_)
 ·have h' := Hz h
  rw [Hv] at h'
  repeat' (first|refine ae ?_|refine a6 ?_|refine am ?_|refine a8 ?_|refine aw ?_|refine aa ?_|refine ah a7 rfl rfl ?_)
  refine aS rfl rfl rfl ?_
  unfold cI
  rw [if_pos h']
  rfl
 ·have h' := Hy h
  rw [Hv] at h'
  repeat' (first|refine ae ?_|refine a6 ?_|refine aq ?_|refine a8 ?_|refine ah a7 rfl rfl ?_)
  refine aV L0 [] (AJ hu l err J L0 h0 (hw (by omega))) rfl (eB hu) (bR rfl) rfl fun c L1 hc => ?_
  subst hc
  repeat' (first|refine am ?_|refine a8 ?_|refine aa ?_|refine ah a7 rfl rfl ?_)
  refine aS rfl rfl rfl ?_
  unfold cI
  rw [if_neg h']
  rfl
theorem DB {g : FuncId} (l : List (List eo)) (most : Int) : bw Tryz.prog 130 [.imm 1 (l.map eI), aD most, .sc (.func (.func g) #[] #[])] (.fn 210 [.iptr [.imm 1 (l.map eI)], .iptr [aD most], .iptr [.sc (.func (.func g) #[] #[])]]) := by
 refine aG Tryz.func130 rfl Tryz.ntmps130 rfl fun B => ?_
 repeat' (first|refine ae ?_|refine a6 ?_|refine am ?_|refine a8 ?_|refine aa ?_|refine ah a7 rfl rfl ?_|refine b9 ?_|fail)
 exact au rfl rfl rfl
instance {g : FuncId} (l : List (List eo)) (most : Int) : AD Tryz.prog 130 [.imm 1 (l.map eI), aD most, .sc (.func (.func g) #[] #[])] (.fn 210 [.iptr [.imm 1 (l.map eI)], .iptr [aD most], .iptr [.sc (.func (.func g) #[] #[])]]) := ⟨DB l most⟩
theorem AK {g : FuncId} {caps : List AV} {u : AV} [bv Tryz.prog g] (hu : iC u = some (g, caps)) (l : List f8) (err : Nat → Int) (J : Nat → AL → Prop) (L0 : AL) (h0 : J 0 L0) (hw : ∀ i x L, l[i]? = some x → J i L → AC Tryz.prog g ([aD i, .agg (fc x)] ++ caps) L fun c L' => c = aD (err i) ∧ (err i = 0 → J (i + 1) L')) :
  AC Tryz.prog 244 [.imm 3 (l.map fc), u] L0 fun r _ => r = bX (cN err l.length) := by
 refine aG Tryz.func244 rfl Tryz.ntmps244 rfl fun B => ?_
 refine cJ 0 rfl rfl fun hlen => ?_
 rw [Hv] at hlen
 repeat' (first|refine ae ?_|refine a6 ?_|refine ar ?_|refine a8 ?_|refine aa ?_|refine ah a7 rfl rfl ?_)
 refine aI [1, 9, 10] (α := Nat × AL) (fun i => [(11, aD i.1)]) (fun i => i.1 ≤ l.length ∧ J i.1 i.2 ∧ cN err l.length = cQ err (l.length - i.1) i.1) (fun i => i.2) (fun i => l.length - i.1) (0, L0) rfl ⟨rfl, trivial⟩ ⟨Nat.zero_le _, h0, rfl⟩ (fun _ _ h => h) ?_
 rintro ⟨i, L⟩ ⟨hi, hj, he⟩
 dsimp only at hi hj he ⊢
 try dsimp only [Ht, Hs, Hr, Hn]
 repeat' (first|refine ae ?_|refine a6 ?_|refine a8 ?_|refine aa ?_|refine ah a7 rfl rfl ?_)
 refine ay rfl (fun h => ?_) (fun h => ?_)
 ·have hil : i < l.length := by have := Hz h; simp at this; omega
  obtain ⟨z, hz⟩ : ∃ z, l[i]? = some z := ⟨_, Eg hil⟩
  have hzg := bO (c := fc) hz
  repeat' (first|refine ae ?_|refine a6 ?_|refine ar ?_|refine aq ?_|refine a8 ?_|refine aa ?_|refine ah a7 rfl rfl ?_|(apply aO; first|refine aN a7 ?_|refine aH a7 ?_)|(apply aQ; first|refine ai 7 a7 0 rfl rfl rfl rfl rfl rfl rfl rfl ?_|refine ai 7 a7 1 rfl rfl rfl rfl rfl rfl rfl rfl ?_|refine ai 7 a7 2 rfl rfl rfl rfl rfl rfl rfl rfl ?_|refine aj a7 0 rfl rfl rfl rfl rfl rfl rfl ?_|refine aj a7 1 rfl rfl rfl rfl rfl rfl rfl ?_|refine aj a7 2 rfl rfl rfl rfl rfl rfl rfl ?_|refine aj a7 3 rfl rfl rfl rfl rfl rfl rfl ?_|fail)|refine aY a7 fun _=>?_|fail)
  refine cW L [] (hw i z L hz hj) rfl hu rfl (bR rfl) rfl rfl fun c L1 ⟨hc, hj'⟩ => ?_
  subst hc
  rw [List.append_nil]
  repeat' (first|refine ae ?_|refine a6 ?_|refine a8 ?_|refine aa ?_|refine ah a7 rfl rfl ?_)
  refine ay rfl (fun h2 => ?_) (fun h2 => ?_)
  ·have h2' := Hz h2
   repeat' (first|refine ae ?_|refine a6 ?_|refine am ?_|refine a8 ?_|refine aw ?_|refine aK ?_|refine bB ?_|refine aa ?_|refine ah a7 rfl rfl ?_)
   refine aS rfl rfl rfl ?_
   rw [he, ci hil h2']
   rfl
  ·have h2' := Decidable.not_not.1 (Hy h2)
   repeat' (first|refine a6 ?_|refine aq ?_|refine a8 ?_|refine aR ?_|refine aa ?_|refine ah a7 rfl rfl ?_|(apply b6; refine aZ ?_)|fail)
   exact aF (i + 1, L1) rfl ⟨by rw [Hw]; rfl, trivial⟩ ⟨by dsimp only; omega, hj' h2', by rw [he]; exact c6 hil h2'⟩ (by dsimp only; omega) (fun _ _ h => h)
 ·have hil : i = l.length := by have := Hy h; simp at this; omega
  subst hil
  repeat' (first|refine ae ?_|refine a6 ?_|refine am ?_|refine aL ?_|refine a8 ?_|refine av ?_|refine aA ?_|refine az ?_|refine aa ?_|refine ah a7 rfl rfl ?_)
  refine aS rfl rfl rfl ?_
  rw [he, Nat.sub_self]
  rfl
theorem AM {g : FuncId} {caps : List AV} {u : AV} [bv Tryz.prog g] (hu : iC u = some (g, caps)) (l : List d6) (err : Nat → Int) (J : Nat → AL → Prop) (L0 : AL) (h0 : J 0 L0) (hw : ∀ i x L, l[i]? = some x → J i L → AC Tryz.prog g ([aD i, .agg (eN x)] ++ caps) L fun c L' => c = aD (err i) ∧ (err i = 0 → J (i + 1) L')) :
  AC Tryz.prog 248 [.imm 3 (l.map eN), u] L0 fun r _ => r = bX (cN err l.length) := by
 refine aG Tryz.func248 rfl Tryz.ntmps248 rfl fun B => ?_
 refine cJ 0 rfl rfl fun hlen => ?_
 rw [Hv] at hlen
 repeat' (first|refine ae ?_|refine a6 ?_|refine ar ?_|refine a8 ?_|refine aa ?_|refine ah a7 rfl rfl ?_)
 refine aI [1, 9, 10] (α := Nat × AL) (fun i => [(11, aD i.1)]) (fun i => i.1 ≤ l.length ∧ J i.1 i.2 ∧ cN err l.length = cQ err (l.length - i.1) i.1) (fun i => i.2) (fun i => l.length - i.1) (0, L0) rfl ⟨rfl, trivial⟩ ⟨Nat.zero_le _, h0, rfl⟩ (fun _ _ h => h) ?_
 rintro ⟨i, L⟩ ⟨hi, hj, he⟩
 dsimp only at hi hj he ⊢
 try dsimp only [Ht, Hs, Hr, Hn]
 repeat' (first|refine ae ?_|refine a6 ?_|refine a8 ?_|refine aa ?_|refine ah a7 rfl rfl ?_)
 refine ay rfl (fun h => ?_) (fun h => ?_)
 ·have hil : i < l.length := by have := Hz h; simp at this; omega
  obtain ⟨z, hz⟩ : ∃ z, l[i]? = some z := ⟨_, Eg hil⟩
  have hzg := bO (c := eN) hz
  repeat' (first|refine ae ?_|refine a6 ?_|refine ar ?_|refine aq ?_|refine a8 ?_|refine aa ?_|refine ah a7 rfl rfl ?_|(apply aO; first|refine aN a7 ?_|refine aH a7 ?_)|(apply aQ; first|refine ai 7 a7 0 rfl rfl rfl rfl rfl rfl rfl rfl ?_|refine ai 7 a7 1 rfl rfl rfl rfl rfl rfl rfl rfl ?_|refine ai 7 a7 2 rfl rfl rfl rfl rfl rfl rfl rfl ?_|refine aj a7 0 rfl rfl rfl rfl rfl rfl rfl ?_|refine aj a7 1 rfl rfl rfl rfl rfl rfl rfl ?_|refine aj a7 2 rfl rfl rfl rfl rfl rfl rfl ?_|refine aj a7 3 rfl rfl rfl rfl rfl rfl rfl ?_|fail)|refine aY a7 fun _=>?_|fail)
  refine cW L [] (hw i z L hz hj) rfl hu rfl (bR rfl) rfl rfl fun c L1 ⟨hc, hj'⟩ => ?_
  subst hc
  rw [List.append_nil]
  repeat' (first|refine ae ?_|refine a6 ?_|refine a8 ?_|refine aa ?_|refine ah a7 rfl rfl ?_)
  refine ay rfl (fun h2 => ?_) (fun h2 => ?_)
  ·have h2' := Hz h2
   repeat' (first|refine ae ?_|refine a6 ?_|refine am ?_|refine a8 ?_|refine aw ?_|refine aK ?_|refine bB ?_|refine aa ?_|refine ah a7 rfl rfl ?_)
   refine aS rfl rfl rfl ?_
   rw [he, ci hil h2']
   rfl
  ·have h2' := Decidable.not_not.1 (Hy h2)
   repeat' (first|refine a6 ?_|refine aq ?_|refine a8 ?_|refine aR ?_|refine aa ?_|refine ah a7 rfl rfl ?_|(apply b6; refine aZ ?_)|fail)
   exact aF (i + 1, L1) rfl ⟨by rw [Hw]; rfl, trivial⟩ ⟨by dsimp only; omega, hj' h2', by rw [he]; exact c6 hil h2'⟩ (by dsimp only; omega) (fun _ _ h => h)
 ·have hil : i = l.length := by have := Hy h; simp at this; omega
  subst hil
  repeat' (first|refine ae ?_|refine a6 ?_|refine am ?_|refine aL ?_|refine a8 ?_|refine av ?_|refine aA ?_|refine az ?_|refine aa ?_|refine ah a7 rfl rfl ?_)
  refine aS rfl rfl rfl ?_
  rw [he, Nat.sub_self]
  rfl
theorem BM {g : FuncId} {caps : List AV} {u : AV} [bv Tryz.prog g] (hu : iC u = some (g, caps)) (l : List d6) (most : Int) (err : Nat → Int) (J : Nat → AL → Prop) (L0 : AL) (h0 : J 0 L0) (hw : (l.length : Int) ≤ most → ∀ i x L, l[i]? = some x → J i L → AC Tryz.prog g ([aD i, .agg (eN x)] ++ caps) L fun c L' => c = aD (err i) ∧ (err i = 0 → J (i + 1) L')) :
  AC Tryz.prog 247 [.iptr [.imm 3 (l.map eN)], .iptr [aD most], .iptr [u]] L0 fun r _ => r = bX (cI most err l.length) := by
 refine aG Tryz.func247 rfl Tryz.ntmps247 rfl fun B => ?_
 repeat' (first|refine ae ?_|refine a6 ?_|refine a8 ?_|refine aa ?_|refine ah a7 rfl rfl ?_)
 refine ay rfl (fun h => ?_) (fun h => ?_)
 ·have h' := Hz h
  rw [Hv] at h'
  repeat' (first|refine ae ?_|refine a6 ?_|refine am ?_|refine a8 ?_|refine aw ?_|refine aa ?_|refine ah a7 rfl rfl ?_)
  refine aS rfl rfl rfl ?_
  unfold cI
  rw [if_pos h']
  rfl
 ·have h' := Hy h
  rw [Hv] at h'
  repeat' (first|refine ae ?_|refine a6 ?_|refine aq ?_|refine a8 ?_|refine ah a7 rfl rfl ?_)
  refine aV L0 [] (AM hu l err J L0 h0 (hw (by omega))) rfl (eB hu) (bR rfl) rfl fun c L1 hc => ?_
  subst hc
  repeat' (first|refine am ?_|refine a8 ?_|refine aa ?_|refine ah a7 rfl rfl ?_)
  refine aS rfl rfl rfl ?_
  unfold cI
  rw [if_neg h']
  rfl
theorem Fb {g : FuncId} {caps : List AV} (l : List d6) (most : Int) : bw Tryz.prog 176 [.imm 3 (l.map eN), aD most, .fn g caps] (.fn 247 [.iptr [.imm 3 (l.map eN)], .iptr [aD most], .iptr [.fn g caps]]) := by
 refine aG Tryz.func176 rfl Tryz.ntmps176 rfl fun B => ?_
 repeat' (first|refine ae ?_|refine a6 ?_|refine am ?_|refine a8 ?_|refine aa ?_|refine ah a7 rfl rfl ?_|refine b9 ?_|fail)
 exact au rfl rfl rfl
instance {g : FuncId} {caps : List AV} (l : List d6) (most : Int) : AD Tryz.prog 176 [.imm 3 (l.map eN), aD most, .fn g caps] (.fn 247 [.iptr [.imm 3 (l.map eN)], .iptr [aD most], .iptr [.fn g caps]]) := ⟨Fb l most⟩
theorem AN {g : FuncId} {caps : List AV} {u : AV} [bv Tryz.prog g] (hu : iC u = some (g, caps)) (l : List dI) (err : Nat → Int) (J : Nat → AL → Prop) (L0 : AL) (h0 : J 0 L0) (hw : ∀ i x L, l[i]? = some x → J i L → AC Tryz.prog g ([aD i, .agg (dR x)] ++ caps) L fun c L' => c = aD (err i) ∧ (err i = 0 → J (i + 1) L')) :
  AC Tryz.prog 250 [.imm 4 (l.map dR), u] L0 fun r _ => r = bX (cN err l.length) := by
 refine aG Tryz.func250 rfl Tryz.ntmps250 rfl fun B => ?_
 refine cJ 0 rfl rfl fun hlen => ?_
 rw [Hv] at hlen
 repeat' (first|refine ae ?_|refine a6 ?_|refine ar ?_|refine a8 ?_|refine aa ?_|refine ah a7 rfl rfl ?_)
 refine aI [1, 9, 10] (α := Nat × AL) (fun i => [(11, aD i.1)]) (fun i => i.1 ≤ l.length ∧ J i.1 i.2 ∧ cN err l.length = cQ err (l.length - i.1) i.1) (fun i => i.2) (fun i => l.length - i.1) (0, L0) rfl ⟨rfl, trivial⟩ ⟨Nat.zero_le _, h0, rfl⟩ (fun _ _ h => h) ?_
 rintro ⟨i, L⟩ ⟨hi, hj, he⟩
 dsimp only at hi hj he ⊢
 try dsimp only [Ht, Hs, Hr, Hn]
 repeat' (first|refine ae ?_|refine a6 ?_|refine a8 ?_|refine aa ?_|refine ah a7 rfl rfl ?_)
 refine ay rfl (fun h => ?_) (fun h => ?_)
 ·have hil : i < l.length := by have := Hz h; simp at this; omega
  obtain ⟨z, hz⟩ : ∃ z, l[i]? = some z := ⟨_, Eg hil⟩
  have hzg := bO (c := dR) hz
  repeat' (first|refine ae ?_|refine a6 ?_|refine ar ?_|refine aq ?_|refine a8 ?_|refine aa ?_|refine ah a7 rfl rfl ?_|(apply aO; first|refine aN a7 ?_|refine aH a7 ?_)|(apply aQ; first|refine ai 7 a7 0 rfl rfl rfl rfl rfl rfl rfl rfl ?_|refine ai 7 a7 1 rfl rfl rfl rfl rfl rfl rfl rfl ?_|refine ai 7 a7 2 rfl rfl rfl rfl rfl rfl rfl rfl ?_|refine aj a7 0 rfl rfl rfl rfl rfl rfl rfl ?_|refine aj a7 1 rfl rfl rfl rfl rfl rfl rfl ?_|refine aj a7 2 rfl rfl rfl rfl rfl rfl rfl ?_|refine aj a7 3 rfl rfl rfl rfl rfl rfl rfl ?_|fail)|refine aY a7 fun _=>?_|fail)
  refine cW L [] (hw i z L hz hj) rfl hu rfl (bR rfl) rfl rfl fun c L1 ⟨hc, hj'⟩ => ?_
  subst hc
  rw [List.append_nil]
  repeat' (first|refine ae ?_|refine a6 ?_|refine a8 ?_|refine aa ?_|refine ah a7 rfl rfl ?_)
  refine ay rfl (fun h2 => ?_) (fun h2 => ?_)
  ·have h2' := Hz h2
   repeat' (first|refine ae ?_|refine a6 ?_|refine am ?_|refine a8 ?_|refine aw ?_|refine aK ?_|refine bB ?_|refine aa ?_|refine ah a7 rfl rfl ?_)
   refine aS rfl rfl rfl ?_
   rw [he, ci hil h2']
   rfl
  ·have h2' := Decidable.not_not.1 (Hy h2)
   repeat' (first|refine a6 ?_|refine aq ?_|refine a8 ?_|refine aR ?_|refine aa ?_|refine ah a7 rfl rfl ?_|(apply b6; refine aZ ?_)|fail)
   exact aF (i + 1, L1) rfl ⟨by rw [Hw]; rfl, trivial⟩ ⟨by dsimp only; omega, hj' h2', by rw [he]; exact c6 hil h2'⟩ (by dsimp only; omega) (fun _ _ h => h)
 ·have hil : i = l.length := by have := Hy h; simp at this; omega
  subst hil
  repeat' (first|refine ae ?_|refine a6 ?_|refine am ?_|refine aL ?_|refine a8 ?_|refine av ?_|refine aA ?_|refine az ?_|refine aa ?_|refine ah a7 rfl rfl ?_)
  refine aS rfl rfl rfl ?_
  rw [he, Nat.sub_self]
  rfl
theorem BN {g : FuncId} {caps : List AV} {u : AV} [bv Tryz.prog g] (hu : iC u = some (g, caps)) (l : List dI) (most : Int) (err : Nat → Int) (J : Nat → AL → Prop) (L0 : AL) (h0 : J 0 L0) (hw : (l.length : Int) ≤ most → ∀ i x L, l[i]? = some x → J i L → AC Tryz.prog g ([aD i, .agg (dR x)] ++ caps) L fun c L' => c = aD (err i) ∧ (err i = 0 → J (i + 1) L')) :
  AC Tryz.prog 249 [.iptr [.imm 4 (l.map dR)], .iptr [aD most], .iptr [u]] L0 fun r _ => r = bX (cI most err l.length) := by
 refine aG Tryz.func249 rfl Tryz.ntmps249 rfl fun B => ?_
 repeat' (first|refine ae ?_|refine a6 ?_|refine a8 ?_|refine aa ?_|refine ah a7 rfl rfl ?_)
 refine ay rfl (fun h => ?_) (fun h => ?_)
 ·have h' := Hz h
  rw [Hv] at h'
  repeat' (first|refine ae ?_|refine a6 ?_|refine am ?_|refine a8 ?_|refine aw ?_|refine aa ?_|refine ah a7 rfl rfl ?_)
  refine aS rfl rfl rfl ?_
  unfold cI
  rw [if_pos h']
  rfl
 ·have h' := Hy h
  rw [Hv] at h'
  repeat' (first|refine ae ?_|refine a6 ?_|refine aq ?_|refine a8 ?_|refine ah a7 rfl rfl ?_)
  refine aV L0 [] (AN hu l err J L0 h0 (hw (by omega))) rfl (eB hu) (bR rfl) rfl fun c L1 hc => ?_
  subst hc
  repeat' (first|refine am ?_|refine a8 ?_|refine aa ?_|refine ah a7 rfl rfl ?_)
  refine aS rfl rfl rfl ?_
  unfold cI
  rw [if_neg h']
  rfl
theorem Fc {g : FuncId} {caps : List AV} (l : List dI) (most : Int) : bw Tryz.prog 179 [.imm 4 (l.map dR), aD most, .fn g caps] (.fn 249 [.iptr [.imm 4 (l.map dR)], .iptr [aD most], .iptr [.fn g caps]]) := by
 refine aG Tryz.func179 rfl Tryz.ntmps179 rfl fun B => ?_
 repeat' (first|refine ae ?_|refine a6 ?_|refine am ?_|refine a8 ?_|refine aa ?_|refine ah a7 rfl rfl ?_|refine b9 ?_|fail)
 exact au rfl rfl rfl
instance {g : FuncId} {caps : List AV} (l : List dI) (most : Int) : AD Tryz.prog 179 [.imm 4 (l.map dR), aD most, .fn g caps] (.fn 249 [.iptr [.imm 4 (l.map dR)], .iptr [aD most], .iptr [.fn g caps]]) := ⟨Fc l most⟩
theorem AP {g : FuncId} {caps : List AV} {u : AV} [bv Tryz.prog g] (hu : iC u = some (g, caps)) (l : List eC) (err : Nat → Int) (J : Nat → AL → Prop) (L0 : AL) (h0 : J 0 L0) (hw : ∀ i x L, l[i]? = some x → J i L → AC Tryz.prog g ([aD i, .agg (fD x)] ++ caps) L fun c L' => c = aD (err i) ∧ (err i = 0 → J (i + 1) L')) :
  AC Tryz.prog 253 [.imm 4 (l.map fD), u] L0 fun r _ => r = bX (cN err l.length) := by
 refine aG Tryz.func253 rfl Tryz.ntmps253 rfl fun B => ?_
 refine cJ 0 rfl rfl fun hlen => ?_
 rw [Hv] at hlen
 repeat' (first|refine ae ?_|refine a6 ?_|refine ar ?_|refine a8 ?_|refine aa ?_|refine ah a7 rfl rfl ?_)
 refine aI [1, 9, 10] (α := Nat × AL) (fun i => [(11, aD i.1)]) (fun i => i.1 ≤ l.length ∧ J i.1 i.2 ∧ cN err l.length = cQ err (l.length - i.1) i.1) (fun i => i.2) (fun i => l.length - i.1) (0, L0) rfl ⟨rfl, trivial⟩ ⟨Nat.zero_le _, h0, rfl⟩ (fun _ _ h => h) ?_
 rintro ⟨i, L⟩ ⟨hi, hj, he⟩
 dsimp only at hi hj he ⊢
 try dsimp only [Ht, Hs, Hr, Hn]
 repeat' (first|refine ae ?_|refine a6 ?_|refine a8 ?_|refine aa ?_|refine ah a7 rfl rfl ?_)
 refine ay rfl (fun h => ?_) (fun h => ?_)
 ·have hil : i < l.length := by have := Hz h; simp at this; omega
  obtain ⟨z, hz⟩ : ∃ z, l[i]? = some z := ⟨_, Eg hil⟩
  have hzg := bO (c := fD) hz
  repeat' (first|refine ae ?_|refine a6 ?_|refine ar ?_|refine aq ?_|refine a8 ?_|refine aa ?_|refine ah a7 rfl rfl ?_|(apply aO; first|refine aN a7 ?_|refine aH a7 ?_)|(apply aQ; first|refine ai 7 a7 0 rfl rfl rfl rfl rfl rfl rfl rfl ?_|refine ai 7 a7 1 rfl rfl rfl rfl rfl rfl rfl rfl ?_|refine ai 7 a7 2 rfl rfl rfl rfl rfl rfl rfl rfl ?_|refine aj a7 0 rfl rfl rfl rfl rfl rfl rfl ?_|refine aj a7 1 rfl rfl rfl rfl rfl rfl rfl ?_|refine aj a7 2 rfl rfl rfl rfl rfl rfl rfl ?_|refine aj a7 3 rfl rfl rfl rfl rfl rfl rfl ?_|fail)|refine aY a7 fun _=>?_|fail)
  refine cW L [] (hw i z L hz hj) rfl hu rfl (bR rfl) rfl rfl fun c L1 ⟨hc, hj'⟩ => ?_
  subst hc
  rw [List.append_nil]
  repeat' (first|refine ae ?_|refine a6 ?_|refine a8 ?_|refine aa ?_|refine ah a7 rfl rfl ?_)
  refine ay rfl (fun h2 => ?_) (fun h2 => ?_)
  ·have h2' := Hz h2
   repeat' (first|refine ae ?_|refine a6 ?_|refine am ?_|refine a8 ?_|refine aw ?_|refine aK ?_|refine bB ?_|refine aa ?_|refine ah a7 rfl rfl ?_)
   refine aS rfl rfl rfl ?_
   rw [he, ci hil h2']
   rfl
  ·have h2' := Decidable.not_not.1 (Hy h2)
   repeat' (first|refine a6 ?_|refine aq ?_|refine a8 ?_|refine aR ?_|refine aa ?_|refine ah a7 rfl rfl ?_|(apply b6; refine aZ ?_)|fail)
   exact aF (i + 1, L1) rfl ⟨by rw [Hw]; rfl, trivial⟩ ⟨by dsimp only; omega, hj' h2', by rw [he]; exact c6 hil h2'⟩ (by dsimp only; omega) (fun _ _ h => h)
 ·have hil : i = l.length := by have := Hy h; simp at this; omega
  subst hil
  repeat' (first|refine ae ?_|refine a6 ?_|refine am ?_|refine aL ?_|refine a8 ?_|refine av ?_|refine aA ?_|refine az ?_|refine aa ?_|refine ah a7 rfl rfl ?_)
  refine aS rfl rfl rfl ?_
  rw [he, Nat.sub_self]
  rfl
theorem BO {g : FuncId} {caps : List AV} {u : AV} [bv Tryz.prog g] (hu : iC u = some (g, caps)) (l : List eC) (most : Int) (err : Nat → Int) (J : Nat → AL → Prop) (L0 : AL) (h0 : J 0 L0) (hw : (l.length : Int) ≤ most → ∀ i x L, l[i]? = some x → J i L → AC Tryz.prog g ([aD i, .agg (fD x)] ++ caps) L fun c L' => c = aD (err i) ∧ (err i = 0 → J (i + 1) L')) :
  AC Tryz.prog 252 [.iptr [.imm 4 (l.map fD)], .iptr [aD most], .iptr [u]] L0 fun r _ => r = bX (cI most err l.length) := by
 refine aG Tryz.func252 rfl Tryz.ntmps252 rfl fun B => ?_
 repeat' (first|refine ae ?_|refine a6 ?_|refine a8 ?_|refine aa ?_|refine ah a7 rfl rfl ?_)
 refine ay rfl (fun h => ?_) (fun h => ?_)
 ·have h' := Hz h
  rw [Hv] at h'
  repeat' (first|refine ae ?_|refine a6 ?_|refine am ?_|refine a8 ?_|refine aw ?_|refine aa ?_|refine ah a7 rfl rfl ?_)
  refine aS rfl rfl rfl ?_
  unfold cI
  rw [if_pos h']
  rfl
 ·have h' := Hy h
  rw [Hv] at h'
  repeat' (first|refine ae ?_|refine a6 ?_|refine aq ?_|refine a8 ?_|refine ah a7 rfl rfl ?_)
  refine aV L0 [] (AP hu l err J L0 h0 (hw (by omega))) rfl (eB hu) (bR rfl) rfl fun c L1 hc => ?_
  subst hc
  repeat' (first|refine am ?_|refine a8 ?_|refine aa ?_|refine ah a7 rfl rfl ?_)
  refine aS rfl rfl rfl ?_
  unfold cI
  rw [if_neg h']
  rfl
theorem Fd {g : FuncId} {caps : List AV} (l : List eC) (most : Int) : bw Tryz.prog 181 [.imm 4 (l.map fD), aD most, .fn g caps] (.fn 252 [.iptr [.imm 4 (l.map fD)], .iptr [aD most], .iptr [.fn g caps]]) := by
 refine aG Tryz.func181 rfl Tryz.ntmps181 rfl fun B => ?_
 repeat' (first|refine ae ?_|refine a6 ?_|refine am ?_|refine a8 ?_|refine aa ?_|refine ah a7 rfl rfl ?_|refine b9 ?_|fail)
 exact au rfl rfl rfl
instance {g : FuncId} {caps : List AV} (l : List eC) (most : Int) : AD Tryz.prog 181 [.imm 4 (l.map fD), aD most, .fn g caps] (.fn 252 [.iptr [.imm 4 (l.map fD)], .iptr [aD most], .iptr [.fn g caps]]) := ⟨Fd l most⟩
theorem AQ {g : FuncId} {caps : List AV} {u : AV} [bv Tryz.prog g] (hu : iC u = some (g, caps)) (l : List (List Int)) (err : Nat → Int) (J : Nat → AL → Prop) (L0 : AL) (h0 : J 0 L0) (hw : ∀ i x L, l[i]? = some x → J i L → AC Tryz.prog g ([aD i, .imm 1 (aT x)] ++ caps) L fun c L' => c = aD (err i) ∧ (err i = 0 → J (i + 1) L')) :
  AC Tryz.prog 261 [.imm 1 (l.map EL), u] L0 fun r _ => r = bX (cN err l.length) := by
 refine aG Tryz.func261 rfl Tryz.ntmps261 rfl fun B => ?_
 refine cJ 0 rfl rfl fun hlen => ?_
 rw [Hv] at hlen
 repeat' (first|refine ae ?_|refine a6 ?_|refine ar ?_|refine a8 ?_|refine aa ?_|refine ah a7 rfl rfl ?_)
 refine aI [1, 9, 10] (α := Nat × AL) (fun i => [(11, aD i.1)]) (fun i => i.1 ≤ l.length ∧ J i.1 i.2 ∧ cN err l.length = cQ err (l.length - i.1) i.1) (fun i => i.2) (fun i => l.length - i.1) (0, L0) rfl ⟨rfl, trivial⟩ ⟨Nat.zero_le _, h0, rfl⟩ (fun _ _ h => h) ?_
 rintro ⟨i, L⟩ ⟨hi, hj, he⟩
 dsimp only at hi hj he ⊢
 try dsimp only [Ht, Hs, Hr, Hn]
 repeat' (first|refine ae ?_|refine a6 ?_|refine a8 ?_|refine aa ?_|refine ah a7 rfl rfl ?_)
 refine ay rfl (fun h => ?_) (fun h => ?_)
 ·have hil : i < l.length := by have := Hz h; simp at this; omega
  obtain ⟨z, hz⟩ : ∃ z, l[i]? = some z := ⟨_, Eg hil⟩
  have hzg := bO (c := EL) hz
  repeat' (first|refine ae ?_|refine a6 ?_|refine ar ?_|refine aq ?_|refine a8 ?_|refine aa ?_|refine ah a7 rfl rfl ?_|(apply aO; first|refine aN a7 ?_|refine aH a7 ?_)|fail)
  refine cW L [] (hw i z L hz hj) rfl hu rfl (bR rfl) rfl rfl fun c L1 ⟨hc, hj'⟩ => ?_
  subst hc
  rw [List.append_nil]
  repeat' (first|refine ae ?_|refine a6 ?_|refine a8 ?_|refine aa ?_|refine ah a7 rfl rfl ?_)
  refine ay rfl (fun h2 => ?_) (fun h2 => ?_)
  ·have h2' := Hz h2
   repeat' (first|refine ae ?_|refine a6 ?_|refine am ?_|refine a8 ?_|refine aw ?_|refine aK ?_|refine bB ?_|refine aa ?_|refine ah a7 rfl rfl ?_)
   refine aS rfl rfl rfl ?_
   rw [he, ci hil h2']
   rfl
  ·have h2' := Decidable.not_not.1 (Hy h2)
   repeat' (first|refine a6 ?_|refine aq ?_|refine a8 ?_|refine aR ?_|refine aa ?_|refine ah a7 rfl rfl ?_|(apply b6; refine aZ ?_)|fail)
   exact aF (i + 1, L1) rfl ⟨by rw [Hw]; rfl, trivial⟩ ⟨by dsimp only; omega, hj' h2', by rw [he]; exact c6 hil h2'⟩ (by dsimp only; omega) (fun _ _ h => h)
 ·have hil : i = l.length := by have := Hy h; simp at this; omega
  subst hil
  repeat' (first|refine ae ?_|refine a6 ?_|refine am ?_|refine aL ?_|refine a8 ?_|refine av ?_|refine aA ?_|refine az ?_|refine aa ?_|refine ah a7 rfl rfl ?_)
  refine aS rfl rfl rfl ?_
  rw [he, Nat.sub_self]
  rfl
theorem AR {g : FuncId} {caps : List AV} {u : AV} [bv Tryz.prog g] (hu : iC u = some (g, caps)) (l : List eo) (err : Nat → Int) (J : Nat → AL → Prop) (L0 : AL) (h0 : J 0 L0) (hw : ∀ i x L, l[i]? = some x → J i L → AC Tryz.prog g ([aD i, .agg (f3 x)] ++ caps) L fun c L' => c = aD (err i) ∧ (err i = 0 → J (i + 1) L')) :
  AC Tryz.prog 274 [.imm 2 (l.map f3), u] L0 fun r _ => r = bX (cN err l.length) := by
 refine aG Tryz.func274 rfl Tryz.ntmps274 rfl fun B => ?_
 refine cJ 0 rfl rfl fun hlen => ?_
 rw [Hv] at hlen
 repeat' (first|refine ae ?_|refine a6 ?_|refine ar ?_|refine a8 ?_|refine aa ?_|refine ah a7 rfl rfl ?_)
 refine aI [1, 9, 10] (α := Nat × AL) (fun i => [(11, aD i.1)]) (fun i => i.1 ≤ l.length ∧ J i.1 i.2 ∧ cN err l.length = cQ err (l.length - i.1) i.1) (fun i => i.2) (fun i => l.length - i.1) (0, L0) rfl ⟨rfl, trivial⟩ ⟨Nat.zero_le _, h0, rfl⟩ (fun _ _ h => h) ?_
 rintro ⟨i, L⟩ ⟨hi, hj, he⟩
 dsimp only at hi hj he ⊢
 try dsimp only [Ht, Hs, Hr, Hn]
 repeat' (first|refine ae ?_|refine a6 ?_|refine a8 ?_|refine aa ?_|refine ah a7 rfl rfl ?_)
 refine ay rfl (fun h => ?_) (fun h => ?_)
 ·have hil : i < l.length := by have := Hz h; simp at this; omega
  obtain ⟨z, hz⟩ : ∃ z, l[i]? = some z := ⟨_, Eg hil⟩
  have hzg := bO (c := f3) hz
  repeat' (first|refine ae ?_|refine a6 ?_|refine ar ?_|refine aq ?_|refine a8 ?_|refine aa ?_|refine ah a7 rfl rfl ?_|(apply aO; first|refine aN a7 ?_|refine aH a7 ?_)|(apply aQ; first|refine ai 7 a7 0 rfl rfl rfl rfl rfl rfl rfl rfl ?_|refine ai 7 a7 1 rfl rfl rfl rfl rfl rfl rfl rfl ?_|refine ai 7 a7 2 rfl rfl rfl rfl rfl rfl rfl rfl ?_|refine aj a7 0 rfl rfl rfl rfl rfl rfl rfl ?_|refine aj a7 1 rfl rfl rfl rfl rfl rfl rfl ?_|refine aj a7 2 rfl rfl rfl rfl rfl rfl rfl ?_|refine aj a7 3 rfl rfl rfl rfl rfl rfl rfl ?_|fail)|refine aY a7 fun _=>?_|fail)
  refine cW L [] (hw i z L hz hj) rfl hu rfl (bR rfl) rfl rfl fun c L1 ⟨hc, hj'⟩ => ?_
  subst hc
  rw [List.append_nil]
  repeat' (first|refine ae ?_|refine a6 ?_|refine a8 ?_|refine aa ?_|refine ah a7 rfl rfl ?_)
  refine ay rfl (fun h2 => ?_) (fun h2 => ?_)
  ·have h2' := Hz h2
   repeat' (first|refine ae ?_|refine a6 ?_|refine am ?_|refine a8 ?_|refine aw ?_|refine aK ?_|refine bB ?_|refine aa ?_|refine ah a7 rfl rfl ?_)
   refine aS rfl rfl rfl ?_
   rw [he, ci hil h2']
   rfl
  ·have h2' := Decidable.not_not.1 (Hy h2)
   repeat' (first|refine a6 ?_|refine aq ?_|refine a8 ?_|refine aR ?_|refine aa ?_|refine ah a7 rfl rfl ?_|(apply b6; refine aZ ?_)|fail)
   exact aF (i + 1, L1) rfl ⟨by rw [Hw]; rfl, trivial⟩ ⟨by dsimp only; omega, hj' h2', by rw [he]; exact c6 hil h2'⟩ (by dsimp only; omega) (fun _ _ h => h)
 ·have hil : i = l.length := by have := Hy h; simp at this; omega
  subst hil
  repeat' (first|refine ae ?_|refine a6 ?_|refine am ?_|refine aL ?_|refine a8 ?_|refine av ?_|refine aA ?_|refine az ?_|refine aa ?_|refine ah a7 rfl rfl ?_)
  refine aS rfl rfl rfl ?_
  rw [he, Nat.sub_self]
  rfl
theorem BP {g : FuncId} {caps : List AV} {u : AV} [bv Tryz.prog g] (hu : iC u = some (g, caps)) (l : List eo) (most : Int) (err : Nat → Int) (J : Nat → AL → Prop) (L0 : AL) (h0 : J 0 L0) (hw : (l.length : Int) ≤ most → ∀ i x L, l[i]? = some x → J i L → AC Tryz.prog g ([aD i, .agg (f3 x)] ++ caps) L fun c L' => c = aD (err i) ∧ (err i = 0 → J (i + 1) L')) :
  AC Tryz.prog 273 [.iptr [.imm 2 (l.map f3)], .iptr [aD most], .iptr [u]] L0 fun r _ => r = bX (cI most err l.length) := by
 refine aG Tryz.func273 rfl Tryz.ntmps273 rfl fun B => ?_
 repeat' (first|refine ae ?_|refine a6 ?_|refine a8 ?_|refine aa ?_|refine ah a7 rfl rfl ?_)
 refine ay rfl (fun h => ?_) (fun h => ?_)
 ·have h' := Hz h
  rw [Hv] at h'
  repeat' (first|refine ae ?_|refine a6 ?_|refine am ?_|refine a8 ?_|refine aw ?_|refine aa ?_|refine ah a7 rfl rfl ?_)
  refine aS rfl rfl rfl ?_
  unfold cI
  rw [if_pos h']
  rfl
 ·have h' := Hy h
  rw [Hv] at h'
  repeat' (first|refine ae ?_|refine a6 ?_|refine aq ?_|refine a8 ?_|refine ah a7 rfl rfl ?_)
  refine aV L0 [] (AR hu l err J L0 h0 (hw (by omega))) rfl (eB hu) (bR rfl) rfl fun c L1 hc => ?_
  subst hc
  repeat' (first|refine am ?_|refine a8 ?_|refine aa ?_|refine ah a7 rfl rfl ?_)
  refine aS rfl rfl rfl ?_
  unfold cI
  rw [if_neg h']
  rfl
theorem DD {g : FuncId} (l : List eo) (most : Int) : bw Tryz.prog 212 [.imm 2 (l.map f3), aD most, .sc (.func (.func g) #[] #[])] (.fn 273 [.iptr [.imm 2 (l.map f3)], .iptr [aD most], .iptr [.sc (.func (.func g) #[] #[])]]) := by
 refine aG Tryz.func212 rfl Tryz.ntmps212 rfl fun B => ?_
 repeat' (first|refine ae ?_|refine a6 ?_|refine am ?_|refine a8 ?_|refine aa ?_|refine ah a7 rfl rfl ?_|refine b9 ?_|fail)
 exact au rfl rfl rfl
instance {g : FuncId} (l : List eo) (most : Int) : AD Tryz.prog 212 [.imm 2 (l.map f3), aD most, .sc (.func (.func g) #[] #[])] (.fn 273 [.iptr [.imm 2 (l.map f3)], .iptr [aD most], .iptr [.sc (.func (.func g) #[] #[])]]) := ⟨DD l most⟩
theorem AS {g : FuncId} {caps : List AV} {u : AV} [bv Tryz.prog g] (hu : iC u = some (g, caps)) (l : List jw) (err : Nat → Int) (J : Nat → AL → Prop) (L0 : AL) (h0 : J 0 L0) (hw : ∀ i x L, l[i]? = some x → J i L → AC Tryz.prog g ([aD i, .agg (gz x)] ++ caps) L fun c L' => c = aD (err i) ∧ (err i = 0 → J (i + 1) L')) :
  AC Tryz.prog 318 [.imm 2 (l.map gz), u] L0 fun r _ => r = bX (cN err l.length) := by
 refine aG Tryz.func318 rfl Tryz.ntmps318 rfl fun B => ?_
 refine cJ 0 rfl rfl fun hlen => ?_
 rw [Hv] at hlen
 repeat' (first|refine ae ?_|refine a6 ?_|refine ar ?_|refine a8 ?_|refine aa ?_|refine ah a7 rfl rfl ?_)
 refine aI [1, 9, 10] (α := Nat × AL) (fun i => [(11, aD i.1)]) (fun i => i.1 ≤ l.length ∧ J i.1 i.2 ∧ cN err l.length = cQ err (l.length - i.1) i.1) (fun i => i.2) (fun i => l.length - i.1) (0, L0) rfl ⟨rfl, trivial⟩ ⟨Nat.zero_le _, h0, rfl⟩ (fun _ _ h => h) ?_
 rintro ⟨i, L⟩ ⟨hi, hj, he⟩
 dsimp only at hi hj he ⊢
 try dsimp only [Ht, Hs, Hr, Hn]
 repeat' (first|refine ae ?_|refine a6 ?_|refine a8 ?_|refine aa ?_|refine ah a7 rfl rfl ?_)
 refine ay rfl (fun h => ?_) (fun h => ?_)
 ·have hil : i < l.length := by have := Hz h; simp at this; omega
  obtain ⟨z, hz⟩ : ∃ z, l[i]? = some z := ⟨_, Eg hil⟩
  have hzg := bO (c := gz) hz
  repeat' (first|refine ae ?_|refine a6 ?_|refine ar ?_|refine aq ?_|refine a8 ?_|refine aa ?_|refine ah a7 rfl rfl ?_|(apply aO; first|refine aN a7 ?_|refine aH a7 ?_)|(apply aQ; first|refine ai 7 a7 0 rfl rfl rfl rfl rfl rfl rfl rfl ?_|refine ai 7 a7 1 rfl rfl rfl rfl rfl rfl rfl rfl ?_|refine ai 7 a7 2 rfl rfl rfl rfl rfl rfl rfl rfl ?_|refine aj a7 0 rfl rfl rfl rfl rfl rfl rfl ?_|refine aj a7 1 rfl rfl rfl rfl rfl rfl rfl ?_|refine aj a7 2 rfl rfl rfl rfl rfl rfl rfl ?_|refine aj a7 3 rfl rfl rfl rfl rfl rfl rfl ?_|fail)|refine aY a7 fun _=>?_|fail)
  refine cW L [] (hw i z L hz hj) rfl hu rfl (bR rfl) rfl rfl fun c L1 ⟨hc, hj'⟩ => ?_
  subst hc
  rw [List.append_nil]
  repeat' (first|refine ae ?_|refine a6 ?_|refine a8 ?_|refine aa ?_|refine ah a7 rfl rfl ?_)
  refine ay rfl (fun h2 => ?_) (fun h2 => ?_)
  ·have h2' := Hz h2
   repeat' (first|refine ae ?_|refine a6 ?_|refine am ?_|refine a8 ?_|refine aw ?_|refine aK ?_|refine bB ?_|refine aa ?_|refine ah a7 rfl rfl ?_)
   refine aS rfl rfl rfl ?_
   rw [he, ci hil h2']
   rfl
  ·have h2' := Decidable.not_not.1 (Hy h2)
   repeat' (first|refine a6 ?_|refine aq ?_|refine a8 ?_|refine aR ?_|refine aa ?_|refine ah a7 rfl rfl ?_|(apply b6; refine aZ ?_)|fail)
   exact aF (i + 1, L1) rfl ⟨by rw [Hw]; rfl, trivial⟩ ⟨by dsimp only; omega, hj' h2', by rw [he]; exact c6 hil h2'⟩ (by dsimp only; omega) (fun _ _ h => h)
 ·have hil : i = l.length := by have := Hy h; simp at this; omega
  subst hil
  repeat' (first|refine ae ?_|refine a6 ?_|refine am ?_|refine aL ?_|refine a8 ?_|refine av ?_|refine aA ?_|refine az ?_|refine aa ?_|refine ah a7 rfl rfl ?_)
  refine aS rfl rfl rfl ?_
  rw [he, Nat.sub_self]
  rfl
theorem ky {g : FuncId} {caps : List AV} {u : AV} [bv Tryz.prog g] (hu : iC u = some (g, caps)) (l : List Int) (err : Nat → Int) (J : Nat → AL → Prop) (L0 : AL) (h0 : J 0 L0) (hw : ∀ i x L, l[i]? = some x → J i L → AC Tryz.prog g ([aD i, aD x] ++ caps) L fun c L' => c = aD (err i) ∧ (err i = 0 → J (i + 1) L')) :
  AC Tryz.prog 187 [.imm 1 (l.map vw), u] L0 fun r _ => r = bX (cN err l.length) := by
 refine aG Tryz.func187 rfl Tryz.ntmps187 rfl fun B => ?_
 refine cJ 0 rfl rfl fun hlen => ?_
 rw [Hv] at hlen
 repeat' (first|refine ae ?_|refine a6 ?_|refine ar ?_|refine a8 ?_|refine aa ?_|refine ah a7 rfl rfl ?_)
 refine aI [1, 9, 10] (α := Nat × AL) (fun i => [(11, aD i.1)]) (fun i => i.1 ≤ l.length ∧ J i.1 i.2 ∧ cN err l.length = cQ err (l.length - i.1) i.1) (fun i => i.2) (fun i => l.length - i.1) (0, L0) rfl ⟨rfl, trivial⟩ ⟨Nat.zero_le _, h0, rfl⟩ (fun _ _ h => h) ?_
 rintro ⟨i, L⟩ ⟨hi, hj, he⟩
 dsimp only at hi hj he ⊢
 try dsimp only [Ht, Hs, Hr, Hn]
 repeat' (first|refine ae ?_|refine a6 ?_|refine a8 ?_|refine aa ?_|refine ah a7 rfl rfl ?_)
 refine ay rfl (fun h => ?_) (fun h => ?_)
 ·have hil : i < l.length := by have := Hz h; simp at this; omega
  obtain ⟨z, hz⟩ : ∃ z, l[i]? = some z := ⟨_, Eg hil⟩
  have hzg := bO (c := vw) hz
  repeat' (first|refine ae ?_|refine a6 ?_|refine ar ?_|refine aq ?_|refine a8 ?_|refine aa ?_|refine ah a7 rfl rfl ?_|(apply aO; first|refine aN a7 ?_|refine aH a7 ?_)|fail)
  refine cW L [] (hw i z L hz hj) rfl hu rfl (bR rfl) rfl rfl fun c L1 ⟨hc, hj'⟩ => ?_
  subst hc
  rw [List.append_nil]
  repeat' (first|refine ae ?_|refine a6 ?_|refine a8 ?_|refine aa ?_|refine ah a7 rfl rfl ?_)
  refine ay rfl (fun h2 => ?_) (fun h2 => ?_)
  ·have h2' := Hz h2
   repeat' (first|refine ae ?_|refine a6 ?_|refine am ?_|refine a8 ?_|refine aw ?_|refine aK ?_|refine bB ?_|refine aa ?_|refine ah a7 rfl rfl ?_)
   refine aS rfl rfl rfl ?_
   rw [he, ci hil h2']
   rfl
  ·have h2' := Decidable.not_not.1 (Hy h2)
   repeat' (first|refine a6 ?_|refine aq ?_|refine a8 ?_|refine aR ?_|refine aa ?_|refine ah a7 rfl rfl ?_|(apply b6; refine aZ ?_)|fail)
   exact aF (i + 1, L1) rfl ⟨by rw [Hw]; rfl, trivial⟩ ⟨by dsimp only; omega, hj' h2', by rw [he]; exact c6 hil h2'⟩ (by dsimp only; omega) (fun _ _ h => h)
 ·have hil : i = l.length := by have := Hy h; simp at this; omega
  subst hil
  repeat' (first|refine ae ?_|refine a6 ?_|refine am ?_|refine aL ?_|refine a8 ?_|refine av ?_|refine aA ?_|refine az ?_|refine aa ?_|refine ah a7 rfl rfl ?_)
  refine aS rfl rfl rfl ?_
  rw [he, Nat.sub_self]
  rfl
theorem BL {g : FuncId} {caps : List AV} {u : AV} [bv Tryz.prog g] (hu : iC u = some (g, caps)) (l : List Int) (most : Int) (err : Nat → Int) (J : Nat → AL → Prop) (L0 : AL) (h0 : J 0 L0) (hw : (l.length : Int) ≤ most → ∀ i x L, l[i]? = some x → J i L → AC Tryz.prog g ([aD i, aD x] ++ caps) L fun c L' => c = aD (err i) ∧ (err i = 0 → J (i + 1) L')) :
  AC Tryz.prog 214 [.iptr [.imm 1 (l.map vw)], .iptr [aD most], .iptr [u]] L0 fun r _ => r = bX (cI most err l.length) := by
 refine aG Tryz.func214 rfl Tryz.ntmps214 rfl fun B => ?_
 repeat' (first|refine ae ?_|refine a6 ?_|refine a8 ?_|refine aa ?_|refine ah a7 rfl rfl ?_)
 refine ay rfl (fun h => ?_) (fun h => ?_)
 ·have h' := Hz h
  rw [Hv] at h'
  repeat' (first|refine ae ?_|refine a6 ?_|refine am ?_|refine a8 ?_|refine aw ?_|refine aa ?_|refine ah a7 rfl rfl ?_)
  refine aS rfl rfl rfl ?_
  unfold cI
  rw [if_pos h']
  rfl
 ·have h' := Hy h
  rw [Hv] at h'
  repeat' (first|refine ae ?_|refine a6 ?_|refine aq ?_|refine a8 ?_|refine ah a7 rfl rfl ?_)
  refine aV L0 [] (ky hu l err J L0 h0 (hw (by omega))) rfl (eB hu) (bR rfl) rfl fun c L1 hc => ?_
  subst hc
  repeat' (first|refine am ?_|refine a8 ?_|refine aa ?_|refine ah a7 rfl rfl ?_)
  refine aS rfl rfl rfl ?_
  unfold cI
  rw [if_neg h']
  rfl
theorem DC {g : FuncId} (l : List Int) (most : Int) : bw Tryz.prog 133 [.imm 1 (l.map vw), aD most, .sc (.func (.func g) #[] #[])] (.fn 214 [.iptr [.imm 1 (l.map vw)], .iptr [aD most], .iptr [.sc (.func (.func g) #[] #[])]]) := by
 refine aG Tryz.func133 rfl Tryz.ntmps133 rfl fun B => ?_
 repeat' (first|refine ae ?_|refine a6 ?_|refine am ?_|refine a8 ?_|refine aa ?_|refine ah a7 rfl rfl ?_|refine b9 ?_|fail)
 exact au rfl rfl rfl
end Go.Proofs.YtamjlkdanllgjaaGreatDoor
