/-
  The program: looks at things, one by one.
-/
import Derived.Test.YtpbinloeemebkaaGreatM07
import Derived.Test.YtpbinloeemebkaaGreatM05
import Derived.Test.YtpbinloeemebkaaGreatM06
namespace Go.Proofs.YtpbinloeemebkaaGreat
open Go.RowKit
attribute [local irreducible] AT bN AX AO Av Kt bi dE DA d6
def cY (err : Nat → Int) : Nat → Nat → Int × Int
 | 0, _ => (0, 0)
 | k + 1, i => if err i = 0 then cY err k (i + 1) else (err i, i)
def cV (err : Nat → Int) (n : Nat) : Int × Int := cY err n 0
def cR (most : Int) (err : Nat → Int) (n : Nat) : Int × Int := if (n : Int) > most then (2, 0) else cV err n
def bX (p : Int × Int) : AV := .tup [aQ p.1, aQ p.2]
theorem cb {err : Nat → Int} {n i : Nat} (hi : i < n) (h : err i = 0) : cY err (n - i) i = cY err (n - (i + 1)) (i + 1) := by
 rw [show n - i = (n - (i + 1)) + 1 by omega]
 simp only [cY, h, if_true]
theorem cr {err : Nat → Int} {n i : Nat} (hi : i < n) (h : err i ≠ 0) : cY err (n - i) i = (err i, (i : Int)) := by
 rw [show n - i = (n - (i + 1)) + 1 by omega]
 simp only [cY, h, if_false]
def B4 (q : List Int) : List AV := [.imm 1 (aV q)]
def tT (z : Int) : List AV := [aQ z]
theorem eo {g : FuncId} {caps : List AV} {u : AV} (hu : iL u = some (g, caps)) {s : Nat} {l : List (List AV)} : lF [.imm s l, u] = some [.imm s l, u] := by
 unfold iL at hu
 split at hu <;> first | rfl | cases hu
theorem bK {L L' : AL} (h : L = L') : L.Perm (L' ++ []) := by rw [List.append_nil, h]
def Ca (P : Program) (g : FuncId) (caps : List AV) (n : Nat) (arg : Nat → AV) (err : Nat → Int) (J : Nat → AL → Prop) : Prop := ∀ i L, i < n → J i L → AC P g ([aQ i, arg i] ++ caps) L fun c L' => c = aQ (err i) ∧ (err i = 0 → J (i + 1) L')

theorem xN {g : FuncId} {caps : List AV} {u : AV} [bt Tryz.prog g] (hu : iL u = some (g, caps)) (l : List be) (err : Nat → Int) (J : Nat → AL → Prop) (L0 : AL) (h0 : J 0 L0) (hw : ∀ i x L, l[i]? = some x → J i L → AC Tryz.prog g ([aQ i, .agg (bz x)] ++ caps) L fun c L' => c = aQ (err i) ∧ (err i = 0 → J (i + 1) L')) :
  AC Tryz.prog 149 [.imm 9 (l.map bz), u] L0 fun r _ => r = bX (cV err l.length) := by
 refine aU Tryz.func149 rfl Tryz.ntmps149 rfl fun B => ?_
 refine cg 0 rfl rfl fun hlen => ?_
 rw [List.length_map] at hlen
 (repeat' (first|refine ah ?_|refine a6 ?_|refine am ?_|refine a8 ?_|refine aa ?_|refine ae a7 rfl rfl ?_|fail))
 refine aL [1, 9, 10] (α := Nat × AL) (fun i => [(11, aQ i.1)]) (fun i => i.1 ≤ l.length ∧ J i.1 i.2 ∧ cV err l.length = cY err (l.length - i.1) i.1) (fun i => i.2) (fun i => l.length - i.1) (0, L0) rfl ⟨rfl, trivial⟩ ⟨Nat.zero_le _, h0, rfl⟩ (fun _ _ h => h) ?_
 rintro ⟨i, L⟩ ⟨hi, hj, he⟩
 dsimp only at hi hj he ⊢
 try dsimp only [List.cons_append, List.nil_append, List.map_cons, List.map_nil]
 (repeat' (first|refine ah ?_|refine a6 ?_|refine a8 ?_|refine aa ?_|refine ae a7 rfl rfl ?_|fail))
 refine av rfl (fun h => ?_) (fun h => ?_)
 ·have hil : i < l.length := by have := of_decide_eq_true h; simp at this; omega
  obtain ⟨z, hz⟩ : ∃ z, l[i]? = some z := ⟨_, List.getElem?_eq_getElem hil⟩
  have hzg := b5 (c := bz) hz
  (repeat' (first|refine ah ?_|refine a6 ?_|refine am ?_|refine ak ?_|refine a8 ?_|refine aa ?_|refine ae a7 rfl rfl ?_|(apply aP; first|refine aO a7 ?_|refine aI a7 ?_)|(apply aT; first|refine ai 7 a7 0 rfl rfl rfl rfl rfl rfl rfl rfl ?_|refine ai 7 a7 1 rfl rfl rfl rfl rfl rfl rfl rfl ?_|refine ai 7 a7 2 rfl rfl rfl rfl rfl rfl rfl rfl ?_|refine aj a7 0 rfl rfl rfl rfl rfl rfl rfl ?_|refine aj a7 1 rfl rfl rfl rfl rfl rfl rfl ?_|refine aj a7 2 rfl rfl rfl rfl rfl rfl rfl ?_|refine aj a7 3 rfl rfl rfl rfl rfl rfl rfl ?_|fail)|refine bb a7 fun _=>?_|fail))
  refine cy L [] (hw i z L hz hj) rfl hu rfl (bK rfl) rfl rfl fun c L1 ⟨hc, hj'⟩ => ?_
  subst hc
  rw [List.append_nil]
  (repeat' (first|refine ah ?_|refine a6 ?_|refine a8 ?_|refine aa ?_|refine ae a7 rfl rfl ?_|fail))
  refine av rfl (fun h2 => ?_) (fun h2 => ?_)
  ·have h2' := of_decide_eq_true h2
   (repeat' (first|refine ah ?_|refine a6 ?_|refine au ?_|refine a8 ?_|refine ar ?_|refine aG ?_|refine aK ?_|refine aa ?_|refine ae a7 rfl rfl ?_|fail))
   refine b4 rfl rfl rfl ?_
   rw [he, cr hil h2']
   rfl
  ·have h2' := Decidable.not_not.1 (of_decide_eq_false h2)
   (repeat' (first|refine a6 ?_|refine ak ?_|refine a8 ?_|refine aJ ?_|refine aa ?_|refine ae a7 rfl rfl ?_|(apply aX; refine aW ?_)|fail))
   exact aE (i + 1, L1) rfl ⟨by rw [Int.natCast_add]; rfl, trivial⟩ ⟨by dsimp only; omega, hj' h2', by rw [he]; exact cb hil h2'⟩ (by dsimp only; omega) (fun _ _ h => h)
 ·have hil : i = l.length := by have := of_decide_eq_false h; simp at this; omega
  subst hil
  (repeat' (first|refine ah ?_|refine a6 ?_|refine au ?_|refine aR ?_|refine a8 ?_|refine az ?_|refine aC ?_|refine aA ?_|refine aa ?_|refine ae a7 rfl rfl ?_|fail))
  refine b4 rfl rfl rfl ?_
  rw [he, Nat.sub_self]
  rfl
theorem tC {g : FuncId} {caps : List AV} {u : AV} [bt Tryz.prog g] (hu : iL u = some (g, caps)) (l : List be) (most : Int) (err : Nat → Int) (J : Nat → AL → Prop) (L0 : AL) (h0 : J 0 L0) (hw : (l.length : Int) ≤ most → ∀ i x L, l[i]? = some x → J i L → AC Tryz.prog g ([aQ i, .agg (bz x)] ++ caps) L fun c L' => c = aQ (err i) ∧ (err i = 0 → J (i + 1) L')) :
  AC Tryz.prog 148 [.iptr [.imm 9 (l.map bz)], .iptr [aQ most], .iptr [u]] L0 fun r _ => r = bX (cR most err l.length) := by
 refine aU Tryz.func148 rfl Tryz.ntmps148 rfl fun B => ?_
 (repeat' (first|refine ah ?_|refine a6 ?_|refine a8 ?_|refine aa ?_|refine ae a7 rfl rfl ?_|fail))
 refine av rfl (fun h => ?_) (fun h => ?_)
 ·have h' := of_decide_eq_true h
  rw [List.length_map] at h'
  (repeat' (first|refine ah ?_|refine a6 ?_|refine au ?_|refine a8 ?_|refine ar ?_|refine aa ?_|refine ae a7 rfl rfl ?_|fail))
  refine b4 rfl rfl rfl ?_
  unfold cR
  rw [if_pos h']
  rfl
 ·have h' := of_decide_eq_false h
  rw [List.length_map] at h'
  (repeat' (first|refine ah ?_|refine a6 ?_|refine ak ?_|refine a8 ?_|refine ae a7 rfl rfl ?_|fail))
  refine aZ L0 [] (xN hu l err J L0 h0 (hw (by omega))) rfl (eo hu) (bK rfl) rfl fun c L1 hc => ?_
  subst hc
  (repeat' (first|refine au ?_|refine a8 ?_|refine aa ?_|refine ae a7 rfl rfl ?_|fail))
  refine b4 rfl rfl rfl ?_
  unfold cR
  rw [if_neg h']
  rfl
theorem BU {g : FuncId} {caps : List AV} (l : List be) (most : Int) : bo Tryz.prog 83 [.imm 9 (l.map bz), aQ most, .fn g caps] (.fn 148 [.iptr [.imm 9 (l.map bz)], .iptr [aQ most], .iptr [.fn g caps]]) := by
 refine aU Tryz.func83 rfl Tryz.ntmps83 rfl fun B => ?_
 (repeat' (first|refine ah ?_|refine a6 ?_|refine au ?_|refine a8 ?_|refine aa ?_|refine ae a7 rfl rfl ?_|refine b6 ?_|fail))
 exact aB rfl rfl rfl
instance {g : FuncId} {caps : List AV} (l : List be) (most : Int) : AD Tryz.prog 83 [.imm 9 (l.map bz), aQ most, .fn g caps] (.fn 148 [.iptr [.imm 9 (l.map bz)], .iptr [aQ most], .iptr [.fn g caps]]) := ⟨BU l most⟩
theorem xO {g : FuncId} {caps : List AV} {u : AV} [bt Tryz.prog g] (hu : iL u = some (g, caps)) (l : List eS) (err : Nat → Int) (J : Nat → AL → Prop) (L0 : AL) (h0 : J 0 L0) (hw : ∀ i x L, l[i]? = some x → J i L → AC Tryz.prog g ([aQ i, .agg (dY x)] ++ caps) L fun c L' => c = aQ (err i) ∧ (err i = 0 → J (i + 1) L')) :
  AC Tryz.prog 169 [.imm 2 (l.map dY), u] L0 fun r _ => r = bX (cV err l.length) := by
 refine aU Tryz.func169 rfl Tryz.ntmps169 rfl fun B => ?_
 refine cg 0 rfl rfl fun hlen => ?_
 rw [List.length_map] at hlen
 (repeat' (first|refine ah ?_|refine a6 ?_|refine am ?_|refine a8 ?_|refine aa ?_|refine ae a7 rfl rfl ?_|fail))
 refine aL [1, 9, 10] (α := Nat × AL) (fun i => [(11, aQ i.1)]) (fun i => i.1 ≤ l.length ∧ J i.1 i.2 ∧ cV err l.length = cY err (l.length - i.1) i.1) (fun i => i.2) (fun i => l.length - i.1) (0, L0) rfl ⟨rfl, trivial⟩ ⟨Nat.zero_le _, h0, rfl⟩ (fun _ _ h => h) ?_
 rintro ⟨i, L⟩ ⟨hi, hj, he⟩
 dsimp only at hi hj he ⊢
 try dsimp only [List.cons_append, List.nil_append, List.map_cons, List.map_nil]
 (repeat' (first|refine ah ?_|refine a6 ?_|refine a8 ?_|refine aa ?_|refine ae a7 rfl rfl ?_|fail))
 refine av rfl (fun h => ?_) (fun h => ?_)
 ·have hil : i < l.length := by have := of_decide_eq_true h; simp at this; omega
  obtain ⟨z, hz⟩ : ∃ z, l[i]? = some z := ⟨_, List.getElem?_eq_getElem hil⟩
  have hzg := b5 (c := dY) hz
  (repeat' (first|refine ah ?_|refine a6 ?_|refine am ?_|refine ak ?_|refine a8 ?_|refine aa ?_|refine ae a7 rfl rfl ?_|(apply aP; first|refine aO a7 ?_|refine aI a7 ?_)|(apply aT; first|refine ai 7 a7 0 rfl rfl rfl rfl rfl rfl rfl rfl ?_|refine ai 7 a7 1 rfl rfl rfl rfl rfl rfl rfl rfl ?_|refine ai 7 a7 2 rfl rfl rfl rfl rfl rfl rfl rfl ?_|refine aj a7 0 rfl rfl rfl rfl rfl rfl rfl ?_|refine aj a7 1 rfl rfl rfl rfl rfl rfl rfl ?_|refine aj a7 2 rfl rfl rfl rfl rfl rfl rfl ?_|refine aj a7 3 rfl rfl rfl rfl rfl rfl rfl ?_|fail)|refine bb a7 fun _=>?_|fail))
  refine cy L [] (hw i z L hz hj) rfl hu rfl (bK rfl) rfl rfl fun c L1 ⟨hc, hj'⟩ => ?_
  subst hc
  rw [List.append_nil]
  (repeat' (first|refine ah ?_|refine a6 ?_|refine a8 ?_|refine aa ?_|refine ae a7 rfl rfl ?_|fail))
  refine av rfl (fun h2 => ?_) (fun h2 => ?_)
  ·have h2' := of_decide_eq_true h2
   (repeat' (first|refine ah ?_|refine a6 ?_|refine au ?_|refine a8 ?_|refine ar ?_|refine aG ?_|refine aK ?_|refine aa ?_|refine ae a7 rfl rfl ?_|fail))
   refine b4 rfl rfl rfl ?_
   rw [he, cr hil h2']
   rfl
  ·have h2' := Decidable.not_not.1 (of_decide_eq_false h2)
   (repeat' (first|refine a6 ?_|refine ak ?_|refine a8 ?_|refine aJ ?_|refine aa ?_|refine ae a7 rfl rfl ?_|(apply aX; refine aW ?_)|fail))
   exact aE (i + 1, L1) rfl ⟨by rw [Int.natCast_add]; rfl, trivial⟩ ⟨by dsimp only; omega, hj' h2', by rw [he]; exact cb hil h2'⟩ (by dsimp only; omega) (fun _ _ h => h)
 ·have hil : i = l.length := by have := of_decide_eq_false h; simp at this; omega
  subst hil
  (repeat' (first|refine ah ?_|refine a6 ?_|refine au ?_|refine aR ?_|refine a8 ?_|refine az ?_|refine aC ?_|refine aA ?_|refine aa ?_|refine ae a7 rfl rfl ?_|fail))
  refine b4 rfl rfl rfl ?_
  rw [he, Nat.sub_self]
  rfl
theorem yB {g : FuncId} {caps : List AV} {u : AV} [bt Tryz.prog g] (hu : iL u = some (g, caps)) (l : List eS) (most : Int) (err : Nat → Int) (J : Nat → AL → Prop) (L0 : AL) (h0 : J 0 L0) (hw : (l.length : Int) ≤ most → ∀ i x L, l[i]? = some x → J i L → AC Tryz.prog g ([aQ i, .agg (dY x)] ++ caps) L fun c L' => c = aQ (err i) ∧ (err i = 0 → J (i + 1) L')) :
  AC Tryz.prog 168 [.iptr [.imm 2 (l.map dY)], .iptr [aQ most], .iptr [u]] L0 fun r _ => r = bX (cR most err l.length) := by
 refine aU Tryz.func168 rfl Tryz.ntmps168 rfl fun B => ?_
 (repeat' (first|refine ah ?_|refine a6 ?_|refine a8 ?_|refine aa ?_|refine ae a7 rfl rfl ?_|fail))
 refine av rfl (fun h => ?_) (fun h => ?_)
 ·have h' := of_decide_eq_true h
  rw [List.length_map] at h'
  (repeat' (first|refine ah ?_|refine a6 ?_|refine au ?_|refine a8 ?_|refine ar ?_|refine aa ?_|refine ae a7 rfl rfl ?_|fail))
  refine b4 rfl rfl rfl ?_
  unfold cR
  rw [if_pos h']
  rfl
 ·have h' := of_decide_eq_false h
  rw [List.length_map] at h'
  (repeat' (first|refine ah ?_|refine a6 ?_|refine ak ?_|refine a8 ?_|refine ae a7 rfl rfl ?_|fail))
  refine aZ L0 [] (xO hu l err J L0 h0 (hw (by omega))) rfl (eo hu) (bK rfl) rfl fun c L1 hc => ?_
  subst hc
  (repeat' (first|refine au ?_|refine a8 ?_|refine aa ?_|refine ae a7 rfl rfl ?_|fail))
  refine b4 rfl rfl rfl ?_
  unfold cR
  rw [if_neg h']
  rfl
theorem BV {g : FuncId} {caps : List AV} (l : List eS) (most : Int) : bo Tryz.prog 90 [.imm 2 (l.map dY), aQ most, .fn g caps] (.fn 168 [.iptr [.imm 2 (l.map dY)], .iptr [aQ most], .iptr [.fn g caps]]) := by
 refine aU Tryz.func90 rfl Tryz.ntmps90 rfl fun B => ?_
 (repeat' (first|refine ah ?_|refine a6 ?_|refine au ?_|refine a8 ?_|refine aa ?_|refine ae a7 rfl rfl ?_|refine b6 ?_|fail))
 exact aB rfl rfl rfl
instance {g : FuncId} {caps : List AV} (l : List eS) (most : Int) : AD Tryz.prog 90 [.imm 2 (l.map dY), aQ most, .fn g caps] (.fn 168 [.iptr [.imm 2 (l.map dY)], .iptr [aQ most], .iptr [.fn g caps]]) := ⟨BV l most⟩
theorem xP {g : FuncId} {caps : List AV} {u : AV} [bt Tryz.prog g] (hu : iL u = some (g, caps)) (l : List bC) (err : Nat → Int) (J : Nat → AL → Prop) (L0 : AL) (h0 : J 0 L0) (hw : ∀ i x L, l[i]? = some x → J i L → AC Tryz.prog g ([aQ i, .agg (bq x)] ++ caps) L fun c L' => c = aQ (err i) ∧ (err i = 0 → J (i + 1) L')) :
  AC Tryz.prog 171 [.imm 3 (l.map bq), u] L0 fun r _ => r = bX (cV err l.length) := by
 refine aU Tryz.func171 rfl Tryz.ntmps171 rfl fun B => ?_
 refine cg 0 rfl rfl fun hlen => ?_
 rw [List.length_map] at hlen
 (repeat' (first|refine ah ?_|refine a6 ?_|refine am ?_|refine a8 ?_|refine aa ?_|refine ae a7 rfl rfl ?_|fail))
 refine aL [1, 9, 10] (α := Nat × AL) (fun i => [(11, aQ i.1)]) (fun i => i.1 ≤ l.length ∧ J i.1 i.2 ∧ cV err l.length = cY err (l.length - i.1) i.1) (fun i => i.2) (fun i => l.length - i.1) (0, L0) rfl ⟨rfl, trivial⟩ ⟨Nat.zero_le _, h0, rfl⟩ (fun _ _ h => h) ?_
 rintro ⟨i, L⟩ ⟨hi, hj, he⟩
 dsimp only at hi hj he ⊢
 try dsimp only [List.cons_append, List.nil_append, List.map_cons, List.map_nil]
 (repeat' (first|refine ah ?_|refine a6 ?_|refine a8 ?_|refine aa ?_|refine ae a7 rfl rfl ?_|fail))
 refine av rfl (fun h => ?_) (fun h => ?_)
 ·have hil : i < l.length := by have := of_decide_eq_true h; simp at this; omega
  obtain ⟨z, hz⟩ : ∃ z, l[i]? = some z := ⟨_, List.getElem?_eq_getElem hil⟩
  have hzg := b5 (c := bq) hz
  (repeat' (first|refine ah ?_|refine a6 ?_|refine am ?_|refine ak ?_|refine a8 ?_|refine aa ?_|refine ae a7 rfl rfl ?_|(apply aP; first|refine aO a7 ?_|refine aI a7 ?_)|(apply aT; first|refine ai 7 a7 0 rfl rfl rfl rfl rfl rfl rfl rfl ?_|refine ai 7 a7 1 rfl rfl rfl rfl rfl rfl rfl rfl ?_|refine ai 7 a7 2 rfl rfl rfl rfl rfl rfl rfl rfl ?_|refine aj a7 0 rfl rfl rfl rfl rfl rfl rfl ?_|refine aj a7 1 rfl rfl rfl rfl rfl rfl rfl ?_|refine aj a7 2 rfl rfl rfl rfl rfl rfl rfl ?_|refine aj a7 3 rfl rfl rfl rfl rfl rfl rfl ?_|fail)|refine bb a7 fun _=>?_|fail))
  refine cy L [] (hw i z L hz hj) rfl hu rfl (bK rfl) rfl rfl fun c L1 ⟨hc, hj'⟩ => ?_
  subst hc
  rw [List.append_nil]
  (repeat' (first|refine ah ?_|refine a6 ?_|refine a8 ?_|refine aa ?_|refine ae a7 rfl rfl ?_|fail))
  refine av rfl (fun h2 => ?_) (fun h2 => ?_)
  ·have h2' := of_decide_eq_true h2
   (repeat' (first|refine ah ?_|refine a6 ?_|refine au ?_|refine a8 ?_|refine ar ?_|refine aG ?_|refine aK ?_|refine aa ?_|refine ae a7 rfl rfl ?_|fail))
   refine b4 rfl rfl rfl ?_
   rw [he, cr hil h2']
   rfl
  ·have h2' := Decidable.not_not.1 (of_decide_eq_false h2)
   (repeat' (first|refine a6 ?_|refine ak ?_|refine a8 ?_|refine aJ ?_|refine aa ?_|refine ae a7 rfl rfl ?_|(apply aX; refine aW ?_)|fail))
   exact aE (i + 1, L1) rfl ⟨by rw [Int.natCast_add]; rfl, trivial⟩ ⟨by dsimp only; omega, hj' h2', by rw [he]; exact cb hil h2'⟩ (by dsimp only; omega) (fun _ _ h => h)
 ·have hil : i = l.length := by have := of_decide_eq_false h; simp at this; omega
  subst hil
  (repeat' (first|refine ah ?_|refine a6 ?_|refine au ?_|refine aR ?_|refine a8 ?_|refine az ?_|refine aC ?_|refine aA ?_|refine aa ?_|refine ae a7 rfl rfl ?_|fail))
  refine b4 rfl rfl rfl ?_
  rw [he, Nat.sub_self]
  rfl
theorem yC {g : FuncId} {caps : List AV} {u : AV} [bt Tryz.prog g] (hu : iL u = some (g, caps)) (l : List bC) (most : Int) (err : Nat → Int) (J : Nat → AL → Prop) (L0 : AL) (h0 : J 0 L0) (hw : (l.length : Int) ≤ most → ∀ i x L, l[i]? = some x → J i L → AC Tryz.prog g ([aQ i, .agg (bq x)] ++ caps) L fun c L' => c = aQ (err i) ∧ (err i = 0 → J (i + 1) L')) :
  AC Tryz.prog 170 [.iptr [.imm 3 (l.map bq)], .iptr [aQ most], .iptr [u]] L0 fun r _ => r = bX (cR most err l.length) := by
 refine aU Tryz.func170 rfl Tryz.ntmps170 rfl fun B => ?_
 (repeat' (first|refine ah ?_|refine a6 ?_|refine a8 ?_|refine aa ?_|refine ae a7 rfl rfl ?_|fail))
 refine av rfl (fun h => ?_) (fun h => ?_)
 ·have h' := of_decide_eq_true h
  rw [List.length_map] at h'
  (repeat' (first|refine ah ?_|refine a6 ?_|refine au ?_|refine a8 ?_|refine ar ?_|refine aa ?_|refine ae a7 rfl rfl ?_|fail))
  refine b4 rfl rfl rfl ?_
  unfold cR
  rw [if_pos h']
  rfl
 ·have h' := of_decide_eq_false h
  rw [List.length_map] at h'
  (repeat' (first|refine ah ?_|refine a6 ?_|refine ak ?_|refine a8 ?_|refine ae a7 rfl rfl ?_|fail))
  refine aZ L0 [] (xP hu l err J L0 h0 (hw (by omega))) rfl (eo hu) (bK rfl) rfl fun c L1 hc => ?_
  subst hc
  (repeat' (first|refine au ?_|refine a8 ?_|refine aa ?_|refine ae a7 rfl rfl ?_|fail))
  refine b4 rfl rfl rfl ?_
  unfold cR
  rw [if_neg h']
  rfl
theorem BW {g : FuncId} {caps : List AV} (l : List bC) (most : Int) : bo Tryz.prog 93 [.imm 3 (l.map bq), aQ most, .fn g caps] (.fn 170 [.iptr [.imm 3 (l.map bq)], .iptr [aQ most], .iptr [.fn g caps]]) := by
 refine aU Tryz.func93 rfl Tryz.ntmps93 rfl fun B => ?_
 (repeat' (first|refine ah ?_|refine a6 ?_|refine au ?_|refine a8 ?_|refine aa ?_|refine ae a7 rfl rfl ?_|refine b6 ?_|fail))
 exact aB rfl rfl rfl
instance {g : FuncId} {caps : List AV} (l : List bC) (most : Int) : AD Tryz.prog 93 [.imm 3 (l.map bq), aQ most, .fn g caps] (.fn 170 [.iptr [.imm 3 (l.map bq)], .iptr [aQ most], .iptr [.fn g caps]]) := ⟨BW l most⟩
theorem xQ {g : FuncId} {caps : List AV} {u : AV} [bt Tryz.prog g] (hu : iL u = some (g, caps)) (l : List bJ) (err : Nat → Int) (J : Nat → AL → Prop) (L0 : AL) (h0 : J 0 L0) (hw : ∀ i x L, l[i]? = some x → J i L → AC Tryz.prog g ([aQ i, .agg (ca x)] ++ caps) L fun c L' => c = aQ (err i) ∧ (err i = 0 → J (i + 1) L')) :
  AC Tryz.prog 175 [.imm 6 (l.map ca), u] L0 fun r _ => r = bX (cV err l.length) := by
 refine aU Tryz.func175 rfl Tryz.ntmps175 rfl fun B => ?_
 refine cg 0 rfl rfl fun hlen => ?_
 rw [List.length_map] at hlen
 (repeat' (first|refine ah ?_|refine a6 ?_|refine am ?_|refine a8 ?_|refine aa ?_|refine ae a7 rfl rfl ?_|fail))
 refine aL [1, 9, 10] (α := Nat × AL) (fun i => [(11, aQ i.1)]) (fun i => i.1 ≤ l.length ∧ J i.1 i.2 ∧ cV err l.length = cY err (l.length - i.1) i.1) (fun i => i.2) (fun i => l.length - i.1) (0, L0) rfl ⟨rfl, trivial⟩ ⟨Nat.zero_le _, h0, rfl⟩ (fun _ _ h => h) ?_
 rintro ⟨i, L⟩ ⟨hi, hj, he⟩
 dsimp only at hi hj he ⊢
 try dsimp only [List.cons_append, List.nil_append, List.map_cons, List.map_nil]
 (repeat' (first|refine ah ?_|refine a6 ?_|refine a8 ?_|refine aa ?_|refine ae a7 rfl rfl ?_|fail))
 refine av rfl (fun h => ?_) (fun h => ?_)
 ·have hil : i < l.length := by have := of_decide_eq_true h; simp at this; omega
  obtain ⟨z, hz⟩ : ∃ z, l[i]? = some z := ⟨_, List.getElem?_eq_getElem hil⟩
  have hzg := b5 (c := ca) hz
  (repeat' (first|refine ah ?_|refine a6 ?_|refine am ?_|refine ak ?_|refine a8 ?_|refine aa ?_|refine ae a7 rfl rfl ?_|(apply aP; first|refine aO a7 ?_|refine aI a7 ?_)|(apply aT; first|refine ai 7 a7 0 rfl rfl rfl rfl rfl rfl rfl rfl ?_|refine ai 7 a7 1 rfl rfl rfl rfl rfl rfl rfl rfl ?_|refine ai 7 a7 2 rfl rfl rfl rfl rfl rfl rfl rfl ?_|refine aj a7 0 rfl rfl rfl rfl rfl rfl rfl ?_|refine aj a7 1 rfl rfl rfl rfl rfl rfl rfl ?_|refine aj a7 2 rfl rfl rfl rfl rfl rfl rfl ?_|refine aj a7 3 rfl rfl rfl rfl rfl rfl rfl ?_|fail)|refine bb a7 fun _=>?_|fail))
  refine cy L [] (hw i z L hz hj) rfl hu rfl (bK rfl) rfl rfl fun c L1 ⟨hc, hj'⟩ => ?_
  subst hc
  rw [List.append_nil]
  (repeat' (first|refine ah ?_|refine a6 ?_|refine a8 ?_|refine aa ?_|refine ae a7 rfl rfl ?_|fail))
  refine av rfl (fun h2 => ?_) (fun h2 => ?_)
  ·have h2' := of_decide_eq_true h2
   (repeat' (first|refine ah ?_|refine a6 ?_|refine au ?_|refine a8 ?_|refine ar ?_|refine aG ?_|refine aK ?_|refine aa ?_|refine ae a7 rfl rfl ?_|fail))
   refine b4 rfl rfl rfl ?_
   rw [he, cr hil h2']
   rfl
  ·have h2' := Decidable.not_not.1 (of_decide_eq_false h2)
   (repeat' (first|refine a6 ?_|refine ak ?_|refine a8 ?_|refine aJ ?_|refine aa ?_|refine ae a7 rfl rfl ?_|(apply aX; refine aW ?_)|fail))
   exact aE (i + 1, L1) rfl ⟨by rw [Int.natCast_add]; rfl, trivial⟩ ⟨by dsimp only; omega, hj' h2', by rw [he]; exact cb hil h2'⟩ (by dsimp only; omega) (fun _ _ h => h)
 ·have hil : i = l.length := by have := of_decide_eq_false h; simp at this; omega
  subst hil
  (repeat' (first|refine ah ?_|refine a6 ?_|refine au ?_|refine aR ?_|refine a8 ?_|refine az ?_|refine aC ?_|refine aA ?_|refine aa ?_|refine ae a7 rfl rfl ?_|fail))
  refine b4 rfl rfl rfl ?_
  rw [he, Nat.sub_self]
  rfl
theorem xR {g : FuncId} {caps : List AV} {u : AV} [bt Tryz.prog g] (hu : iL u = some (g, caps)) (l : List bA) (err : Nat → Int) (J : Nat → AL → Prop) (L0 : AL) (h0 : J 0 L0) (hw : ∀ i x L, l[i]? = some x → J i L → AC Tryz.prog g ([aQ i, .agg (bS x)] ++ caps) L fun c L' => c = aQ (err i) ∧ (err i = 0 → J (i + 1) L')) :
  AC Tryz.prog 179 [.imm 2 (l.map bS), u] L0 fun r _ => r = bX (cV err l.length) := by
 refine aU Tryz.func179 rfl Tryz.ntmps179 rfl fun B => ?_
 refine cg 0 rfl rfl fun hlen => ?_
 rw [List.length_map] at hlen
 (repeat' (first|refine ah ?_|refine a6 ?_|refine am ?_|refine a8 ?_|refine aa ?_|refine ae a7 rfl rfl ?_|fail))
 refine aL [1, 9, 10] (α := Nat × AL) (fun i => [(11, aQ i.1)]) (fun i => i.1 ≤ l.length ∧ J i.1 i.2 ∧ cV err l.length = cY err (l.length - i.1) i.1) (fun i => i.2) (fun i => l.length - i.1) (0, L0) rfl ⟨rfl, trivial⟩ ⟨Nat.zero_le _, h0, rfl⟩ (fun _ _ h => h) ?_
 rintro ⟨i, L⟩ ⟨hi, hj, he⟩
 dsimp only at hi hj he ⊢
 try dsimp only [List.cons_append, List.nil_append, List.map_cons, List.map_nil]
 (repeat' (first|refine ah ?_|refine a6 ?_|refine a8 ?_|refine aa ?_|refine ae a7 rfl rfl ?_|fail))
 refine av rfl (fun h => ?_) (fun h => ?_)
 ·have hil : i < l.length := by have := of_decide_eq_true h; simp at this; omega
  obtain ⟨z, hz⟩ : ∃ z, l[i]? = some z := ⟨_, List.getElem?_eq_getElem hil⟩
  have hzg := b5 (c := bS) hz
  (repeat' (first|refine ah ?_|refine a6 ?_|refine am ?_|refine ak ?_|refine a8 ?_|refine aa ?_|refine ae a7 rfl rfl ?_|(apply aP; first|refine aO a7 ?_|refine aI a7 ?_)|(apply aT; first|refine ai 7 a7 0 rfl rfl rfl rfl rfl rfl rfl rfl ?_|refine ai 7 a7 1 rfl rfl rfl rfl rfl rfl rfl rfl ?_|refine ai 7 a7 2 rfl rfl rfl rfl rfl rfl rfl rfl ?_|refine aj a7 0 rfl rfl rfl rfl rfl rfl rfl ?_|refine aj a7 1 rfl rfl rfl rfl rfl rfl rfl ?_|refine aj a7 2 rfl rfl rfl rfl rfl rfl rfl ?_|refine aj a7 3 rfl rfl rfl rfl rfl rfl rfl ?_|fail)|refine bb a7 fun _=>?_|fail))
  refine cy L [] (hw i z L hz hj) rfl hu rfl (bK rfl) rfl rfl fun c L1 ⟨hc, hj'⟩ => ?_
  subst hc
  rw [List.append_nil]
  (repeat' (first|refine ah ?_|refine a6 ?_|refine a8 ?_|refine aa ?_|refine ae a7 rfl rfl ?_|fail))
  refine av rfl (fun h2 => ?_) (fun h2 => ?_)
  ·have h2' := of_decide_eq_true h2
   (repeat' (first|refine ah ?_|refine a6 ?_|refine au ?_|refine a8 ?_|refine ar ?_|refine aG ?_|refine aK ?_|refine aa ?_|refine ae a7 rfl rfl ?_|fail))
   refine b4 rfl rfl rfl ?_
   rw [he, cr hil h2']
   rfl
  ·have h2' := Decidable.not_not.1 (of_decide_eq_false h2)
   (repeat' (first|refine a6 ?_|refine ak ?_|refine a8 ?_|refine aJ ?_|refine aa ?_|refine ae a7 rfl rfl ?_|(apply aX; refine aW ?_)|fail))
   exact aE (i + 1, L1) rfl ⟨by rw [Int.natCast_add]; rfl, trivial⟩ ⟨by dsimp only; omega, hj' h2', by rw [he]; exact cb hil h2'⟩ (by dsimp only; omega) (fun _ _ h => h)
 ·have hil : i = l.length := by have := of_decide_eq_false h; simp at this; omega
  subst hil
  (repeat' (first|refine ah ?_|refine a6 ?_|refine au ?_|refine aR ?_|refine a8 ?_|refine az ?_|refine aC ?_|refine aA ?_|refine aa ?_|refine ae a7 rfl rfl ?_|fail))
  refine b4 rfl rfl rfl ?_
  rw [he, Nat.sub_self]
  rfl
theorem yD {g : FuncId} {caps : List AV} {u : AV} [bt Tryz.prog g] (hu : iL u = some (g, caps)) (l : List bA) (most : Int) (err : Nat → Int) (J : Nat → AL → Prop) (L0 : AL) (h0 : J 0 L0) (hw : (l.length : Int) ≤ most → ∀ i x L, l[i]? = some x → J i L → AC Tryz.prog g ([aQ i, .agg (bS x)] ++ caps) L fun c L' => c = aQ (err i) ∧ (err i = 0 → J (i + 1) L')) :
  AC Tryz.prog 178 [.iptr [.imm 2 (l.map bS)], .iptr [aQ most], .iptr [u]] L0 fun r _ => r = bX (cR most err l.length) := by
 refine aU Tryz.func178 rfl Tryz.ntmps178 rfl fun B => ?_
 (repeat' (first|refine ah ?_|refine a6 ?_|refine a8 ?_|refine aa ?_|refine ae a7 rfl rfl ?_|fail))
 refine av rfl (fun h => ?_) (fun h => ?_)
 ·have h' := of_decide_eq_true h
  rw [List.length_map] at h'
  (repeat' (first|refine ah ?_|refine a6 ?_|refine au ?_|refine a8 ?_|refine ar ?_|refine aa ?_|refine ae a7 rfl rfl ?_|fail))
  refine b4 rfl rfl rfl ?_
  unfold cR
  rw [if_pos h']
  rfl
 ·have h' := of_decide_eq_false h
  rw [List.length_map] at h'
  (repeat' (first|refine ah ?_|refine a6 ?_|refine ak ?_|refine a8 ?_|refine ae a7 rfl rfl ?_|fail))
  refine aZ L0 [] (xR hu l err J L0 h0 (hw (by omega))) rfl (eo hu) (bK rfl) rfl fun c L1 hc => ?_
  subst hc
  (repeat' (first|refine au ?_|refine a8 ?_|refine aa ?_|refine ae a7 rfl rfl ?_|fail))
  refine b4 rfl rfl rfl ?_
  unfold cR
  rw [if_neg h']
  rfl
theorem BX {g : FuncId} {caps : List AV} (l : List bA) (most : Int) : bo Tryz.prog 96 [.imm 2 (l.map bS), aQ most, .fn g caps] (.fn 178 [.iptr [.imm 2 (l.map bS)], .iptr [aQ most], .iptr [.fn g caps]]) := by
 refine aU Tryz.func96 rfl Tryz.ntmps96 rfl fun B => ?_
 (repeat' (first|refine ah ?_|refine a6 ?_|refine au ?_|refine a8 ?_|refine aa ?_|refine ae a7 rfl rfl ?_|refine b6 ?_|fail))
 exact aB rfl rfl rfl
instance {g : FuncId} {caps : List AV} (l : List bA) (most : Int) : AD Tryz.prog 96 [.imm 2 (l.map bS), aQ most, .fn g caps] (.fn 178 [.iptr [.imm 2 (l.map bS)], .iptr [aQ most], .iptr [.fn g caps]]) := ⟨BX l most⟩
theorem xS {g : FuncId} {caps : List AV} {u : AV} [bt Tryz.prog g] (hu : iL u = some (g, caps)) (l : List dG) (err : Nat → Int) (J : Nat → AL → Prop) (L0 : AL) (h0 : J 0 L0) (hw : ∀ i x L, l[i]? = some x → J i L → AC Tryz.prog g ([aQ i, .agg (dP x)] ++ caps) L fun c L' => c = aQ (err i) ∧ (err i = 0 → J (i + 1) L')) :
  AC Tryz.prog 182 [.imm 4 (l.map dP), u] L0 fun r _ => r = bX (cV err l.length) := by
 refine aU Tryz.func182 rfl Tryz.ntmps182 rfl fun B => ?_
 refine cg 0 rfl rfl fun hlen => ?_
 rw [List.length_map] at hlen
 (repeat' (first|refine ah ?_|refine a6 ?_|refine am ?_|refine a8 ?_|refine aa ?_|refine ae a7 rfl rfl ?_|fail))
 refine aL [1, 9, 10] (α := Nat × AL) (fun i => [(11, aQ i.1)]) (fun i => i.1 ≤ l.length ∧ J i.1 i.2 ∧ cV err l.length = cY err (l.length - i.1) i.1) (fun i => i.2) (fun i => l.length - i.1) (0, L0) rfl ⟨rfl, trivial⟩ ⟨Nat.zero_le _, h0, rfl⟩ (fun _ _ h => h) ?_
 rintro ⟨i, L⟩ ⟨hi, hj, he⟩
 dsimp only at hi hj he ⊢
 try dsimp only [List.cons_append, List.nil_append, List.map_cons, List.map_nil]
 (repeat' (first|refine ah ?_|refine a6 ?_|refine a8 ?_|refine aa ?_|refine ae a7 rfl rfl ?_|fail))
 refine av rfl (fun h => ?_) (fun h => ?_)
 ·have hil : i < l.length := by have := of_decide_eq_true h; simp at this; omega
  obtain ⟨z, hz⟩ : ∃ z, l[i]? = some z := ⟨_, List.getElem?_eq_getElem hil⟩
  have hzg := b5 (c := dP) hz
  (repeat' (first|refine ah ?_|refine a6 ?_|refine am ?_|refine ak ?_|refine a8 ?_|refine aa ?_|refine ae a7 rfl rfl ?_|(apply aP; first|refine aO a7 ?_|refine aI a7 ?_)|(apply aT; first|refine ai 7 a7 0 rfl rfl rfl rfl rfl rfl rfl rfl ?_|refine ai 7 a7 1 rfl rfl rfl rfl rfl rfl rfl rfl ?_|refine ai 7 a7 2 rfl rfl rfl rfl rfl rfl rfl rfl ?_|refine aj a7 0 rfl rfl rfl rfl rfl rfl rfl ?_|refine aj a7 1 rfl rfl rfl rfl rfl rfl rfl ?_|refine aj a7 2 rfl rfl rfl rfl rfl rfl rfl ?_|refine aj a7 3 rfl rfl rfl rfl rfl rfl rfl ?_|fail)|refine bb a7 fun _=>?_|fail))
  refine cy L [] (hw i z L hz hj) rfl hu rfl (bK rfl) rfl rfl fun c L1 ⟨hc, hj'⟩ => ?_
  subst hc
  rw [List.append_nil]
  (repeat' (first|refine ah ?_|refine a6 ?_|refine a8 ?_|refine aa ?_|refine ae a7 rfl rfl ?_|fail))
  refine av rfl (fun h2 => ?_) (fun h2 => ?_)
  ·have h2' := of_decide_eq_true h2
   (repeat' (first|refine ah ?_|refine a6 ?_|refine au ?_|refine a8 ?_|refine ar ?_|refine aG ?_|refine aK ?_|refine aa ?_|refine ae a7 rfl rfl ?_|fail))
   refine b4 rfl rfl rfl ?_
   rw [he, cr hil h2']
   rfl
  ·have h2' := Decidable.not_not.1 (of_decide_eq_false h2)
   (repeat' (first|refine a6 ?_|refine ak ?_|refine a8 ?_|refine aJ ?_|refine aa ?_|refine ae a7 rfl rfl ?_|(apply aX; refine aW ?_)|fail))
   exact aE (i + 1, L1) rfl ⟨by rw [Int.natCast_add]; rfl, trivial⟩ ⟨by dsimp only; omega, hj' h2', by rw [he]; exact cb hil h2'⟩ (by dsimp only; omega) (fun _ _ h => h)
 ·have hil : i = l.length := by have := of_decide_eq_false h; simp at this; omega
  subst hil
  (repeat' (first|refine ah ?_|refine a6 ?_|refine au ?_|refine aR ?_|refine a8 ?_|refine az ?_|refine aC ?_|refine aA ?_|refine aa ?_|refine ae a7 rfl rfl ?_|fail))
  refine b4 rfl rfl rfl ?_
  rw [he, Nat.sub_self]
  rfl
theorem yE {g : FuncId} {caps : List AV} {u : AV} [bt Tryz.prog g] (hu : iL u = some (g, caps)) (l : List dG) (most : Int) (err : Nat → Int) (J : Nat → AL → Prop) (L0 : AL) (h0 : J 0 L0) (hw : (l.length : Int) ≤ most → ∀ i x L, l[i]? = some x → J i L → AC Tryz.prog g ([aQ i, .agg (dP x)] ++ caps) L fun c L' => c = aQ (err i) ∧ (err i = 0 → J (i + 1) L')) :
  AC Tryz.prog 181 [.iptr [.imm 4 (l.map dP)], .iptr [aQ most], .iptr [u]] L0 fun r _ => r = bX (cR most err l.length) := by
 refine aU Tryz.func181 rfl Tryz.ntmps181 rfl fun B => ?_
 (repeat' (first|refine ah ?_|refine a6 ?_|refine a8 ?_|refine aa ?_|refine ae a7 rfl rfl ?_|fail))
 refine av rfl (fun h => ?_) (fun h => ?_)
 ·have h' := of_decide_eq_true h
  rw [List.length_map] at h'
  (repeat' (first|refine ah ?_|refine a6 ?_|refine au ?_|refine a8 ?_|refine ar ?_|refine aa ?_|refine ae a7 rfl rfl ?_|fail))
  refine b4 rfl rfl rfl ?_
  unfold cR
  rw [if_pos h']
  rfl
 ·have h' := of_decide_eq_false h
  rw [List.length_map] at h'
  (repeat' (first|refine ah ?_|refine a6 ?_|refine ak ?_|refine a8 ?_|refine ae a7 rfl rfl ?_|fail))
  refine aZ L0 [] (xS hu l err J L0 h0 (hw (by omega))) rfl (eo hu) (bK rfl) rfl fun c L1 hc => ?_
  subst hc
  (repeat' (first|refine au ?_|refine a8 ?_|refine aa ?_|refine ae a7 rfl rfl ?_|fail))
  refine b4 rfl rfl rfl ?_
  unfold cR
  rw [if_neg h']
  rfl
theorem Bl {g : FuncId} {caps : List AV} (l : List dG) (most : Int) : bo Tryz.prog 100 [.imm 4 (l.map dP), aQ most, .fn g caps] (.fn 181 [.iptr [.imm 4 (l.map dP)], .iptr [aQ most], .iptr [.fn g caps]]) := by
 refine aU Tryz.func100 rfl Tryz.ntmps100 rfl fun B => ?_
 (repeat' (first|refine ah ?_|refine a6 ?_|refine au ?_|refine a8 ?_|refine aa ?_|refine ae a7 rfl rfl ?_|refine b6 ?_|fail))
 exact aB rfl rfl rfl
instance {g : FuncId} {caps : List AV} (l : List dG) (most : Int) : AD Tryz.prog 100 [.imm 4 (l.map dP), aQ most, .fn g caps] (.fn 181 [.iptr [.imm 4 (l.map dP)], .iptr [aQ most], .iptr [.fn g caps]]) := ⟨Bl l most⟩
theorem xT {g : FuncId} {caps : List AV} {u : AV} [bt Tryz.prog g] (hu : iL u = some (g, caps)) (l : List (List dB)) (err : Nat → Int) (J : Nat → AL → Prop) (L0 : AL) (h0 : J 0 L0) (hw : ∀ i x L, l[i]? = some x → J i L → AC Tryz.prog g ([aQ i, .agg (cI x)] ++ caps) L fun c L' => c = aQ (err i) ∧ (err i = 0 → J (i + 1) L')) :
  AC Tryz.prog 184 [.imm 1 (l.map cI), u] L0 fun r _ => r = bX (cV err l.length) := by
 refine aU Tryz.func184 rfl Tryz.ntmps184 rfl fun B => ?_
 refine cg 0 rfl rfl fun hlen => ?_
 rw [List.length_map] at hlen
 (repeat' (first|refine ah ?_|refine a6 ?_|refine am ?_|refine a8 ?_|refine aa ?_|refine ae a7 rfl rfl ?_|fail))
 refine aL [1, 9, 10] (α := Nat × AL) (fun i => [(11, aQ i.1)]) (fun i => i.1 ≤ l.length ∧ J i.1 i.2 ∧ cV err l.length = cY err (l.length - i.1) i.1) (fun i => i.2) (fun i => l.length - i.1) (0, L0) rfl ⟨rfl, trivial⟩ ⟨Nat.zero_le _, h0, rfl⟩ (fun _ _ h => h) ?_
 rintro ⟨i, L⟩ ⟨hi, hj, he⟩
 dsimp only at hi hj he ⊢
 try dsimp only [List.cons_append, List.nil_append, List.map_cons, List.map_nil]
 (repeat' (first|refine ah ?_|refine a6 ?_|refine a8 ?_|refine aa ?_|refine ae a7 rfl rfl ?_|fail))
 refine av rfl (fun h => ?_) (fun h => ?_)
 ·have hil : i < l.length := by have := of_decide_eq_true h; simp at this; omega
  obtain ⟨z, hz⟩ : ∃ z, l[i]? = some z := ⟨_, List.getElem?_eq_getElem hil⟩
  have hzg := b5 (c := cI) hz
  (repeat' (first|refine ah ?_|refine a6 ?_|refine am ?_|refine ak ?_|refine a8 ?_|refine aa ?_|refine ae a7 rfl rfl ?_|(apply aP; first|refine aO a7 ?_|refine aI a7 ?_)|(apply aT; first|refine ai 7 a7 0 rfl rfl rfl rfl rfl rfl rfl rfl ?_|refine ai 7 a7 1 rfl rfl rfl rfl rfl rfl rfl rfl ?_|refine ai 7 a7 2 rfl rfl rfl rfl rfl rfl rfl rfl ?_|refine aj a7 0 rfl rfl rfl rfl rfl rfl rfl ?_|refine aj a7 1 rfl rfl rfl rfl rfl rfl rfl ?_|refine aj a7 2 rfl rfl rfl rfl rfl rfl rfl ?_|refine aj a7 3 rfl rfl rfl rfl rfl rfl rfl ?_|fail)|refine bb a7 fun _=>?_|fail))
  refine cy L [] (hw i z L hz hj) rfl hu rfl (bK rfl) rfl rfl fun c L1 ⟨hc, hj'⟩ => ?_
  subst hc
  rw [List.append_nil]
  (repeat' (first|refine ah ?_|refine a6 ?_|refine a8 ?_|refine aa ?_|refine ae a7 rfl rfl ?_|fail))
  refine av rfl (fun h2 => ?_) (fun h2 => ?_)
  ·have h2' := of_decide_eq_true h2
   (repeat' (first|refine ah ?_|refine a6 ?_|refine au ?_|refine a8 ?_|refine ar ?_|refine aG ?_|refine aK ?_|refine aa ?_|refine ae a7 rfl rfl ?_|fail))
   refine b4 rfl rfl rfl ?_
   rw [he, cr hil h2']
   rfl
  ·have h2' := Decidable.not_not.1 (of_decide_eq_false h2)
   (repeat' (first|refine a6 ?_|refine ak ?_|refine a8 ?_|refine aJ ?_|refine aa ?_|refine ae a7 rfl rfl ?_|(apply aX; refine aW ?_)|fail))
   exact aE (i + 1, L1) rfl ⟨by rw [Int.natCast_add]; rfl, trivial⟩ ⟨by dsimp only; omega, hj' h2', by rw [he]; exact cb hil h2'⟩ (by dsimp only; omega) (fun _ _ h => h)
 ·have hil : i = l.length := by have := of_decide_eq_false h; simp at this; omega
  subst hil
  (repeat' (first|refine ah ?_|refine a6 ?_|refine au ?_|refine aR ?_|refine a8 ?_|refine az ?_|refine aC ?_|refine aA ?_|refine aa ?_|refine ae a7 rfl rfl ?_|fail))
  refine b4 rfl rfl rfl ?_
  rw [he, Nat.sub_self]
  rfl
theorem yF {g : FuncId} {caps : List AV} {u : AV} [bt Tryz.prog g] (hu : iL u = some (g, caps)) (l : List (List dB)) (most : Int) (err : Nat → Int) (J : Nat → AL → Prop) (L0 : AL) (h0 : J 0 L0) (hw : (l.length : Int) ≤ most → ∀ i x L, l[i]? = some x → J i L → AC Tryz.prog g ([aQ i, .agg (cI x)] ++ caps) L fun c L' => c = aQ (err i) ∧ (err i = 0 → J (i + 1) L')) :
  AC Tryz.prog 183 [.iptr [.imm 1 (l.map cI)], .iptr [aQ most], .iptr [u]] L0 fun r _ => r = bX (cR most err l.length) := by
 refine aU Tryz.func183 rfl Tryz.ntmps183 rfl fun B => ?_
 (repeat' (first|refine ah ?_|refine a6 ?_|refine a8 ?_|refine aa ?_|refine ae a7 rfl rfl ?_|fail))
 refine av rfl (fun h => ?_) (fun h => ?_)
 ·have h' := of_decide_eq_true h
  rw [List.length_map] at h'
  (repeat' (first|refine ah ?_|refine a6 ?_|refine au ?_|refine a8 ?_|refine ar ?_|refine aa ?_|refine ae a7 rfl rfl ?_|fail))
  refine b4 rfl rfl rfl ?_
  unfold cR
  rw [if_pos h']
  rfl
 ·have h' := of_decide_eq_false h
  rw [List.length_map] at h'
  (repeat' (first|refine ah ?_|refine a6 ?_|refine ak ?_|refine a8 ?_|refine ae a7 rfl rfl ?_|fail))
  refine aZ L0 [] (xT hu l err J L0 h0 (hw (by omega))) rfl (eo hu) (bK rfl) rfl fun c L1 hc => ?_
  subst hc
  (repeat' (first|refine au ?_|refine a8 ?_|refine aa ?_|refine ae a7 rfl rfl ?_|fail))
  refine b4 rfl rfl rfl ?_
  unfold cR
  rw [if_neg h']
  rfl
theorem Bm {g : FuncId} {caps : List AV} (l : List (List dB)) (most : Int) : bo Tryz.prog 103 [.imm 1 (l.map cI), aQ most, .fn g caps] (.fn 183 [.iptr [.imm 1 (l.map cI)], .iptr [aQ most], .iptr [.fn g caps]]) := by
 refine aU Tryz.func103 rfl Tryz.ntmps103 rfl fun B => ?_
 (repeat' (first|refine ah ?_|refine a6 ?_|refine au ?_|refine a8 ?_|refine aa ?_|refine ae a7 rfl rfl ?_|refine b6 ?_|fail))
 exact aB rfl rfl rfl
instance {g : FuncId} {caps : List AV} (l : List (List dB)) (most : Int) : AD Tryz.prog 103 [.imm 1 (l.map cI), aQ most, .fn g caps] (.fn 183 [.iptr [.imm 1 (l.map cI)], .iptr [aQ most], .iptr [.fn g caps]]) := ⟨Bm l most⟩
theorem xU {g : FuncId} {caps : List AV} {u : AV} [bt Tryz.prog g] (hu : iL u = some (g, caps)) (l : List dB) (err : Nat → Int) (J : Nat → AL → Prop) (L0 : AL) (h0 : J 0 L0) (hw : ∀ i x L, l[i]? = some x → J i L → AC Tryz.prog g ([aQ i, .agg (gO x)] ++ caps) L fun c L' => c = aQ (err i) ∧ (err i = 0 → J (i + 1) L')) :
  AC Tryz.prog 185 [.imm 3 (l.map gO), u] L0 fun r _ => r = bX (cV err l.length) := by
 refine aU Tryz.func185 rfl Tryz.ntmps185 rfl fun B => ?_
 refine cg 0 rfl rfl fun hlen => ?_
 rw [List.length_map] at hlen
 (repeat' (first|refine ah ?_|refine a6 ?_|refine am ?_|refine a8 ?_|refine aa ?_|refine ae a7 rfl rfl ?_|fail))
 refine aL [1, 9, 10] (α := Nat × AL) (fun i => [(11, aQ i.1)]) (fun i => i.1 ≤ l.length ∧ J i.1 i.2 ∧ cV err l.length = cY err (l.length - i.1) i.1) (fun i => i.2) (fun i => l.length - i.1) (0, L0) rfl ⟨rfl, trivial⟩ ⟨Nat.zero_le _, h0, rfl⟩ (fun _ _ h => h) ?_
 rintro ⟨i, L⟩ ⟨hi, hj, he⟩
 dsimp only at hi hj he ⊢
 try dsimp only [List.cons_append, List.nil_append, List.map_cons, List.map_nil]
 (repeat' (first|refine ah ?_|refine a6 ?_|refine a8 ?_|refine aa ?_|refine ae a7 rfl rfl ?_|fail))
 refine av rfl (fun h => ?_) (fun h => ?_)
 ·have hil : i < l.length := by have := of_decide_eq_true h; simp at this; omega
  obtain ⟨z, hz⟩ : ∃ z, l[i]? = some z := ⟨_, List.getElem?_eq_getElem hil⟩
  have hzg := b5 (c := gO) hz
  (repeat' (first|refine ah ?_|refine a6 ?_|refine am ?_|refine ak ?_|refine a8 ?_|refine aa ?_|refine ae a7 rfl rfl ?_|(apply aP; first|refine aO a7 ?_|refine aI a7 ?_)|(apply aT; first|refine ai 7 a7 0 rfl rfl rfl rfl rfl rfl rfl rfl ?_|refine ai 7 a7 1 rfl rfl rfl rfl rfl rfl rfl rfl ?_|refine ai 7 a7 2 rfl rfl rfl rfl rfl rfl rfl rfl ?_|refine aj a7 0 rfl rfl rfl rfl rfl rfl rfl ?_|refine aj a7 1 rfl rfl rfl rfl rfl rfl rfl ?_|refine aj a7 2 rfl rfl rfl rfl rfl rfl rfl ?_|refine aj a7 3 rfl rfl rfl rfl rfl rfl rfl ?_|fail)|refine bb a7 fun _=>?_|fail))
  refine cy L [] (hw i z L hz hj) rfl hu rfl (bK rfl) rfl rfl fun c L1 ⟨hc, hj'⟩ => ?_
  subst hc
  rw [List.append_nil]
  (repeat' (first|refine ah ?_|refine a6 ?_|refine a8 ?_|refine aa ?_|refine ae a7 rfl rfl ?_|fail))
  refine av rfl (fun h2 => ?_) (fun h2 => ?_)
  ·have h2' := of_decide_eq_true h2
   (repeat' (first|refine ah ?_|refine a6 ?_|refine au ?_|refine a8 ?_|refine ar ?_|refine aG ?_|refine aK ?_|refine aa ?_|refine ae a7 rfl rfl ?_|fail))
   refine b4 rfl rfl rfl ?_
   rw [he, cr hil h2']
   rfl
  ·have h2' := Decidable.not_not.1 (of_decide_eq_false h2)
   (repeat' (first|refine a6 ?_|refine ak ?_|refine a8 ?_|refine aJ ?_|refine aa ?_|refine ae a7 rfl rfl ?_|(apply aX; refine aW ?_)|fail))
   exact aE (i + 1, L1) rfl ⟨by rw [Int.natCast_add]; rfl, trivial⟩ ⟨by dsimp only; omega, hj' h2', by rw [he]; exact cb hil h2'⟩ (by dsimp only; omega) (fun _ _ h => h)
 ·have hil : i = l.length := by have := of_decide_eq_false h; simp at this; omega
  subst hil
  (repeat' (first|refine ah ?_|refine a6 ?_|refine au ?_|refine aR ?_|refine a8 ?_|refine az ?_|refine aC ?_|refine aA ?_|refine aa ?_|refine ae a7 rfl rfl ?_|fail))
  refine b4 rfl rfl rfl ?_
  rw [he, Nat.sub_self]
  rfl
theorem xV {g : FuncId} {caps : List AV} {u : AV} [bt Tryz.prog g] (hu : iL u = some (g, caps)) (l : List (List ew)) (err : Nat → Int) (J : Nat → AL → Prop) (L0 : AL) (h0 : J 0 L0) (hw : ∀ i x L, l[i]? = some x → J i L → AC Tryz.prog g ([aQ i, .imm 2 (x.map ga)] ++ caps) L fun c L' => c = aQ (err i) ∧ (err i = 0 → J (i + 1) L')) :
  AC Tryz.prog 188 [.imm 1 (l.map g9), u] L0 fun r _ => r = bX (cV err l.length) := by
 refine aU Tryz.func188 rfl Tryz.ntmps188 rfl fun B => ?_
 refine cg 0 rfl rfl fun hlen => ?_
 rw [List.length_map] at hlen
 (repeat' (first|refine ah ?_|refine a6 ?_|refine am ?_|refine a8 ?_|refine aa ?_|refine ae a7 rfl rfl ?_|fail))
 refine aL [1, 9, 10] (α := Nat × AL) (fun i => [(11, aQ i.1)]) (fun i => i.1 ≤ l.length ∧ J i.1 i.2 ∧ cV err l.length = cY err (l.length - i.1) i.1) (fun i => i.2) (fun i => l.length - i.1) (0, L0) rfl ⟨rfl, trivial⟩ ⟨Nat.zero_le _, h0, rfl⟩ (fun _ _ h => h) ?_
 rintro ⟨i, L⟩ ⟨hi, hj, he⟩
 dsimp only at hi hj he ⊢
 try dsimp only [List.cons_append, List.nil_append, List.map_cons, List.map_nil]
 (repeat' (first|refine ah ?_|refine a6 ?_|refine a8 ?_|refine aa ?_|refine ae a7 rfl rfl ?_|fail))
 refine av rfl (fun h => ?_) (fun h => ?_)
 ·have hil : i < l.length := by have := of_decide_eq_true h; simp at this; omega
  obtain ⟨z, hz⟩ : ∃ z, l[i]? = some z := ⟨_, List.getElem?_eq_getElem hil⟩
  have hzg := b5 (c := g9) hz
  (repeat' (first|refine ah ?_|refine a6 ?_|refine am ?_|refine ak ?_|refine a8 ?_|refine aa ?_|refine ae a7 rfl rfl ?_|(apply aP; first|refine aO a7 ?_|refine aI a7 ?_)|fail))
  refine cy L [] (hw i z L hz hj) rfl hu rfl (bK rfl) rfl rfl fun c L1 ⟨hc, hj'⟩ => ?_
  subst hc
  rw [List.append_nil]
  (repeat' (first|refine ah ?_|refine a6 ?_|refine a8 ?_|refine aa ?_|refine ae a7 rfl rfl ?_|fail))
  refine av rfl (fun h2 => ?_) (fun h2 => ?_)
  ·have h2' := of_decide_eq_true h2
   (repeat' (first|refine ah ?_|refine a6 ?_|refine au ?_|refine a8 ?_|refine ar ?_|refine aG ?_|refine aK ?_|refine aa ?_|refine ae a7 rfl rfl ?_|fail))
   refine b4 rfl rfl rfl ?_
   rw [he, cr hil h2']
   rfl
  ·have h2' := Decidable.not_not.1 (of_decide_eq_false h2)
   (repeat' (first|refine a6 ?_|refine ak ?_|refine a8 ?_|refine aJ ?_|refine aa ?_|refine ae a7 rfl rfl ?_|(apply aX; refine aW ?_)|fail))
   exact aE (i + 1, L1) rfl ⟨by rw [Int.natCast_add]; rfl, trivial⟩ ⟨by dsimp only; omega, hj' h2', by rw [he]; exact cb hil h2'⟩ (by dsimp only; omega) (fun _ _ h => h)
 ·have hil : i = l.length := by have := of_decide_eq_false h; simp at this; omega
  subst hil
  (repeat' (first|refine ah ?_|refine a6 ?_|refine au ?_|refine aR ?_|refine a8 ?_|refine az ?_|refine aC ?_|refine aA ?_|refine aa ?_|refine ae a7 rfl rfl ?_|fail))
  refine b4 rfl rfl rfl ?_
  rw [he, Nat.sub_self]
  rfl
theorem yG {g : FuncId} {caps : List AV} {u : AV} [bt Tryz.prog g] (hu : iL u = some (g, caps)) (l : List (List ew)) (most : Int) (err : Nat → Int) (J : Nat → AL → Prop) (L0 : AL) (h0 : J 0 L0) (hw : (l.length : Int) ≤ most → ∀ i x L, l[i]? = some x → J i L → AC Tryz.prog g ([aQ i, .imm 2 (x.map ga)] ++ caps) L fun c L' => c = aQ (err i) ∧ (err i = 0 → J (i + 1) L')) :
  AC Tryz.prog 187 [.iptr [.imm 1 (l.map g9)], .iptr [aQ most], .iptr [u]] L0 fun r _ => r = bX (cR most err l.length) := by
 refine aU Tryz.func187 rfl Tryz.ntmps187 rfl fun B => ?_
 (repeat' (first|refine ah ?_|refine a6 ?_|refine a8 ?_|refine aa ?_|refine ae a7 rfl rfl ?_|fail))
 refine av rfl (fun h => ?_) (fun h => ?_)
 ·have h' := of_decide_eq_true h
  rw [List.length_map] at h'
  (repeat' (first|refine ah ?_|refine a6 ?_|refine au ?_|refine a8 ?_|refine ar ?_|refine aa ?_|refine ae a7 rfl rfl ?_|fail))
  refine b4 rfl rfl rfl ?_
  unfold cR
  rw [if_pos h']
  rfl
 ·have h' := of_decide_eq_false h
  rw [List.length_map] at h'
  (repeat' (first|refine ah ?_|refine a6 ?_|refine ak ?_|refine a8 ?_|refine ae a7 rfl rfl ?_|fail))
  refine aZ L0 [] (xV hu l err J L0 h0 (hw (by omega))) rfl (eo hu) (bK rfl) rfl fun c L1 hc => ?_
  subst hc
  (repeat' (first|refine au ?_|refine a8 ?_|refine aa ?_|refine ae a7 rfl rfl ?_|fail))
  refine b4 rfl rfl rfl ?_
  unfold cR
  rw [if_neg h']
  rfl
theorem A5 {g : FuncId} (l : List (List ew)) (most : Int) : bo Tryz.prog 106 [.imm 1 (l.map g9), aQ most, .sc (.func (.func g) #[] #[])] (.fn 187 [.iptr [.imm 1 (l.map g9)], .iptr [aQ most], .iptr [.sc (.func (.func g) #[] #[])]]) := by
 refine aU Tryz.func106 rfl Tryz.ntmps106 rfl fun B => ?_
 (repeat' (first|refine ah ?_|refine a6 ?_|refine au ?_|refine a8 ?_|refine aa ?_|refine ae a7 rfl rfl ?_|refine b6 ?_|fail))
 exact aB rfl rfl rfl
instance {g : FuncId} (l : List (List ew)) (most : Int) : AD Tryz.prog 106 [.imm 1 (l.map g9), aQ most, .sc (.func (.func g) #[] #[])] (.fn 187 [.iptr [.imm 1 (l.map g9)], .iptr [aQ most], .iptr [.sc (.func (.func g) #[] #[])]]) := ⟨A5 l most⟩
theorem xW {g : FuncId} {caps : List AV} {u : AV} [bt Tryz.prog g] (hu : iL u = some (g, caps)) (l : List e7) (err : Nat → Int) (J : Nat → AL → Prop) (L0 : AL) (h0 : J 0 L0) (hw : ∀ i x L, l[i]? = some x → J i L → AC Tryz.prog g ([aQ i, .agg (dv x)] ++ caps) L fun c L' => c = aQ (err i) ∧ (err i = 0 → J (i + 1) L')) :
  AC Tryz.prog 222 [.imm 3 (l.map dv), u] L0 fun r _ => r = bX (cV err l.length) := by
 refine aU Tryz.func222 rfl Tryz.ntmps222 rfl fun B => ?_
 refine cg 0 rfl rfl fun hlen => ?_
 rw [List.length_map] at hlen
 (repeat' (first|refine ah ?_|refine a6 ?_|refine am ?_|refine a8 ?_|refine aa ?_|refine ae a7 rfl rfl ?_|fail))
 refine aL [1, 9, 10] (α := Nat × AL) (fun i => [(11, aQ i.1)]) (fun i => i.1 ≤ l.length ∧ J i.1 i.2 ∧ cV err l.length = cY err (l.length - i.1) i.1) (fun i => i.2) (fun i => l.length - i.1) (0, L0) rfl ⟨rfl, trivial⟩ ⟨Nat.zero_le _, h0, rfl⟩ (fun _ _ h => h) ?_
 rintro ⟨i, L⟩ ⟨hi, hj, he⟩
 dsimp only at hi hj he ⊢
 try dsimp only [List.cons_append, List.nil_append, List.map_cons, List.map_nil]
 (repeat' (first|refine ah ?_|refine a6 ?_|refine a8 ?_|refine aa ?_|refine ae a7 rfl rfl ?_|fail))
 refine av rfl (fun h => ?_) (fun h => ?_)
 ·have hil : i < l.length := by have := of_decide_eq_true h; simp at this; omega
  obtain ⟨z, hz⟩ : ∃ z, l[i]? = some z := ⟨_, List.getElem?_eq_getElem hil⟩
  have hzg := b5 (c := dv) hz
  (repeat' (first|refine ah ?_|refine a6 ?_|refine am ?_|refine ak ?_|refine a8 ?_|refine aa ?_|refine ae a7 rfl rfl ?_|(apply aP; first|refine aO a7 ?_|refine aI a7 ?_)|(apply aT; first|refine ai 7 a7 0 rfl rfl rfl rfl rfl rfl rfl rfl ?_|refine ai 7 a7 1 rfl rfl rfl rfl rfl rfl rfl rfl ?_|refine ai 7 a7 2 rfl rfl rfl rfl rfl rfl rfl rfl ?_|refine aj a7 0 rfl rfl rfl rfl rfl rfl rfl ?_|refine aj a7 1 rfl rfl rfl rfl rfl rfl rfl ?_|refine aj a7 2 rfl rfl rfl rfl rfl rfl rfl ?_|refine aj a7 3 rfl rfl rfl rfl rfl rfl rfl ?_|fail)|refine bb a7 fun _=>?_|fail))
  refine cy L [] (hw i z L hz hj) rfl hu rfl (bK rfl) rfl rfl fun c L1 ⟨hc, hj'⟩ => ?_
  subst hc
  rw [List.append_nil]
  (repeat' (first|refine ah ?_|refine a6 ?_|refine a8 ?_|refine aa ?_|refine ae a7 rfl rfl ?_|fail))
  refine av rfl (fun h2 => ?_) (fun h2 => ?_)
  ·have h2' := of_decide_eq_true h2
   (repeat' (first|refine ah ?_|refine a6 ?_|refine au ?_|refine a8 ?_|refine ar ?_|refine aG ?_|refine aK ?_|refine aa ?_|refine ae a7 rfl rfl ?_|fail))
   refine b4 rfl rfl rfl ?_
   rw [he, cr hil h2']
   rfl
  ·have h2' := Decidable.not_not.1 (of_decide_eq_false h2)
   (repeat' (first|refine a6 ?_|refine ak ?_|refine a8 ?_|refine aJ ?_|refine aa ?_|refine ae a7 rfl rfl ?_|(apply aX; refine aW ?_)|fail))
   exact aE (i + 1, L1) rfl ⟨by rw [Int.natCast_add]; rfl, trivial⟩ ⟨by dsimp only; omega, hj' h2', by rw [he]; exact cb hil h2'⟩ (by dsimp only; omega) (fun _ _ h => h)
 ·have hil : i = l.length := by have := of_decide_eq_false h; simp at this; omega
  subst hil
  (repeat' (first|refine ah ?_|refine a6 ?_|refine au ?_|refine aR ?_|refine a8 ?_|refine az ?_|refine aC ?_|refine aA ?_|refine aa ?_|refine ae a7 rfl rfl ?_|fail))
  refine b4 rfl rfl rfl ?_
  rw [he, Nat.sub_self]
  rfl
theorem xX {g : FuncId} {caps : List AV} {u : AV} [bt Tryz.prog g] (hu : iL u = some (g, caps)) (l : List bE) (err : Nat → Int) (J : Nat → AL → Prop) (L0 : AL) (h0 : J 0 L0) (hw : ∀ i x L, l[i]? = some x → J i L → AC Tryz.prog g ([aQ i, .agg (d7 x)] ++ caps) L fun c L' => c = aQ (err i) ∧ (err i = 0 → J (i + 1) L')) :
  AC Tryz.prog 226 [.imm 3 (l.map d7), u] L0 fun r _ => r = bX (cV err l.length) := by
 refine aU Tryz.func226 rfl Tryz.ntmps226 rfl fun B => ?_
 refine cg 0 rfl rfl fun hlen => ?_
 rw [List.length_map] at hlen
 (repeat' (first|refine ah ?_|refine a6 ?_|refine am ?_|refine a8 ?_|refine aa ?_|refine ae a7 rfl rfl ?_|fail))
 refine aL [1, 9, 10] (α := Nat × AL) (fun i => [(11, aQ i.1)]) (fun i => i.1 ≤ l.length ∧ J i.1 i.2 ∧ cV err l.length = cY err (l.length - i.1) i.1) (fun i => i.2) (fun i => l.length - i.1) (0, L0) rfl ⟨rfl, trivial⟩ ⟨Nat.zero_le _, h0, rfl⟩ (fun _ _ h => h) ?_
 rintro ⟨i, L⟩ ⟨hi, hj, he⟩
 dsimp only at hi hj he ⊢
 try dsimp only [List.cons_append, List.nil_append, List.map_cons, List.map_nil]
 (repeat' (first|refine ah ?_|refine a6 ?_|refine a8 ?_|refine aa ?_|refine ae a7 rfl rfl ?_|fail))
 refine av rfl (fun h => ?_) (fun h => ?_)
 ·have hil : i < l.length := by have := of_decide_eq_true h; simp at this; omega
  obtain ⟨z, hz⟩ : ∃ z, l[i]? = some z := ⟨_, List.getElem?_eq_getElem hil⟩
  have hzg := b5 (c := d7) hz
  (repeat' (first|refine ah ?_|refine a6 ?_|refine am ?_|refine ak ?_|refine a8 ?_|refine aa ?_|refine ae a7 rfl rfl ?_|(apply aP; first|refine aO a7 ?_|refine aI a7 ?_)|(apply aT; first|refine ai 7 a7 0 rfl rfl rfl rfl rfl rfl rfl rfl ?_|refine ai 7 a7 1 rfl rfl rfl rfl rfl rfl rfl rfl ?_|refine ai 7 a7 2 rfl rfl rfl rfl rfl rfl rfl rfl ?_|refine aj a7 0 rfl rfl rfl rfl rfl rfl rfl ?_|refine aj a7 1 rfl rfl rfl rfl rfl rfl rfl ?_|refine aj a7 2 rfl rfl rfl rfl rfl rfl rfl ?_|refine aj a7 3 rfl rfl rfl rfl rfl rfl rfl ?_|fail)|refine bb a7 fun _=>?_|fail))
  refine cy L [] (hw i z L hz hj) rfl hu rfl (bK rfl) rfl rfl fun c L1 ⟨hc, hj'⟩ => ?_
  subst hc
  rw [List.append_nil]
  (repeat' (first|refine ah ?_|refine a6 ?_|refine a8 ?_|refine aa ?_|refine ae a7 rfl rfl ?_|fail))
  refine av rfl (fun h2 => ?_) (fun h2 => ?_)
  ·have h2' := of_decide_eq_true h2
   (repeat' (first|refine ah ?_|refine a6 ?_|refine au ?_|refine a8 ?_|refine ar ?_|refine aG ?_|refine aK ?_|refine aa ?_|refine ae a7 rfl rfl ?_|fail))
   refine b4 rfl rfl rfl ?_
   rw [he, cr hil h2']
   rfl
  ·have h2' := Decidable.not_not.1 (of_decide_eq_false h2)
   (repeat' (first|refine a6 ?_|refine ak ?_|refine a8 ?_|refine aJ ?_|refine aa ?_|refine ae a7 rfl rfl ?_|(apply aX; refine aW ?_)|fail))
   exact aE (i + 1, L1) rfl ⟨by rw [Int.natCast_add]; rfl, trivial⟩ ⟨by dsimp only; omega, hj' h2', by rw [he]; exact cb hil h2'⟩ (by dsimp only; omega) (fun _ _ h => h)
 ·have hil : i = l.length := by have := of_decide_eq_false h; simp at this; omega
  subst hil
  (repeat' (first|refine ah ?_|refine a6 ?_|refine au ?_|refine aR ?_|refine a8 ?_|refine az ?_|refine aC ?_|refine aA ?_|refine aa ?_|refine ae a7 rfl rfl ?_|fail))
  refine b4 rfl rfl rfl ?_
  rw [he, Nat.sub_self]
  rfl
theorem yI {g : FuncId} {caps : List AV} {u : AV} [bt Tryz.prog g] (hu : iL u = some (g, caps)) (l : List bE) (most : Int) (err : Nat → Int) (J : Nat → AL → Prop) (L0 : AL) (h0 : J 0 L0) (hw : (l.length : Int) ≤ most → ∀ i x L, l[i]? = some x → J i L → AC Tryz.prog g ([aQ i, .agg (d7 x)] ++ caps) L fun c L' => c = aQ (err i) ∧ (err i = 0 → J (i + 1) L')) :
  AC Tryz.prog 225 [.iptr [.imm 3 (l.map d7)], .iptr [aQ most], .iptr [u]] L0 fun r _ => r = bX (cR most err l.length) := by
 refine aU Tryz.func225 rfl Tryz.ntmps225 rfl fun B => ?_
 (repeat' (first|refine ah ?_|refine a6 ?_|refine a8 ?_|refine aa ?_|refine ae a7 rfl rfl ?_|fail))
 refine av rfl (fun h => ?_) (fun h => ?_)
 ·have h' := of_decide_eq_true h
  rw [List.length_map] at h'
  (repeat' (first|refine ah ?_|refine a6 ?_|refine au ?_|refine a8 ?_|refine ar ?_|refine aa ?_|refine ae a7 rfl rfl ?_|fail))
  refine b4 rfl rfl rfl ?_
  unfold cR
  rw [if_pos h']
  rfl
 ·have h' := of_decide_eq_false h
  rw [List.length_map] at h'
  (repeat' (first|refine ah ?_|refine a6 ?_|refine ak ?_|refine a8 ?_|refine ae a7 rfl rfl ?_|fail))
  refine aZ L0 [] (xX hu l err J L0 h0 (hw (by omega))) rfl (eo hu) (bK rfl) rfl fun c L1 hc => ?_
  subst hc
  (repeat' (first|refine au ?_|refine a8 ?_|refine aa ?_|refine ae a7 rfl rfl ?_|fail))
  refine b4 rfl rfl rfl ?_
  unfold cR
  rw [if_neg h']
  rfl
theorem Bn {g : FuncId} {caps : List AV} (l : List bE) (most : Int) : bo Tryz.prog 153 [.imm 3 (l.map d7), aQ most, .fn g caps] (.fn 225 [.iptr [.imm 3 (l.map d7)], .iptr [aQ most], .iptr [.fn g caps]]) := by
 refine aU Tryz.func153 rfl Tryz.ntmps153 rfl fun B => ?_
 (repeat' (first|refine ah ?_|refine a6 ?_|refine au ?_|refine a8 ?_|refine aa ?_|refine ae a7 rfl rfl ?_|refine b6 ?_|fail))
 exact aB rfl rfl rfl
instance {g : FuncId} {caps : List AV} (l : List bE) (most : Int) : AD Tryz.prog 153 [.imm 3 (l.map d7), aQ most, .fn g caps] (.fn 225 [.iptr [.imm 3 (l.map d7)], .iptr [aQ most], .iptr [.fn g caps]]) := ⟨Bn l most⟩
theorem xY {g : FuncId} {caps : List AV} {u : AV} [bt Tryz.prog g] (hu : iL u = some (g, caps)) (l : List cU) (err : Nat → Int) (J : Nat → AL → Prop) (L0 : AL) (h0 : J 0 L0) (hw : ∀ i x L, l[i]? = some x → J i L → AC Tryz.prog g ([aQ i, .agg (dx x)] ++ caps) L fun c L' => c = aQ (err i) ∧ (err i = 0 → J (i + 1) L')) :
  AC Tryz.prog 228 [.imm 4 (l.map dx), u] L0 fun r _ => r = bX (cV err l.length) := by
 refine aU Tryz.func228 rfl Tryz.ntmps228 rfl fun B => ?_
 refine cg 0 rfl rfl fun hlen => ?_
 rw [List.length_map] at hlen
 (repeat' (first|refine ah ?_|refine a6 ?_|refine am ?_|refine a8 ?_|refine aa ?_|refine ae a7 rfl rfl ?_|fail))
 refine aL [1, 9, 10] (α := Nat × AL) (fun i => [(11, aQ i.1)]) (fun i => i.1 ≤ l.length ∧ J i.1 i.2 ∧ cV err l.length = cY err (l.length - i.1) i.1) (fun i => i.2) (fun i => l.length - i.1) (0, L0) rfl ⟨rfl, trivial⟩ ⟨Nat.zero_le _, h0, rfl⟩ (fun _ _ h => h) ?_
 rintro ⟨i, L⟩ ⟨hi, hj, he⟩
 dsimp only at hi hj he ⊢
 try dsimp only [List.cons_append, List.nil_append, List.map_cons, List.map_nil]
 (repeat' (first|refine ah ?_|refine a6 ?_|refine a8 ?_|refine aa ?_|refine ae a7 rfl rfl ?_|fail))
 refine av rfl (fun h => ?_) (fun h => ?_)
 ·have hil : i < l.length := by have := of_decide_eq_true h; simp at this; omega
  obtain ⟨z, hz⟩ : ∃ z, l[i]? = some z := ⟨_, List.getElem?_eq_getElem hil⟩
  have hzg := b5 (c := dx) hz
  (repeat' (first|refine ah ?_|refine a6 ?_|refine am ?_|refine ak ?_|refine a8 ?_|refine aa ?_|refine ae a7 rfl rfl ?_|(apply aP; first|refine aO a7 ?_|refine aI a7 ?_)|(apply aT; first|refine ai 7 a7 0 rfl rfl rfl rfl rfl rfl rfl rfl ?_|refine ai 7 a7 1 rfl rfl rfl rfl rfl rfl rfl rfl ?_|refine ai 7 a7 2 rfl rfl rfl rfl rfl rfl rfl rfl ?_|refine aj a7 0 rfl rfl rfl rfl rfl rfl rfl ?_|refine aj a7 1 rfl rfl rfl rfl rfl rfl rfl ?_|refine aj a7 2 rfl rfl rfl rfl rfl rfl rfl ?_|refine aj a7 3 rfl rfl rfl rfl rfl rfl rfl ?_|fail)|refine bb a7 fun _=>?_|fail))
  refine cy L [] (hw i z L hz hj) rfl hu rfl (bK rfl) rfl rfl fun c L1 ⟨hc, hj'⟩ => ?_
  subst hc
  rw [List.append_nil]
  (repeat' (first|refine ah ?_|refine a6 ?_|refine a8 ?_|refine aa ?_|refine ae a7 rfl rfl ?_|fail))
  refine av rfl (fun h2 => ?_) (fun h2 => ?_)
  ·have h2' := of_decide_eq_true h2
   (repeat' (first|refine ah ?_|refine a6 ?_|refine au ?_|refine a8 ?_|refine ar ?_|refine aG ?_|refine aK ?_|refine aa ?_|refine ae a7 rfl rfl ?_|fail))
   refine b4 rfl rfl rfl ?_
   rw [he, cr hil h2']
   rfl
  ·have h2' := Decidable.not_not.1 (of_decide_eq_false h2)
   (repeat' (first|refine a6 ?_|refine ak ?_|refine a8 ?_|refine aJ ?_|refine aa ?_|refine ae a7 rfl rfl ?_|(apply aX; refine aW ?_)|fail))
   exact aE (i + 1, L1) rfl ⟨by rw [Int.natCast_add]; rfl, trivial⟩ ⟨by dsimp only; omega, hj' h2', by rw [he]; exact cb hil h2'⟩ (by dsimp only; omega) (fun _ _ h => h)
 ·have hil : i = l.length := by have := of_decide_eq_false h; simp at this; omega
  subst hil
  (repeat' (first|refine ah ?_|refine a6 ?_|refine au ?_|refine aR ?_|refine a8 ?_|refine az ?_|refine aC ?_|refine aA ?_|refine aa ?_|refine ae a7 rfl rfl ?_|fail))
  refine b4 rfl rfl rfl ?_
  rw [he, Nat.sub_self]
  rfl
theorem yJ {g : FuncId} {caps : List AV} {u : AV} [bt Tryz.prog g] (hu : iL u = some (g, caps)) (l : List cU) (most : Int) (err : Nat → Int) (J : Nat → AL → Prop) (L0 : AL) (h0 : J 0 L0) (hw : (l.length : Int) ≤ most → ∀ i x L, l[i]? = some x → J i L → AC Tryz.prog g ([aQ i, .agg (dx x)] ++ caps) L fun c L' => c = aQ (err i) ∧ (err i = 0 → J (i + 1) L')) :
  AC Tryz.prog 227 [.iptr [.imm 4 (l.map dx)], .iptr [aQ most], .iptr [u]] L0 fun r _ => r = bX (cR most err l.length) := by
 refine aU Tryz.func227 rfl Tryz.ntmps227 rfl fun B => ?_
 (repeat' (first|refine ah ?_|refine a6 ?_|refine a8 ?_|refine aa ?_|refine ae a7 rfl rfl ?_|fail))
 refine av rfl (fun h => ?_) (fun h => ?_)
 ·have h' := of_decide_eq_true h
  rw [List.length_map] at h'
  (repeat' (first|refine ah ?_|refine a6 ?_|refine au ?_|refine a8 ?_|refine ar ?_|refine aa ?_|refine ae a7 rfl rfl ?_|fail))
  refine b4 rfl rfl rfl ?_
  unfold cR
  rw [if_pos h']
  rfl
 ·have h' := of_decide_eq_false h
  rw [List.length_map] at h'
  (repeat' (first|refine ah ?_|refine a6 ?_|refine ak ?_|refine a8 ?_|refine ae a7 rfl rfl ?_|fail))
  refine aZ L0 [] (xY hu l err J L0 h0 (hw (by omega))) rfl (eo hu) (bK rfl) rfl fun c L1 hc => ?_
  subst hc
  (repeat' (first|refine au ?_|refine a8 ?_|refine aa ?_|refine ae a7 rfl rfl ?_|fail))
  refine b4 rfl rfl rfl ?_
  unfold cR
  rw [if_neg h']
  rfl
theorem Bo {g : FuncId} {caps : List AV} (l : List cU) (most : Int) : bo Tryz.prog 156 [.imm 4 (l.map dx), aQ most, .fn g caps] (.fn 227 [.iptr [.imm 4 (l.map dx)], .iptr [aQ most], .iptr [.fn g caps]]) := by
 refine aU Tryz.func156 rfl Tryz.ntmps156 rfl fun B => ?_
 (repeat' (first|refine ah ?_|refine a6 ?_|refine au ?_|refine a8 ?_|refine aa ?_|refine ae a7 rfl rfl ?_|refine b6 ?_|fail))
 exact aB rfl rfl rfl
instance {g : FuncId} {caps : List AV} (l : List cU) (most : Int) : AD Tryz.prog 156 [.imm 4 (l.map dx), aQ most, .fn g caps] (.fn 227 [.iptr [.imm 4 (l.map dx)], .iptr [aQ most], .iptr [.fn g caps]]) := ⟨Bo l most⟩
theorem xZ {g : FuncId} {caps : List AV} {u : AV} [bt Tryz.prog g] (hu : iL u = some (g, caps)) (l : List dh) (err : Nat → Int) (J : Nat → AL → Prop) (L0 : AL) (h0 : J 0 L0) (hw : ∀ i x L, l[i]? = some x → J i L → AC Tryz.prog g ([aQ i, .agg (e8 x)] ++ caps) L fun c L' => c = aQ (err i) ∧ (err i = 0 → J (i + 1) L')) :
  AC Tryz.prog 231 [.imm 4 (l.map e8), u] L0 fun r _ => r = bX (cV err l.length) := by
 refine aU Tryz.func231 rfl Tryz.ntmps231 rfl fun B => ?_
 refine cg 0 rfl rfl fun hlen => ?_
 rw [List.length_map] at hlen
 (repeat' (first|refine ah ?_|refine a6 ?_|refine am ?_|refine a8 ?_|refine aa ?_|refine ae a7 rfl rfl ?_|fail))
 refine aL [1, 9, 10] (α := Nat × AL) (fun i => [(11, aQ i.1)]) (fun i => i.1 ≤ l.length ∧ J i.1 i.2 ∧ cV err l.length = cY err (l.length - i.1) i.1) (fun i => i.2) (fun i => l.length - i.1) (0, L0) rfl ⟨rfl, trivial⟩ ⟨Nat.zero_le _, h0, rfl⟩ (fun _ _ h => h) ?_
 rintro ⟨i, L⟩ ⟨hi, hj, he⟩
 dsimp only at hi hj he ⊢
 try dsimp only [List.cons_append, List.nil_append, List.map_cons, List.map_nil]
 (repeat' (first|refine ah ?_|refine a6 ?_|refine a8 ?_|refine aa ?_|refine ae a7 rfl rfl ?_|fail))
 refine av rfl (fun h => ?_) (fun h => ?_)
 ·have hil : i < l.length := by have := of_decide_eq_true h; simp at this; omega
  obtain ⟨z, hz⟩ : ∃ z, l[i]? = some z := ⟨_, List.getElem?_eq_getElem hil⟩
  have hzg := b5 (c := e8) hz
  (repeat' (first|refine ah ?_|refine a6 ?_|refine am ?_|refine ak ?_|refine a8 ?_|refine aa ?_|refine ae a7 rfl rfl ?_|(apply aP; first|refine aO a7 ?_|refine aI a7 ?_)|(apply aT; first|refine ai 7 a7 0 rfl rfl rfl rfl rfl rfl rfl rfl ?_|refine ai 7 a7 1 rfl rfl rfl rfl rfl rfl rfl rfl ?_|refine ai 7 a7 2 rfl rfl rfl rfl rfl rfl rfl rfl ?_|refine aj a7 0 rfl rfl rfl rfl rfl rfl rfl ?_|refine aj a7 1 rfl rfl rfl rfl rfl rfl rfl ?_|refine aj a7 2 rfl rfl rfl rfl rfl rfl rfl ?_|refine aj a7 3 rfl rfl rfl rfl rfl rfl rfl ?_|fail)|refine bb a7 fun _=>?_|fail))
  refine cy L [] (hw i z L hz hj) rfl hu rfl (bK rfl) rfl rfl fun c L1 ⟨hc, hj'⟩ => ?_
  subst hc
  rw [List.append_nil]
  (repeat' (first|refine ah ?_|refine a6 ?_|refine a8 ?_|refine aa ?_|refine ae a7 rfl rfl ?_|fail))
  refine av rfl (fun h2 => ?_) (fun h2 => ?_)
  ·have h2' := of_decide_eq_true h2
   (repeat' (first|refine ah ?_|refine a6 ?_|refine au ?_|refine a8 ?_|refine ar ?_|refine aG ?_|refine aK ?_|refine aa ?_|refine ae a7 rfl rfl ?_|fail))
   refine b4 rfl rfl rfl ?_
   rw [he, cr hil h2']
   rfl
  ·have h2' := Decidable.not_not.1 (of_decide_eq_false h2)
   (repeat' (first|refine a6 ?_|refine ak ?_|refine a8 ?_|refine aJ ?_|refine aa ?_|refine ae a7 rfl rfl ?_|(apply aX; refine aW ?_)|fail))
   exact aE (i + 1, L1) rfl ⟨by rw [Int.natCast_add]; rfl, trivial⟩ ⟨by dsimp only; omega, hj' h2', by rw [he]; exact cb hil h2'⟩ (by dsimp only; omega) (fun _ _ h => h)
 ·have hil : i = l.length := by have := of_decide_eq_false h; simp at this; omega
  subst hil
  (repeat' (first|refine ah ?_|refine a6 ?_|refine au ?_|refine aR ?_|refine a8 ?_|refine az ?_|refine aC ?_|refine aA ?_|refine aa ?_|refine ae a7 rfl rfl ?_|fail))
  refine b4 rfl rfl rfl ?_
  rw [he, Nat.sub_self]
  rfl
theorem yK {g : FuncId} {caps : List AV} {u : AV} [bt Tryz.prog g] (hu : iL u = some (g, caps)) (l : List dh) (most : Int) (err : Nat → Int) (J : Nat → AL → Prop) (L0 : AL) (h0 : J 0 L0) (hw : (l.length : Int) ≤ most → ∀ i x L, l[i]? = some x → J i L → AC Tryz.prog g ([aQ i, .agg (e8 x)] ++ caps) L fun c L' => c = aQ (err i) ∧ (err i = 0 → J (i + 1) L')) :
  AC Tryz.prog 230 [.iptr [.imm 4 (l.map e8)], .iptr [aQ most], .iptr [u]] L0 fun r _ => r = bX (cR most err l.length) := by
 refine aU Tryz.func230 rfl Tryz.ntmps230 rfl fun B => ?_
 (repeat' (first|refine ah ?_|refine a6 ?_|refine a8 ?_|refine aa ?_|refine ae a7 rfl rfl ?_|fail))
 refine av rfl (fun h => ?_) (fun h => ?_)
 ·have h' := of_decide_eq_true h
  rw [List.length_map] at h'
  (repeat' (first|refine ah ?_|refine a6 ?_|refine au ?_|refine a8 ?_|refine ar ?_|refine aa ?_|refine ae a7 rfl rfl ?_|fail))
  refine b4 rfl rfl rfl ?_
  unfold cR
  rw [if_pos h']
  rfl
 ·have h' := of_decide_eq_false h
  rw [List.length_map] at h'
  (repeat' (first|refine ah ?_|refine a6 ?_|refine ak ?_|refine a8 ?_|refine ae a7 rfl rfl ?_|fail))
  refine aZ L0 [] (xZ hu l err J L0 h0 (hw (by omega))) rfl (eo hu) (bK rfl) rfl fun c L1 hc => ?_
  subst hc
  (repeat' (first|refine au ?_|refine a8 ?_|refine aa ?_|refine ae a7 rfl rfl ?_|fail))
  refine b4 rfl rfl rfl ?_
  unfold cR
  rw [if_neg h']
  rfl
theorem Bp {g : FuncId} {caps : List AV} (l : List dh) (most : Int) : bo Tryz.prog 158 [.imm 4 (l.map e8), aQ most, .fn g caps] (.fn 230 [.iptr [.imm 4 (l.map e8)], .iptr [aQ most], .iptr [.fn g caps]]) := by
 refine aU Tryz.func158 rfl Tryz.ntmps158 rfl fun B => ?_
 (repeat' (first|refine ah ?_|refine a6 ?_|refine au ?_|refine a8 ?_|refine aa ?_|refine ae a7 rfl rfl ?_|refine b6 ?_|fail))
 exact aB rfl rfl rfl
instance {g : FuncId} {caps : List AV} (l : List dh) (most : Int) : AD Tryz.prog 158 [.imm 4 (l.map e8), aQ most, .fn g caps] (.fn 230 [.iptr [.imm 4 (l.map e8)], .iptr [aQ most], .iptr [.fn g caps]]) := ⟨Bp l most⟩
theorem y0 {g : FuncId} {caps : List AV} {u : AV} [bt Tryz.prog g] (hu : iL u = some (g, caps)) (l : List (List Int)) (err : Nat → Int) (J : Nat → AL → Prop) (L0 : AL) (h0 : J 0 L0) (hw : ∀ i x L, l[i]? = some x → J i L → AC Tryz.prog g ([aQ i, .imm 1 (aV x)] ++ caps) L fun c L' => c = aQ (err i) ∧ (err i = 0 → J (i + 1) L')) :
  AC Tryz.prog 239 [.imm 1 (l.map B4), u] L0 fun r _ => r = bX (cV err l.length) := by
 refine aU Tryz.func239 rfl Tryz.ntmps239 rfl fun B => ?_
 refine cg 0 rfl rfl fun hlen => ?_
 rw [List.length_map] at hlen
 (repeat' (first|refine ah ?_|refine a6 ?_|refine am ?_|refine a8 ?_|refine aa ?_|refine ae a7 rfl rfl ?_|fail))
 refine aL [1, 9, 10] (α := Nat × AL) (fun i => [(11, aQ i.1)]) (fun i => i.1 ≤ l.length ∧ J i.1 i.2 ∧ cV err l.length = cY err (l.length - i.1) i.1) (fun i => i.2) (fun i => l.length - i.1) (0, L0) rfl ⟨rfl, trivial⟩ ⟨Nat.zero_le _, h0, rfl⟩ (fun _ _ h => h) ?_
 rintro ⟨i, L⟩ ⟨hi, hj, he⟩
 dsimp only at hi hj he ⊢
 try dsimp only [List.cons_append, List.nil_append, List.map_cons, List.map_nil]
 (repeat' (first|refine ah ?_|refine a6 ?_|refine a8 ?_|refine aa ?_|refine ae a7 rfl rfl ?_|fail))
 refine av rfl (fun h => ?_) (fun h => ?_)
 ·have hil : i < l.length := by have := of_decide_eq_true h; simp at this; omega
  obtain ⟨z, hz⟩ : ∃ z, l[i]? = some z := ⟨_, List.getElem?_eq_getElem hil⟩
  have hzg := b5 (c := B4) hz
  (repeat' (first|refine ah ?_|refine a6 ?_|refine am ?_|refine ak ?_|refine a8 ?_|refine aa ?_|refine ae a7 rfl rfl ?_|(apply aP; first|refine aO a7 ?_|refine aI a7 ?_)|fail))
  refine cy L [] (hw i z L hz hj) rfl hu rfl (bK rfl) rfl rfl fun c L1 ⟨hc, hj'⟩ => ?_
  subst hc
  rw [List.append_nil]
  (repeat' (first|refine ah ?_|refine a6 ?_|refine a8 ?_|refine aa ?_|refine ae a7 rfl rfl ?_|fail))
  refine av rfl (fun h2 => ?_) (fun h2 => ?_)
  ·have h2' := of_decide_eq_true h2
   (repeat' (first|refine ah ?_|refine a6 ?_|refine au ?_|refine a8 ?_|refine ar ?_|refine aG ?_|refine aK ?_|refine aa ?_|refine ae a7 rfl rfl ?_|fail))
   refine b4 rfl rfl rfl ?_
   rw [he, cr hil h2']
   rfl
  ·have h2' := Decidable.not_not.1 (of_decide_eq_false h2)
   (repeat' (first|refine a6 ?_|refine ak ?_|refine a8 ?_|refine aJ ?_|refine aa ?_|refine ae a7 rfl rfl ?_|(apply aX; refine aW ?_)|fail))
   exact aE (i + 1, L1) rfl ⟨by rw [Int.natCast_add]; rfl, trivial⟩ ⟨by dsimp only; omega, hj' h2', by rw [he]; exact cb hil h2'⟩ (by dsimp only; omega) (fun _ _ h => h)
 ·have hil : i = l.length := by have := of_decide_eq_false h; simp at this; omega
  subst hil
  (repeat' (first|refine ah ?_|refine a6 ?_|refine au ?_|refine aR ?_|refine a8 ?_|refine az ?_|refine aC ?_|refine aA ?_|refine aa ?_|refine ae a7 rfl rfl ?_|fail))
  refine b4 rfl rfl rfl ?_
  rw [he, Nat.sub_self]
  rfl
theorem y1 {g : FuncId} {caps : List AV} {u : AV} [bt Tryz.prog g] (hu : iL u = some (g, caps)) (l : List ew) (err : Nat → Int) (J : Nat → AL → Prop) (L0 : AL) (h0 : J 0 L0) (hw : ∀ i x L, l[i]? = some x → J i L → AC Tryz.prog g ([aQ i, .agg (ga x)] ++ caps) L fun c L' => c = aQ (err i) ∧ (err i = 0 → J (i + 1) L')) :
  AC Tryz.prog 251 [.imm 2 (l.map ga), u] L0 fun r _ => r = bX (cV err l.length) := by
 refine aU Tryz.func251 rfl Tryz.ntmps251 rfl fun B => ?_
 refine cg 0 rfl rfl fun hlen => ?_
 rw [List.length_map] at hlen
 (repeat' (first|refine ah ?_|refine a6 ?_|refine am ?_|refine a8 ?_|refine aa ?_|refine ae a7 rfl rfl ?_|fail))
 refine aL [1, 9, 10] (α := Nat × AL) (fun i => [(11, aQ i.1)]) (fun i => i.1 ≤ l.length ∧ J i.1 i.2 ∧ cV err l.length = cY err (l.length - i.1) i.1) (fun i => i.2) (fun i => l.length - i.1) (0, L0) rfl ⟨rfl, trivial⟩ ⟨Nat.zero_le _, h0, rfl⟩ (fun _ _ h => h) ?_
 rintro ⟨i, L⟩ ⟨hi, hj, he⟩
 dsimp only at hi hj he ⊢
 try dsimp only [List.cons_append, List.nil_append, List.map_cons, List.map_nil]
 (repeat' (first|refine ah ?_|refine a6 ?_|refine a8 ?_|refine aa ?_|refine ae a7 rfl rfl ?_|fail))
 refine av rfl (fun h => ?_) (fun h => ?_)
 ·have hil : i < l.length := by have := of_decide_eq_true h; simp at this; omega
  obtain ⟨z, hz⟩ : ∃ z, l[i]? = some z := ⟨_, List.getElem?_eq_getElem hil⟩
  have hzg := b5 (c := ga) hz
  (repeat' (first|refine ah ?_|refine a6 ?_|refine am ?_|refine ak ?_|refine a8 ?_|refine aa ?_|refine ae a7 rfl rfl ?_|(apply aP; first|refine aO a7 ?_|refine aI a7 ?_)|(apply aT; first|refine ai 7 a7 0 rfl rfl rfl rfl rfl rfl rfl rfl ?_|refine ai 7 a7 1 rfl rfl rfl rfl rfl rfl rfl rfl ?_|refine ai 7 a7 2 rfl rfl rfl rfl rfl rfl rfl rfl ?_|refine aj a7 0 rfl rfl rfl rfl rfl rfl rfl ?_|refine aj a7 1 rfl rfl rfl rfl rfl rfl rfl ?_|refine aj a7 2 rfl rfl rfl rfl rfl rfl rfl ?_|refine aj a7 3 rfl rfl rfl rfl rfl rfl rfl ?_|fail)|refine bb a7 fun _=>?_|fail))
  refine cy L [] (hw i z L hz hj) rfl hu rfl (bK rfl) rfl rfl fun c L1 ⟨hc, hj'⟩ => ?_
  subst hc
  rw [List.append_nil]
  (repeat' (first|refine ah ?_|refine a6 ?_|refine a8 ?_|refine aa ?_|refine ae a7 rfl rfl ?_|fail))
  refine av rfl (fun h2 => ?_) (fun h2 => ?_)
  ·have h2' := of_decide_eq_true h2
   (repeat' (first|refine ah ?_|refine a6 ?_|refine au ?_|refine a8 ?_|refine ar ?_|refine aG ?_|refine aK ?_|refine aa ?_|refine ae a7 rfl rfl ?_|fail))
   refine b4 rfl rfl rfl ?_
   rw [he, cr hil h2']
   rfl
  ·have h2' := Decidable.not_not.1 (of_decide_eq_false h2)
   (repeat' (first|refine a6 ?_|refine ak ?_|refine a8 ?_|refine aJ ?_|refine aa ?_|refine ae a7 rfl rfl ?_|(apply aX; refine aW ?_)|fail))
   exact aE (i + 1, L1) rfl ⟨by rw [Int.natCast_add]; rfl, trivial⟩ ⟨by dsimp only; omega, hj' h2', by rw [he]; exact cb hil h2'⟩ (by dsimp only; omega) (fun _ _ h => h)
 ·have hil : i = l.length := by have := of_decide_eq_false h; simp at this; omega
  subst hil
  (repeat' (first|refine ah ?_|refine a6 ?_|refine au ?_|refine aR ?_|refine a8 ?_|refine az ?_|refine aC ?_|refine aA ?_|refine aa ?_|refine ae a7 rfl rfl ?_|fail))
  refine b4 rfl rfl rfl ?_
  rw [he, Nat.sub_self]
  rfl
theorem yL {g : FuncId} {caps : List AV} {u : AV} [bt Tryz.prog g] (hu : iL u = some (g, caps)) (l : List ew) (most : Int) (err : Nat → Int) (J : Nat → AL → Prop) (L0 : AL) (h0 : J 0 L0) (hw : (l.length : Int) ≤ most → ∀ i x L, l[i]? = some x → J i L → AC Tryz.prog g ([aQ i, .agg (ga x)] ++ caps) L fun c L' => c = aQ (err i) ∧ (err i = 0 → J (i + 1) L')) :
  AC Tryz.prog 250 [.iptr [.imm 2 (l.map ga)], .iptr [aQ most], .iptr [u]] L0 fun r _ => r = bX (cR most err l.length) := by
 refine aU Tryz.func250 rfl Tryz.ntmps250 rfl fun B => ?_
 (repeat' (first|refine ah ?_|refine a6 ?_|refine a8 ?_|refine aa ?_|refine ae a7 rfl rfl ?_|fail))
 refine av rfl (fun h => ?_) (fun h => ?_)
 ·have h' := of_decide_eq_true h
  rw [List.length_map] at h'
  (repeat' (first|refine ah ?_|refine a6 ?_|refine au ?_|refine a8 ?_|refine ar ?_|refine aa ?_|refine ae a7 rfl rfl ?_|fail))
  refine b4 rfl rfl rfl ?_
  unfold cR
  rw [if_pos h']
  rfl
 ·have h' := of_decide_eq_false h
  rw [List.length_map] at h'
  (repeat' (first|refine ah ?_|refine a6 ?_|refine ak ?_|refine a8 ?_|refine ae a7 rfl rfl ?_|fail))
  refine aZ L0 [] (y1 hu l err J L0 h0 (hw (by omega))) rfl (eo hu) (bK rfl) rfl fun c L1 hc => ?_
  subst hc
  (repeat' (first|refine au ?_|refine a8 ?_|refine aa ?_|refine ae a7 rfl rfl ?_|fail))
  refine b4 rfl rfl rfl ?_
  unfold cR
  rw [if_neg h']
  rfl
theorem A6 {g : FuncId} (l : List ew) (most : Int) : bo Tryz.prog 189 [.imm 2 (l.map ga), aQ most, .sc (.func (.func g) #[] #[])] (.fn 250 [.iptr [.imm 2 (l.map ga)], .iptr [aQ most], .iptr [.sc (.func (.func g) #[] #[])]]) := by
 refine aU Tryz.func189 rfl Tryz.ntmps189 rfl fun B => ?_
 (repeat' (first|refine ah ?_|refine a6 ?_|refine au ?_|refine a8 ?_|refine aa ?_|refine ae a7 rfl rfl ?_|refine b6 ?_|fail))
 exact aB rfl rfl rfl
instance {g : FuncId} (l : List ew) (most : Int) : AD Tryz.prog 189 [.imm 2 (l.map ga), aQ most, .sc (.func (.func g) #[] #[])] (.fn 250 [.iptr [.imm 2 (l.map ga)], .iptr [aQ most], .iptr [.sc (.func (.func g) #[] #[])]]) := ⟨A6 l most⟩
theorem y2 {g : FuncId} {caps : List AV} {u : AV} [bt Tryz.prog g] (hu : iL u = some (g, caps)) (l : List iQ) (err : Nat → Int) (J : Nat → AL → Prop) (L0 : AL) (h0 : J 0 L0) (hw : ∀ i x L, l[i]? = some x → J i L → AC Tryz.prog g ([aQ i, .agg (g8 x)] ++ caps) L fun c L' => c = aQ (err i) ∧ (err i = 0 → J (i + 1) L')) :
  AC Tryz.prog 276 [.imm 2 (l.map g8), u] L0 fun r _ => r = bX (cV err l.length) := by
 refine aU Tryz.func276 rfl Tryz.ntmps276 rfl fun B => ?_
 refine cg 0 rfl rfl fun hlen => ?_
 rw [List.length_map] at hlen
 (repeat' (first|refine ah ?_|refine a6 ?_|refine am ?_|refine a8 ?_|refine aa ?_|refine ae a7 rfl rfl ?_|fail))
 refine aL [1, 9, 10] (α := Nat × AL) (fun i => [(11, aQ i.1)]) (fun i => i.1 ≤ l.length ∧ J i.1 i.2 ∧ cV err l.length = cY err (l.length - i.1) i.1) (fun i => i.2) (fun i => l.length - i.1) (0, L0) rfl ⟨rfl, trivial⟩ ⟨Nat.zero_le _, h0, rfl⟩ (fun _ _ h => h) ?_
 rintro ⟨i, L⟩ ⟨hi, hj, he⟩
 dsimp only at hi hj he ⊢
 try dsimp only [List.cons_append, List.nil_append, List.map_cons, List.map_nil]
 (repeat' (first|refine ah ?_|refine a6 ?_|refine a8 ?_|refine aa ?_|refine ae a7 rfl rfl ?_|fail))
 refine av rfl (fun h => ?_) (fun h => ?_)
 ·have hil : i < l.length := by have := of_decide_eq_true h; simp at this; omega
  obtain ⟨z, hz⟩ : ∃ z, l[i]? = some z := ⟨_, List.getElem?_eq_getElem hil⟩
  have hzg := b5 (c := g8) hz
  (repeat' (first|refine ah ?_|refine a6 ?_|refine am ?_|refine ak ?_|refine a8 ?_|refine aa ?_|refine ae a7 rfl rfl ?_|(apply aP; first|refine aO a7 ?_|refine aI a7 ?_)|(apply aT; first|refine ai 7 a7 0 rfl rfl rfl rfl rfl rfl rfl rfl ?_|refine ai 7 a7 1 rfl rfl rfl rfl rfl rfl rfl rfl ?_|refine ai 7 a7 2 rfl rfl rfl rfl rfl rfl rfl rfl ?_|refine aj a7 0 rfl rfl rfl rfl rfl rfl rfl ?_|refine aj a7 1 rfl rfl rfl rfl rfl rfl rfl ?_|refine aj a7 2 rfl rfl rfl rfl rfl rfl rfl ?_|refine aj a7 3 rfl rfl rfl rfl rfl rfl rfl ?_|fail)|refine bb a7 fun _=>?_|fail))
  refine cy L [] (hw i z L hz hj) rfl hu rfl (bK rfl) rfl rfl fun c L1 ⟨hc, hj'⟩ => ?_
  subst hc
  rw [List.append_nil]
  (repeat' (first|refine ah ?_|refine a6 ?_|refine a8 ?_|refine aa ?_|refine ae a7 rfl rfl ?_|fail))
  refine av rfl (fun h2 => ?_) (fun h2 => ?_)
  ·have h2' := of_decide_eq_true h2
   (repeat' (first|refine ah ?_|refine a6 ?_|refine au ?_|refine a8 ?_|refine ar ?_|refine aG ?_|refine aK ?_|refine aa ?_|refine ae a7 rfl rfl ?_|fail))
   refine b4 rfl rfl rfl ?_
   rw [he, cr hil h2']
   rfl
  ·have h2' := Decidable.not_not.1 (of_decide_eq_false h2)
   (repeat' (first|refine a6 ?_|refine ak ?_|refine a8 ?_|refine aJ ?_|refine aa ?_|refine ae a7 rfl rfl ?_|(apply aX; refine aW ?_)|fail))
   exact aE (i + 1, L1) rfl ⟨by rw [Int.natCast_add]; rfl, trivial⟩ ⟨by dsimp only; omega, hj' h2', by rw [he]; exact cb hil h2'⟩ (by dsimp only; omega) (fun _ _ h => h)
 ·have hil : i = l.length := by have := of_decide_eq_false h; simp at this; omega
  subst hil
  (repeat' (first|refine ah ?_|refine a6 ?_|refine au ?_|refine aR ?_|refine a8 ?_|refine az ?_|refine aC ?_|refine aA ?_|refine aa ?_|refine ae a7 rfl rfl ?_|fail))
  refine b4 rfl rfl rfl ?_
  rw [he, Nat.sub_self]
  rfl
theorem kJ {g : FuncId} {caps : List AV} {u : AV} [bt Tryz.prog g] (hu : iL u = some (g, caps)) (l : List Int) (err : Nat → Int) (J : Nat → AL → Prop) (L0 : AL) (h0 : J 0 L0) (hw : ∀ i x L, l[i]? = some x → J i L → AC Tryz.prog g ([aQ i, aQ x] ++ caps) L fun c L' => c = aQ (err i) ∧ (err i = 0 → J (i + 1) L')) :
  AC Tryz.prog 164 [.imm 1 (l.map tT), u] L0 fun r _ => r = bX (cV err l.length) := by
 refine aU Tryz.func164 rfl Tryz.ntmps164 rfl fun B => ?_
 refine cg 0 rfl rfl fun hlen => ?_
 rw [List.length_map] at hlen
 (repeat' (first|refine ah ?_|refine a6 ?_|refine am ?_|refine a8 ?_|refine aa ?_|refine ae a7 rfl rfl ?_|fail))
 refine aL [1, 9, 10] (α := Nat × AL) (fun i => [(11, aQ i.1)]) (fun i => i.1 ≤ l.length ∧ J i.1 i.2 ∧ cV err l.length = cY err (l.length - i.1) i.1) (fun i => i.2) (fun i => l.length - i.1) (0, L0) rfl ⟨rfl, trivial⟩ ⟨Nat.zero_le _, h0, rfl⟩ (fun _ _ h => h) ?_
 rintro ⟨i, L⟩ ⟨hi, hj, he⟩
 dsimp only at hi hj he ⊢
 try dsimp only [List.cons_append, List.nil_append, List.map_cons, List.map_nil]
 (repeat' (first|refine ah ?_|refine a6 ?_|refine a8 ?_|refine aa ?_|refine ae a7 rfl rfl ?_|fail))
 refine av rfl (fun h => ?_) (fun h => ?_)
 ·have hil : i < l.length := by have := of_decide_eq_true h; simp at this; omega
  obtain ⟨z, hz⟩ : ∃ z, l[i]? = some z := ⟨_, List.getElem?_eq_getElem hil⟩
  have hzg := b5 (c := tT) hz
  (repeat' (first|refine ah ?_|refine a6 ?_|refine am ?_|refine ak ?_|refine a8 ?_|refine aa ?_|refine ae a7 rfl rfl ?_|(apply aP; first|refine aO a7 ?_|refine aI a7 ?_)|fail))
  refine cy L [] (hw i z L hz hj) rfl hu rfl (bK rfl) rfl rfl fun c L1 ⟨hc, hj'⟩ => ?_
  subst hc
  rw [List.append_nil]
  (repeat' (first|refine ah ?_|refine a6 ?_|refine a8 ?_|refine aa ?_|refine ae a7 rfl rfl ?_|fail))
  refine av rfl (fun h2 => ?_) (fun h2 => ?_)
  ·have h2' := of_decide_eq_true h2
   (repeat' (first|refine ah ?_|refine a6 ?_|refine au ?_|refine a8 ?_|refine ar ?_|refine aG ?_|refine aK ?_|refine aa ?_|refine ae a7 rfl rfl ?_|fail))
   refine b4 rfl rfl rfl ?_
   rw [he, cr hil h2']
   rfl
  ·have h2' := Decidable.not_not.1 (of_decide_eq_false h2)
   (repeat' (first|refine a6 ?_|refine ak ?_|refine a8 ?_|refine aJ ?_|refine aa ?_|refine ae a7 rfl rfl ?_|(apply aX; refine aW ?_)|fail))
   exact aE (i + 1, L1) rfl ⟨by rw [Int.natCast_add]; rfl, trivial⟩ ⟨by dsimp only; omega, hj' h2', by rw [he]; exact cb hil h2'⟩ (by dsimp only; omega) (fun _ _ h => h)
 ·have hil : i = l.length := by have := of_decide_eq_false h; simp at this; omega
  subst hil
  (repeat' (first|refine ah ?_|refine a6 ?_|refine au ?_|refine aR ?_|refine a8 ?_|refine az ?_|refine aC ?_|refine aA ?_|refine aa ?_|refine ae a7 rfl rfl ?_|fail))
  refine b4 rfl rfl rfl ?_
  rw [he, Nat.sub_self]
  rfl
theorem yH {g : FuncId} {caps : List AV} {u : AV} [bt Tryz.prog g] (hu : iL u = some (g, caps)) (l : List Int) (most : Int) (err : Nat → Int) (J : Nat → AL → Prop) (L0 : AL) (h0 : J 0 L0) (hw : (l.length : Int) ≤ most → ∀ i x L, l[i]? = some x → J i L → AC Tryz.prog g ([aQ i, aQ x] ++ caps) L fun c L' => c = aQ (err i) ∧ (err i = 0 → J (i + 1) L')) :
  AC Tryz.prog 191 [.iptr [.imm 1 (l.map tT)], .iptr [aQ most], .iptr [u]] L0 fun r _ => r = bX (cR most err l.length) := by
 refine aU Tryz.func191 rfl Tryz.ntmps191 rfl fun B => ?_
 (repeat' (first|refine ah ?_|refine a6 ?_|refine a8 ?_|refine aa ?_|refine ae a7 rfl rfl ?_|fail))
 refine av rfl (fun h => ?_) (fun h => ?_)
 ·have h' := of_decide_eq_true h
  rw [List.length_map] at h'
  (repeat' (first|refine ah ?_|refine a6 ?_|refine au ?_|refine a8 ?_|refine ar ?_|refine aa ?_|refine ae a7 rfl rfl ?_|fail))
  refine b4 rfl rfl rfl ?_
  unfold cR
  rw [if_pos h']
  rfl
 ·have h' := of_decide_eq_false h
  rw [List.length_map] at h'
  (repeat' (first|refine ah ?_|refine a6 ?_|refine ak ?_|refine a8 ?_|refine ae a7 rfl rfl ?_|fail))
  refine aZ L0 [] (kJ hu l err J L0 h0 (hw (by omega))) rfl (eo hu) (bK rfl) rfl fun c L1 hc => ?_
  subst hc
  (repeat' (first|refine au ?_|refine a8 ?_|refine aa ?_|refine ae a7 rfl rfl ?_|fail))
  refine b4 rfl rfl rfl ?_
  unfold cR
  rw [if_neg h']
  rfl
theorem wD {g : FuncId} (l : List Int) (most : Int) : bo Tryz.prog 109 [.imm 1 (l.map tT), aQ most, .sc (.func (.func g) #[] #[])] (.fn 191 [.iptr [.imm 1 (l.map tT)], .iptr [aQ most], .iptr [.sc (.func (.func g) #[] #[])]]) := by
 refine aU Tryz.func109 rfl Tryz.ntmps109 rfl fun B => ?_
 (repeat' (first|refine ah ?_|refine a6 ?_|refine au ?_|refine a8 ?_|refine aa ?_|refine ae a7 rfl rfl ?_|refine b6 ?_|fail))
 exact aB rfl rfl rfl
end Go.Proofs.YtpbinloeemebkaaGreat
