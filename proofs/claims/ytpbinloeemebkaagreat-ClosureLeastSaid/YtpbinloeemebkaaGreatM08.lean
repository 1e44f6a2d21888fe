/-
  The program: looks at things, one by one.
-/
import Derived.Test.YtpbinloeemebkaaGreatM06
import Derived.Test.YtpbinloeemebkaaGreatM05
namespace Go.Proofs.YtpbinloeemebkaaGreat
open Go.RowKit
attribute [local irreducible] AT ATL AX AO Av Kt ALoopK OkA DA DA1
def eachGo (err : Nat → Int) : Nat → Nat → Int × Int
  | 0, _ => (0, 0)
  | k + 1, i => if err i = 0 then eachGo err k (i + 1) else (err i, i)
def eachE (err : Nat → Int) (n : Nat) : Int × Int := eachGo err n 0
def someE (most : Int) (err : Nat → Int) (n : Nat) : Int × Int := if (n : Int) > most then (2, 0) else eachE err n
def tup2 (p : Int × Int) : AV := .tup [I64 p.1, I64 p.2]
theorem eachGo_zero {err : Nat → Int} {n i : Nat} (hi : i < n) (h : err i = 0) : eachGo err (n - i) i = eachGo err (n - (i + 1)) (i + 1) := by
  rw [show n - i = (n - (i + 1)) + 1 by omega]
  simp only [eachGo, h, if_true]
theorem eachGo_err {err : Nat → Int} {n i : Nat} (hi : i < n) (h : err i ≠ 0) : eachGo err (n - i) i = (err i, (i : Int)) := by
  rw [show n - i = (n - (i + 1)) + 1 by omega]
  simp only [eachGo, h, if_false]
theorem eachGo_all {err : Nat → Int} : ∀ (k i : Nat), (∀ j, i ≤ j → j < i + k → err j = 0) → eachGo err k i = (0, 0)
  | 0, _, _ => rfl
  | k + 1, i, h => by
    simp only [eachGo]
    rw [if_pos (h i (Nat.le_refl _) (by omega))]
    exact eachGo_all k (i + 1) fun j h1 h2 => h j (by omega) (by omega)
theorem eachE_all {err : Nat → Int} {n : Nat} (h : ∀ i, i < n → err i = 0) : eachE err n = (0, 0) := eachGo_all n 0 fun j _ hj => h j (by omega)
theorem someE_all {most : Int} {err : Nat → Int} {n : Nat} (hm : (n : Int) ≤ most) (h : ∀ i, i < n → err i = 0) : someE most err n = (0, 0) := by
  unfold someE
  rw [if_neg (by omega), eachE_all h]
def cRow (q : List Int) : List AV := [.imm 1 (ints q)]
def cInt (z : Int) : List AV := [I64 z]
theorem fn_same {g : FuncId} {caps : List AV} {u : AV} (hu : fnO u = some (g, caps)) {s : Nat} {l : List (List AV)} : imsF [.imm s l, u] = some [.imm s l, u] := by
  unfold fnO at hu
  split at hu <;> first | rfl | cases hu
theorem perm_nil {L L' : AL} (h : L = L') : L.Perm (L' ++ []) := by rw [List.append_nil, h]
def Wrong (P : Program) (g : FuncId) (caps : List AV) (n : Nat) (arg : Nat → AV) (err : Nat → Int) (J : Nat → AL → Prop) : Prop := ∀ i L, i < n → J i L → AC P g ([I64 i, arg i] ++ caps) L fun c L' => c = I64 (err i) ∧ (err i = 0 → J (i + 1) L')

theorem each149 {g : FuncId} {caps : List AV} {u : AV} [CFn Tryz.prog g] (hu : fnO u = some (g, caps)) (l : List FGlyph) (err : Nat → Int) (J : Nat → AL → Prop) (L0 : AL) (h0 : J 0 L0) (hw : ∀ i x L, l[i]? = some x → J i L → AC Tryz.prog g ([I64 i, .agg (cGlyph x)] ++ caps) L fun c L' => c = I64 (err i) ∧ (err i = 0 → J (i + 1) L')) :
    AC Tryz.prog 149 [.imm 9 (l.map cGlyph), u] L0 fun r _ => r = tup2 (eachE err l.length) := by
  refine ac_of Tryz.func149 rfl Tryz.ntmps149 rfl fun B => ?_
  refine at_len 0 rfl rfl fun hlen => ?_
  rw [List.length_map] at hlen
  (repeat' (first|refine at_seq ?_|refine at_region ?_|refine at_block ?_|refine ax_then ?_|refine atl_nil ?_|refine n_run ttok rfl rfl ?_|fail))
  refine at_loopK [1, 9, 10] (α := Nat × AL) (fun i => [(11, I64 i.1)]) (fun i => i.1 ≤ l.length ∧ J i.1 i.2 ∧ eachE err l.length = eachGo err (l.length - i.1) i.1) (fun i => i.2) (fun i => l.length - i.1) (0, L0) rfl ⟨rfl, trivial⟩ ⟨Nat.zero_le _, h0, rfl⟩ (fun _ _ h => h) ?_
  rintro ⟨i, L⟩ ⟨hi, hj, he⟩
  dsimp only at hi hj he ⊢
  try dsimp only [List.cons_append, List.nil_append, List.map_cons, List.map_nil]
  (repeat' (first|refine at_seq ?_|refine at_region ?_|refine ax_then ?_|refine atl_nil ?_|refine n_run ttok rfl rfl ?_|fail))
  refine at_cond rfl (fun h => ?_) (fun h => ?_)
  · have hil : i < l.length := by have := of_decide_eq_true h; simp at this; omega
    obtain ⟨z, hz⟩ : ∃ z, l[i]? = some z := ⟨_, List.getElem?_eq_getElem hil⟩
    have hzg := map_get (c := cGlyph) hz
    (repeat' (first|refine at_seq ?_|refine at_region ?_|refine at_block ?_|refine at_skip ?_|refine ax_then ?_|refine atl_nil ?_|refine n_run ttok rfl rfl ?_|(apply s_index; first|refine n_index ttok ?_|refine n_indexP ttok ?_)|(apply s_store; first|refine n_storeF 7 ttok 0 rfl rfl rfl rfl rfl rfl rfl rfl ?_|refine n_storeF 7 ttok 1 rfl rfl rfl rfl rfl rfl rfl rfl ?_|refine n_storeF 7 ttok 2 rfl rfl rfl rfl rfl rfl rfl rfl ?_|refine n_store ttok 0 rfl rfl rfl rfl rfl rfl rfl ?_|refine n_store ttok 1 rfl rfl rfl rfl rfl rfl rfl ?_|refine n_store ttok 2 rfl rfl rfl rfl rfl rfl rfl ?_|refine n_store ttok 3 rfl rfl rfl rfl rfl rfl rfl ?_|fail)|refine n_alloc ttok fun _=>?_|fail))
    refine n_callF L [] (hw i z L hz hj) rfl hu rfl (perm_nil rfl) rfl rfl fun c L1 ⟨hc, hj'⟩ => ?_
    subst hc
    rw [List.append_nil]
    (repeat' (first|refine at_seq ?_|refine at_region ?_|refine ax_then ?_|refine atl_nil ?_|refine n_run ttok rfl rfl ?_|fail))
    refine at_cond rfl (fun h2 => ?_) (fun h2 => ?_)
    · have h2' := of_decide_eq_true h2
      (repeat' (first|refine at_seq ?_|refine at_region ?_|refine at_ret ?_|refine ax_then ?_|refine ax_then_ret ?_|refine ax_blk_ret ?_|refine ax_loop_ret ?_|refine atl_nil ?_|refine n_run ttok rfl rfl ?_|fail))
      refine ax_ret2 rfl rfl rfl ?_
      rw [he, eachGo_err hil h2']
      rfl
    · have h2' := Decidable.not_not.1 (of_decide_eq_false h2)
      (repeat' (first|refine at_region ?_|refine at_skip ?_|refine ax_then ?_|refine ax_blk ?_|refine atl_nil ?_|refine n_run ttok rfl rfl ?_|(apply s_bin; refine n_bin ?_)|fail))
      exact ax_roundK (i + 1, L1) rfl ⟨by rw [Int.natCast_add]; rfl, trivial⟩ ⟨by dsimp only; omega, hj' h2', by rw [he]; exact eachGo_zero hil h2'⟩ (by dsimp only; omega) (fun _ _ h => h)
  · have hil : i = l.length := by have := of_decide_eq_false h; simp at this; omega
    subst hil
    (repeat' (first|refine at_seq ?_|refine at_region ?_|refine at_ret ?_|refine at_exit ?_|refine ax_then ?_|refine ax_then_exit ?_|refine ax_blk_exit ?_|refine ax_loop_exit ?_|refine atl_nil ?_|refine n_run ttok rfl rfl ?_|fail))
    refine ax_ret2 rfl rfl rfl ?_
    rw [he, Nat.sub_self]
    rfl
theorem some148 {g : FuncId} {caps : List AV} {u : AV} [CFn Tryz.prog g] (hu : fnO u = some (g, caps)) (l : List FGlyph) (most : Int) (err : Nat → Int) (J : Nat → AL → Prop) (L0 : AL) (h0 : J 0 L0) (hw : (l.length : Int) ≤ most → ∀ i x L, l[i]? = some x → J i L → AC Tryz.prog g ([I64 i, .agg (cGlyph x)] ++ caps) L fun c L' => c = I64 (err i) ∧ (err i = 0 → J (i + 1) L')) :
    AC Tryz.prog 148 [.iptr [.imm 9 (l.map cGlyph)], .iptr [I64 most], .iptr [u]] L0 fun r _ => r = tup2 (someE most err l.length) := by
  refine ac_of Tryz.func148 rfl Tryz.ntmps148 rfl fun B => ?_
  (repeat' (first|refine at_seq ?_|refine at_region ?_|refine ax_then ?_|refine atl_nil ?_|refine n_run ttok rfl rfl ?_|fail))
  refine at_cond rfl (fun h => ?_) (fun h => ?_)
  · have h' := of_decide_eq_true h
    rw [List.length_map] at h'
    (repeat' (first|refine at_seq ?_|refine at_region ?_|refine at_ret ?_|refine ax_then ?_|refine ax_then_ret ?_|refine atl_nil ?_|refine n_run ttok rfl rfl ?_|fail))
    refine ax_ret2 rfl rfl rfl ?_
    unfold someE
    rw [if_pos h']
    rfl
  · have h' := of_decide_eq_false h
    rw [List.length_map] at h'
    (repeat' (first|refine at_seq ?_|refine at_region ?_|refine at_skip ?_|refine ax_then ?_|refine n_run ttok rfl rfl ?_|fail))
    refine n_callA L0 [] (each149 hu l err J L0 h0 (hw (by omega))) rfl (fn_same hu) (perm_nil rfl) rfl fun c L1 hc => ?_
    subst hc
    (repeat' (first|refine at_ret ?_|refine ax_then ?_|refine atl_nil ?_|refine n_run ttok rfl rfl ?_|fail))
    refine ax_ret2 rfl rfl rfl ?_
    unfold someE
    rw [if_neg h']
    rfl
theorem mk83 {g : FuncId} {caps : List AV} (l : List FGlyph) (most : Int) : ADet Tryz.prog 83 [.imm 9 (l.map cGlyph), I64 most, .fn g caps] (.fn 148 [.iptr [.imm 9 (l.map cGlyph)], .iptr [I64 most], .iptr [.fn g caps]]) := by
  refine ac_of Tryz.func83 rfl Tryz.ntmps83 rfl fun B => ?_
  (repeat' (first|refine at_seq ?_|refine at_region ?_|refine at_ret ?_|refine ax_then ?_|refine atl_nil ?_|refine n_run ttok rfl rfl ?_|refine n_boxI ?_|fail))
  exact ax_ret1 rfl rfl rfl
instance {g : FuncId} {caps : List AV} (l : List FGlyph) (most : Int) : AD Tryz.prog 83 [.imm 9 (l.map cGlyph), I64 most, .fn g caps] (.fn 148 [.iptr [.imm 9 (l.map cGlyph)], .iptr [I64 most], .iptr [.fn g caps]]) := ⟨mk83 l most⟩
theorem each169 {g : FuncId} {caps : List AV} {u : AV} [CFn Tryz.prog g] (hu : fnO u = some (g, caps)) (l : List FChar) (err : Nat → Int) (J : Nat → AL → Prop) (L0 : AL) (h0 : J 0 L0) (hw : ∀ i x L, l[i]? = some x → J i L → AC Tryz.prog g ([I64 i, .agg (cChar x)] ++ caps) L fun c L' => c = I64 (err i) ∧ (err i = 0 → J (i + 1) L')) :
    AC Tryz.prog 169 [.imm 2 (l.map cChar), u] L0 fun r _ => r = tup2 (eachE err l.length) := by
  refine ac_of Tryz.func169 rfl Tryz.ntmps169 rfl fun B => ?_
  refine at_len 0 rfl rfl fun hlen => ?_
  rw [List.length_map] at hlen
  (repeat' (first|refine at_seq ?_|refine at_region ?_|refine at_block ?_|refine ax_then ?_|refine atl_nil ?_|refine n_run ttok rfl rfl ?_|fail))
  refine at_loopK [1, 9, 10] (α := Nat × AL) (fun i => [(11, I64 i.1)]) (fun i => i.1 ≤ l.length ∧ J i.1 i.2 ∧ eachE err l.length = eachGo err (l.length - i.1) i.1) (fun i => i.2) (fun i => l.length - i.1) (0, L0) rfl ⟨rfl, trivial⟩ ⟨Nat.zero_le _, h0, rfl⟩ (fun _ _ h => h) ?_
  rintro ⟨i, L⟩ ⟨hi, hj, he⟩
  dsimp only at hi hj he ⊢
  try dsimp only [List.cons_append, List.nil_append, List.map_cons, List.map_nil]
  (repeat' (first|refine at_seq ?_|refine at_region ?_|refine ax_then ?_|refine atl_nil ?_|refine n_run ttok rfl rfl ?_|fail))
  refine at_cond rfl (fun h => ?_) (fun h => ?_)
  · have hil : i < l.length := by have := of_decide_eq_true h; simp at this; omega
    obtain ⟨z, hz⟩ : ∃ z, l[i]? = some z := ⟨_, List.getElem?_eq_getElem hil⟩
    have hzg := map_get (c := cChar) hz
    (repeat' (first|refine at_seq ?_|refine at_region ?_|refine at_block ?_|refine at_skip ?_|refine ax_then ?_|refine atl_nil ?_|refine n_run ttok rfl rfl ?_|(apply s_index; first|refine n_index ttok ?_|refine n_indexP ttok ?_)|(apply s_store; first|refine n_storeF 7 ttok 0 rfl rfl rfl rfl rfl rfl rfl rfl ?_|refine n_storeF 7 ttok 1 rfl rfl rfl rfl rfl rfl rfl rfl ?_|refine n_storeF 7 ttok 2 rfl rfl rfl rfl rfl rfl rfl rfl ?_|refine n_store ttok 0 rfl rfl rfl rfl rfl rfl rfl ?_|refine n_store ttok 1 rfl rfl rfl rfl rfl rfl rfl ?_|refine n_store ttok 2 rfl rfl rfl rfl rfl rfl rfl ?_|refine n_store ttok 3 rfl rfl rfl rfl rfl rfl rfl ?_|fail)|refine n_alloc ttok fun _=>?_|fail))
    refine n_callF L [] (hw i z L hz hj) rfl hu rfl (perm_nil rfl) rfl rfl fun c L1 ⟨hc, hj'⟩ => ?_
    subst hc
    rw [List.append_nil]
    (repeat' (first|refine at_seq ?_|refine at_region ?_|refine ax_then ?_|refine atl_nil ?_|refine n_run ttok rfl rfl ?_|fail))
    refine at_cond rfl (fun h2 => ?_) (fun h2 => ?_)
    · have h2' := of_decide_eq_true h2
      (repeat' (first|refine at_seq ?_|refine at_region ?_|refine at_ret ?_|refine ax_then ?_|refine ax_then_ret ?_|refine ax_blk_ret ?_|refine ax_loop_ret ?_|refine atl_nil ?_|refine n_run ttok rfl rfl ?_|fail))
      refine ax_ret2 rfl rfl rfl ?_
      rw [he, eachGo_err hil h2']
      rfl
    · have h2' := Decidable.not_not.1 (of_decide_eq_false h2)
      (repeat' (first|refine at_region ?_|refine at_skip ?_|refine ax_then ?_|refine ax_blk ?_|refine atl_nil ?_|refine n_run ttok rfl rfl ?_|(apply s_bin; refine n_bin ?_)|fail))
      exact ax_roundK (i + 1, L1) rfl ⟨by rw [Int.natCast_add]; rfl, trivial⟩ ⟨by dsimp only; omega, hj' h2', by rw [he]; exact eachGo_zero hil h2'⟩ (by dsimp only; omega) (fun _ _ h => h)
  · have hil : i = l.length := by have := of_decide_eq_false h; simp at this; omega
    subst hil
    (repeat' (first|refine at_seq ?_|refine at_region ?_|refine at_ret ?_|refine at_exit ?_|refine ax_then ?_|refine ax_then_exit ?_|refine ax_blk_exit ?_|refine ax_loop_exit ?_|refine atl_nil ?_|refine n_run ttok rfl rfl ?_|fail))
    refine ax_ret2 rfl rfl rfl ?_
    rw [he, Nat.sub_self]
    rfl
theorem some168 {g : FuncId} {caps : List AV} {u : AV} [CFn Tryz.prog g] (hu : fnO u = some (g, caps)) (l : List FChar) (most : Int) (err : Nat → Int) (J : Nat → AL → Prop) (L0 : AL) (h0 : J 0 L0) (hw : (l.length : Int) ≤ most → ∀ i x L, l[i]? = some x → J i L → AC Tryz.prog g ([I64 i, .agg (cChar x)] ++ caps) L fun c L' => c = I64 (err i) ∧ (err i = 0 → J (i + 1) L')) :
    AC Tryz.prog 168 [.iptr [.imm 2 (l.map cChar)], .iptr [I64 most], .iptr [u]] L0 fun r _ => r = tup2 (someE most err l.length) := by
  refine ac_of Tryz.func168 rfl Tryz.ntmps168 rfl fun B => ?_
  (repeat' (first|refine at_seq ?_|refine at_region ?_|refine ax_then ?_|refine atl_nil ?_|refine n_run ttok rfl rfl ?_|fail))
  refine at_cond rfl (fun h => ?_) (fun h => ?_)
  · have h' := of_decide_eq_true h
    rw [List.length_map] at h'
    (repeat' (first|refine at_seq ?_|refine at_region ?_|refine at_ret ?_|refine ax_then ?_|refine ax_then_ret ?_|refine atl_nil ?_|refine n_run ttok rfl rfl ?_|fail))
    refine ax_ret2 rfl rfl rfl ?_
    unfold someE
    rw [if_pos h']
    rfl
  · have h' := of_decide_eq_false h
    rw [List.length_map] at h'
    (repeat' (first|refine at_seq ?_|refine at_region ?_|refine at_skip ?_|refine ax_then ?_|refine n_run ttok rfl rfl ?_|fail))
    refine n_callA L0 [] (each169 hu l err J L0 h0 (hw (by omega))) rfl (fn_same hu) (perm_nil rfl) rfl fun c L1 hc => ?_
    subst hc
    (repeat' (first|refine at_ret ?_|refine ax_then ?_|refine atl_nil ?_|refine n_run ttok rfl rfl ?_|fail))
    refine ax_ret2 rfl rfl rfl ?_
    unfold someE
    rw [if_neg h']
    rfl
theorem mk90 {g : FuncId} {caps : List AV} (l : List FChar) (most : Int) : ADet Tryz.prog 90 [.imm 2 (l.map cChar), I64 most, .fn g caps] (.fn 168 [.iptr [.imm 2 (l.map cChar)], .iptr [I64 most], .iptr [.fn g caps]]) := by
  refine ac_of Tryz.func90 rfl Tryz.ntmps90 rfl fun B => ?_
  (repeat' (first|refine at_seq ?_|refine at_region ?_|refine at_ret ?_|refine ax_then ?_|refine atl_nil ?_|refine n_run ttok rfl rfl ?_|refine n_boxI ?_|fail))
  exact ax_ret1 rfl rfl rfl
instance {g : FuncId} {caps : List AV} (l : List FChar) (most : Int) : AD Tryz.prog 90 [.imm 2 (l.map cChar), I64 most, .fn g caps] (.fn 168 [.iptr [.imm 2 (l.map cChar)], .iptr [I64 most], .iptr [.fn g caps]]) := ⟨mk90 l most⟩
theorem each171 {g : FuncId} {caps : List AV} {u : AV} [CFn Tryz.prog g] (hu : fnO u = some (g, caps)) (l : List FLookup) (err : Nat → Int) (J : Nat → AL → Prop) (L0 : AL) (h0 : J 0 L0) (hw : ∀ i x L, l[i]? = some x → J i L → AC Tryz.prog g ([I64 i, .agg (cLookup x)] ++ caps) L fun c L' => c = I64 (err i) ∧ (err i = 0 → J (i + 1) L')) :
    AC Tryz.prog 171 [.imm 3 (l.map cLookup), u] L0 fun r _ => r = tup2 (eachE err l.length) := by
  refine ac_of Tryz.func171 rfl Tryz.ntmps171 rfl fun B => ?_
  refine at_len 0 rfl rfl fun hlen => ?_
  rw [List.length_map] at hlen
  (repeat' (first|refine at_seq ?_|refine at_region ?_|refine at_block ?_|refine ax_then ?_|refine atl_nil ?_|refine n_run ttok rfl rfl ?_|fail))
  refine at_loopK [1, 9, 10] (α := Nat × AL) (fun i => [(11, I64 i.1)]) (fun i => i.1 ≤ l.length ∧ J i.1 i.2 ∧ eachE err l.length = eachGo err (l.length - i.1) i.1) (fun i => i.2) (fun i => l.length - i.1) (0, L0) rfl ⟨rfl, trivial⟩ ⟨Nat.zero_le _, h0, rfl⟩ (fun _ _ h => h) ?_
  rintro ⟨i, L⟩ ⟨hi, hj, he⟩
  dsimp only at hi hj he ⊢
  try dsimp only [List.cons_append, List.nil_append, List.map_cons, List.map_nil]
  (repeat' (first|refine at_seq ?_|refine at_region ?_|refine ax_then ?_|refine atl_nil ?_|refine n_run ttok rfl rfl ?_|fail))
  refine at_cond rfl (fun h => ?_) (fun h => ?_)
  · have hil : i < l.length := by have := of_decide_eq_true h; simp at this; omega
    obtain ⟨z, hz⟩ : ∃ z, l[i]? = some z := ⟨_, List.getElem?_eq_getElem hil⟩
    have hzg := map_get (c := cLookup) hz
    (repeat' (first|refine at_seq ?_|refine at_region ?_|refine at_block ?_|refine at_skip ?_|refine ax_then ?_|refine atl_nil ?_|refine n_run ttok rfl rfl ?_|(apply s_index; first|refine n_index ttok ?_|refine n_indexP ttok ?_)|(apply s_store; first|refine n_storeF 7 ttok 0 rfl rfl rfl rfl rfl rfl rfl rfl ?_|refine n_storeF 7 ttok 1 rfl rfl rfl rfl rfl rfl rfl rfl ?_|refine n_storeF 7 ttok 2 rfl rfl rfl rfl rfl rfl rfl rfl ?_|refine n_store ttok 0 rfl rfl rfl rfl rfl rfl rfl ?_|refine n_store ttok 1 rfl rfl rfl rfl rfl rfl rfl ?_|refine n_store ttok 2 rfl rfl rfl rfl rfl rfl rfl ?_|refine n_store ttok 3 rfl rfl rfl rfl rfl rfl rfl ?_|fail)|refine n_alloc ttok fun _=>?_|fail))
    refine n_callF L [] (hw i z L hz hj) rfl hu rfl (perm_nil rfl) rfl rfl fun c L1 ⟨hc, hj'⟩ => ?_
    subst hc
    rw [List.append_nil]
    (repeat' (first|refine at_seq ?_|refine at_region ?_|refine ax_then ?_|refine atl_nil ?_|refine n_run ttok rfl rfl ?_|fail))
    refine at_cond rfl (fun h2 => ?_) (fun h2 => ?_)
    · have h2' := of_decide_eq_true h2
      (repeat' (first|refine at_seq ?_|refine at_region ?_|refine at_ret ?_|refine ax_then ?_|refine ax_then_ret ?_|refine ax_blk_ret ?_|refine ax_loop_ret ?_|refine atl_nil ?_|refine n_run ttok rfl rfl ?_|fail))
      refine ax_ret2 rfl rfl rfl ?_
      rw [he, eachGo_err hil h2']
      rfl
    · have h2' := Decidable.not_not.1 (of_decide_eq_false h2)
      (repeat' (first|refine at_region ?_|refine at_skip ?_|refine ax_then ?_|refine ax_blk ?_|refine atl_nil ?_|refine n_run ttok rfl rfl ?_|(apply s_bin; refine n_bin ?_)|fail))
      exact ax_roundK (i + 1, L1) rfl ⟨by rw [Int.natCast_add]; rfl, trivial⟩ ⟨by dsimp only; omega, hj' h2', by rw [he]; exact eachGo_zero hil h2'⟩ (by dsimp only; omega) (fun _ _ h => h)
  · have hil : i = l.length := by have := of_decide_eq_false h; simp at this; omega
    subst hil
    (repeat' (first|refine at_seq ?_|refine at_region ?_|refine at_ret ?_|refine at_exit ?_|refine ax_then ?_|refine ax_then_exit ?_|refine ax_blk_exit ?_|refine ax_loop_exit ?_|refine atl_nil ?_|refine n_run ttok rfl rfl ?_|fail))
    refine ax_ret2 rfl rfl rfl ?_
    rw [he, Nat.sub_self]
    rfl
theorem some170 {g : FuncId} {caps : List AV} {u : AV} [CFn Tryz.prog g] (hu : fnO u = some (g, caps)) (l : List FLookup) (most : Int) (err : Nat → Int) (J : Nat → AL → Prop) (L0 : AL) (h0 : J 0 L0) (hw : (l.length : Int) ≤ most → ∀ i x L, l[i]? = some x → J i L → AC Tryz.prog g ([I64 i, .agg (cLookup x)] ++ caps) L fun c L' => c = I64 (err i) ∧ (err i = 0 → J (i + 1) L')) :
    AC Tryz.prog 170 [.iptr [.imm 3 (l.map cLookup)], .iptr [I64 most], .iptr [u]] L0 fun r _ => r = tup2 (someE most err l.length) := by
  refine ac_of Tryz.func170 rfl Tryz.ntmps170 rfl fun B => ?_
  (repeat' (first|refine at_seq ?_|refine at_region ?_|refine ax_then ?_|refine atl_nil ?_|refine n_run ttok rfl rfl ?_|fail))
  refine at_cond rfl (fun h => ?_) (fun h => ?_)
  · have h' := of_decide_eq_true h
    rw [List.length_map] at h'
    (repeat' (first|refine at_seq ?_|refine at_region ?_|refine at_ret ?_|refine ax_then ?_|refine ax_then_ret ?_|refine atl_nil ?_|refine n_run ttok rfl rfl ?_|fail))
    refine ax_ret2 rfl rfl rfl ?_
    unfold someE
    rw [if_pos h']
    rfl
  · have h' := of_decide_eq_false h
    rw [List.length_map] at h'
    (repeat' (first|refine at_seq ?_|refine at_region ?_|refine at_skip ?_|refine ax_then ?_|refine n_run ttok rfl rfl ?_|fail))
    refine n_callA L0 [] (each171 hu l err J L0 h0 (hw (by omega))) rfl (fn_same hu) (perm_nil rfl) rfl fun c L1 hc => ?_
    subst hc
    (repeat' (first|refine at_ret ?_|refine ax_then ?_|refine atl_nil ?_|refine n_run ttok rfl rfl ?_|fail))
    refine ax_ret2 rfl rfl rfl ?_
    unfold someE
    rw [if_neg h']
    rfl
theorem mk93 {g : FuncId} {caps : List AV} (l : List FLookup) (most : Int) : ADet Tryz.prog 93 [.imm 3 (l.map cLookup), I64 most, .fn g caps] (.fn 170 [.iptr [.imm 3 (l.map cLookup)], .iptr [I64 most], .iptr [.fn g caps]]) := by
  refine ac_of Tryz.func93 rfl Tryz.ntmps93 rfl fun B => ?_
  (repeat' (first|refine at_seq ?_|refine at_region ?_|refine at_ret ?_|refine ax_then ?_|refine atl_nil ?_|refine n_run ttok rfl rfl ?_|refine n_boxI ?_|fail))
  exact ax_ret1 rfl rfl rfl
instance {g : FuncId} {caps : List AV} (l : List FLookup) (most : Int) : AD Tryz.prog 93 [.imm 3 (l.map cLookup), I64 most, .fn g caps] (.fn 170 [.iptr [.imm 3 (l.map cLookup)], .iptr [I64 most], .iptr [.fn g caps]]) := ⟨mk93 l most⟩
theorem each175 {g : FuncId} {caps : List AV} {u : AV} [CFn Tryz.prog g] (hu : fnO u = some (g, caps)) (l : List FRule) (err : Nat → Int) (J : Nat → AL → Prop) (L0 : AL) (h0 : J 0 L0) (hw : ∀ i x L, l[i]? = some x → J i L → AC Tryz.prog g ([I64 i, .agg (cRule x)] ++ caps) L fun c L' => c = I64 (err i) ∧ (err i = 0 → J (i + 1) L')) :
    AC Tryz.prog 175 [.imm 6 (l.map cRule), u] L0 fun r _ => r = tup2 (eachE err l.length) := by
  refine ac_of Tryz.func175 rfl Tryz.ntmps175 rfl fun B => ?_
  refine at_len 0 rfl rfl fun hlen => ?_
  rw [List.length_map] at hlen
  (repeat' (first|refine at_seq ?_|refine at_region ?_|refine at_block ?_|refine ax_then ?_|refine atl_nil ?_|refine n_run ttok rfl rfl ?_|fail))
  refine at_loopK [1, 9, 10] (α := Nat × AL) (fun i => [(11, I64 i.1)]) (fun i => i.1 ≤ l.length ∧ J i.1 i.2 ∧ eachE err l.length = eachGo err (l.length - i.1) i.1) (fun i => i.2) (fun i => l.length - i.1) (0, L0) rfl ⟨rfl, trivial⟩ ⟨Nat.zero_le _, h0, rfl⟩ (fun _ _ h => h) ?_
  rintro ⟨i, L⟩ ⟨hi, hj, he⟩
  dsimp only at hi hj he ⊢
  try dsimp only [List.cons_append, List.nil_append, List.map_cons, List.map_nil]
  (repeat' (first|refine at_seq ?_|refine at_region ?_|refine ax_then ?_|refine atl_nil ?_|refine n_run ttok rfl rfl ?_|fail))
  refine at_cond rfl (fun h => ?_) (fun h => ?_)
  · have hil : i < l.length := by have := of_decide_eq_true h; simp at this; omega
    obtain ⟨z, hz⟩ : ∃ z, l[i]? = some z := ⟨_, List.getElem?_eq_getElem hil⟩
    have hzg := map_get (c := cRule) hz
    (repeat' (first|refine at_seq ?_|refine at_region ?_|refine at_block ?_|refine at_skip ?_|refine ax_then ?_|refine atl_nil ?_|refine n_run ttok rfl rfl ?_|(apply s_index; first|refine n_index ttok ?_|refine n_indexP ttok ?_)|(apply s_store; first|refine n_storeF 7 ttok 0 rfl rfl rfl rfl rfl rfl rfl rfl ?_|refine n_storeF 7 ttok 1 rfl rfl rfl rfl rfl rfl rfl rfl ?_|refine n_storeF 7 ttok 2 rfl rfl rfl rfl rfl rfl rfl rfl ?_|refine n_store ttok 0 rfl rfl rfl rfl rfl rfl rfl ?_|refine n_store ttok 1 rfl rfl rfl rfl rfl rfl rfl ?_|refine n_store ttok 2 rfl rfl rfl rfl rfl rfl rfl ?_|refine n_store ttok 3 rfl rfl rfl rfl rfl rfl rfl ?_|fail)|refine n_alloc ttok fun _=>?_|fail))
    refine n_callF L [] (hw i z L hz hj) rfl hu rfl (perm_nil rfl) rfl rfl fun c L1 ⟨hc, hj'⟩ => ?_
    subst hc
    rw [List.append_nil]
    (repeat' (first|refine at_seq ?_|refine at_region ?_|refine ax_then ?_|refine atl_nil ?_|refine n_run ttok rfl rfl ?_|fail))
    refine at_cond rfl (fun h2 => ?_) (fun h2 => ?_)
    · have h2' := of_decide_eq_true h2
      (repeat' (first|refine at_seq ?_|refine at_region ?_|refine at_ret ?_|refine ax_then ?_|refine ax_then_ret ?_|refine ax_blk_ret ?_|refine ax_loop_ret ?_|refine atl_nil ?_|refine n_run ttok rfl rfl ?_|fail))
      refine ax_ret2 rfl rfl rfl ?_
      rw [he, eachGo_err hil h2']
      rfl
    · have h2' := Decidable.not_not.1 (of_decide_eq_false h2)
      (repeat' (first|refine at_region ?_|refine at_skip ?_|refine ax_then ?_|refine ax_blk ?_|refine atl_nil ?_|refine n_run ttok rfl rfl ?_|(apply s_bin; refine n_bin ?_)|fail))
      exact ax_roundK (i + 1, L1) rfl ⟨by rw [Int.natCast_add]; rfl, trivial⟩ ⟨by dsimp only; omega, hj' h2', by rw [he]; exact eachGo_zero hil h2'⟩ (by dsimp only; omega) (fun _ _ h => h)
  · have hil : i = l.length := by have := of_decide_eq_false h; simp at this; omega
    subst hil
    (repeat' (first|refine at_seq ?_|refine at_region ?_|refine at_ret ?_|refine at_exit ?_|refine ax_then ?_|refine ax_then_exit ?_|refine ax_blk_exit ?_|refine ax_loop_exit ?_|refine atl_nil ?_|refine n_run ttok rfl rfl ?_|fail))
    refine ax_ret2 rfl rfl rfl ?_
    rw [he, Nat.sub_self]
    rfl
theorem each179 {g : FuncId} {caps : List AV} {u : AV} [CFn Tryz.prog g] (hu : fnO u = some (g, caps)) (l : List FFeature) (err : Nat → Int) (J : Nat → AL → Prop) (L0 : AL) (h0 : J 0 L0) (hw : ∀ i x L, l[i]? = some x → J i L → AC Tryz.prog g ([I64 i, .agg (cFeature x)] ++ caps) L fun c L' => c = I64 (err i) ∧ (err i = 0 → J (i + 1) L')) :
    AC Tryz.prog 179 [.imm 2 (l.map cFeature), u] L0 fun r _ => r = tup2 (eachE err l.length) := by
  refine ac_of Tryz.func179 rfl Tryz.ntmps179 rfl fun B => ?_
  refine at_len 0 rfl rfl fun hlen => ?_
  rw [List.length_map] at hlen
  (repeat' (first|refine at_seq ?_|refine at_region ?_|refine at_block ?_|refine ax_then ?_|refine atl_nil ?_|refine n_run ttok rfl rfl ?_|fail))
  refine at_loopK [1, 9, 10] (α := Nat × AL) (fun i => [(11, I64 i.1)]) (fun i => i.1 ≤ l.length ∧ J i.1 i.2 ∧ eachE err l.length = eachGo err (l.length - i.1) i.1) (fun i => i.2) (fun i => l.length - i.1) (0, L0) rfl ⟨rfl, trivial⟩ ⟨Nat.zero_le _, h0, rfl⟩ (fun _ _ h => h) ?_
  rintro ⟨i, L⟩ ⟨hi, hj, he⟩
  dsimp only at hi hj he ⊢
  try dsimp only [List.cons_append, List.nil_append, List.map_cons, List.map_nil]
  (repeat' (first|refine at_seq ?_|refine at_region ?_|refine ax_then ?_|refine atl_nil ?_|refine n_run ttok rfl rfl ?_|fail))
  refine at_cond rfl (fun h => ?_) (fun h => ?_)
  · have hil : i < l.length := by have := of_decide_eq_true h; simp at this; omega
    obtain ⟨z, hz⟩ : ∃ z, l[i]? = some z := ⟨_, List.getElem?_eq_getElem hil⟩
    have hzg := map_get (c := cFeature) hz
    (repeat' (first|refine at_seq ?_|refine at_region ?_|refine at_block ?_|refine at_skip ?_|refine ax_then ?_|refine atl_nil ?_|refine n_run ttok rfl rfl ?_|(apply s_index; first|refine n_index ttok ?_|refine n_indexP ttok ?_)|(apply s_store; first|refine n_storeF 7 ttok 0 rfl rfl rfl rfl rfl rfl rfl rfl ?_|refine n_storeF 7 ttok 1 rfl rfl rfl rfl rfl rfl rfl rfl ?_|refine n_storeF 7 ttok 2 rfl rfl rfl rfl rfl rfl rfl rfl ?_|refine n_store ttok 0 rfl rfl rfl rfl rfl rfl rfl ?_|refine n_store ttok 1 rfl rfl rfl rfl rfl rfl rfl ?_|refine n_store ttok 2 rfl rfl rfl rfl rfl rfl rfl ?_|refine n_store ttok 3 rfl rfl rfl rfl rfl rfl rfl ?_|fail)|refine n_alloc ttok fun _=>?_|fail))
    refine n_callF L [] (hw i z L hz hj) rfl hu rfl (perm_nil rfl) rfl rfl fun c L1 ⟨hc, hj'⟩ => ?_
    subst hc
    rw [List.append_nil]
    (repeat' (first|refine at_seq ?_|refine at_region ?_|refine ax_then ?_|refine atl_nil ?_|refine n_run ttok rfl rfl ?_|fail))
    refine at_cond rfl (fun h2 => ?_) (fun h2 => ?_)
    · have h2' := of_decide_eq_true h2
      (repeat' (first|refine at_seq ?_|refine at_region ?_|refine at_ret ?_|refine ax_then ?_|refine ax_then_ret ?_|refine ax_blk_ret ?_|refine ax_loop_ret ?_|refine atl_nil ?_|refine n_run ttok rfl rfl ?_|fail))
      refine ax_ret2 rfl rfl rfl ?_
      rw [he, eachGo_err hil h2']
      rfl
    · have h2' := Decidable.not_not.1 (of_decide_eq_false h2)
      (repeat' (first|refine at_region ?_|refine at_skip ?_|refine ax_then ?_|refine ax_blk ?_|refine atl_nil ?_|refine n_run ttok rfl rfl ?_|(apply s_bin; refine n_bin ?_)|fail))
      exact ax_roundK (i + 1, L1) rfl ⟨by rw [Int.natCast_add]; rfl, trivial⟩ ⟨by dsimp only; omega, hj' h2', by rw [he]; exact eachGo_zero hil h2'⟩ (by dsimp only; omega) (fun _ _ h => h)
  · have hil : i = l.length := by have := of_decide_eq_false h; simp at this; omega
    subst hil
    (repeat' (first|refine at_seq ?_|refine at_region ?_|refine at_ret ?_|refine at_exit ?_|refine ax_then ?_|refine ax_then_exit ?_|refine ax_blk_exit ?_|refine ax_loop_exit ?_|refine atl_nil ?_|refine n_run ttok rfl rfl ?_|fail))
    refine ax_ret2 rfl rfl rfl ?_
    rw [he, Nat.sub_self]
    rfl
theorem some178 {g : FuncId} {caps : List AV} {u : AV} [CFn Tryz.prog g] (hu : fnO u = some (g, caps)) (l : List FFeature) (most : Int) (err : Nat → Int) (J : Nat → AL → Prop) (L0 : AL) (h0 : J 0 L0) (hw : (l.length : Int) ≤ most → ∀ i x L, l[i]? = some x → J i L → AC Tryz.prog g ([I64 i, .agg (cFeature x)] ++ caps) L fun c L' => c = I64 (err i) ∧ (err i = 0 → J (i + 1) L')) :
    AC Tryz.prog 178 [.iptr [.imm 2 (l.map cFeature)], .iptr [I64 most], .iptr [u]] L0 fun r _ => r = tup2 (someE most err l.length) := by
  refine ac_of Tryz.func178 rfl Tryz.ntmps178 rfl fun B => ?_
  (repeat' (first|refine at_seq ?_|refine at_region ?_|refine ax_then ?_|refine atl_nil ?_|refine n_run ttok rfl rfl ?_|fail))
  refine at_cond rfl (fun h => ?_) (fun h => ?_)
  · have h' := of_decide_eq_true h
    rw [List.length_map] at h'
    (repeat' (first|refine at_seq ?_|refine at_region ?_|refine at_ret ?_|refine ax_then ?_|refine ax_then_ret ?_|refine atl_nil ?_|refine n_run ttok rfl rfl ?_|fail))
    refine ax_ret2 rfl rfl rfl ?_
    unfold someE
    rw [if_pos h']
    rfl
  · have h' := of_decide_eq_false h
    rw [List.length_map] at h'
    (repeat' (first|refine at_seq ?_|refine at_region ?_|refine at_skip ?_|refine ax_then ?_|refine n_run ttok rfl rfl ?_|fail))
    refine n_callA L0 [] (each179 hu l err J L0 h0 (hw (by omega))) rfl (fn_same hu) (perm_nil rfl) rfl fun c L1 hc => ?_
    subst hc
    (repeat' (first|refine at_ret ?_|refine ax_then ?_|refine atl_nil ?_|refine n_run ttok rfl rfl ?_|fail))
    refine ax_ret2 rfl rfl rfl ?_
    unfold someE
    rw [if_neg h']
    rfl
theorem mk96 {g : FuncId} {caps : List AV} (l : List FFeature) (most : Int) : ADet Tryz.prog 96 [.imm 2 (l.map cFeature), I64 most, .fn g caps] (.fn 178 [.iptr [.imm 2 (l.map cFeature)], .iptr [I64 most], .iptr [.fn g caps]]) := by
  refine ac_of Tryz.func96 rfl Tryz.ntmps96 rfl fun B => ?_
  (repeat' (first|refine at_seq ?_|refine at_region ?_|refine at_ret ?_|refine ax_then ?_|refine atl_nil ?_|refine n_run ttok rfl rfl ?_|refine n_boxI ?_|fail))
  exact ax_ret1 rfl rfl rfl
instance {g : FuncId} {caps : List AV} (l : List FFeature) (most : Int) : AD Tryz.prog 96 [.imm 2 (l.map cFeature), I64 most, .fn g caps] (.fn 178 [.iptr [.imm 2 (l.map cFeature)], .iptr [I64 most], .iptr [.fn g caps]]) := ⟨mk96 l most⟩
theorem each182 {g : FuncId} {caps : List AV} {u : AV} [CFn Tryz.prog g] (hu : fnO u = some (g, caps)) (l : List FAxis) (err : Nat → Int) (J : Nat → AL → Prop) (L0 : AL) (h0 : J 0 L0) (hw : ∀ i x L, l[i]? = some x → J i L → AC Tryz.prog g ([I64 i, .agg (cAxis x)] ++ caps) L fun c L' => c = I64 (err i) ∧ (err i = 0 → J (i + 1) L')) :
    AC Tryz.prog 182 [.imm 4 (l.map cAxis), u] L0 fun r _ => r = tup2 (eachE err l.length) := by
  refine ac_of Tryz.func182 rfl Tryz.ntmps182 rfl fun B => ?_
  refine at_len 0 rfl rfl fun hlen => ?_
  rw [List.length_map] at hlen
  (repeat' (first|refine at_seq ?_|refine at_region ?_|refine at_block ?_|refine ax_then ?_|refine atl_nil ?_|refine n_run ttok rfl rfl ?_|fail))
  refine at_loopK [1, 9, 10] (α := Nat × AL) (fun i => [(11, I64 i.1)]) (fun i => i.1 ≤ l.length ∧ J i.1 i.2 ∧ eachE err l.length = eachGo err (l.length - i.1) i.1) (fun i => i.2) (fun i => l.length - i.1) (0, L0) rfl ⟨rfl, trivial⟩ ⟨Nat.zero_le _, h0, rfl⟩ (fun _ _ h => h) ?_
  rintro ⟨i, L⟩ ⟨hi, hj, he⟩
  dsimp only at hi hj he ⊢
  try dsimp only [List.cons_append, List.nil_append, List.map_cons, List.map_nil]
  (repeat' (first|refine at_seq ?_|refine at_region ?_|refine ax_then ?_|refine atl_nil ?_|refine n_run ttok rfl rfl ?_|fail))
  refine at_cond rfl (fun h => ?_) (fun h => ?_)
  · have hil : i < l.length := by have := of_decide_eq_true h; simp at this; omega
    obtain ⟨z, hz⟩ : ∃ z, l[i]? = some z := ⟨_, List.getElem?_eq_getElem hil⟩
    have hzg := map_get (c := cAxis) hz
    (repeat' (first|refine at_seq ?_|refine at_region ?_|refine at_block ?_|refine at_skip ?_|refine ax_then ?_|refine atl_nil ?_|refine n_run ttok rfl rfl ?_|(apply s_index; first|refine n_index ttok ?_|refine n_indexP ttok ?_)|(apply s_store; first|refine n_storeF 7 ttok 0 rfl rfl rfl rfl rfl rfl rfl rfl ?_|refine n_storeF 7 ttok 1 rfl rfl rfl rfl rfl rfl rfl rfl ?_|refine n_storeF 7 ttok 2 rfl rfl rfl rfl rfl rfl rfl rfl ?_|refine n_store ttok 0 rfl rfl rfl rfl rfl rfl rfl ?_|refine n_store ttok 1 rfl rfl rfl rfl rfl rfl rfl ?_|refine n_store ttok 2 rfl rfl rfl rfl rfl rfl rfl ?_|refine n_store ttok 3 rfl rfl rfl rfl rfl rfl rfl ?_|fail)|refine n_alloc ttok fun _=>?_|fail))
    refine n_callF L [] (hw i z L hz hj) rfl hu rfl (perm_nil rfl) rfl rfl fun c L1 ⟨hc, hj'⟩ => ?_
    subst hc
    rw [List.append_nil]
    (repeat' (first|refine at_seq ?_|refine at_region ?_|refine ax_then ?_|refine atl_nil ?_|refine n_run ttok rfl rfl ?_|fail))
    refine at_cond rfl (fun h2 => ?_) (fun h2 => ?_)
    · have h2' := of_decide_eq_true h2
      (repeat' (first|refine at_seq ?_|refine at_region ?_|refine at_ret ?_|refine ax_then ?_|refine ax_then_ret ?_|refine ax_blk_ret ?_|refine ax_loop_ret ?_|refine atl_nil ?_|refine n_run ttok rfl rfl ?_|fail))
      refine ax_ret2 rfl rfl rfl ?_
      rw [he, eachGo_err hil h2']
      rfl
    · have h2' := Decidable.not_not.1 (of_decide_eq_false h2)
      (repeat' (first|refine at_region ?_|refine at_skip ?_|refine ax_then ?_|refine ax_blk ?_|refine atl_nil ?_|refine n_run ttok rfl rfl ?_|(apply s_bin; refine n_bin ?_)|fail))
      exact ax_roundK (i + 1, L1) rfl ⟨by rw [Int.natCast_add]; rfl, trivial⟩ ⟨by dsimp only; omega, hj' h2', by rw [he]; exact eachGo_zero hil h2'⟩ (by dsimp only; omega) (fun _ _ h => h)
  · have hil : i = l.length := by have := of_decide_eq_false h; simp at this; omega
    subst hil
    (repeat' (first|refine at_seq ?_|refine at_region ?_|refine at_ret ?_|refine at_exit ?_|refine ax_then ?_|refine ax_then_exit ?_|refine ax_blk_exit ?_|refine ax_loop_exit ?_|refine atl_nil ?_|refine n_run ttok rfl rfl ?_|fail))
    refine ax_ret2 rfl rfl rfl ?_
    rw [he, Nat.sub_self]
    rfl
theorem some181 {g : FuncId} {caps : List AV} {u : AV} [CFn Tryz.prog g] (hu : fnO u = some (g, caps)) (l : List FAxis) (most : Int) (err : Nat → Int) (J : Nat → AL → Prop) (L0 : AL) (h0 : J 0 L0) (hw : (l.length : Int) ≤ most → ∀ i x L, l[i]? = some x → J i L → AC Tryz.prog g ([I64 i, .agg (cAxis x)] ++ caps) L fun c L' => c = I64 (err i) ∧ (err i = 0 → J (i + 1) L')) :
    AC Tryz.prog 181 [.iptr [.imm 4 (l.map cAxis)], .iptr [I64 most], .iptr [u]] L0 fun r _ => r = tup2 (someE most err l.length) := by
  refine ac_of Tryz.func181 rfl Tryz.ntmps181 rfl fun B => ?_
  (repeat' (first|refine at_seq ?_|refine at_region ?_|refine ax_then ?_|refine atl_nil ?_|refine n_run ttok rfl rfl ?_|fail))
  refine at_cond rfl (fun h => ?_) (fun h => ?_)
  · have h' := of_decide_eq_true h
    rw [List.length_map] at h'
    (repeat' (first|refine at_seq ?_|refine at_region ?_|refine at_ret ?_|refine ax_then ?_|refine ax_then_ret ?_|refine atl_nil ?_|refine n_run ttok rfl rfl ?_|fail))
    refine ax_ret2 rfl rfl rfl ?_
    unfold someE
    rw [if_pos h']
    rfl
  · have h' := of_decide_eq_false h
    rw [List.length_map] at h'
    (repeat' (first|refine at_seq ?_|refine at_region ?_|refine at_skip ?_|refine ax_then ?_|refine n_run ttok rfl rfl ?_|fail))
    refine n_callA L0 [] (each182 hu l err J L0 h0 (hw (by omega))) rfl (fn_same hu) (perm_nil rfl) rfl fun c L1 hc => ?_
    subst hc
    (repeat' (first|refine at_ret ?_|refine ax_then ?_|refine atl_nil ?_|refine n_run ttok rfl rfl ?_|fail))
    refine ax_ret2 rfl rfl rfl ?_
    unfold someE
    rw [if_neg h']
    rfl
theorem mk100 {g : FuncId} {caps : List AV} (l : List FAxis) (most : Int) : ADet Tryz.prog 100 [.imm 4 (l.map cAxis), I64 most, .fn g caps] (.fn 181 [.iptr [.imm 4 (l.map cAxis)], .iptr [I64 most], .iptr [.fn g caps]]) := by
  refine ac_of Tryz.func100 rfl Tryz.ntmps100 rfl fun B => ?_
  (repeat' (first|refine at_seq ?_|refine at_region ?_|refine at_ret ?_|refine ax_then ?_|refine atl_nil ?_|refine n_run ttok rfl rfl ?_|refine n_boxI ?_|fail))
  exact ax_ret1 rfl rfl rfl
instance {g : FuncId} {caps : List AV} (l : List FAxis) (most : Int) : AD Tryz.prog 100 [.imm 4 (l.map cAxis), I64 most, .fn g caps] (.fn 181 [.iptr [.imm 4 (l.map cAxis)], .iptr [I64 most], .iptr [.fn g caps]]) := ⟨mk100 l most⟩
theorem each184 {g : FuncId} {caps : List AV} {u : AV} [CFn Tryz.prog g] (hu : fnO u = some (g, caps)) (l : List (List FTent)) (err : Nat → Int) (J : Nat → AL → Prop) (L0 : AL) (h0 : J 0 L0) (hw : ∀ i x L, l[i]? = some x → J i L → AC Tryz.prog g ([I64 i, .agg (cRegion x)] ++ caps) L fun c L' => c = I64 (err i) ∧ (err i = 0 → J (i + 1) L')) :
    AC Tryz.prog 184 [.imm 1 (l.map cRegion), u] L0 fun r _ => r = tup2 (eachE err l.length) := by
  refine ac_of Tryz.func184 rfl Tryz.ntmps184 rfl fun B => ?_
  refine at_len 0 rfl rfl fun hlen => ?_
  rw [List.length_map] at hlen
  (repeat' (first|refine at_seq ?_|refine at_region ?_|refine at_block ?_|refine ax_then ?_|refine atl_nil ?_|refine n_run ttok rfl rfl ?_|fail))
  refine at_loopK [1, 9, 10] (α := Nat × AL) (fun i => [(11, I64 i.1)]) (fun i => i.1 ≤ l.length ∧ J i.1 i.2 ∧ eachE err l.length = eachGo err (l.length - i.1) i.1) (fun i => i.2) (fun i => l.length - i.1) (0, L0) rfl ⟨rfl, trivial⟩ ⟨Nat.zero_le _, h0, rfl⟩ (fun _ _ h => h) ?_
  rintro ⟨i, L⟩ ⟨hi, hj, he⟩
  dsimp only at hi hj he ⊢
  try dsimp only [List.cons_append, List.nil_append, List.map_cons, List.map_nil]
  (repeat' (first|refine at_seq ?_|refine at_region ?_|refine ax_then ?_|refine atl_nil ?_|refine n_run ttok rfl rfl ?_|fail))
  refine at_cond rfl (fun h => ?_) (fun h => ?_)
  · have hil : i < l.length := by have := of_decide_eq_true h; simp at this; omega
    obtain ⟨z, hz⟩ : ∃ z, l[i]? = some z := ⟨_, List.getElem?_eq_getElem hil⟩
    have hzg := map_get (c := cRegion) hz
    (repeat' (first|refine at_seq ?_|refine at_region ?_|refine at_block ?_|refine at_skip ?_|refine ax_then ?_|refine atl_nil ?_|refine n_run ttok rfl rfl ?_|(apply s_index; first|refine n_index ttok ?_|refine n_indexP ttok ?_)|(apply s_store; first|refine n_storeF 7 ttok 0 rfl rfl rfl rfl rfl rfl rfl rfl ?_|refine n_storeF 7 ttok 1 rfl rfl rfl rfl rfl rfl rfl rfl ?_|refine n_storeF 7 ttok 2 rfl rfl rfl rfl rfl rfl rfl rfl ?_|refine n_store ttok 0 rfl rfl rfl rfl rfl rfl rfl ?_|refine n_store ttok 1 rfl rfl rfl rfl rfl rfl rfl ?_|refine n_store ttok 2 rfl rfl rfl rfl rfl rfl rfl ?_|refine n_store ttok 3 rfl rfl rfl rfl rfl rfl rfl ?_|fail)|refine n_alloc ttok fun _=>?_|fail))
    refine n_callF L [] (hw i z L hz hj) rfl hu rfl (perm_nil rfl) rfl rfl fun c L1 ⟨hc, hj'⟩ => ?_
    subst hc
    rw [List.append_nil]
    (repeat' (first|refine at_seq ?_|refine at_region ?_|refine ax_then ?_|refine atl_nil ?_|refine n_run ttok rfl rfl ?_|fail))
    refine at_cond rfl (fun h2 => ?_) (fun h2 => ?_)
    · have h2' := of_decide_eq_true h2
      (repeat' (first|refine at_seq ?_|refine at_region ?_|refine at_ret ?_|refine ax_then ?_|refine ax_then_ret ?_|refine ax_blk_ret ?_|refine ax_loop_ret ?_|refine atl_nil ?_|refine n_run ttok rfl rfl ?_|fail))
      refine ax_ret2 rfl rfl rfl ?_
      rw [he, eachGo_err hil h2']
      rfl
    · have h2' := Decidable.not_not.1 (of_decide_eq_false h2)
      (repeat' (first|refine at_region ?_|refine at_skip ?_|refine ax_then ?_|refine ax_blk ?_|refine atl_nil ?_|refine n_run ttok rfl rfl ?_|(apply s_bin; refine n_bin ?_)|fail))
      exact ax_roundK (i + 1, L1) rfl ⟨by rw [Int.natCast_add]; rfl, trivial⟩ ⟨by dsimp only; omega, hj' h2', by rw [he]; exact eachGo_zero hil h2'⟩ (by dsimp only; omega) (fun _ _ h => h)
  · have hil : i = l.length := by have := of_decide_eq_false h; simp at this; omega
    subst hil
    (repeat' (first|refine at_seq ?_|refine at_region ?_|refine at_ret ?_|refine at_exit ?_|refine ax_then ?_|refine ax_then_exit ?_|refine ax_blk_exit ?_|refine ax_loop_exit ?_|refine atl_nil ?_|refine n_run ttok rfl rfl ?_|fail))
    refine ax_ret2 rfl rfl rfl ?_
    rw [he, Nat.sub_self]
    rfl
theorem some183 {g : FuncId} {caps : List AV} {u : AV} [CFn Tryz.prog g] (hu : fnO u = some (g, caps)) (l : List (List FTent)) (most : Int) (err : Nat → Int) (J : Nat → AL → Prop) (L0 : AL) (h0 : J 0 L0) (hw : (l.length : Int) ≤ most → ∀ i x L, l[i]? = some x → J i L → AC Tryz.prog g ([I64 i, .agg (cRegion x)] ++ caps) L fun c L' => c = I64 (err i) ∧ (err i = 0 → J (i + 1) L')) :
    AC Tryz.prog 183 [.iptr [.imm 1 (l.map cRegion)], .iptr [I64 most], .iptr [u]] L0 fun r _ => r = tup2 (someE most err l.length) := by
  refine ac_of Tryz.func183 rfl Tryz.ntmps183 rfl fun B => ?_
  (repeat' (first|refine at_seq ?_|refine at_region ?_|refine ax_then ?_|refine atl_nil ?_|refine n_run ttok rfl rfl ?_|fail))
  refine at_cond rfl (fun h => ?_) (fun h => ?_)
  · have h' := of_decide_eq_true h
    rw [List.length_map] at h'
    (repeat' (first|refine at_seq ?_|refine at_region ?_|refine at_ret ?_|refine ax_then ?_|refine ax_then_ret ?_|refine atl_nil ?_|refine n_run ttok rfl rfl ?_|fail))
    refine ax_ret2 rfl rfl rfl ?_
    unfold someE
    rw [if_pos h']
    rfl
  · have h' := of_decide_eq_false h
    rw [List.length_map] at h'
    (repeat' (first|refine at_seq ?_|refine at_region ?_|refine at_skip ?_|refine ax_then ?_|refine n_run ttok rfl rfl ?_|fail))
    refine n_callA L0 [] (each184 hu l err J L0 h0 (hw (by omega))) rfl (fn_same hu) (perm_nil rfl) rfl fun c L1 hc => ?_
    subst hc
    (repeat' (first|refine at_ret ?_|refine ax_then ?_|refine atl_nil ?_|refine n_run ttok rfl rfl ?_|fail))
    refine ax_ret2 rfl rfl rfl ?_
    unfold someE
    rw [if_neg h']
    rfl
theorem mk103 {g : FuncId} {caps : List AV} (l : List (List FTent)) (most : Int) : ADet Tryz.prog 103 [.imm 1 (l.map cRegion), I64 most, .fn g caps] (.fn 183 [.iptr [.imm 1 (l.map cRegion)], .iptr [I64 most], .iptr [.fn g caps]]) := by
  refine ac_of Tryz.func103 rfl Tryz.ntmps103 rfl fun B => ?_
  (repeat' (first|refine at_seq ?_|refine at_region ?_|refine at_ret ?_|refine ax_then ?_|refine atl_nil ?_|refine n_run ttok rfl rfl ?_|refine n_boxI ?_|fail))
  exact ax_ret1 rfl rfl rfl
instance {g : FuncId} {caps : List AV} (l : List (List FTent)) (most : Int) : AD Tryz.prog 103 [.imm 1 (l.map cRegion), I64 most, .fn g caps] (.fn 183 [.iptr [.imm 1 (l.map cRegion)], .iptr [I64 most], .iptr [.fn g caps]]) := ⟨mk103 l most⟩
theorem each185 {g : FuncId} {caps : List AV} {u : AV} [CFn Tryz.prog g] (hu : fnO u = some (g, caps)) (l : List FTent) (err : Nat → Int) (J : Nat → AL → Prop) (L0 : AL) (h0 : J 0 L0) (hw : ∀ i x L, l[i]? = some x → J i L → AC Tryz.prog g ([I64 i, .agg (cTent x)] ++ caps) L fun c L' => c = I64 (err i) ∧ (err i = 0 → J (i + 1) L')) :
    AC Tryz.prog 185 [.imm 3 (l.map cTent), u] L0 fun r _ => r = tup2 (eachE err l.length) := by
  refine ac_of Tryz.func185 rfl Tryz.ntmps185 rfl fun B => ?_
  refine at_len 0 rfl rfl fun hlen => ?_
  rw [List.length_map] at hlen
  (repeat' (first|refine at_seq ?_|refine at_region ?_|refine at_block ?_|refine ax_then ?_|refine atl_nil ?_|refine n_run ttok rfl rfl ?_|fail))
  refine at_loopK [1, 9, 10] (α := Nat × AL) (fun i => [(11, I64 i.1)]) (fun i => i.1 ≤ l.length ∧ J i.1 i.2 ∧ eachE err l.length = eachGo err (l.length - i.1) i.1) (fun i => i.2) (fun i => l.length - i.1) (0, L0) rfl ⟨rfl, trivial⟩ ⟨Nat.zero_le _, h0, rfl⟩ (fun _ _ h => h) ?_
  rintro ⟨i, L⟩ ⟨hi, hj, he⟩
  dsimp only at hi hj he ⊢
  try dsimp only [List.cons_append, List.nil_append, List.map_cons, List.map_nil]
  (repeat' (first|refine at_seq ?_|refine at_region ?_|refine ax_then ?_|refine atl_nil ?_|refine n_run ttok rfl rfl ?_|fail))
  refine at_cond rfl (fun h => ?_) (fun h => ?_)
  · have hil : i < l.length := by have := of_decide_eq_true h; simp at this; omega
    obtain ⟨z, hz⟩ : ∃ z, l[i]? = some z := ⟨_, List.getElem?_eq_getElem hil⟩
    have hzg := map_get (c := cTent) hz
    (repeat' (first|refine at_seq ?_|refine at_region ?_|refine at_block ?_|refine at_skip ?_|refine ax_then ?_|refine atl_nil ?_|refine n_run ttok rfl rfl ?_|(apply s_index; first|refine n_index ttok ?_|refine n_indexP ttok ?_)|(apply s_store; first|refine n_storeF 7 ttok 0 rfl rfl rfl rfl rfl rfl rfl rfl ?_|refine n_storeF 7 ttok 1 rfl rfl rfl rfl rfl rfl rfl rfl ?_|refine n_storeF 7 ttok 2 rfl rfl rfl rfl rfl rfl rfl rfl ?_|refine n_store ttok 0 rfl rfl rfl rfl rfl rfl rfl ?_|refine n_store ttok 1 rfl rfl rfl rfl rfl rfl rfl ?_|refine n_store ttok 2 rfl rfl rfl rfl rfl rfl rfl ?_|refine n_store ttok 3 rfl rfl rfl rfl rfl rfl rfl ?_|fail)|refine n_alloc ttok fun _=>?_|fail))
    refine n_callF L [] (hw i z L hz hj) rfl hu rfl (perm_nil rfl) rfl rfl fun c L1 ⟨hc, hj'⟩ => ?_
    subst hc
    rw [List.append_nil]
    (repeat' (first|refine at_seq ?_|refine at_region ?_|refine ax_then ?_|refine atl_nil ?_|refine n_run ttok rfl rfl ?_|fail))
    refine at_cond rfl (fun h2 => ?_) (fun h2 => ?_)
    · have h2' := of_decide_eq_true h2
      (repeat' (first|refine at_seq ?_|refine at_region ?_|refine at_ret ?_|refine ax_then ?_|refine ax_then_ret ?_|refine ax_blk_ret ?_|refine ax_loop_ret ?_|refine atl_nil ?_|refine n_run ttok rfl rfl ?_|fail))
      refine ax_ret2 rfl rfl rfl ?_
      rw [he, eachGo_err hil h2']
      rfl
    · have h2' := Decidable.not_not.1 (of_decide_eq_false h2)
      (repeat' (first|refine at_region ?_|refine at_skip ?_|refine ax_then ?_|refine ax_blk ?_|refine atl_nil ?_|refine n_run ttok rfl rfl ?_|(apply s_bin; refine n_bin ?_)|fail))
      exact ax_roundK (i + 1, L1) rfl ⟨by rw [Int.natCast_add]; rfl, trivial⟩ ⟨by dsimp only; omega, hj' h2', by rw [he]; exact eachGo_zero hil h2'⟩ (by dsimp only; omega) (fun _ _ h => h)
  · have hil : i = l.length := by have := of_decide_eq_false h; simp at this; omega
    subst hil
    (repeat' (first|refine at_seq ?_|refine at_region ?_|refine at_ret ?_|refine at_exit ?_|refine ax_then ?_|refine ax_then_exit ?_|refine ax_blk_exit ?_|refine ax_loop_exit ?_|refine atl_nil ?_|refine n_run ttok rfl rfl ?_|fail))
    refine ax_ret2 rfl rfl rfl ?_
    rw [he, Nat.sub_self]
    rfl
theorem each188 {g : FuncId} {caps : List AV} {u : AV} [CFn Tryz.prog g] (hu : fnO u = some (g, caps)) (l : List (List FIns)) (err : Nat → Int) (J : Nat → AL → Prop) (L0 : AL) (h0 : J 0 L0) (hw : ∀ i x L, l[i]? = some x → J i L → AC Tryz.prog g ([I64 i, .imm 2 (x.map cIns)] ++ caps) L fun c L' => c = I64 (err i) ∧ (err i = 0 → J (i + 1) L')) :
    AC Tryz.prog 188 [.imm 1 (l.map cCode), u] L0 fun r _ => r = tup2 (eachE err l.length) := by
  refine ac_of Tryz.func188 rfl Tryz.ntmps188 rfl fun B => ?_
  refine at_len 0 rfl rfl fun hlen => ?_
  rw [List.length_map] at hlen
  (repeat' (first|refine at_seq ?_|refine at_region ?_|refine at_block ?_|refine ax_then ?_|refine atl_nil ?_|refine n_run ttok rfl rfl ?_|fail))
  refine at_loopK [1, 9, 10] (α := Nat × AL) (fun i => [(11, I64 i.1)]) (fun i => i.1 ≤ l.length ∧ J i.1 i.2 ∧ eachE err l.length = eachGo err (l.length - i.1) i.1) (fun i => i.2) (fun i => l.length - i.1) (0, L0) rfl ⟨rfl, trivial⟩ ⟨Nat.zero_le _, h0, rfl⟩ (fun _ _ h => h) ?_
  rintro ⟨i, L⟩ ⟨hi, hj, he⟩
  dsimp only at hi hj he ⊢
  try dsimp only [List.cons_append, List.nil_append, List.map_cons, List.map_nil]
  (repeat' (first|refine at_seq ?_|refine at_region ?_|refine ax_then ?_|refine atl_nil ?_|refine n_run ttok rfl rfl ?_|fail))
  refine at_cond rfl (fun h => ?_) (fun h => ?_)
  · have hil : i < l.length := by have := of_decide_eq_true h; simp at this; omega
    obtain ⟨z, hz⟩ : ∃ z, l[i]? = some z := ⟨_, List.getElem?_eq_getElem hil⟩
    have hzg := map_get (c := cCode) hz
    (repeat' (first|refine at_seq ?_|refine at_region ?_|refine at_block ?_|refine at_skip ?_|refine ax_then ?_|refine atl_nil ?_|refine n_run ttok rfl rfl ?_|(apply s_index; first|refine n_index ttok ?_|refine n_indexP ttok ?_)|fail))
    refine n_callF L [] (hw i z L hz hj) rfl hu rfl (perm_nil rfl) rfl rfl fun c L1 ⟨hc, hj'⟩ => ?_
    subst hc
    rw [List.append_nil]
    (repeat' (first|refine at_seq ?_|refine at_region ?_|refine ax_then ?_|refine atl_nil ?_|refine n_run ttok rfl rfl ?_|fail))
    refine at_cond rfl (fun h2 => ?_) (fun h2 => ?_)
    · have h2' := of_decide_eq_true h2
      (repeat' (first|refine at_seq ?_|refine at_region ?_|refine at_ret ?_|refine ax_then ?_|refine ax_then_ret ?_|refine ax_blk_ret ?_|refine ax_loop_ret ?_|refine atl_nil ?_|refine n_run ttok rfl rfl ?_|fail))
      refine ax_ret2 rfl rfl rfl ?_
      rw [he, eachGo_err hil h2']
      rfl
    · have h2' := Decidable.not_not.1 (of_decide_eq_false h2)
      (repeat' (first|refine at_region ?_|refine at_skip ?_|refine ax_then ?_|refine ax_blk ?_|refine atl_nil ?_|refine n_run ttok rfl rfl ?_|(apply s_bin; refine n_bin ?_)|fail))
      exact ax_roundK (i + 1, L1) rfl ⟨by rw [Int.natCast_add]; rfl, trivial⟩ ⟨by dsimp only; omega, hj' h2', by rw [he]; exact eachGo_zero hil h2'⟩ (by dsimp only; omega) (fun _ _ h => h)
  · have hil : i = l.length := by have := of_decide_eq_false h; simp at this; omega
    subst hil
    (repeat' (first|refine at_seq ?_|refine at_region ?_|refine at_ret ?_|refine at_exit ?_|refine ax_then ?_|refine ax_then_exit ?_|refine ax_blk_exit ?_|refine ax_loop_exit ?_|refine atl_nil ?_|refine n_run ttok rfl rfl ?_|fail))
    refine ax_ret2 rfl rfl rfl ?_
    rw [he, Nat.sub_self]
    rfl
theorem some187 {g : FuncId} {caps : List AV} {u : AV} [CFn Tryz.prog g] (hu : fnO u = some (g, caps)) (l : List (List FIns)) (most : Int) (err : Nat → Int) (J : Nat → AL → Prop) (L0 : AL) (h0 : J 0 L0) (hw : (l.length : Int) ≤ most → ∀ i x L, l[i]? = some x → J i L → AC Tryz.prog g ([I64 i, .imm 2 (x.map cIns)] ++ caps) L fun c L' => c = I64 (err i) ∧ (err i = 0 → J (i + 1) L')) :
    AC Tryz.prog 187 [.iptr [.imm 1 (l.map cCode)], .iptr [I64 most], .iptr [u]] L0 fun r _ => r = tup2 (someE most err l.length) := by
  refine ac_of Tryz.func187 rfl Tryz.ntmps187 rfl fun B => ?_
  (repeat' (first|refine at_seq ?_|refine at_region ?_|refine ax_then ?_|refine atl_nil ?_|refine n_run ttok rfl rfl ?_|fail))
  refine at_cond rfl (fun h => ?_) (fun h => ?_)
  · have h' := of_decide_eq_true h
    rw [List.length_map] at h'
    (repeat' (first|refine at_seq ?_|refine at_region ?_|refine at_ret ?_|refine ax_then ?_|refine ax_then_ret ?_|refine atl_nil ?_|refine n_run ttok rfl rfl ?_|fail))
    refine ax_ret2 rfl rfl rfl ?_
    unfold someE
    rw [if_pos h']
    rfl
  · have h' := of_decide_eq_false h
    rw [List.length_map] at h'
    (repeat' (first|refine at_seq ?_|refine at_region ?_|refine at_skip ?_|refine ax_then ?_|refine n_run ttok rfl rfl ?_|fail))
    refine n_callA L0 [] (each188 hu l err J L0 h0 (hw (by omega))) rfl (fn_same hu) (perm_nil rfl) rfl fun c L1 hc => ?_
    subst hc
    (repeat' (first|refine at_ret ?_|refine ax_then ?_|refine atl_nil ?_|refine n_run ttok rfl rfl ?_|fail))
    refine ax_ret2 rfl rfl rfl ?_
    unfold someE
    rw [if_neg h']
    rfl
theorem mkF106 {g : FuncId} (l : List (List FIns)) (most : Int) : ADet Tryz.prog 106 [.imm 1 (l.map cCode), I64 most, .sc (.func (.func g) #[] #[])] (.fn 187 [.iptr [.imm 1 (l.map cCode)], .iptr [I64 most], .iptr [.sc (.func (.func g) #[] #[])]]) := by
  refine ac_of Tryz.func106 rfl Tryz.ntmps106 rfl fun B => ?_
  (repeat' (first|refine at_seq ?_|refine at_region ?_|refine at_ret ?_|refine ax_then ?_|refine atl_nil ?_|refine n_run ttok rfl rfl ?_|refine n_boxI ?_|fail))
  exact ax_ret1 rfl rfl rfl
instance {g : FuncId} (l : List (List FIns)) (most : Int) : AD Tryz.prog 106 [.imm 1 (l.map cCode), I64 most, .sc (.func (.func g) #[] #[])] (.fn 187 [.iptr [.imm 1 (l.map cCode)], .iptr [I64 most], .iptr [.sc (.func (.func g) #[] #[])]]) := ⟨mkF106 l most⟩
theorem each222 {g : FuncId} {caps : List AV} {u : AV} [CFn Tryz.prog g] (hu : fnO u = some (g, caps)) (l : List FPoint) (err : Nat → Int) (J : Nat → AL → Prop) (L0 : AL) (h0 : J 0 L0) (hw : ∀ i x L, l[i]? = some x → J i L → AC Tryz.prog g ([I64 i, .agg (cPoint x)] ++ caps) L fun c L' => c = I64 (err i) ∧ (err i = 0 → J (i + 1) L')) :
    AC Tryz.prog 222 [.imm 3 (l.map cPoint), u] L0 fun r _ => r = tup2 (eachE err l.length) := by
  refine ac_of Tryz.func222 rfl Tryz.ntmps222 rfl fun B => ?_
  refine at_len 0 rfl rfl fun hlen => ?_
  rw [List.length_map] at hlen
  (repeat' (first|refine at_seq ?_|refine at_region ?_|refine at_block ?_|refine ax_then ?_|refine atl_nil ?_|refine n_run ttok rfl rfl ?_|fail))
  refine at_loopK [1, 9, 10] (α := Nat × AL) (fun i => [(11, I64 i.1)]) (fun i => i.1 ≤ l.length ∧ J i.1 i.2 ∧ eachE err l.length = eachGo err (l.length - i.1) i.1) (fun i => i.2) (fun i => l.length - i.1) (0, L0) rfl ⟨rfl, trivial⟩ ⟨Nat.zero_le _, h0, rfl⟩ (fun _ _ h => h) ?_
  rintro ⟨i, L⟩ ⟨hi, hj, he⟩
  dsimp only at hi hj he ⊢
  try dsimp only [List.cons_append, List.nil_append, List.map_cons, List.map_nil]
  (repeat' (first|refine at_seq ?_|refine at_region ?_|refine ax_then ?_|refine atl_nil ?_|refine n_run ttok rfl rfl ?_|fail))
  refine at_cond rfl (fun h => ?_) (fun h => ?_)
  · have hil : i < l.length := by have := of_decide_eq_true h; simp at this; omega
    obtain ⟨z, hz⟩ : ∃ z, l[i]? = some z := ⟨_, List.getElem?_eq_getElem hil⟩
    have hzg := map_get (c := cPoint) hz
    (repeat' (first|refine at_seq ?_|refine at_region ?_|refine at_block ?_|refine at_skip ?_|refine ax_then ?_|refine atl_nil ?_|refine n_run ttok rfl rfl ?_|(apply s_index; first|refine n_index ttok ?_|refine n_indexP ttok ?_)|(apply s_store; first|refine n_storeF 7 ttok 0 rfl rfl rfl rfl rfl rfl rfl rfl ?_|refine n_storeF 7 ttok 1 rfl rfl rfl rfl rfl rfl rfl rfl ?_|refine n_storeF 7 ttok 2 rfl rfl rfl rfl rfl rfl rfl rfl ?_|refine n_store ttok 0 rfl rfl rfl rfl rfl rfl rfl ?_|refine n_store ttok 1 rfl rfl rfl rfl rfl rfl rfl ?_|refine n_store ttok 2 rfl rfl rfl rfl rfl rfl rfl ?_|refine n_store ttok 3 rfl rfl rfl rfl rfl rfl rfl ?_|fail)|refine n_alloc ttok fun _=>?_|fail))
    refine n_callF L [] (hw i z L hz hj) rfl hu rfl (perm_nil rfl) rfl rfl fun c L1 ⟨hc, hj'⟩ => ?_
    subst hc
    rw [List.append_nil]
    (repeat' (first|refine at_seq ?_|refine at_region ?_|refine ax_then ?_|refine atl_nil ?_|refine n_run ttok rfl rfl ?_|fail))
    refine at_cond rfl (fun h2 => ?_) (fun h2 => ?_)
    · have h2' := of_decide_eq_true h2
      (repeat' (first|refine at_seq ?_|refine at_region ?_|refine at_ret ?_|refine ax_then ?_|refine ax_then_ret ?_|refine ax_blk_ret ?_|refine ax_loop_ret ?_|refine atl_nil ?_|refine n_run ttok rfl rfl ?_|fail))
      refine ax_ret2 rfl rfl rfl ?_
      rw [he, eachGo_err hil h2']
      rfl
    · have h2' := Decidable.not_not.1 (of_decide_eq_false h2)
      (repeat' (first|refine at_region ?_|refine at_skip ?_|refine ax_then ?_|refine ax_blk ?_|refine atl_nil ?_|refine n_run ttok rfl rfl ?_|(apply s_bin; refine n_bin ?_)|fail))
      exact ax_roundK (i + 1, L1) rfl ⟨by rw [Int.natCast_add]; rfl, trivial⟩ ⟨by dsimp only; omega, hj' h2', by rw [he]; exact eachGo_zero hil h2'⟩ (by dsimp only; omega) (fun _ _ h => h)
  · have hil : i = l.length := by have := of_decide_eq_false h; simp at this; omega
    subst hil
    (repeat' (first|refine at_seq ?_|refine at_region ?_|refine at_ret ?_|refine at_exit ?_|refine ax_then ?_|refine ax_then_exit ?_|refine ax_blk_exit ?_|refine ax_loop_exit ?_|refine atl_nil ?_|refine n_run ttok rfl rfl ?_|fail))
    refine ax_ret2 rfl rfl rfl ?_
    rw [he, Nat.sub_self]
    rfl
theorem each226 {g : FuncId} {caps : List AV} {u : AV} [CFn Tryz.prog g] (hu : fnO u = some (g, caps)) (l : List FPart) (err : Nat → Int) (J : Nat → AL → Prop) (L0 : AL) (h0 : J 0 L0) (hw : ∀ i x L, l[i]? = some x → J i L → AC Tryz.prog g ([I64 i, .agg (cPart x)] ++ caps) L fun c L' => c = I64 (err i) ∧ (err i = 0 → J (i + 1) L')) :
    AC Tryz.prog 226 [.imm 3 (l.map cPart), u] L0 fun r _ => r = tup2 (eachE err l.length) := by
  refine ac_of Tryz.func226 rfl Tryz.ntmps226 rfl fun B => ?_
  refine at_len 0 rfl rfl fun hlen => ?_
  rw [List.length_map] at hlen
  (repeat' (first|refine at_seq ?_|refine at_region ?_|refine at_block ?_|refine ax_then ?_|refine atl_nil ?_|refine n_run ttok rfl rfl ?_|fail))
  refine at_loopK [1, 9, 10] (α := Nat × AL) (fun i => [(11, I64 i.1)]) (fun i => i.1 ≤ l.length ∧ J i.1 i.2 ∧ eachE err l.length = eachGo err (l.length - i.1) i.1) (fun i => i.2) (fun i => l.length - i.1) (0, L0) rfl ⟨rfl, trivial⟩ ⟨Nat.zero_le _, h0, rfl⟩ (fun _ _ h => h) ?_
  rintro ⟨i, L⟩ ⟨hi, hj, he⟩
  dsimp only at hi hj he ⊢
  try dsimp only [List.cons_append, List.nil_append, List.map_cons, List.map_nil]
  (repeat' (first|refine at_seq ?_|refine at_region ?_|refine ax_then ?_|refine atl_nil ?_|refine n_run ttok rfl rfl ?_|fail))
  refine at_cond rfl (fun h => ?_) (fun h => ?_)
  · have hil : i < l.length := by have := of_decide_eq_true h; simp at this; omega
    obtain ⟨z, hz⟩ : ∃ z, l[i]? = some z := ⟨_, List.getElem?_eq_getElem hil⟩
    have hzg := map_get (c := cPart) hz
    (repeat' (first|refine at_seq ?_|refine at_region ?_|refine at_block ?_|refine at_skip ?_|refine ax_then ?_|refine atl_nil ?_|refine n_run ttok rfl rfl ?_|(apply s_index; first|refine n_index ttok ?_|refine n_indexP ttok ?_)|(apply s_store; first|refine n_storeF 7 ttok 0 rfl rfl rfl rfl rfl rfl rfl rfl ?_|refine n_storeF 7 ttok 1 rfl rfl rfl rfl rfl rfl rfl rfl ?_|refine n_storeF 7 ttok 2 rfl rfl rfl rfl rfl rfl rfl rfl ?_|refine n_store ttok 0 rfl rfl rfl rfl rfl rfl rfl ?_|refine n_store ttok 1 rfl rfl rfl rfl rfl rfl rfl ?_|refine n_store ttok 2 rfl rfl rfl rfl rfl rfl rfl ?_|refine n_store ttok 3 rfl rfl rfl rfl rfl rfl rfl ?_|fail)|refine n_alloc ttok fun _=>?_|fail))
    refine n_callF L [] (hw i z L hz hj) rfl hu rfl (perm_nil rfl) rfl rfl fun c L1 ⟨hc, hj'⟩ => ?_
    subst hc
    rw [List.append_nil]
    (repeat' (first|refine at_seq ?_|refine at_region ?_|refine ax_then ?_|refine atl_nil ?_|refine n_run ttok rfl rfl ?_|fail))
    refine at_cond rfl (fun h2 => ?_) (fun h2 => ?_)
    · have h2' := of_decide_eq_true h2
      (repeat' (first|refine at_seq ?_|refine at_region ?_|refine at_ret ?_|refine ax_then ?_|refine ax_then_ret ?_|refine ax_blk_ret ?_|refine ax_loop_ret ?_|refine atl_nil ?_|refine n_run ttok rfl rfl ?_|fail))
      refine ax_ret2 rfl rfl rfl ?_
      rw [he, eachGo_err hil h2']
      rfl
    · have h2' := Decidable.not_not.1 (of_decide_eq_false h2)
      (repeat' (first|refine at_region ?_|refine at_skip ?_|refine ax_then ?_|refine ax_blk ?_|refine atl_nil ?_|refine n_run ttok rfl rfl ?_|(apply s_bin; refine n_bin ?_)|fail))
      exact ax_roundK (i + 1, L1) rfl ⟨by rw [Int.natCast_add]; rfl, trivial⟩ ⟨by dsimp only; omega, hj' h2', by rw [he]; exact eachGo_zero hil h2'⟩ (by dsimp only; omega) (fun _ _ h => h)
  · have hil : i = l.length := by have := of_decide_eq_false h; simp at this; omega
    subst hil
    (repeat' (first|refine at_seq ?_|refine at_region ?_|refine at_ret ?_|refine at_exit ?_|refine ax_then ?_|refine ax_then_exit ?_|refine ax_blk_exit ?_|refine ax_loop_exit ?_|refine atl_nil ?_|refine n_run ttok rfl rfl ?_|fail))
    refine ax_ret2 rfl rfl rfl ?_
    rw [he, Nat.sub_self]
    rfl
theorem some225 {g : FuncId} {caps : List AV} {u : AV} [CFn Tryz.prog g] (hu : fnO u = some (g, caps)) (l : List FPart) (most : Int) (err : Nat → Int) (J : Nat → AL → Prop) (L0 : AL) (h0 : J 0 L0) (hw : (l.length : Int) ≤ most → ∀ i x L, l[i]? = some x → J i L → AC Tryz.prog g ([I64 i, .agg (cPart x)] ++ caps) L fun c L' => c = I64 (err i) ∧ (err i = 0 → J (i + 1) L')) :
    AC Tryz.prog 225 [.iptr [.imm 3 (l.map cPart)], .iptr [I64 most], .iptr [u]] L0 fun r _ => r = tup2 (someE most err l.length) := by
  refine ac_of Tryz.func225 rfl Tryz.ntmps225 rfl fun B => ?_
  (repeat' (first|refine at_seq ?_|refine at_region ?_|refine ax_then ?_|refine atl_nil ?_|refine n_run ttok rfl rfl ?_|fail))
  refine at_cond rfl (fun h => ?_) (fun h => ?_)
  · have h' := of_decide_eq_true h
    rw [List.length_map] at h'
    (repeat' (first|refine at_seq ?_|refine at_region ?_|refine at_ret ?_|refine ax_then ?_|refine ax_then_ret ?_|refine atl_nil ?_|refine n_run ttok rfl rfl ?_|fail))
    refine ax_ret2 rfl rfl rfl ?_
    unfold someE
    rw [if_pos h']
    rfl
  · have h' := of_decide_eq_false h
    rw [List.length_map] at h'
    (repeat' (first|refine at_seq ?_|refine at_region ?_|refine at_skip ?_|refine ax_then ?_|refine n_run ttok rfl rfl ?_|fail))
    refine n_callA L0 [] (each226 hu l err J L0 h0 (hw (by omega))) rfl (fn_same hu) (perm_nil rfl) rfl fun c L1 hc => ?_
    subst hc
    (repeat' (first|refine at_ret ?_|refine ax_then ?_|refine atl_nil ?_|refine n_run ttok rfl rfl ?_|fail))
    refine ax_ret2 rfl rfl rfl ?_
    unfold someE
    rw [if_neg h']
    rfl
theorem mk153 {g : FuncId} {caps : List AV} (l : List FPart) (most : Int) : ADet Tryz.prog 153 [.imm 3 (l.map cPart), I64 most, .fn g caps] (.fn 225 [.iptr [.imm 3 (l.map cPart)], .iptr [I64 most], .iptr [.fn g caps]]) := by
  refine ac_of Tryz.func153 rfl Tryz.ntmps153 rfl fun B => ?_
  (repeat' (first|refine at_seq ?_|refine at_region ?_|refine at_ret ?_|refine ax_then ?_|refine atl_nil ?_|refine n_run ttok rfl rfl ?_|refine n_boxI ?_|fail))
  exact ax_ret1 rfl rfl rfl
instance {g : FuncId} {caps : List AV} (l : List FPart) (most : Int) : AD Tryz.prog 153 [.imm 3 (l.map cPart), I64 most, .fn g caps] (.fn 225 [.iptr [.imm 3 (l.map cPart)], .iptr [I64 most], .iptr [.fn g caps]]) := ⟨mk153 l most⟩
theorem each228 {g : FuncId} {caps : List AV} {u : AV} [CFn Tryz.prog g] (hu : fnO u = some (g, caps)) (l : List FAnchor) (err : Nat → Int) (J : Nat → AL → Prop) (L0 : AL) (h0 : J 0 L0) (hw : ∀ i x L, l[i]? = some x → J i L → AC Tryz.prog g ([I64 i, .agg (cAnchor x)] ++ caps) L fun c L' => c = I64 (err i) ∧ (err i = 0 → J (i + 1) L')) :
    AC Tryz.prog 228 [.imm 4 (l.map cAnchor), u] L0 fun r _ => r = tup2 (eachE err l.length) := by
  refine ac_of Tryz.func228 rfl Tryz.ntmps228 rfl fun B => ?_
  refine at_len 0 rfl rfl fun hlen => ?_
  rw [List.length_map] at hlen
  (repeat' (first|refine at_seq ?_|refine at_region ?_|refine at_block ?_|refine ax_then ?_|refine atl_nil ?_|refine n_run ttok rfl rfl ?_|fail))
  refine at_loopK [1, 9, 10] (α := Nat × AL) (fun i => [(11, I64 i.1)]) (fun i => i.1 ≤ l.length ∧ J i.1 i.2 ∧ eachE err l.length = eachGo err (l.length - i.1) i.1) (fun i => i.2) (fun i => l.length - i.1) (0, L0) rfl ⟨rfl, trivial⟩ ⟨Nat.zero_le _, h0, rfl⟩ (fun _ _ h => h) ?_
  rintro ⟨i, L⟩ ⟨hi, hj, he⟩
  dsimp only at hi hj he ⊢
  try dsimp only [List.cons_append, List.nil_append, List.map_cons, List.map_nil]
  (repeat' (first|refine at_seq ?_|refine at_region ?_|refine ax_then ?_|refine atl_nil ?_|refine n_run ttok rfl rfl ?_|fail))
  refine at_cond rfl (fun h => ?_) (fun h => ?_)
  · have hil : i < l.length := by have := of_decide_eq_true h; simp at this; omega
    obtain ⟨z, hz⟩ : ∃ z, l[i]? = some z := ⟨_, List.getElem?_eq_getElem hil⟩
    have hzg := map_get (c := cAnchor) hz
    (repeat' (first|refine at_seq ?_|refine at_region ?_|refine at_block ?_|refine at_skip ?_|refine ax_then ?_|refine atl_nil ?_|refine n_run ttok rfl rfl ?_|(apply s_index; first|refine n_index ttok ?_|refine n_indexP ttok ?_)|(apply s_store; first|refine n_storeF 7 ttok 0 rfl rfl rfl rfl rfl rfl rfl rfl ?_|refine n_storeF 7 ttok 1 rfl rfl rfl rfl rfl rfl rfl rfl ?_|refine n_storeF 7 ttok 2 rfl rfl rfl rfl rfl rfl rfl rfl ?_|refine n_store ttok 0 rfl rfl rfl rfl rfl rfl rfl ?_|refine n_store ttok 1 rfl rfl rfl rfl rfl rfl rfl ?_|refine n_store ttok 2 rfl rfl rfl rfl rfl rfl rfl ?_|refine n_store ttok 3 rfl rfl rfl rfl rfl rfl rfl ?_|fail)|refine n_alloc ttok fun _=>?_|fail))
    refine n_callF L [] (hw i z L hz hj) rfl hu rfl (perm_nil rfl) rfl rfl fun c L1 ⟨hc, hj'⟩ => ?_
    subst hc
    rw [List.append_nil]
    (repeat' (first|refine at_seq ?_|refine at_region ?_|refine ax_then ?_|refine atl_nil ?_|refine n_run ttok rfl rfl ?_|fail))
    refine at_cond rfl (fun h2 => ?_) (fun h2 => ?_)
    · have h2' := of_decide_eq_true h2
      (repeat' (first|refine at_seq ?_|refine at_region ?_|refine at_ret ?_|refine ax_then ?_|refine ax_then_ret ?_|refine ax_blk_ret ?_|refine ax_loop_ret ?_|refine atl_nil ?_|refine n_run ttok rfl rfl ?_|fail))
      refine ax_ret2 rfl rfl rfl ?_
      rw [he, eachGo_err hil h2']
      rfl
    · have h2' := Decidable.not_not.1 (of_decide_eq_false h2)
      (repeat' (first|refine at_region ?_|refine at_skip ?_|refine ax_then ?_|refine ax_blk ?_|refine atl_nil ?_|refine n_run ttok rfl rfl ?_|(apply s_bin; refine n_bin ?_)|fail))
      exact ax_roundK (i + 1, L1) rfl ⟨by rw [Int.natCast_add]; rfl, trivial⟩ ⟨by dsimp only; omega, hj' h2', by rw [he]; exact eachGo_zero hil h2'⟩ (by dsimp only; omega) (fun _ _ h => h)
  · have hil : i = l.length := by have := of_decide_eq_false h; simp at this; omega
    subst hil
    (repeat' (first|refine at_seq ?_|refine at_region ?_|refine at_ret ?_|refine at_exit ?_|refine ax_then ?_|refine ax_then_exit ?_|refine ax_blk_exit ?_|refine ax_loop_exit ?_|refine atl_nil ?_|refine n_run ttok rfl rfl ?_|fail))
    refine ax_ret2 rfl rfl rfl ?_
    rw [he, Nat.sub_self]
    rfl
theorem some227 {g : FuncId} {caps : List AV} {u : AV} [CFn Tryz.prog g] (hu : fnO u = some (g, caps)) (l : List FAnchor) (most : Int) (err : Nat → Int) (J : Nat → AL → Prop) (L0 : AL) (h0 : J 0 L0) (hw : (l.length : Int) ≤ most → ∀ i x L, l[i]? = some x → J i L → AC Tryz.prog g ([I64 i, .agg (cAnchor x)] ++ caps) L fun c L' => c = I64 (err i) ∧ (err i = 0 → J (i + 1) L')) :
    AC Tryz.prog 227 [.iptr [.imm 4 (l.map cAnchor)], .iptr [I64 most], .iptr [u]] L0 fun r _ => r = tup2 (someE most err l.length) := by
  refine ac_of Tryz.func227 rfl Tryz.ntmps227 rfl fun B => ?_
  (repeat' (first|refine at_seq ?_|refine at_region ?_|refine ax_then ?_|refine atl_nil ?_|refine n_run ttok rfl rfl ?_|fail))
  refine at_cond rfl (fun h => ?_) (fun h => ?_)
  · have h' := of_decide_eq_true h
    rw [List.length_map] at h'
    (repeat' (first|refine at_seq ?_|refine at_region ?_|refine at_ret ?_|refine ax_then ?_|refine ax_then_ret ?_|refine atl_nil ?_|refine n_run ttok rfl rfl ?_|fail))
    refine ax_ret2 rfl rfl rfl ?_
    unfold someE
    rw [if_pos h']
    rfl
  · have h' := of_decide_eq_false h
    rw [List.length_map] at h'
    (repeat' (first|refine at_seq ?_|refine at_region ?_|refine at_skip ?_|refine ax_then ?_|refine n_run ttok rfl rfl ?_|fail))
    refine n_callA L0 [] (each228 hu l err J L0 h0 (hw (by omega))) rfl (fn_same hu) (perm_nil rfl) rfl fun c L1 hc => ?_
    subst hc
    (repeat' (first|refine at_ret ?_|refine ax_then ?_|refine atl_nil ?_|refine n_run ttok rfl rfl ?_|fail))
    refine ax_ret2 rfl rfl rfl ?_
    unfold someE
    rw [if_neg h']
    rfl
theorem mk156 {g : FuncId} {caps : List AV} (l : List FAnchor) (most : Int) : ADet Tryz.prog 156 [.imm 4 (l.map cAnchor), I64 most, .fn g caps] (.fn 227 [.iptr [.imm 4 (l.map cAnchor)], .iptr [I64 most], .iptr [.fn g caps]]) := by
  refine ac_of Tryz.func156 rfl Tryz.ntmps156 rfl fun B => ?_
  (repeat' (first|refine at_seq ?_|refine at_region ?_|refine at_ret ?_|refine ax_then ?_|refine atl_nil ?_|refine n_run ttok rfl rfl ?_|refine n_boxI ?_|fail))
  exact ax_ret1 rfl rfl rfl
instance {g : FuncId} {caps : List AV} (l : List FAnchor) (most : Int) : AD Tryz.prog 156 [.imm 4 (l.map cAnchor), I64 most, .fn g caps] (.fn 227 [.iptr [.imm 4 (l.map cAnchor)], .iptr [I64 most], .iptr [.fn g caps]]) := ⟨mk156 l most⟩
theorem each231 {g : FuncId} {caps : List AV} {u : AV} [CFn Tryz.prog g] (hu : fnO u = some (g, caps)) (l : List FDelta) (err : Nat → Int) (J : Nat → AL → Prop) (L0 : AL) (h0 : J 0 L0) (hw : ∀ i x L, l[i]? = some x → J i L → AC Tryz.prog g ([I64 i, .agg (cDelta x)] ++ caps) L fun c L' => c = I64 (err i) ∧ (err i = 0 → J (i + 1) L')) :
    AC Tryz.prog 231 [.imm 4 (l.map cDelta), u] L0 fun r _ => r = tup2 (eachE err l.length) := by
  refine ac_of Tryz.func231 rfl Tryz.ntmps231 rfl fun B => ?_
  refine at_len 0 rfl rfl fun hlen => ?_
  rw [List.length_map] at hlen
  (repeat' (first|refine at_seq ?_|refine at_region ?_|refine at_block ?_|refine ax_then ?_|refine atl_nil ?_|refine n_run ttok rfl rfl ?_|fail))
  refine at_loopK [1, 9, 10] (α := Nat × AL) (fun i => [(11, I64 i.1)]) (fun i => i.1 ≤ l.length ∧ J i.1 i.2 ∧ eachE err l.length = eachGo err (l.length - i.1) i.1) (fun i => i.2) (fun i => l.length - i.1) (0, L0) rfl ⟨rfl, trivial⟩ ⟨Nat.zero_le _, h0, rfl⟩ (fun _ _ h => h) ?_
  rintro ⟨i, L⟩ ⟨hi, hj, he⟩
  dsimp only at hi hj he ⊢
  try dsimp only [List.cons_append, List.nil_append, List.map_cons, List.map_nil]
  (repeat' (first|refine at_seq ?_|refine at_region ?_|refine ax_then ?_|refine atl_nil ?_|refine n_run ttok rfl rfl ?_|fail))
  refine at_cond rfl (fun h => ?_) (fun h => ?_)
  · have hil : i < l.length := by have := of_decide_eq_true h; simp at this; omega
    obtain ⟨z, hz⟩ : ∃ z, l[i]? = some z := ⟨_, List.getElem?_eq_getElem hil⟩
    have hzg := map_get (c := cDelta) hz
    (repeat' (first|refine at_seq ?_|refine at_region ?_|refine at_block ?_|refine at_skip ?_|refine ax_then ?_|refine atl_nil ?_|refine n_run ttok rfl rfl ?_|(apply s_index; first|refine n_index ttok ?_|refine n_indexP ttok ?_)|(apply s_store; first|refine n_storeF 7 ttok 0 rfl rfl rfl rfl rfl rfl rfl rfl ?_|refine n_storeF 7 ttok 1 rfl rfl rfl rfl rfl rfl rfl rfl ?_|refine n_storeF 7 ttok 2 rfl rfl rfl rfl rfl rfl rfl rfl ?_|refine n_store ttok 0 rfl rfl rfl rfl rfl rfl rfl ?_|refine n_store ttok 1 rfl rfl rfl rfl rfl rfl rfl ?_|refine n_store ttok 2 rfl rfl rfl rfl rfl rfl rfl ?_|refine n_store ttok 3 rfl rfl rfl rfl rfl rfl rfl ?_|fail)|refine n_alloc ttok fun _=>?_|fail))
    refine n_callF L [] (hw i z L hz hj) rfl hu rfl (perm_nil rfl) rfl rfl fun c L1 ⟨hc, hj'⟩ => ?_
    subst hc
    rw [List.append_nil]
    (repeat' (first|refine at_seq ?_|refine at_region ?_|refine ax_then ?_|refine atl_nil ?_|refine n_run ttok rfl rfl ?_|fail))
    refine at_cond rfl (fun h2 => ?_) (fun h2 => ?_)
    · have h2' := of_decide_eq_true h2
      (repeat' (first|refine at_seq ?_|refine at_region ?_|refine at_ret ?_|refine ax_then ?_|refine ax_then_ret ?_|refine ax_blk_ret ?_|refine ax_loop_ret ?_|refine atl_nil ?_|refine n_run ttok rfl rfl ?_|fail))
      refine ax_ret2 rfl rfl rfl ?_
      rw [he, eachGo_err hil h2']
      rfl
    · have h2' := Decidable.not_not.1 (of_decide_eq_false h2)
      (repeat' (first|refine at_region ?_|refine at_skip ?_|refine ax_then ?_|refine ax_blk ?_|refine atl_nil ?_|refine n_run ttok rfl rfl ?_|(apply s_bin; refine n_bin ?_)|fail))
      exact ax_roundK (i + 1, L1) rfl ⟨by rw [Int.natCast_add]; rfl, trivial⟩ ⟨by dsimp only; omega, hj' h2', by rw [he]; exact eachGo_zero hil h2'⟩ (by dsimp only; omega) (fun _ _ h => h)
  · have hil : i = l.length := by have := of_decide_eq_false h; simp at this; omega
    subst hil
    (repeat' (first|refine at_seq ?_|refine at_region ?_|refine at_ret ?_|refine at_exit ?_|refine ax_then ?_|refine ax_then_exit ?_|refine ax_blk_exit ?_|refine ax_loop_exit ?_|refine atl_nil ?_|refine n_run ttok rfl rfl ?_|fail))
    refine ax_ret2 rfl rfl rfl ?_
    rw [he, Nat.sub_self]
    rfl
theorem some230 {g : FuncId} {caps : List AV} {u : AV} [CFn Tryz.prog g] (hu : fnO u = some (g, caps)) (l : List FDelta) (most : Int) (err : Nat → Int) (J : Nat → AL → Prop) (L0 : AL) (h0 : J 0 L0) (hw : (l.length : Int) ≤ most → ∀ i x L, l[i]? = some x → J i L → AC Tryz.prog g ([I64 i, .agg (cDelta x)] ++ caps) L fun c L' => c = I64 (err i) ∧ (err i = 0 → J (i + 1) L')) :
    AC Tryz.prog 230 [.iptr [.imm 4 (l.map cDelta)], .iptr [I64 most], .iptr [u]] L0 fun r _ => r = tup2 (someE most err l.length) := by
  refine ac_of Tryz.func230 rfl Tryz.ntmps230 rfl fun B => ?_
  (repeat' (first|refine at_seq ?_|refine at_region ?_|refine ax_then ?_|refine atl_nil ?_|refine n_run ttok rfl rfl ?_|fail))
  refine at_cond rfl (fun h => ?_) (fun h => ?_)
  · have h' := of_decide_eq_true h
    rw [List.length_map] at h'
    (repeat' (first|refine at_seq ?_|refine at_region ?_|refine at_ret ?_|refine ax_then ?_|refine ax_then_ret ?_|refine atl_nil ?_|refine n_run ttok rfl rfl ?_|fail))
    refine ax_ret2 rfl rfl rfl ?_
    unfold someE
    rw [if_pos h']
    rfl
  · have h' := of_decide_eq_false h
    rw [List.length_map] at h'
    (repeat' (first|refine at_seq ?_|refine at_region ?_|refine at_skip ?_|refine ax_then ?_|refine n_run ttok rfl rfl ?_|fail))
    refine n_callA L0 [] (each231 hu l err J L0 h0 (hw (by omega))) rfl (fn_same hu) (perm_nil rfl) rfl fun c L1 hc => ?_
    subst hc
    (repeat' (first|refine at_ret ?_|refine ax_then ?_|refine atl_nil ?_|refine n_run ttok rfl rfl ?_|fail))
    refine ax_ret2 rfl rfl rfl ?_
    unfold someE
    rw [if_neg h']
    rfl
theorem mk158 {g : FuncId} {caps : List AV} (l : List FDelta) (most : Int) : ADet Tryz.prog 158 [.imm 4 (l.map cDelta), I64 most, .fn g caps] (.fn 230 [.iptr [.imm 4 (l.map cDelta)], .iptr [I64 most], .iptr [.fn g caps]]) := by
  refine ac_of Tryz.func158 rfl Tryz.ntmps158 rfl fun B => ?_
  (repeat' (first|refine at_seq ?_|refine at_region ?_|refine at_ret ?_|refine ax_then ?_|refine atl_nil ?_|refine n_run ttok rfl rfl ?_|refine n_boxI ?_|fail))
  exact ax_ret1 rfl rfl rfl
instance {g : FuncId} {caps : List AV} (l : List FDelta) (most : Int) : AD Tryz.prog 158 [.imm 4 (l.map cDelta), I64 most, .fn g caps] (.fn 230 [.iptr [.imm 4 (l.map cDelta)], .iptr [I64 most], .iptr [.fn g caps]]) := ⟨mk158 l most⟩
theorem each239 {g : FuncId} {caps : List AV} {u : AV} [CFn Tryz.prog g] (hu : fnO u = some (g, caps)) (l : List (List Int)) (err : Nat → Int) (J : Nat → AL → Prop) (L0 : AL) (h0 : J 0 L0) (hw : ∀ i x L, l[i]? = some x → J i L → AC Tryz.prog g ([I64 i, .imm 1 (ints x)] ++ caps) L fun c L' => c = I64 (err i) ∧ (err i = 0 → J (i + 1) L')) :
    AC Tryz.prog 239 [.imm 1 (l.map cRow), u] L0 fun r _ => r = tup2 (eachE err l.length) := by
  refine ac_of Tryz.func239 rfl Tryz.ntmps239 rfl fun B => ?_
  refine at_len 0 rfl rfl fun hlen => ?_
  rw [List.length_map] at hlen
  (repeat' (first|refine at_seq ?_|refine at_region ?_|refine at_block ?_|refine ax_then ?_|refine atl_nil ?_|refine n_run ttok rfl rfl ?_|fail))
  refine at_loopK [1, 9, 10] (α := Nat × AL) (fun i => [(11, I64 i.1)]) (fun i => i.1 ≤ l.length ∧ J i.1 i.2 ∧ eachE err l.length = eachGo err (l.length - i.1) i.1) (fun i => i.2) (fun i => l.length - i.1) (0, L0) rfl ⟨rfl, trivial⟩ ⟨Nat.zero_le _, h0, rfl⟩ (fun _ _ h => h) ?_
  rintro ⟨i, L⟩ ⟨hi, hj, he⟩
  dsimp only at hi hj he ⊢
  try dsimp only [List.cons_append, List.nil_append, List.map_cons, List.map_nil]
  (repeat' (first|refine at_seq ?_|refine at_region ?_|refine ax_then ?_|refine atl_nil ?_|refine n_run ttok rfl rfl ?_|fail))
  refine at_cond rfl (fun h => ?_) (fun h => ?_)
  · have hil : i < l.length := by have := of_decide_eq_true h; simp at this; omega
    obtain ⟨z, hz⟩ : ∃ z, l[i]? = some z := ⟨_, List.getElem?_eq_getElem hil⟩
    have hzg := map_get (c := cRow) hz
    (repeat' (first|refine at_seq ?_|refine at_region ?_|refine at_block ?_|refine at_skip ?_|refine ax_then ?_|refine atl_nil ?_|refine n_run ttok rfl rfl ?_|(apply s_index; first|refine n_index ttok ?_|refine n_indexP ttok ?_)|fail))
    refine n_callF L [] (hw i z L hz hj) rfl hu rfl (perm_nil rfl) rfl rfl fun c L1 ⟨hc, hj'⟩ => ?_
    subst hc
    rw [List.append_nil]
    (repeat' (first|refine at_seq ?_|refine at_region ?_|refine ax_then ?_|refine atl_nil ?_|refine n_run ttok rfl rfl ?_|fail))
    refine at_cond rfl (fun h2 => ?_) (fun h2 => ?_)
    · have h2' := of_decide_eq_true h2
      (repeat' (first|refine at_seq ?_|refine at_region ?_|refine at_ret ?_|refine ax_then ?_|refine ax_then_ret ?_|refine ax_blk_ret ?_|refine ax_loop_ret ?_|refine atl_nil ?_|refine n_run ttok rfl rfl ?_|fail))
      refine ax_ret2 rfl rfl rfl ?_
      rw [he, eachGo_err hil h2']
      rfl
    · have h2' := Decidable.not_not.1 (of_decide_eq_false h2)
      (repeat' (first|refine at_region ?_|refine at_skip ?_|refine ax_then ?_|refine ax_blk ?_|refine atl_nil ?_|refine n_run ttok rfl rfl ?_|(apply s_bin; refine n_bin ?_)|fail))
      exact ax_roundK (i + 1, L1) rfl ⟨by rw [Int.natCast_add]; rfl, trivial⟩ ⟨by dsimp only; omega, hj' h2', by rw [he]; exact eachGo_zero hil h2'⟩ (by dsimp only; omega) (fun _ _ h => h)
  · have hil : i = l.length := by have := of_decide_eq_false h; simp at this; omega
    subst hil
    (repeat' (first|refine at_seq ?_|refine at_region ?_|refine at_ret ?_|refine at_exit ?_|refine ax_then ?_|refine ax_then_exit ?_|refine ax_blk_exit ?_|refine ax_loop_exit ?_|refine atl_nil ?_|refine n_run ttok rfl rfl ?_|fail))
    refine ax_ret2 rfl rfl rfl ?_
    rw [he, Nat.sub_self]
    rfl
theorem each251 {g : FuncId} {caps : List AV} {u : AV} [CFn Tryz.prog g] (hu : fnO u = some (g, caps)) (l : List FIns) (err : Nat → Int) (J : Nat → AL → Prop) (L0 : AL) (h0 : J 0 L0) (hw : ∀ i x L, l[i]? = some x → J i L → AC Tryz.prog g ([I64 i, .agg (cIns x)] ++ caps) L fun c L' => c = I64 (err i) ∧ (err i = 0 → J (i + 1) L')) :
    AC Tryz.prog 251 [.imm 2 (l.map cIns), u] L0 fun r _ => r = tup2 (eachE err l.length) := by
  refine ac_of Tryz.func251 rfl Tryz.ntmps251 rfl fun B => ?_
  refine at_len 0 rfl rfl fun hlen => ?_
  rw [List.length_map] at hlen
  (repeat' (first|refine at_seq ?_|refine at_region ?_|refine at_block ?_|refine ax_then ?_|refine atl_nil ?_|refine n_run ttok rfl rfl ?_|fail))
  refine at_loopK [1, 9, 10] (α := Nat × AL) (fun i => [(11, I64 i.1)]) (fun i => i.1 ≤ l.length ∧ J i.1 i.2 ∧ eachE err l.length = eachGo err (l.length - i.1) i.1) (fun i => i.2) (fun i => l.length - i.1) (0, L0) rfl ⟨rfl, trivial⟩ ⟨Nat.zero_le _, h0, rfl⟩ (fun _ _ h => h) ?_
  rintro ⟨i, L⟩ ⟨hi, hj, he⟩
  dsimp only at hi hj he ⊢
  try dsimp only [List.cons_append, List.nil_append, List.map_cons, List.map_nil]
  (repeat' (first|refine at_seq ?_|refine at_region ?_|refine ax_then ?_|refine atl_nil ?_|refine n_run ttok rfl rfl ?_|fail))
  refine at_cond rfl (fun h => ?_) (fun h => ?_)
  · have hil : i < l.length := by have := of_decide_eq_true h; simp at this; omega
    obtain ⟨z, hz⟩ : ∃ z, l[i]? = some z := ⟨_, List.getElem?_eq_getElem hil⟩
    have hzg := map_get (c := cIns) hz
    (repeat' (first|refine at_seq ?_|refine at_region ?_|refine at_block ?_|refine at_skip ?_|refine ax_then ?_|refine atl_nil ?_|refine n_run ttok rfl rfl ?_|(apply s_index; first|refine n_index ttok ?_|refine n_indexP ttok ?_)|(apply s_store; first|refine n_storeF 7 ttok 0 rfl rfl rfl rfl rfl rfl rfl rfl ?_|refine n_storeF 7 ttok 1 rfl rfl rfl rfl rfl rfl rfl rfl ?_|refine n_storeF 7 ttok 2 rfl rfl rfl rfl rfl rfl rfl rfl ?_|refine n_store ttok 0 rfl rfl rfl rfl rfl rfl rfl ?_|refine n_store ttok 1 rfl rfl rfl rfl rfl rfl rfl ?_|refine n_store ttok 2 rfl rfl rfl rfl rfl rfl rfl ?_|refine n_store ttok 3 rfl rfl rfl rfl rfl rfl rfl ?_|fail)|refine n_alloc ttok fun _=>?_|fail))
    refine n_callF L [] (hw i z L hz hj) rfl hu rfl (perm_nil rfl) rfl rfl fun c L1 ⟨hc, hj'⟩ => ?_
    subst hc
    rw [List.append_nil]
    (repeat' (first|refine at_seq ?_|refine at_region ?_|refine ax_then ?_|refine atl_nil ?_|refine n_run ttok rfl rfl ?_|fail))
    refine at_cond rfl (fun h2 => ?_) (fun h2 => ?_)
    · have h2' := of_decide_eq_true h2
      (repeat' (first|refine at_seq ?_|refine at_region ?_|refine at_ret ?_|refine ax_then ?_|refine ax_then_ret ?_|refine ax_blk_ret ?_|refine ax_loop_ret ?_|refine atl_nil ?_|refine n_run ttok rfl rfl ?_|fail))
      refine ax_ret2 rfl rfl rfl ?_
      rw [he, eachGo_err hil h2']
      rfl
    · have h2' := Decidable.not_not.1 (of_decide_eq_false h2)
      (repeat' (first|refine at_region ?_|refine at_skip ?_|refine ax_then ?_|refine ax_blk ?_|refine atl_nil ?_|refine n_run ttok rfl rfl ?_|(apply s_bin; refine n_bin ?_)|fail))
      exact ax_roundK (i + 1, L1) rfl ⟨by rw [Int.natCast_add]; rfl, trivial⟩ ⟨by dsimp only; omega, hj' h2', by rw [he]; exact eachGo_zero hil h2'⟩ (by dsimp only; omega) (fun _ _ h => h)
  · have hil : i = l.length := by have := of_decide_eq_false h; simp at this; omega
    subst hil
    (repeat' (first|refine at_seq ?_|refine at_region ?_|refine at_ret ?_|refine at_exit ?_|refine ax_then ?_|refine ax_then_exit ?_|refine ax_blk_exit ?_|refine ax_loop_exit ?_|refine atl_nil ?_|refine n_run ttok rfl rfl ?_|fail))
    refine ax_ret2 rfl rfl rfl ?_
    rw [he, Nat.sub_self]
    rfl
theorem some250 {g : FuncId} {caps : List AV} {u : AV} [CFn Tryz.prog g] (hu : fnO u = some (g, caps)) (l : List FIns) (most : Int) (err : Nat → Int) (J : Nat → AL → Prop) (L0 : AL) (h0 : J 0 L0) (hw : (l.length : Int) ≤ most → ∀ i x L, l[i]? = some x → J i L → AC Tryz.prog g ([I64 i, .agg (cIns x)] ++ caps) L fun c L' => c = I64 (err i) ∧ (err i = 0 → J (i + 1) L')) :
    AC Tryz.prog 250 [.iptr [.imm 2 (l.map cIns)], .iptr [I64 most], .iptr [u]] L0 fun r _ => r = tup2 (someE most err l.length) := by
  refine ac_of Tryz.func250 rfl Tryz.ntmps250 rfl fun B => ?_
  (repeat' (first|refine at_seq ?_|refine at_region ?_|refine ax_then ?_|refine atl_nil ?_|refine n_run ttok rfl rfl ?_|fail))
  refine at_cond rfl (fun h => ?_) (fun h => ?_)
  · have h' := of_decide_eq_true h
    rw [List.length_map] at h'
    (repeat' (first|refine at_seq ?_|refine at_region ?_|refine at_ret ?_|refine ax_then ?_|refine ax_then_ret ?_|refine atl_nil ?_|refine n_run ttok rfl rfl ?_|fail))
    refine ax_ret2 rfl rfl rfl ?_
    unfold someE
    rw [if_pos h']
    rfl
  · have h' := of_decide_eq_false h
    rw [List.length_map] at h'
    (repeat' (first|refine at_seq ?_|refine at_region ?_|refine at_skip ?_|refine ax_then ?_|refine n_run ttok rfl rfl ?_|fail))
    refine n_callA L0 [] (each251 hu l err J L0 h0 (hw (by omega))) rfl (fn_same hu) (perm_nil rfl) rfl fun c L1 hc => ?_
    subst hc
    (repeat' (first|refine at_ret ?_|refine ax_then ?_|refine atl_nil ?_|refine n_run ttok rfl rfl ?_|fail))
    refine ax_ret2 rfl rfl rfl ?_
    unfold someE
    rw [if_neg h']
    rfl
theorem mkF189 {g : FuncId} (l : List FIns) (most : Int) : ADet Tryz.prog 189 [.imm 2 (l.map cIns), I64 most, .sc (.func (.func g) #[] #[])] (.fn 250 [.iptr [.imm 2 (l.map cIns)], .iptr [I64 most], .iptr [.sc (.func (.func g) #[] #[])]]) := by
  refine ac_of Tryz.func189 rfl Tryz.ntmps189 rfl fun B => ?_
  (repeat' (first|refine at_seq ?_|refine at_region ?_|refine at_ret ?_|refine ax_then ?_|refine atl_nil ?_|refine n_run ttok rfl rfl ?_|refine n_boxI ?_|fail))
  exact ax_ret1 rfl rfl rfl
instance {g : FuncId} (l : List FIns) (most : Int) : AD Tryz.prog 189 [.imm 2 (l.map cIns), I64 most, .sc (.func (.func g) #[] #[])] (.fn 250 [.iptr [.imm 2 (l.map cIns)], .iptr [I64 most], .iptr [.sc (.func (.func g) #[] #[])]]) := ⟨mkF189 l most⟩
theorem each276 {g : FuncId} {caps : List AV} {u : AV} [CFn Tryz.prog g] (hu : fnO u = some (g, caps)) (l : List FCall) (err : Nat → Int) (J : Nat → AL → Prop) (L0 : AL) (h0 : J 0 L0) (hw : ∀ i x L, l[i]? = some x → J i L → AC Tryz.prog g ([I64 i, .agg (cCall x)] ++ caps) L fun c L' => c = I64 (err i) ∧ (err i = 0 → J (i + 1) L')) :
    AC Tryz.prog 276 [.imm 2 (l.map cCall), u] L0 fun r _ => r = tup2 (eachE err l.length) := by
  refine ac_of Tryz.func276 rfl Tryz.ntmps276 rfl fun B => ?_
  refine at_len 0 rfl rfl fun hlen => ?_
  rw [List.length_map] at hlen
  (repeat' (first|refine at_seq ?_|refine at_region ?_|refine at_block ?_|refine ax_then ?_|refine atl_nil ?_|refine n_run ttok rfl rfl ?_|fail))
  refine at_loopK [1, 9, 10] (α := Nat × AL) (fun i => [(11, I64 i.1)]) (fun i => i.1 ≤ l.length ∧ J i.1 i.2 ∧ eachE err l.length = eachGo err (l.length - i.1) i.1) (fun i => i.2) (fun i => l.length - i.1) (0, L0) rfl ⟨rfl, trivial⟩ ⟨Nat.zero_le _, h0, rfl⟩ (fun _ _ h => h) ?_
  rintro ⟨i, L⟩ ⟨hi, hj, he⟩
  dsimp only at hi hj he ⊢
  try dsimp only [List.cons_append, List.nil_append, List.map_cons, List.map_nil]
  (repeat' (first|refine at_seq ?_|refine at_region ?_|refine ax_then ?_|refine atl_nil ?_|refine n_run ttok rfl rfl ?_|fail))
  refine at_cond rfl (fun h => ?_) (fun h => ?_)
  · have hil : i < l.length := by have := of_decide_eq_true h; simp at this; omega
    obtain ⟨z, hz⟩ : ∃ z, l[i]? = some z := ⟨_, List.getElem?_eq_getElem hil⟩
    have hzg := map_get (c := cCall) hz
    (repeat' (first|refine at_seq ?_|refine at_region ?_|refine at_block ?_|refine at_skip ?_|refine ax_then ?_|refine atl_nil ?_|refine n_run ttok rfl rfl ?_|(apply s_index; first|refine n_index ttok ?_|refine n_indexP ttok ?_)|(apply s_store; first|refine n_storeF 7 ttok 0 rfl rfl rfl rfl rfl rfl rfl rfl ?_|refine n_storeF 7 ttok 1 rfl rfl rfl rfl rfl rfl rfl rfl ?_|refine n_storeF 7 ttok 2 rfl rfl rfl rfl rfl rfl rfl rfl ?_|refine n_store ttok 0 rfl rfl rfl rfl rfl rfl rfl ?_|refine n_store ttok 1 rfl rfl rfl rfl rfl rfl rfl ?_|refine n_store ttok 2 rfl rfl rfl rfl rfl rfl rfl ?_|refine n_store ttok 3 rfl rfl rfl rfl rfl rfl rfl ?_|fail)|refine n_alloc ttok fun _=>?_|fail))
    refine n_callF L [] (hw i z L hz hj) rfl hu rfl (perm_nil rfl) rfl rfl fun c L1 ⟨hc, hj'⟩ => ?_
    subst hc
    rw [List.append_nil]
    (repeat' (first|refine at_seq ?_|refine at_region ?_|refine ax_then ?_|refine atl_nil ?_|refine n_run ttok rfl rfl ?_|fail))
    refine at_cond rfl (fun h2 => ?_) (fun h2 => ?_)
    · have h2' := of_decide_eq_true h2
      (repeat' (first|refine at_seq ?_|refine at_region ?_|refine at_ret ?_|refine ax_then ?_|refine ax_then_ret ?_|refine ax_blk_ret ?_|refine ax_loop_ret ?_|refine atl_nil ?_|refine n_run ttok rfl rfl ?_|fail))
      refine ax_ret2 rfl rfl rfl ?_
      rw [he, eachGo_err hil h2']
      rfl
    · have h2' := Decidable.not_not.1 (of_decide_eq_false h2)
      (repeat' (first|refine at_region ?_|refine at_skip ?_|refine ax_then ?_|refine ax_blk ?_|refine atl_nil ?_|refine n_run ttok rfl rfl ?_|(apply s_bin; refine n_bin ?_)|fail))
      exact ax_roundK (i + 1, L1) rfl ⟨by rw [Int.natCast_add]; rfl, trivial⟩ ⟨by dsimp only; omega, hj' h2', by rw [he]; exact eachGo_zero hil h2'⟩ (by dsimp only; omega) (fun _ _ h => h)
  · have hil : i = l.length := by have := of_decide_eq_false h; simp at this; omega
    subst hil
    (repeat' (first|refine at_seq ?_|refine at_region ?_|refine at_ret ?_|refine at_exit ?_|refine ax_then ?_|refine ax_then_exit ?_|refine ax_blk_exit ?_|refine ax_loop_exit ?_|refine atl_nil ?_|refine n_run ttok rfl rfl ?_|fail))
    refine ax_ret2 rfl rfl rfl ?_
    rw [he, Nat.sub_self]
    rfl
theorem each164 {g : FuncId} {caps : List AV} {u : AV} [CFn Tryz.prog g] (hu : fnO u = some (g, caps)) (l : List Int) (err : Nat → Int) (J : Nat → AL → Prop) (L0 : AL) (h0 : J 0 L0) (hw : ∀ i x L, l[i]? = some x → J i L → AC Tryz.prog g ([I64 i, I64 x] ++ caps) L fun c L' => c = I64 (err i) ∧ (err i = 0 → J (i + 1) L')) :
    AC Tryz.prog 164 [.imm 1 (l.map cInt), u] L0 fun r _ => r = tup2 (eachE err l.length) := by
  refine ac_of Tryz.func164 rfl Tryz.ntmps164 rfl fun B => ?_
  refine at_len 0 rfl rfl fun hlen => ?_
  rw [List.length_map] at hlen
  (repeat' (first|refine at_seq ?_|refine at_region ?_|refine at_block ?_|refine ax_then ?_|refine atl_nil ?_|refine n_run ttok rfl rfl ?_|fail))
  refine at_loopK [1, 9, 10] (α := Nat × AL) (fun i => [(11, I64 i.1)]) (fun i => i.1 ≤ l.length ∧ J i.1 i.2 ∧ eachE err l.length = eachGo err (l.length - i.1) i.1) (fun i => i.2) (fun i => l.length - i.1) (0, L0) rfl ⟨rfl, trivial⟩ ⟨Nat.zero_le _, h0, rfl⟩ (fun _ _ h => h) ?_
  rintro ⟨i, L⟩ ⟨hi, hj, he⟩
  dsimp only at hi hj he ⊢
  try dsimp only [List.cons_append, List.nil_append, List.map_cons, List.map_nil]
  (repeat' (first|refine at_seq ?_|refine at_region ?_|refine ax_then ?_|refine atl_nil ?_|refine n_run ttok rfl rfl ?_|fail))
  refine at_cond rfl (fun h => ?_) (fun h => ?_)
  · have hil : i < l.length := by have := of_decide_eq_true h; simp at this; omega
    obtain ⟨z, hz⟩ : ∃ z, l[i]? = some z := ⟨_, List.getElem?_eq_getElem hil⟩
    have hzg := map_get (c := cInt) hz
    (repeat' (first|refine at_seq ?_|refine at_region ?_|refine at_block ?_|refine at_skip ?_|refine ax_then ?_|refine atl_nil ?_|refine n_run ttok rfl rfl ?_|(apply s_index; first|refine n_index ttok ?_|refine n_indexP ttok ?_)|fail))
    refine n_callF L [] (hw i z L hz hj) rfl hu rfl (perm_nil rfl) rfl rfl fun c L1 ⟨hc, hj'⟩ => ?_
    subst hc
    rw [List.append_nil]
    (repeat' (first|refine at_seq ?_|refine at_region ?_|refine ax_then ?_|refine atl_nil ?_|refine n_run ttok rfl rfl ?_|fail))
    refine at_cond rfl (fun h2 => ?_) (fun h2 => ?_)
    · have h2' := of_decide_eq_true h2
      (repeat' (first|refine at_seq ?_|refine at_region ?_|refine at_ret ?_|refine ax_then ?_|refine ax_then_ret ?_|refine ax_blk_ret ?_|refine ax_loop_ret ?_|refine atl_nil ?_|refine n_run ttok rfl rfl ?_|fail))
      refine ax_ret2 rfl rfl rfl ?_
      rw [he, eachGo_err hil h2']
      rfl
    · have h2' := Decidable.not_not.1 (of_decide_eq_false h2)
      (repeat' (first|refine at_region ?_|refine at_skip ?_|refine ax_then ?_|refine ax_blk ?_|refine atl_nil ?_|refine n_run ttok rfl rfl ?_|(apply s_bin; refine n_bin ?_)|fail))
      exact ax_roundK (i + 1, L1) rfl ⟨by rw [Int.natCast_add]; rfl, trivial⟩ ⟨by dsimp only; omega, hj' h2', by rw [he]; exact eachGo_zero hil h2'⟩ (by dsimp only; omega) (fun _ _ h => h)
  · have hil : i = l.length := by have := of_decide_eq_false h; simp at this; omega
    subst hil
    (repeat' (first|refine at_seq ?_|refine at_region ?_|refine at_ret ?_|refine at_exit ?_|refine ax_then ?_|refine ax_then_exit ?_|refine ax_blk_exit ?_|refine ax_loop_exit ?_|refine atl_nil ?_|refine n_run ttok rfl rfl ?_|fail))
    refine ax_ret2 rfl rfl rfl ?_
    rw [he, Nat.sub_self]
    rfl
theorem some191 {g : FuncId} {caps : List AV} {u : AV} [CFn Tryz.prog g] (hu : fnO u = some (g, caps)) (l : List Int) (most : Int) (err : Nat → Int) (J : Nat → AL → Prop) (L0 : AL) (h0 : J 0 L0) (hw : (l.length : Int) ≤ most → ∀ i x L, l[i]? = some x → J i L → AC Tryz.prog g ([I64 i, I64 x] ++ caps) L fun c L' => c = I64 (err i) ∧ (err i = 0 → J (i + 1) L')) :
    AC Tryz.prog 191 [.iptr [.imm 1 (l.map cInt)], .iptr [I64 most], .iptr [u]] L0 fun r _ => r = tup2 (someE most err l.length) := by
  refine ac_of Tryz.func191 rfl Tryz.ntmps191 rfl fun B => ?_
  (repeat' (first|refine at_seq ?_|refine at_region ?_|refine ax_then ?_|refine atl_nil ?_|refine n_run ttok rfl rfl ?_|fail))
  refine at_cond rfl (fun h => ?_) (fun h => ?_)
  · have h' := of_decide_eq_true h
    rw [List.length_map] at h'
    (repeat' (first|refine at_seq ?_|refine at_region ?_|refine at_ret ?_|refine ax_then ?_|refine ax_then_ret ?_|refine atl_nil ?_|refine n_run ttok rfl rfl ?_|fail))
    refine ax_ret2 rfl rfl rfl ?_
    unfold someE
    rw [if_pos h']
    rfl
  · have h' := of_decide_eq_false h
    rw [List.length_map] at h'
    (repeat' (first|refine at_seq ?_|refine at_region ?_|refine at_skip ?_|refine ax_then ?_|refine n_run ttok rfl rfl ?_|fail))
    refine n_callA L0 [] (each164 hu l err J L0 h0 (hw (by omega))) rfl (fn_same hu) (perm_nil rfl) rfl fun c L1 hc => ?_
    subst hc
    (repeat' (first|refine at_ret ?_|refine ax_then ?_|refine atl_nil ?_|refine n_run ttok rfl rfl ?_|fail))
    refine ax_ret2 rfl rfl rfl ?_
    unfold someE
    rw [if_neg h']
    rfl
theorem mkF109 {g : FuncId} (l : List Int) (most : Int) : ADet Tryz.prog 109 [.imm 1 (l.map cInt), I64 most, .sc (.func (.func g) #[] #[])] (.fn 191 [.iptr [.imm 1 (l.map cInt)], .iptr [I64 most], .iptr [.sc (.func (.func g) #[] #[])]]) := by
  refine ac_of Tryz.func109 rfl Tryz.ntmps109 rfl fun B => ?_
  (repeat' (first|refine at_seq ?_|refine at_region ?_|refine at_ret ?_|refine ax_then ?_|refine atl_nil ?_|refine n_run ttok rfl rfl ?_|refine n_boxI ?_|fail))
  exact ax_ret1 rfl rfl rfl
end Go.Proofs.YtpbinloeemebkaaGreat
