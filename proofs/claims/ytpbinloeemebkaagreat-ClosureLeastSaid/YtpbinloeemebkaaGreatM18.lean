/-
  The program: rules that may come to match.
-/
import Derived.Test.YtpbinloeemebkaaGreatM17
namespace Go.Proofs.YtpbinloeemebkaaGreat
open Go.RowKit
attribute [local irreducible] AT ATL AX AO Av Kt ALoopK OkA DA DA1
structure Hop where
  rule : FRule
  kind : Int
  ign : Bool
  unmet : List (List Int)
def hopC (h : Hop) : List AV := cRule h.rule ++ [I64 h.kind, Bol h.ign, .imm 1 (rowsI h.unmet)]
def hopB (x : Nat × Hop) : Nat × AB := (x.1, .box (hopC x.2) 135)
def groC (f : FFont) (k : Option (Nat × Nat)) (qs : List Nat) : List AV := cFont f ++ [.vec k 1 (qs.map fun q => [Ptr q])]
def markB (f : FFont) (n : Int) : Bool := match f.Glyphs[n.toNat]? with | some g => g.Mark | none => false
def seenB (f : FFont) (S : List Int) (ign : Bool) (n : Int) : Bool := inB f.Glyphs.length S n && !(ign && markB f n)
set_option maxHeartbeats 1000000 in
theorem seen_ac (f : FFont) (ap b gp q : Nat) (k kg : Option (Nat × Nat)) (S : List Int) (qs : List Nat) (h : Hop) (n : Int) : AC Tryz.prog 56 [I64 n, .iptr [Ptr ap], .iptr [Ptr q], .iptr [Ptr gp]] (hopB (q, h) :: (gp, .box (groC f kg qs) 131) :: setGl ap b f.Glyphs.length k S) fun c L => c = Bol (seenB f S h.ign n) ∧ L = hopB (q, h) :: (gp, .box (groC f kg qs) 131) :: setGl ap b f.Glyphs.length k S := by
  refine ac_of Tryz.func56 rfl Tryz.ntmps56 rfl fun B => ?_
  unfold seenB
  (repeat' (first|refine at_seq ?_|refine at_region ?_|refine ax_then ?_|refine atl_nil ?_|refine n_run ttok rfl rfl ?_|fail))
  refine n_callA (setGl ap b f.Glyphs.length k S) [hopB (q, h), (gp, .box (groC f kg qs) 131)] (hasGl ap b f.Glyphs.length k S n) rfl rfl (List.perm_append_comm (l₁ := [hopB (q, h), (gp, .box (groC f kg qs) 131)])) rfl fun c L1 ⟨hc, hL⟩ => ?_
  subst hc; subst hL
  refine atl_turn (turn_perm List.perm_append_comm) ?_
  cases hi : inB f.Glyphs.length S n with
  | false =>
    (repeat' (first|refine at_ret ?_|refine ax_then ?_|refine atl_nil ?_|refine n_run ttok rfl rfl ?_|refine atl_guard_no rfl rfl rfl rfl ?_|refine atl_guard_undef rfl rfl rfl ?_|fail))
    exact ax_ret1 rfl rfl ⟨rfl, rfl⟩
  | true =>
    have hr : 0 ≤ n ∧ n < f.Glyphs.length := by
      unfold inB at hi
      rw [Bool.and_eq_true, decide_eq_true_eq] at hi
      exact hi.1
    obtain ⟨gl, hg⟩ : ∃ g, f.Glyphs[n.toNat]? = some g := ⟨_, List.getElem?_eq_getElem (by omega)⟩
    have hgg := map_get (c := cGlyph) hg
    have hm : markB f n = gl.Mark := by unfold markB; rw [hg]
    rw [hm]
    obtain ⟨rule, kind, ign, unmet⟩ := h
    unfold hopB hopC groC
    dsimp only
    (repeat' (first|refine n_run ttok rfl rfl ?_|refine atl_guard_yes rfl rfl ?_|(apply s_load; first|refine n_load ttok 0 rfl rfl rfl rfl rfl ?_|refine n_load ttok 1 rfl rfl rfl rfl rfl ?_|refine n_load ttok 2 rfl rfl rfl rfl rfl ?_|refine n_load ttok 3 rfl rfl rfl rfl rfl ?_|refine n_loadA ttok 0 rfl rfl rfl rfl rfl ?_|refine n_loadA ttok 1 rfl rfl rfl rfl rfl ?_|refine n_loadA ttok 2 rfl rfl rfl rfl rfl ?_|refine n_load ttok 1 rfl rfl rfl (by assumption) rfl ?_|refine n_load ttok 0 rfl rfl rfl (by assumption) rfl ?_|fail)|fail))
    cases ign
    · (repeat' (first|refine at_ret ?_|refine ax_then ?_|refine atl_nil ?_|refine n_run ttok rfl rfl ?_|refine atl_guard_yes rfl rfl ?_|refine atl_guard_no rfl rfl rfl rfl ?_|fail))
      exact ax_ret1 rfl rfl ⟨rfl, rfl⟩
    · (repeat' (first|refine at_ret ?_|refine ax_then ?_|refine atl_nil ?_|refine n_run ttok rfl rfl ?_|refine atl_guard_yes rfl rfl ?_|(apply s_load; first|refine n_load ttok 0 rfl rfl rfl rfl rfl ?_|refine n_load ttok 1 rfl rfl rfl rfl rfl ?_|refine n_load ttok 2 rfl rfl rfl rfl rfl ?_|refine n_load ttok 3 rfl rfl rfl rfl rfl ?_|refine n_loadA ttok 0 rfl rfl rfl rfl rfl ?_|refine n_loadA ttok 1 rfl rfl rfl rfl rfl ?_|refine n_loadA ttok 2 rfl rfl rfl rfl rfl ?_|refine n_load ttok 1 rfl rfl rfl (by assumption) rfl ?_|refine n_load ttok 0 rfl rfl rfl (by assumption) rfl ?_|fail)|(apply s_index; first|refine n_index ttok ?_|refine n_indexP ttok ?_)|fail))
      exact ax_ret1 rfl rfl ⟨rfl, rfl⟩
def Hop.rest (h : Hop) (p : Int → Bool) : Hop := { h with unmet := h.unmet.dropWhile fun s => s.any p }
set_option maxHeartbeats 1000000 in
theorem matches_ac {g : FuncId} {caps : List AV} [CFn Tryz.prog g] (q : Nat) (h : Hop) (p : Int → Bool) (rest : AL) (hw : ∀ un z, AC Tryz.prog g ([I64 z] ++ caps) (hopB (q, { h with unmet := un }) :: rest) fun c L' => c = Bol (p z) ∧ L' = hopB (q, { h with unmet := un }) :: rest) : AC Tryz.prog 57 [Ptr q, .fn g caps] (hopB (q, h) :: rest) fun c L => c = Bol (h.unmet.all fun s => s.any p) ∧ L = hopB (q, h.rest p) :: rest := by
  refine ac_of Tryz.func57 rfl Tryz.ntmps57 rfl fun B => ?_
  (repeat' (first|refine at_seq ?_|refine at_region ?_|refine at_block ?_|refine ax_then ?_|refine atl_nil ?_|refine n_run ttok rfl rfl ?_|fail))
  refine at_loopK [0, 1] (α := List (List Int)) (fun _ => []) (fun un => (h.unmet.all fun s => s.any p) = (un.all fun s => s.any p) ∧ (h.unmet.dropWhile fun s => s.any p) = un.dropWhile fun s => s.any p) (fun un => hopB (q, { h with unmet := un }) :: rest) (fun un => un.length) h.unmet rfl trivial ⟨rfl, rfl⟩ (fun _ _ h => h) ?_
  rintro un ⟨h1, h2⟩
  try dsimp only [List.cons_append, List.nil_append, List.map_cons, List.map_nil]
  cases un with
  | nil =>
    unfold hopB hopC
    dsimp only
    (repeat' (first|refine at_seq ?_|refine at_region ?_|refine at_ret ?_|refine at_exit ?_|refine ax_then ?_|refine ax_then_exit ?_|refine ax_blk_exit ?_|refine ax_loop_exit ?_|refine atl_nil ?_|refine n_run ttok rfl rfl ?_|refine atl_guard_no rfl rfl rfl rfl ?_|(apply s_load; first|refine n_load ttok 0 rfl rfl rfl rfl rfl ?_|refine n_load ttok 1 rfl rfl rfl rfl rfl ?_|refine n_load ttok 2 rfl rfl rfl rfl rfl ?_|refine n_load ttok 3 rfl rfl rfl rfl rfl ?_|refine n_loadA ttok 0 rfl rfl rfl rfl rfl ?_|refine n_loadA ttok 1 rfl rfl rfl rfl rfl ?_|refine n_loadA ttok 2 rfl rfl rfl rfl rfl ?_|refine n_load ttok 1 rfl rfl rfl (by assumption) rfl ?_|refine n_load ttok 0 rfl rfl rfl (by assumption) rfl ?_|fail)|refine n_condF rfl ?_|fail))
    refine ax_ret1 rfl rfl ⟨by rw [h1]; rfl, ?_⟩
    unfold Hop.rest
    rw [h2]
    rfl
  | cons s un =>
    have hsg : (rowsI (s :: un))[(0 : Int).toNat]? = some [.imm 1 (ints s)] := rfl
    have hpos : decide (0 < (((rowsI (s :: un)).length : Nat) : Int)) = true := decide_eq_true (by rw [rowsI_len, List.length_cons]; omega)
    have hw' := hw (s :: un)
    unfold hopB hopC at hw' ⊢
    dsimp only at hw' ⊢
    (repeat' (first|refine at_seq ?_|refine at_region ?_|refine n_run ttok rfl rfl ?_|(apply s_load; first|refine n_load ttok 0 rfl rfl rfl rfl rfl ?_|refine n_load ttok 1 rfl rfl rfl rfl rfl ?_|refine n_load ttok 2 rfl rfl rfl rfl rfl ?_|refine n_load ttok 3 rfl rfl rfl rfl rfl ?_|refine n_loadA ttok 0 rfl rfl rfl rfl rfl ?_|refine n_loadA ttok 1 rfl rfl rfl rfl rfl ?_|refine n_loadA ttok 2 rfl rfl rfl rfl rfl ?_|refine n_load ttok 1 rfl rfl rfl (by assumption) rfl ?_|refine n_load ttok 0 rfl rfl rfl (by assumption) rfl ?_|fail)|fail))
    rw [hpos]
    (repeat' (first|refine n_run ttok rfl rfl ?_|refine atl_guard_yes rfl rfl ?_|(apply s_load; first|refine n_load ttok 0 rfl rfl rfl rfl rfl ?_|refine n_load ttok 1 rfl rfl rfl rfl rfl ?_|refine n_load ttok 2 rfl rfl rfl rfl rfl ?_|refine n_load ttok 3 rfl rfl rfl rfl rfl ?_|refine n_loadA ttok 0 rfl rfl rfl rfl rfl ?_|refine n_loadA ttok 1 rfl rfl rfl rfl rfl ?_|refine n_loadA ttok 2 rfl rfl rfl rfl rfl ?_|refine n_load ttok 1 rfl rfl rfl (by assumption) rfl ?_|refine n_load ttok 0 rfl rfl rfl (by assumption) rfl ?_|fail)|(apply s_index; first|refine n_index ttok ?_|refine n_indexP ttok ?_)|fail))
    refine n_callA ((q, AB.box (cRule h.rule ++ [I64 h.kind, Bol h.ign, AV.imm 1 (rowsI (s :: un))]) 135) :: rest) [] (containsF rfl s p _ hw') rfl rfl (perm_nil rfl) rfl fun c L1 ⟨hc, hL⟩ => ?_
    subst hc; subst hL
    rw [List.append_nil]
    cases hs : s.any p with
    | false =>
      (repeat' (first|refine at_seq ?_|refine at_region ?_|refine at_ret ?_|refine at_exit ?_|refine ax_then ?_|refine ax_then_exit ?_|refine ax_blk_exit ?_|refine ax_loop_exit ?_|refine atl_nil ?_|refine n_run ttok rfl rfl ?_|(apply s_load; first|refine n_load ttok 0 rfl rfl rfl rfl rfl ?_|refine n_load ttok 1 rfl rfl rfl rfl rfl ?_|refine n_load ttok 2 rfl rfl rfl rfl rfl ?_|refine n_load ttok 3 rfl rfl rfl rfl rfl ?_|refine n_loadA ttok 0 rfl rfl rfl rfl rfl ?_|refine n_loadA ttok 1 rfl rfl rfl rfl rfl ?_|refine n_loadA ttok 2 rfl rfl rfl rfl rfl ?_|refine n_load ttok 1 rfl rfl rfl (by assumption) rfl ?_|refine n_load ttok 0 rfl rfl rfl (by assumption) rfl ?_|fail)|refine n_condF rfl ?_|fail))
      refine ax_ret1 rfl rfl ⟨?_, ?_⟩
      · rw [h1, List.all_cons, hs]
        rfl
      · unfold Hop.rest
        rw [h2, List.dropWhile_cons_of_neg (by simpa using hs)]
    | true =>
      (repeat' (first|refine at_region ?_|refine at_block ?_|refine at_skip ?_|refine ax_then ?_|refine atl_nil ?_|refine n_run ttok rfl rfl ?_|(apply s_load; first|refine n_load ttok 0 rfl rfl rfl rfl rfl ?_|refine n_load ttok 1 rfl rfl rfl rfl rfl ?_|refine n_load ttok 2 rfl rfl rfl rfl rfl ?_|refine n_load ttok 3 rfl rfl rfl rfl rfl ?_|refine n_loadA ttok 0 rfl rfl rfl rfl rfl ?_|refine n_loadA ttok 1 rfl rfl rfl rfl rfl ?_|refine n_loadA ttok 2 rfl rfl rfl rfl rfl ?_|refine n_load ttok 1 rfl rfl rfl (by assumption) rfl ?_|refine n_load ttok 0 rfl rfl rfl (by assumption) rfl ?_|fail)|refine n_condT rfl ?_|fail))
      refine atl_val (a_cutL (lo := 1) (slI_spec ttok rfl).1 rfl rfl rfl rfl rfl (by rw [rowsI_len, List.length_cons]; omega)) rfl rfl ?_
      (repeat' (first|refine ax_blk ?_|refine atl_nil ?_|refine n_run ttok rfl rfl ?_|(apply s_store; first|refine n_store ttok 0 rfl rfl rfl rfl rfl rfl rfl ?_|refine n_store ttok 1 rfl rfl rfl rfl rfl rfl rfl ?_|refine n_store ttok 2 rfl rfl rfl rfl rfl rfl rfl ?_|refine n_store ttok 3 rfl rfl rfl rfl rfl rfl rfl ?_|fail)|fail))
      refine ax_roundK un rfl trivial ⟨?_, ?_⟩ (by simp) (fun _ _ h => h)
      · rw [h1, List.all_cons, hs, Bool.true_and]
      · rw [h2, List.dropWhile_cons_of_pos (by simpa using hs)]
section
variable {P : Program} {tt : TT} {l : List Oper} {fr : AFr} {fin : FinA} {sk : AkL} {acc : AFr} {L : AL} {k : Nat} {dd : Option Tmp} {ty t t' : TypeId} {pos : String} {af : Array Edge} {g : Option (Nat × Bool)} {x y : Operand} {u : AV}
theorem d_cutH (ok : TOk P tt) (hi : Nat) {e sz by_ s : Nat} {l1 : List (List AV)} {q : IntKind} {a : Int} (ht : slI tt t = some (e, sz, by_)) (hx : aev (frkA l.toArray acc fr af.toList) x = some u) (hu : immO u = some (s, l1)) (hs : Nat.beq s sz = true) (hy : aev (frkA l.toArray acc fr af.toList) y = some (.sc (.int q a))) (ha : a = (hi : Int)) (h1 : hi ≤ l1.length) (hg : GOA ⟨dd, .slice t x none (some y) none, ty, pos, af, g⟩ acc) (h : DA P l fr fin sk ((k, .imm s (l1.take hi)) :: acc) L) :
    DA1 P l fr fin k .v ⟨dd, .slice t x none (some y) none, ty, pos, af, g⟩ sk acc L := da_val hg (fun _ _ => (a_cutH (slI_spec ok ht).1 hx (immO_spec hu) hs hy ha h1).ao) h
end
def tellN (h : Hop) (p : Int → Bool) : List Int := if h.kind = 1 ∨ h.kind = 5 then ((h.rule.Out.zip (h.rule.In.headD [])).filter fun x => p x.2).map (·.1) else if h.kind = 2 then h.rule.Out else if h.kind = 3 then h.rule.Out.take 1 else []
theorem ints_take1 (l : List Int) : (ints l).take (min l.length 1) = ints (l.take 1) := by
  cases l with
  | nil => rfl
  | cons x l => rw [show min (x :: l).length 1 = 1 by rw [List.length_cons]; omega]; rfl
theorem zip_take {l k : List Int} {i : Nat} {a b : Int} (ha : l[i]? = some a) (hb : k[i]? = some b) : (l.zip k).take (i + 1) = (l.zip k).take i ++ [(a, b)] := by
  rw [List.take_add_one, show (l.zip k)[i]? = some (a, b) by rw [List.getElem?_zip_eq_some]; exact ⟨ha, hb⟩]
  rfl
set_option maxHeartbeats 4000000 in
theorem tell_ac {g : FuncId} {caps : List AV} [CFn Tryz.prog g] (q : Nat) (h : Hop) (p : Int → Bool) (rest : AL) (hw : ∀ z, AC Tryz.prog g ([I64 z] ++ caps) (hopB (q, h) :: rest) fun c L' => c = Bol (p z) ∧ L' = hopB (q, h) :: rest) (hin : h.rule.In ≠ []) (hout : h.rule.Out.length ≤ 1000000) (np nb n : Nat) (k : Option (Nat × Nat)) (l : List Int) (hn : n ≤ 1000000) (hl : SetOk n l) : AC Tryz.prog 58 [Ptr q, .fn g caps, Ptr np] (hopB (q, h) :: rest ++ setGl np nb n k l) fun _ L => ∃ k', L = hopB (q, h) :: rest ++ setGl np nb n k' (addN n l (tellN h p)) := by
  refine ac_of Tryz.func58 rfl Tryz.ntmps58 rfl fun B => ?_
  obtain ⟨y, hy⟩ : ∃ y, h.rule.In[0]? = some y := ⟨_, List.getElem?_eq_getElem (List.length_pos_iff.2 hin)⟩
  have hyg := rowsI_get hy
  have hd : h.rule.In.headD [] = y := by
    cases hI : h.rule.In with
    | nil => exact absurd hI hin
    | cons y' q => rw [hI] at hy; simpa using hy
  have hadd := addGl np nb n k l
  have hOl := ints_len h.rule.Out
  have hYl := ints_len y
  by_cases h1 : h.kind = 1
  · have ht : tellN h p = ((h.rule.Out.zip y).filter fun x => p x.2).map (·.1) := by unfold tellN; rw [if_pos (.inl h1), hd]
    rw [ht]
    unfold hopB hopC at hw ⊢
    dsimp only at hw ⊢
    (repeat' (first|refine at_seq ?_|refine at_region ?_|refine at_block ?_|refine ax_then ?_|refine atl_nil ?_|refine n_run ttok rfl rfl ?_|(apply s_load; first|refine n_load ttok 0 rfl rfl rfl rfl rfl ?_|refine n_load ttok 1 rfl rfl rfl rfl rfl ?_|refine n_load ttok 2 rfl rfl rfl rfl rfl ?_|refine n_load ttok 3 rfl rfl rfl rfl rfl ?_|refine n_loadA ttok 0 rfl rfl rfl rfl rfl ?_|refine n_loadA ttok 1 rfl rfl rfl rfl rfl ?_|refine n_loadA ttok 2 rfl rfl rfl rfl rfl ?_|refine n_load ttok 1 rfl rfl rfl (by assumption) rfl ?_|refine n_load ttok 0 rfl rfl rfl (by assumption) rfl ?_|fail)|fail))
    refine at_cond rfl (fun hh => ?_) (fun hh => absurd h1 (of_decide_eq_false hh))
    rw [decide_eq_true h1]
    (repeat' (first|refine at_seq ?_|refine at_region ?_|refine at_skip ?_|refine ax_then ?_|refine atl_nil ?_|refine n_run ttok rfl rfl ?_|(apply s_load; first|refine n_load ttok 0 rfl rfl rfl rfl rfl ?_|refine n_load ttok 1 rfl rfl rfl rfl rfl ?_|refine n_load ttok 2 rfl rfl rfl rfl rfl ?_|refine n_load ttok 3 rfl rfl rfl rfl rfl ?_|refine n_loadA ttok 0 rfl rfl rfl rfl rfl ?_|refine n_loadA ttok 1 rfl rfl rfl rfl rfl ?_|refine n_loadA ttok 2 rfl rfl rfl rfl rfl ?_|refine n_load ttok 1 rfl rfl rfl (by assumption) rfl ?_|refine n_load ttok 0 rfl rfl rfl (by assumption) rfl ?_|fail)|(apply s_index; first|refine n_index ttok ?_|refine n_indexP ttok ?_)|refine n_condT rfl ?_|fail))
    refine at_draw 17 [(0, .v), (1, .v), (2, .v), (3, .v), (4, .l), (5, .v), (6, .v), (7, .v), (8, .v), (9, .l), (10, .v), (11, .v), (12, .v), (13, .v), (14, .v), (15, .v), (16, .v)] none ?_ trivial rfl (by kernel_rfl) (by kernel_rfl) (by kernel_rfl) mixed (by kernel_rfl) rfl
    (repeat' (first|refine da_open ?_|refine d_run ttok ?_|refine d_load ttok 0 rfl rfl rfl rfl (by first|trivial|rfl) ?_|fail))
    refine d_cutH ttok (min h.rule.Out.length y.length) rfl rfl rfl rfl rfl (by rw [hOl, hYl]; omega) (by rw [hOl]; omega) trivial ?_
    (repeat' (first|refine da_open ?_|refine d_run ttok ?_|fail))
    refine da_end [1, 2, 6, 37, 38, 39] rfl rfl ?_
    (repeat' (first|refine at_block ?_|refine ax_then ?_|refine atl_nil ?_|fail))
    have hm : ((ints h.rule.Out).take (min h.rule.Out.length y.length)).length = min h.rule.Out.length y.length := by rw [List.length_take, hOl]; omega
    refine at_loopK [1, 2, 6, 37, 38] (α := Nat × Option (Nat × Nat)) (fun x => [(39, I64 x.1)]) (fun x => x.1 ≤ min h.rule.Out.length y.length) (fun x => (q, AB.box (cRule h.rule ++ [I64 h.kind, Bol h.ign, AV.imm 1 (rowsI h.unmet)]) 135) :: rest ++ setGl np nb n x.2 (addN n l ((((h.rule.Out.zip y).take x.1).filter fun x => p x.2).map (·.1)))) (fun x => min h.rule.Out.length y.length - x.1) (0, k) rfl ⟨rfl, trivial⟩ (Nat.zero_le _) (fun _ _ h => h) ?_
    rintro ⟨i, k1⟩ hi
    dsimp only at hi ⊢
    try dsimp only [List.cons_append, List.nil_append, List.map_cons, List.map_nil]
    (repeat' (first|refine at_seq ?_|refine at_region ?_|refine ax_then ?_|refine atl_nil ?_|refine n_run ttok rfl rfl ?_|fail))
    refine at_cond rfl (fun e => ?_) (fun e => ?_)
    · have hil : i < min h.rule.Out.length y.length := by have := of_decide_eq_true e; rw [hm] at this; omega
      obtain ⟨o, ho⟩ : ∃ z, h.rule.Out[i]? = some z := ⟨_, List.getElem?_eq_getElem (by omega)⟩
      obtain ⟨z, hz⟩ : ∃ z, y[i]? = some z := ⟨_, List.getElem?_eq_getElem (by omega)⟩
      have hog : ((ints h.rule.Out).take (min h.rule.Out.length y.length))[i]? = some [I64 o] := by rw [List.getElem?_take, if_pos hil]; exact ints_get ho
      have hzg := ints_get hz
      have hzt := zip_take ho hz
      (repeat' (first|refine at_seq ?_|refine at_region ?_|refine at_block ?_|refine at_skip ?_|refine ax_then ?_|refine atl_nil ?_|refine n_run ttok rfl rfl ?_|(apply s_index; first|refine n_index ttok ?_|refine n_indexP ttok ?_)|fail))
      refine n_callF ((q, AB.box (cRule h.rule ++ [I64 h.kind, Bol h.ign, AV.imm 1 (rowsI h.unmet)]) 135) :: rest) _ (hw z) rfl rfl rfl (List.Perm.refl _) rfl rfl fun c L1 ⟨hc, hL⟩ => ?_
      subst hc; subst hL
      (repeat' (first|refine ax_then ?_|refine atl_nil ?_|fail))
      refine at_cond rfl (fun e2 => ?_) (fun e2 => ?_)
      · (repeat' (first|refine at_region ?_|refine n_run ttok rfl rfl ?_|refine n_litI ttok ?_|fail))
        refine n_callA (setGl np nb n k1 (addN n l ((((h.rule.Out.zip y).take i).filter fun x => p x.2).map (·.1)))) _ (addGl np nb n k1 _ [o] hn (hl.add _)) rfl rfl List.perm_append_comm rfl fun c L1 ⟨k', hL⟩ => ?_
        subst hL
        refine atl_turn (turn_perm List.perm_append_comm) ?_
        (repeat' (first|refine at_region ?_|refine ax_then ?_|refine ax_blk ?_|refine atl_nil ?_|refine n_run ttok rfl rfl ?_|(apply s_bin; refine n_bin ?_)|fail))
        refine ax_roundK (i + 1, k') rfl ⟨by rw [Int.natCast_add]; rfl, trivial⟩ (by dsimp only; omega) (by dsimp only; omega) (fun _ _ h => ?_)
        dsimp only
        rw [hzt, List.filter_append, List.map_append, ← addN_app]
        simpa [e2] using h
      · (repeat' (first|refine at_region ?_|refine at_skip ?_|refine ax_then ?_|refine ax_blk ?_|refine atl_nil ?_|refine n_run ttok rfl rfl ?_|(apply s_bin; refine n_bin ?_)|fail))
        refine ax_roundK (i + 1, k1) rfl ⟨by rw [Int.natCast_add]; rfl, trivial⟩ (by dsimp only; omega) (by dsimp only; omega) (fun _ _ h => ?_)
        dsimp only
        rw [hzt, List.filter_append, List.map_append, ← addN_app]
        simpa [e2, addN] using h
    · have hil : i = min h.rule.Out.length y.length := by have := of_decide_eq_false e; rw [hm] at this; omega
      subst hil
      (repeat' (first|refine at_exit ?_|refine ax_then_exit ?_|refine ax_blk ?_|refine ax_blk_exit ?_|refine ax_loop_exit ?_|fail))
      refine ax_end0 rfl ⟨k1, ?_⟩
      rw [List.take_of_length_le (by rw [List.length_zip]; exact Nat.le_refl _)]
  by_cases h5 : h.kind = 5
  · have ht : tellN h p = ((h.rule.Out.zip y).filter fun x => p x.2).map (·.1) := by unfold tellN; rw [if_pos (.inr h5), hd]
    rw [ht]
    unfold hopB hopC at hw ⊢
    dsimp only at hw ⊢
    (repeat' (first|refine at_seq ?_|refine at_region ?_|refine at_block ?_|refine ax_then ?_|refine atl_nil ?_|refine n_run ttok rfl rfl ?_|(apply s_load; first|refine n_load ttok 0 rfl rfl rfl rfl rfl ?_|refine n_load ttok 1 rfl rfl rfl rfl rfl ?_|refine n_load ttok 2 rfl rfl rfl rfl rfl ?_|refine n_load ttok 3 rfl rfl rfl rfl rfl ?_|refine n_loadA ttok 0 rfl rfl rfl rfl rfl ?_|refine n_loadA ttok 1 rfl rfl rfl rfl rfl ?_|refine n_loadA ttok 2 rfl rfl rfl rfl rfl ?_|refine n_load ttok 1 rfl rfl rfl (by assumption) rfl ?_|refine n_load ttok 0 rfl rfl rfl (by assumption) rfl ?_|fail)|fail))
    refine at_cond rfl (fun hh => absurd (of_decide_eq_true hh) h1) (fun _ => ?_)
    (repeat' (first|refine at_region ?_|refine ax_then ?_|refine atl_nil ?_|refine n_run ttok rfl rfl ?_|fail))
    rw [decide_eq_true h5]
    (repeat' (first|refine at_seq ?_|refine at_region ?_|refine ax_then ?_|refine atl_nil ?_|refine n_run ttok rfl rfl ?_|(apply s_load; first|refine n_load ttok 0 rfl rfl rfl rfl rfl ?_|refine n_load ttok 1 rfl rfl rfl rfl rfl ?_|refine n_load ttok 2 rfl rfl rfl rfl rfl ?_|refine n_load ttok 3 rfl rfl rfl rfl rfl ?_|refine n_loadA ttok 0 rfl rfl rfl rfl rfl ?_|refine n_loadA ttok 1 rfl rfl rfl rfl rfl ?_|refine n_loadA ttok 2 rfl rfl rfl rfl rfl ?_|refine n_load ttok 1 rfl rfl rfl (by assumption) rfl ?_|refine n_load ttok 0 rfl rfl rfl (by assumption) rfl ?_|fail)|(apply s_index; first|refine n_index ttok ?_|refine n_indexP ttok ?_)|refine n_condT rfl ?_|fail))
    refine at_draw 17 [(0, .v), (1, .v), (2, .v), (3, .v), (4, .l), (5, .v), (6, .v), (7, .v), (8, .v), (9, .l), (10, .v), (11, .v), (12, .v), (13, .v), (14, .v), (15, .v), (16, .v)] none ?_ trivial rfl (by kernel_rfl) (by kernel_rfl) (by kernel_rfl) mixed (by kernel_rfl) rfl
    (repeat' (first|refine da_open ?_|refine d_run ttok ?_|refine d_load ttok 0 rfl rfl rfl rfl (by first|trivial|rfl) ?_|fail))
    refine d_cutH ttok (min h.rule.Out.length y.length) rfl rfl rfl rfl rfl (by rw [hOl, hYl]; omega) (by rw [hOl]; omega) trivial ?_
    (repeat' (first|refine da_open ?_|refine d_run ttok ?_|fail))
    refine da_end [1, 2, 6, 37, 38, 39] rfl rfl ?_
    (repeat' (first|refine at_block ?_|refine ax_then ?_|refine atl_nil ?_|fail))
    have hm : ((ints h.rule.Out).take (min h.rule.Out.length y.length)).length = min h.rule.Out.length y.length := by rw [List.length_take, hOl]; omega
    refine at_loopK [1, 2, 6, 37, 38] (α := Nat × Option (Nat × Nat)) (fun x => [(39, I64 x.1)]) (fun x => x.1 ≤ min h.rule.Out.length y.length) (fun x => (q, AB.box (cRule h.rule ++ [I64 h.kind, Bol h.ign, AV.imm 1 (rowsI h.unmet)]) 135) :: rest ++ setGl np nb n x.2 (addN n l ((((h.rule.Out.zip y).take x.1).filter fun x => p x.2).map (·.1)))) (fun x => min h.rule.Out.length y.length - x.1) (0, k) rfl ⟨rfl, trivial⟩ (Nat.zero_le _) (fun _ _ h => h) ?_
    rintro ⟨i, k1⟩ hi
    dsimp only at hi ⊢
    try dsimp only [List.cons_append, List.nil_append, List.map_cons, List.map_nil]
    (repeat' (first|refine at_seq ?_|refine at_region ?_|refine ax_then ?_|refine atl_nil ?_|refine n_run ttok rfl rfl ?_|fail))
    refine at_cond rfl (fun e => ?_) (fun e => ?_)
    · have hil : i < min h.rule.Out.length y.length := by have := of_decide_eq_true e; rw [hm] at this; omega
      obtain ⟨o, ho⟩ : ∃ z, h.rule.Out[i]? = some z := ⟨_, List.getElem?_eq_getElem (by omega)⟩
      obtain ⟨z, hz⟩ : ∃ z, y[i]? = some z := ⟨_, List.getElem?_eq_getElem (by omega)⟩
      have hog : ((ints h.rule.Out).take (min h.rule.Out.length y.length))[i]? = some [I64 o] := by rw [List.getElem?_take, if_pos hil]; exact ints_get ho
      have hzg := ints_get hz
      have hzt := zip_take ho hz
      (repeat' (first|refine at_seq ?_|refine at_region ?_|refine at_block ?_|refine at_skip ?_|refine ax_then ?_|refine atl_nil ?_|refine n_run ttok rfl rfl ?_|(apply s_index; first|refine n_index ttok ?_|refine n_indexP ttok ?_)|fail))
      refine n_callF ((q, AB.box (cRule h.rule ++ [I64 h.kind, Bol h.ign, AV.imm 1 (rowsI h.unmet)]) 135) :: rest) _ (hw z) rfl rfl rfl (List.Perm.refl _) rfl rfl fun c L1 ⟨hc, hL⟩ => ?_
      subst hc; subst hL
      (repeat' (first|refine ax_then ?_|refine atl_nil ?_|fail))
      refine at_cond rfl (fun e2 => ?_) (fun e2 => ?_)
      · (repeat' (first|refine at_region ?_|refine n_run ttok rfl rfl ?_|refine n_litI ttok ?_|fail))
        refine n_callA (setGl np nb n k1 (addN n l ((((h.rule.Out.zip y).take i).filter fun x => p x.2).map (·.1)))) _ (addGl np nb n k1 _ [o] hn (hl.add _)) rfl rfl List.perm_append_comm rfl fun c L1 ⟨k', hL⟩ => ?_
        subst hL
        refine atl_turn (turn_perm List.perm_append_comm) ?_
        (repeat' (first|refine at_region ?_|refine ax_then ?_|refine ax_blk ?_|refine atl_nil ?_|refine n_run ttok rfl rfl ?_|(apply s_bin; refine n_bin ?_)|fail))
        refine ax_roundK (i + 1, k') rfl ⟨by rw [Int.natCast_add]; rfl, trivial⟩ (by dsimp only; omega) (by dsimp only; omega) (fun _ _ h => ?_)
        dsimp only
        rw [hzt, List.filter_append, List.map_append, ← addN_app]
        simpa [e2] using h
      · (repeat' (first|refine at_region ?_|refine at_skip ?_|refine ax_then ?_|refine ax_blk ?_|refine atl_nil ?_|refine n_run ttok rfl rfl ?_|(apply s_bin; refine n_bin ?_)|fail))
        refine ax_roundK (i + 1, k1) rfl ⟨by rw [Int.natCast_add]; rfl, trivial⟩ (by dsimp only; omega) (by dsimp only; omega) (fun _ _ h => ?_)
        dsimp only
        rw [hzt, List.filter_append, List.map_append, ← addN_app]
        simpa [e2, addN] using h
    · have hil : i = min h.rule.Out.length y.length := by have := of_decide_eq_false e; rw [hm] at this; omega
      subst hil
      (repeat' (first|refine at_exit ?_|refine ax_then_exit ?_|refine ax_blk ?_|refine ax_blk_exit ?_|refine ax_loop_exit ?_|fail))
      refine ax_end0 rfl ⟨k1, ?_⟩
      rw [List.take_of_length_le (by rw [List.length_zip]; exact Nat.le_refl _)]
  have ht : tellN h p = if h.kind = 2 then h.rule.Out else if h.kind = 3 then h.rule.Out.take 1 else [] := by unfold tellN; rw [if_neg (by omega)]
  rw [ht]
  unfold hopB hopC
  dsimp only
  (repeat' (first|refine at_seq ?_|refine at_region ?_|refine at_block ?_|refine ax_then ?_|refine atl_nil ?_|refine n_run ttok rfl rfl ?_|(apply s_load; first|refine n_load ttok 0 rfl rfl rfl rfl rfl ?_|refine n_load ttok 1 rfl rfl rfl rfl rfl ?_|refine n_load ttok 2 rfl rfl rfl rfl rfl ?_|refine n_load ttok 3 rfl rfl rfl rfl rfl ?_|refine n_loadA ttok 0 rfl rfl rfl rfl rfl ?_|refine n_loadA ttok 1 rfl rfl rfl rfl rfl ?_|refine n_loadA ttok 2 rfl rfl rfl rfl rfl ?_|refine n_load ttok 1 rfl rfl rfl (by assumption) rfl ?_|refine n_load ttok 0 rfl rfl rfl (by assumption) rfl ?_|fail)|fail))
  refine at_cond rfl (fun h => absurd (of_decide_eq_true h) h1) (fun _ => ?_)
  (repeat' (first|refine at_region ?_|refine ax_then ?_|refine atl_nil ?_|refine n_run ttok rfl rfl ?_|fail))
  rw [decide_eq_false h5]
  (repeat' (first|refine at_seq ?_|refine at_region ?_|refine ax_then ?_|refine atl_nil ?_|refine n_run ttok rfl rfl ?_|refine n_condF rfl ?_|fail))
  refine at_cond rfl (fun e => ?_) (fun e => ?_)
  · have e' := of_decide_eq_true e
    rw [if_pos e']
    (repeat' (first|refine at_region ?_|refine n_run ttok rfl rfl ?_|(apply s_load; first|refine n_load ttok 0 rfl rfl rfl rfl rfl ?_|refine n_load ttok 1 rfl rfl rfl rfl rfl ?_|refine n_load ttok 2 rfl rfl rfl rfl rfl ?_|refine n_load ttok 3 rfl rfl rfl rfl rfl ?_|refine n_loadA ttok 0 rfl rfl rfl rfl rfl ?_|refine n_loadA ttok 1 rfl rfl rfl rfl rfl ?_|refine n_loadA ttok 2 rfl rfl rfl rfl rfl ?_|refine n_load ttok 1 rfl rfl rfl (by assumption) rfl ?_|refine n_load ttok 0 rfl rfl rfl (by assumption) rfl ?_|fail)|fail))
    refine n_callA (setGl np nb n k l) _ (addGl np nb n k l h.rule.Out hn hl) rfl rfl List.perm_append_comm rfl fun c L1 ⟨k', hL⟩ => ?_
    subst hL
    refine atl_turn (turn_perm List.perm_append_comm) ?_
    (repeat' (first|refine ax_blk ?_|refine atl_nil ?_|fail))
    exact ax_end0 rfl ⟨k', rfl⟩
  have e2 := of_decide_eq_false e
  rw [if_neg e2]
  (repeat' (first|refine at_seq ?_|refine at_region ?_|refine ax_then ?_|refine atl_nil ?_|refine n_run ttok rfl rfl ?_|fail))
  refine at_cond rfl (fun e => ?_) (fun e => ?_)
  · have e' := of_decide_eq_true e
    rw [if_pos e']
    (repeat' (first|fail))
    refine at_draw 15 [(0, .v), (1, .v), (2, .v), (3, .v), (4, .v), (5, .l), (6, .v), (7, .v), (8, .v), (9, .v), (10, .l), (11, .v), (12, .v), (13, .v), (14, .e)] none ?_ trivial rfl (by kernel_rfl) (by kernel_rfl) (by kernel_rfl) mixed (by kernel_rfl) rfl
    (repeat' (first|refine da_open ?_|refine d_run ttok ?_|refine d_load ttok 0 rfl rfl rfl rfl (by first|trivial|rfl) ?_|fail))
    refine d_cutH ttok (min h.rule.Out.length 1) rfl rfl rfl rfl rfl (by rw [hOl]; omega) (by rw [hOl]; omega) trivial ?_
    (repeat' (first|refine da_open ?_|fail))
    refine d_callA (setGl np nb n k l) _ (addGl np nb n k l (h.rule.Out.take 1) hn hl) rfl (by rw [show (ints h.rule.Out).take (min h.rule.Out.length 1) = ints (h.rule.Out.take 1) from ints_take1 _]; rfl) List.perm_append_comm trivial fun c L1 ⟨k', hL⟩ => ?_
    subst hL
    (repeat' (first|fail))
    refine da_end [] rfl rfl ?_
    (repeat' (first|refine ax_blk ?_|refine atl_nil ?_|fail))
    exact ax_turn (turn_perm List.perm_append_comm) (ax_end0 rfl ⟨k', rfl⟩)
  · have e' := of_decide_eq_false e
    rw [if_neg e']
    (repeat' (first|refine at_skip ?_|refine ax_blk ?_|fail))
    exact ax_end0 rfl ⟨k, rfl⟩
end Go.Proofs.YtpbinloeemebkaaGreat

namespace Go.Proofs.YtpbinloeemebkaaGreat
open Go.RowKit
attribute [local irreducible] AT ATL AX AO Av Kt ALoopK OkA DA DA1
section
variable {P : Program} {l : List Oper} {fr : AFr} {fin : FinA} {sk : AkL} {acc : AFr} {L : AL} {k : Nat} {dd : Option Tmp} {ty t t' : TypeId} {pos : String} {af : Array Edge} {g : Option (Nat × Bool)} {x y : Operand} {u : AV}
theorem d_box {cs : List AV} (hx : aev (frkA l.toArray acc fr af.toList) x = some u) (hc : u.cells = some cs) (hg : GOA ⟨dd, .box t x, ty, pos, af, g⟩ acc) (h : ∀ b, DA P l fr fin sk ((k, Ptr b) :: acc) ((b, .box cs t) :: L)) : DA1 P l fr fin k .a ⟨dd, .box t x, ty, pos, af, g⟩ sk acc L :=
  da_add (fun c L' ⟨b, _, h2⟩ => ⟨[(b, .box cs t)], h2⟩) hg (fun _ => ao_box hx hc) fun c L' ⟨b, h1, h2⟩ => by subst h1; subst h2; exact h b
end
def hopR (l : FLookup) (r : FRule) : Hop := ⟨r, l.Kind, l.Ignore, r.In ++ (r.Back ++ r.Ahead)⟩
def hopsRs (l : FLookup) (rs : List FRule) : List Hop := (rs.filter fun r => decide (r.In ≠ [])).map (hopR l)
def hopsLk (f : FFont) (n : Int) : List Hop := match f.Lookups[n.toNat]? with
  | some l => hopsRs l l.Rules
  | none => []
def hopsOf (f : FFont) (ks : List Int) : List Hop := ks.flatMap (hopsLk f)
theorem hopsOf_take {f : FFont} {S : List Int} {i : Nat} {z : Int} (h : S[i]? = some z) : hopsOf f (S.take (i + 1)) = hopsOf f (S.take i) ++ hopsLk f z := by
  unfold hopsOf
  rw [List.take_add_one, h, Option.toList_some, List.flatMap_append]
  simp
abbrev HQ := List (Nat × Hop)
def gro (f : FFont) (gp : Nat) (k : Option (Nat × Nat)) (hq : HQ) (Z : AL) : AL := (gp, .box (groC f k (hq.map (·.1))) 131) :: (tok k 133 1 (hq.map (·.1)).length ++ (hq.map hopB ++ Z))
theorem hopsRs_yes {l : FLookup} {j : Nat} {r : FRule} (h : l.Rules[j]? = some r) (hr : r.In ≠ []) : hopsRs l (l.Rules.take (j + 1)) = hopsRs l (l.Rules.take j) ++ [hopR l r] := by
  unfold hopsRs
  rw [List.take_add_one, h, Option.toList_some, List.filter_append, List.map_append]
  simp [hr]
theorem hopsRs_no {l : FLookup} {j : Nat} {r : FRule} (h : l.Rules[j]? = some r) (hr : r.In = []) : hopsRs l (l.Rules.take (j + 1)) = hopsRs l (l.Rules.take j) := by
  unfold hopsRs
  rw [List.take_add_one, h, Option.toList_some, List.filter_append, List.map_append]
  simp [hr]
theorem perm_out {R : AL} {a : Nat × AB} {t h M : AL} : (R ++ (a :: (t ++ (h ++ M)))).Perm (a :: (t ++ (h ++ (R ++ M)))) := by
  have := List.perm_append_comm_assoc R (a :: (t ++ h)) M
  simpa using this
theorem perm_add {a b : Nat × AB} {t X Z : AL} : (t ++ (a :: b :: (X ++ Z))).Perm (b :: (t ++ ((X ++ [a]) ++ Z))) := by
  refine (List.Perm.append_left t (List.Perm.swap ..)).trans ?_
  refine List.perm_middle.trans (List.Perm.cons _ (List.Perm.append_left t ?_))
  rw [List.append_assoc]
  exact List.perm_middle.symm
theorem qs_len {l : FLookup} {rs : List FRule} : (hopsRs l rs).length ≤ rs.length := by
  unfold hopsRs
  rw [List.length_map]
  exact List.length_filter_le _ _
theorem setsN_len (l : List (List Int)) : l.length ≤ setsN l := by
  unfold setsN
  induction l with
  | nil => simp
  | cons x l ih => simp only [List.map_cons, List.sum_cons, List.length_cons]; omega
theorem Small.ruleSets {f : FFont} (hs : Small f) {l : FLookup} {r : FRule} (h : l ∈ f.Lookups) (hr : r ∈ l.Rules) : sumLen [r.In, r.Back, r.Ahead] ≤ 1000000 := by
  have h1 := hs.rule h hr
  unfold ruleN at h1
  have h2 := setsN_len r.In
  have h3 := setsN_len r.Back
  have h4 := setsN_len r.Ahead
  simp only [sumLen, List.map_cons, List.map_nil, List.sum_cons, List.sum_nil]
  omega
theorem hops_len (f : FFont) (hs : Small f) (S : List Int) : (hopsOf f S).length ≤ 2000 * S.length := by
  unfold hopsOf
  induction S with
  | nil => simp
  | cons n S ih =>
    rw [List.flatMap_cons, List.length_append, List.length_cons]
    have : (hopsLk f n).length ≤ 2000 := by
      unfold hopsLk
      split
      · rename_i l hl
        exact Nat.le_trans qs_len (hs.rulesL (List.mem_of_getElem? hl))
      · simp
    omega
set_option maxHeartbeats 8000000 in
theorem newGrowth_ac (f : FFont) (hs : Small f) (ks : List Int) : AC Tryz.prog 37 [aFont f, .imm 1 (ints ks)] [] fun c L => ∃ gp k hq, c = Ptr gp ∧ L = gro f gp k hq [] ∧ hq.map (·.2) = hopsOf f (addN f.Lookups.length [] ks) := by
  refine ac_ofM Tryz.func37 rfl Tryz.ntmps37 rfl fun B => ?_
  have hLk := hs.lookups
  have hml : (f.Lookups.map cLookup).length = f.Lookups.length := List.length_map ..
  (repeat' (first|refine at_seq ?_|refine at_region ?_|refine ax_then ?_|refine atl_nil ?_|refine n_run ttok rfl rfl ?_|(apply s_store; first|refine n_storeF 5 ttok 0 rfl rfl rfl rfl rfl rfl rfl rfl ?_|refine n_storeF 5 ttok 1 rfl rfl rfl rfl rfl rfl rfl rfl ?_|refine n_storeF 5 ttok 2 rfl rfl rfl rfl rfl rfl rfl rfl ?_|refine n_storeF 8 ttok 0 rfl rfl rfl rfl rfl rfl rfl rfl ?_|refine n_storeF 8 ttok 1 rfl rfl rfl rfl rfl rfl rfl rfl ?_|refine n_storeF 8 ttok 2 rfl rfl rfl rfl rfl rfl rfl rfl ?_|refine n_storeF 10 ttok 0 rfl rfl rfl rfl rfl rfl rfl rfl ?_|refine n_storeF 10 ttok 1 rfl rfl rfl rfl rfl rfl rfl rfl ?_|refine n_storeF 10 ttok 2 rfl rfl rfl rfl rfl rfl rfl rfl ?_|refine n_store ttok 0 rfl rfl rfl rfl rfl rfl rfl ?_|refine n_store ttok 1 rfl rfl rfl rfl rfl rfl rfl ?_|refine n_store ttok 2 rfl rfl rfl rfl rfl rfl rfl ?_|refine n_store ttok 3 rfl rfl rfl rfl rfl rfl rfl ?_|fail)|refine n_box (d := 14) fun _=>?_|refine n_boxI ?_|refine n_alloc ttok fun _=>?_|fail))
  rw [hml]
  rename_i gp _
  refine atl_turn (turn_cells 0 (cs' := groC f none []) rfl fun σ vs h => vrs_map (cs := cFont f ++ [.sc (.slice none 0 0)]) rfl (fun i c c' h1 h2 v hv => ?_) h) ?_
  · by_cases hi : i = 9
    · subst hi
      simp [groC, cFont] at h1 h2
      subst h1; subst h2
      exact vr_nil 1 hv
    · have h3 : i < 9 := by
        have := (List.getElem?_eq_some_iff.1 h2).1
        simp [groC, cFont] at this
        omega
      have e : some c = some c' := by
        rw [← h1, ← h2]
        show (cFont f ++ [_])[i]? = (cFont f ++ [_])[i]?
        rw [List.getElem?_append_left (by simpa [cFont] using h3), List.getElem?_append_left (by simpa [cFont] using h3)]
      injection e with e
      rw [← e]
      exact hv
  refine n_callA [] [(gp, .box (groC f none []) 131)] (newLk f.Lookups.length (by omega)) rfl rfl (List.Perm.refl _) rfl fun c L1 ⟨p, b, hc, hL⟩ => ?_
  subst hc; subst hL
  (repeat' (first|refine at_seq ?_|refine at_region ?_|refine ax_then ?_|refine atl_nil ?_|refine n_run ttok rfl rfl ?_|fail))
  refine n_callA (setLk p b f.Lookups.length none []) _ (addLk p b f.Lookups.length none [] ks (by omega) SetOk.nil) rfl rfl (List.Perm.refl _) rfl fun c L1 ⟨kS, hL⟩ => ?_
  subst hL
  have hok := (SetOk.nil (n := f.Lookups.length)).add ks
  generalize addN f.Lookups.length [] ks = S at *
  have hSl := hok.len
  (repeat' (first|refine at_seq ?_|refine at_region ?_|refine at_block ?_|refine ax_then ?_|refine atl_nil ?_|refine n_run ttok rfl rfl ?_|(apply s_call;refine n_call ?_)|fail))
  refine at_weak (fr' := [(23, .fn 51 [.iptr [Ptr p]]), (2, .iptr (cFont f)), (5, .iptr [Ptr gp])]) (L' := setLk p b f.Lookups.length kS S ++ [(gp, .box (groC f none []) 131)]) ⟨rfl, rfl, rfl, trivial⟩ (fun _ _ h => h) ?_
  refine at_range (ps := [24]) rfl fun σ0 l db rec hrec => ?_
  have hy : ∀ (i : Nat) (x : HQ × Option (Nat × Nat)) (z : Int), (i ≤ S.length ∧ x.1.map (·.2) = hopsOf f (S.take i)) → S[i]? = some z → AY Tryz.prog σ0 l [I64 z] (setLk p b f.Lookups.length kS S ++ gro f gp x.2 x.1 ([(db, dfO)] ++ [(l, lpO rec)])) fun c L => c = Bol true ∧ ∃ x' : HQ × Option (Nat × Nat), (i + 1 ≤ S.length ∧ x'.1.map (·.2) = hopsOf f (S.take (i + 1))) ∧ L = setLk p b f.Lookups.length kS S ++ gro f gp x'.2 x'.1 ([(db, dfO)] ++ [(l, lpO rec)]) := by
    rintro i ⟨hq, k⟩ z ⟨hi1, hh⟩ hz
    dsimp only at hi1 hh ⊢
    have hil := (List.getElem?_eq_some_iff.1 hz).1
    have hzr := hok.dom z (List.mem_of_getElem? hz)
    obtain ⟨x, hx⟩ : ∃ x, f.Lookups[z.toNat]? = some x := ⟨_, List.getElem?_eq_getElem (by omega)⟩
    have hxm := List.mem_of_getElem? hx
    have hxg := map_get (c := cLookup) hx
    have hRl := hs.rulesL hxm
    have hRm : (x.Rules.map cRule).length = x.Rules.length := List.length_map ..
    have hxl : hopsLk f z = hopsRs x x.Rules := by unfold hopsLk; rw [hx]
    have hqs := hops_len f hs (S.take i)
    rw [← hh, List.length_map, List.length_take] at hqs
    have hE : ∀ q : HQ, ∀ kk, setLk p b f.Lookups.length kS S ++ gro f gp kk q ([(db, dfO)] ++ [(l, lpO rec)]) = (setLk p b f.Lookups.length kS S ++ (gp, .box (groC f kk (q.map (·.1))) 131) :: (tok kk 133 1 (q.map (·.1)).length ++ (q.map hopB ++ [(db, dfO)]))) ++ [(l, lpO rec)] := fun q kk => by unfold gro; simp
    rw [hE]
    refine ay_of hrec rfl rfl fun B1 hB1 => ?_
    (repeat' (first|refine at_region ?_|refine atl_nil ?_|refine n_run ttok rfl rfl ?_|fail))
    refine ax_begin hrec.state ?_
    (repeat' (first|refine at_seq ?_|refine at_region ?_|refine at_block ?_|refine ax_then ?_|refine atl_nil ?_|refine n_run ttok rfl rfl ?_|(apply s_index; first|refine n_index ttok ?_|refine n_indexP ttok ?_)|(apply s_store; first|refine n_storeF 5 ttok 0 rfl rfl rfl rfl rfl rfl rfl rfl ?_|refine n_storeF 5 ttok 1 rfl rfl rfl rfl rfl rfl rfl rfl ?_|refine n_storeF 5 ttok 2 rfl rfl rfl rfl rfl rfl rfl rfl ?_|refine n_storeF 8 ttok 0 rfl rfl rfl rfl rfl rfl rfl rfl ?_|refine n_storeF 8 ttok 1 rfl rfl rfl rfl rfl rfl rfl rfl ?_|refine n_storeF 8 ttok 2 rfl rfl rfl rfl rfl rfl rfl rfl ?_|refine n_storeF 10 ttok 0 rfl rfl rfl rfl rfl rfl rfl rfl ?_|refine n_storeF 10 ttok 1 rfl rfl rfl rfl rfl rfl rfl rfl ?_|refine n_storeF 10 ttok 2 rfl rfl rfl rfl rfl rfl rfl rfl ?_|refine n_store ttok 0 rfl rfl rfl rfl rfl rfl rfl ?_|refine n_store ttok 1 rfl rfl rfl rfl rfl rfl rfl ?_|refine n_store ttok 2 rfl rfl rfl rfl rfl rfl rfl ?_|refine n_store ttok 3 rfl rfl rfl rfl rfl rfl rfl ?_|fail)|refine n_alloc ttok fun _=>?_|fail))
    refine at_loopK [2, 5, 8, 24, 31, 32] (α := Nat × HQ × Option (Nat × Nat)) (fun y => [(33, I64 y.1)]) (fun y => y.1 ≤ x.Rules.length ∧ y.2.1.map (·.2) = hopsOf f (S.take i) ++ hopsRs x (x.Rules.take y.1)) (fun y => gro f gp y.2.2 y.2.1 (setLk p b f.Lookups.length kS S ++ ([(db, dfO)] ++ [(l, lpO { rec with state := .busy })]))) (fun y => x.Rules.length - y.1) (0, hq, k) rfl ⟨rfl, trivial⟩ ⟨Nat.zero_le _, by rw [hh]; simp [hopsRs]⟩ (fun σ w h => ?_) ?_
    · refine ASt.perm h ?_
      have := perm_out (R := setLk p b f.Lookups.length kS S) (a := (gp, AB.box (groC f k (hq.map (·.1))) 131)) (t := tok k 133 1 (hq.map (·.1)).length) (h := hq.map hopB) (M := [(db, dfO)] ++ [(l, lpO { rec with state := .busy })])
      simpa [gro] using this
    clear hh
    rintro ⟨j, hq, k⟩ ⟨hj, hh⟩
    dsimp only at hj hh ⊢
    have hlen := congrArg List.length hh
    rw [List.length_map, List.length_append] at hlen
    have hb1 := hops_len f hs (S.take i)
    rw [List.length_take] at hb1
    have hb2 := qs_len (l := x) (rs := x.Rules.take j)
    rw [List.length_take] at hb2
    have hql : ((hq.map (·.1)).map fun q => [Ptr q]).length = hq.length := by simp
    generalize hZ : setLk p b f.Lookups.length kS S ++ ([(db, dfO)] ++ [(l, lpO { rec with state := .busy })]) = Z
    try dsimp only [List.cons_append, List.nil_append, List.map_cons, List.map_nil]
    (repeat' (first|refine at_seq ?_|refine at_region ?_|refine ax_then ?_|refine atl_nil ?_|refine n_run ttok rfl rfl ?_|fail))
    refine at_cond rfl (fun h => ?_) (fun h => ?_)
    · have hjl : j < x.Rules.length := by have := of_decide_eq_true h; simp at this; omega
      obtain ⟨r, hr⟩ : ∃ r, x.Rules[j]? = some r := ⟨_, List.getElem?_eq_getElem hjl⟩
      have hrm := List.mem_of_getElem? hr
      have hrg := map_get (c := cRule) hr
      have hIl := rowsI_len r.In
      clear h
      (repeat' (first|refine at_seq ?_|refine at_region ?_|refine at_block ?_|refine at_skip ?_|refine ax_then ?_|refine atl_nil ?_|refine n_run ttok rfl rfl ?_|(apply s_index; first|refine n_index ttok ?_|refine n_indexP ttok ?_)|(apply s_store; first|refine n_storeF 5 ttok 0 rfl rfl rfl rfl rfl rfl rfl rfl ?_|refine n_storeF 5 ttok 1 rfl rfl rfl rfl rfl rfl rfl rfl ?_|refine n_storeF 5 ttok 2 rfl rfl rfl rfl rfl rfl rfl rfl ?_|refine n_storeF 8 ttok 0 rfl rfl rfl rfl rfl rfl rfl rfl ?_|refine n_storeF 8 ttok 1 rfl rfl rfl rfl rfl rfl rfl rfl ?_|refine n_storeF 8 ttok 2 rfl rfl rfl rfl rfl rfl rfl rfl ?_|refine n_storeF 10 ttok 0 rfl rfl rfl rfl rfl rfl rfl rfl ?_|refine n_storeF 10 ttok 1 rfl rfl rfl rfl rfl rfl rfl rfl ?_|refine n_storeF 10 ttok 2 rfl rfl rfl rfl rfl rfl rfl rfl ?_|refine n_store ttok 0 rfl rfl rfl rfl rfl rfl rfl ?_|refine n_store ttok 1 rfl rfl rfl rfl rfl rfl rfl ?_|refine n_store ttok 2 rfl rfl rfl rfl rfl rfl rfl ?_|refine n_store ttok 3 rfl rfl rfl rfl rfl rfl rfl ?_|fail)|refine n_alloc ttok fun _=>?_|fail))
      refine at_cond rfl (fun h => ?_) (fun h => ?_)
      · have hIn : r.In ≠ [] := fun e => by have := of_decide_eq_true h; rw [hIl, e] at this; simp at this
        clear h
        (repeat' (first|refine at_seq ?_|refine at_region ?_|refine n_run ttok rfl rfl ?_|refine n_litI ttok ?_|fail))
        refine n_call (hc := ⟨concat_det [r.In, r.Back, r.Ahead] (hs.ruleSets hxm hrm)⟩) ?_
        rw [show ([r.In, r.Back, r.Ahead] : List (List (List Int))).flatten = r.In ++ (r.Back ++ r.Ahead) by simp]
        unfold gro groC
        (repeat' (first|refine ax_then ?_|refine atl_nil ?_|refine n_run ttok rfl rfl ?_|fail))
        refine at_draw 15 [(0, .v), (1, .v), (2, .v), (3, .v), (4, .l), (5, .v), (6, .v), (7, .v), (8, .v), (9, .v), (10, .v), (11, .v), (12, .a), (13, .v), (14, .e)] none ?_ trivial rfl (by kernel_rfl) (by kernel_rfl) (by kernel_rfl) mixed (by kernel_rfl) rfl
        (repeat' (first|refine da_open ?_|refine d_run ttok ?_|refine d_load ttok 0 rfl rfl rfl rfl (by first|trivial|rfl) ?_|fail))
        refine d_box rfl rfl trivial fun q => ?_
        (repeat' (first|refine da_open ?_|refine d_lit ttok ?_|fail))
        refine d_append ttok _ rfl rfl rfl rfl (perm_tok (H := []) (T := tok k 133 1 (hq.map (·.1)).length) (T' := []) (by simp)) (by rw [hql]; show _ + 1 ≤ _; omega) (by rw [hql]; show (_ + 1) * 8 ≤ _; omega) trivial fun k' => ?_
        (repeat' (first|fail))
        refine da_end [2, 5, 8, 24, 31, 32, 33, 49, 63] rfl rfl ?_
        refine atl_turn (turn_perm (perm_add (X := hq.map hopB))) ?_
        (repeat' (first|refine at_region ?_|refine ax_then ?_|refine ax_blk ?_|refine atl_nil ?_|refine n_run ttok rfl rfl ?_|(apply s_bin; refine n_bin ?_)|(apply s_store; first|refine n_storeF 5 ttok 0 rfl rfl rfl rfl rfl rfl rfl rfl ?_|refine n_storeF 5 ttok 1 rfl rfl rfl rfl rfl rfl rfl rfl ?_|refine n_storeF 5 ttok 2 rfl rfl rfl rfl rfl rfl rfl rfl ?_|refine n_storeF 8 ttok 0 rfl rfl rfl rfl rfl rfl rfl rfl ?_|refine n_storeF 8 ttok 1 rfl rfl rfl rfl rfl rfl rfl rfl ?_|refine n_storeF 8 ttok 2 rfl rfl rfl rfl rfl rfl rfl rfl ?_|refine n_storeF 10 ttok 0 rfl rfl rfl rfl rfl rfl rfl rfl ?_|refine n_storeF 10 ttok 1 rfl rfl rfl rfl rfl rfl rfl rfl ?_|refine n_storeF 10 ttok 2 rfl rfl rfl rfl rfl rfl rfl rfl ?_|refine n_store ttok 0 rfl rfl rfl rfl rfl rfl rfl ?_|refine n_store ttok 1 rfl rfl rfl rfl rfl rfl rfl ?_|refine n_store ttok 2 rfl rfl rfl rfl rfl rfl rfl ?_|refine n_store ttok 3 rfl rfl rfl rfl rfl rfl rfl ?_|fail)|fail))
        have e : gro f gp k' (hq ++ [(q, hopR x r)]) Z = (gp, AB.box (cFont f ++ [AV.vec k' 1 (List.map (fun q => [Ptr q]) (hq.map (·.1)) ++ [[Ptr q]])]) 131) :: (tok k' 133 1 (List.map (fun q => [Ptr q]) (hq.map (·.1)) ++ [[Ptr q]]).length ++ ((hq.map hopB ++ [hopB (q, hopR x r)]) ++ Z)) := by unfold gro groC; simp
        exact ax_roundK (j + 1, hq ++ [(q, hopR x r)], k') rfl ⟨by rw [Int.natCast_add]; rfl, trivial⟩ ⟨by dsimp only; omega, by rw [hopsRs_yes hr hIn, List.map_append, hh, List.append_assoc]; rfl⟩ (by dsimp only; omega) (fun σ w h => by have h2 : ASt B1 σ (gro f gp k' (hq ++ [(q, hopR x r)]) Z) w := (by rw [e]; exact h); exact h2)
      · have hIn : r.In = [] := List.eq_nil_of_length_eq_zero (by have := of_decide_eq_false h; rw [hIl] at this; omega)
        (repeat' (first|refine at_region ?_|refine at_skip ?_|refine ax_then ?_|refine ax_blk ?_|refine atl_nil ?_|refine n_run ttok rfl rfl ?_|(apply s_bin; refine n_bin ?_)|fail))
        exact ax_roundK (j + 1, hq, k) rfl ⟨by rw [Int.natCast_add]; rfl, trivial⟩ ⟨by dsimp only; omega, by rw [hopsRs_no hr hIn]; exact hh⟩ (by dsimp only; omega) (fun _ _ h => h)
    · have hjl : j = x.Rules.length := by have := of_decide_eq_false h; simp at this; omega
      subst hjl
      rw [List.take_length] at hh
      (repeat' (first|refine at_exit ?_|refine ax_then_exit ?_|refine ax_blk ?_|refine ax_blk_exit ?_|refine ax_loop_exit ?_|fail))
      refine ax_turn (L' := (setLk p b f.Lookups.length kS S ++ (gp, .box (groC f k (hq.map (·.1))) 131) :: (tok k 133 1 (hq.map (·.1)).length ++ (hq.map hopB ++ [(db, dfO)]))) ++ [(l, lpO { rec with state := .busy })]) (turn_perm ?_) (ax_rnd ?_)
      · subst hZ
        have := (perm_out (R := setLk p b f.Lookups.length kS S) (a := (gp, AB.box (groC f k (hq.map (·.1))) 131)) (t := tok k 133 1 (hq.map (·.1)).length) (h := hq.map hopB) (M := [(db, dfO)] ++ [(l, lpO { rec with state := .busy })])).symm
        simpa [gro] using this
      · rw [rec_same hrec.state hrec.pending]
        refine ⟨rfl, (hq, k), ⟨hil, ?_⟩, by simp [gro]⟩
        rw [hopsOf_take hz, hxl]
        exact hh
  have hit := pendLk (σ0 := σ0) (l := l) (p := p) (b := b) (n := f.Lookups.length) (fun _ => S) (fun _ => kS) (fun x : HQ × Option (Nat × Nat) => gro f gp x.2 x.1 ([(db, dfO)] ++ [(l, lpO rec)])) (fun i x => i ≤ S.length ∧ x.1.map (·.2) = hopsOf f (S.take i)) (by omega) (fun i x h => ⟨h.1, hSl⟩) hy ([], none) ⟨Nat.zero_le _, rfl⟩
  refine ⟨_, hit.perm (List.Perm.of_eq (by simp [gro, tok])), ?_⟩
  rintro c L' ⟨⟨hq, k⟩, ⟨_, hh⟩, rfl⟩
  dsimp only at hh ⊢
  rw [List.take_length] at hh
  refine ⟨rec, setLk p b f.Lookups.length kS S ++ gro f gp k hq [(db, dfO)], List.Perm.of_eq (by simp [gro]), (by rw [hrec.state]; intro h; cases h), ?_⟩
  rw [hrec.pending]
  show AX _ _ _ _ _ _ _ _
  (repeat' (first|refine at_seq ?_|refine at_region ?_|refine at_ret ?_|refine ax_then ?_|refine ax_blk ?_|refine atl_nil ?_|refine n_run ttok rfl rfl ?_|fail))
  refine ax_drop (List.sublist_append_right ..) ?_
  exact ax_retM (cs := [Ptr gp]) [db] (gro f gp k hq []) rfl (List.Perm.of_eq (by simp [gro])) ⟨rfl, trivial⟩ ⟨gp, k, hq, rfl, rfl, hh⟩
end Go.Proofs.YtpbinloeemebkaaGreat
