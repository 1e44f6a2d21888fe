/-
  The program: what the first look tells that finds something wrong.
-/
import Derived.Test.YtpbinloeemebkaaGreatM08
import Derived.Test.YtpbinloeemebkaaGreatM05
import Derived.Test.YtpbinloeemebkaaGreatM07
namespace Go.Proofs.YtpbinloeemebkaaGreat
open Go.RowKit
attribute [local irreducible] AT ATL AX AO Av Kt ALoopK OkA DA DA1
structure Lk where
  f : FuncId
  caps : List AV
  L : AL
  e : Int
  n : Int
def Lk.ok (x : Lk) : Prop := CFn Tryz.prog x.f ∧ AC Tryz.prog x.f x.caps x.L fun c _ => c = tup2 (x.e, x.n)
def lkE : List Lk → Int × Int
  | [] => (0, 0)
  | x :: r => if x.e = 0 then lkE r else (x.e, x.n)
def lkL (l : List Lk) : AL := (l.map Lk.L).flatten
def lkOk : List Lk → Prop
  | [] => True
  | x :: r => x.ok ∧ (x.e = 0 → lkOk r)
def lkC (x : Lk) : List AV := [.fn x.f x.caps]
theorem lkE_drop {l : List Lk} {i : Nat} {x : Lk} (h : l[i]? = some x) : lkE (l.drop i) = if x.e = 0 then lkE (l.drop (i + 1)) else (x.e, x.n) := by
  obtain ⟨hi, hx⟩ := List.getElem?_eq_some_iff.1 h
  rw [List.drop_eq_getElem_cons hi, hx]
  rfl
theorem lkOk_drop {l : List Lk} {i : Nat} {x : Lk} (h : l[i]? = some x) (hk : lkOk (l.drop i)) : x.ok ∧ (x.e = 0 → lkOk (l.drop (i + 1))) := by
  obtain ⟨hi, hx⟩ := List.getElem?_eq_some_iff.1 h
  rw [List.drop_eq_getElem_cons hi, hx] at hk
  exact hk
theorem lkE_zero : ∀ {l : List Lk}, (lkE l).1 = 0 → lkE l = (0, 0)
  | [], _ => rfl
  | x :: r, h => by
    unfold lkE at h ⊢
    split
    · rename_i h0
      rw [if_pos h0] at h
      exact lkE_zero h
    · rename_i h0
      rw [if_neg h0] at h
      exact absurd h h0
theorem lkL_drop {l : List Lk} {i : Nat} {x : Lk} (h : l[i]? = some x) : lkL (l.drop i) = x.L ++ lkL (l.drop (i + 1)) := by
  obtain ⟨hi, hx⟩ := List.getElem?_eq_some_iff.1 h
  unfold lkL
  rw [List.drop_eq_getElem_cons hi, hx]
  rfl
theorem faults_ac {σ0 : Mem} {l : Nat} (ls : List Lk) (hok : lkOk ls) (E : AL) (E' : Int → Int → AL) (hy : ∀ e n, e ≠ 0 → AY Tryz.prog σ0 l [I64 e, I64 n] E fun c L => c = Bol false ∧ L = E' e n) :
    ACs Tryz.prog σ0 221 [.sc (.func (.yield l) #[] #[]), .iptr [.imm 1 (ls.map lkC)]] (lkL ls ++ E) fun _ L => L = if (lkE ls).1 = 0 then E else E' (lkE ls).1 (lkE ls).2 := by
  refine acs_of Tryz.func221 rfl Tryz.ntmps221 rfl fun B hB => ?_
  (repeat' (first|refine at_seq ?_|refine at_region ?_|refine at_block ?_|refine ax_then ?_|refine atl_nil ?_|refine n_run ttok rfl rfl ?_|fail))
  refine at_len 7 rfl rfl fun hlen => ?_
  rw [List.length_map] at hlen
  refine at_loopK [0, 7, 8] (α := Nat) (fun i => [(9, I64 i)]) (fun i => i ≤ ls.length ∧ lkE ls = lkE (ls.drop i) ∧ lkOk (ls.drop i)) (fun i => lkL (ls.drop i) ++ E) (fun i => ls.length - i) 0 rfl ⟨rfl, trivial⟩ ⟨Nat.zero_le _, rfl, hok⟩ (fun _ _ h => h) fun i ⟨hi, he, hok⟩ => ?_
  try dsimp only [List.cons_append, List.nil_append, List.map_cons, List.map_nil]
  (repeat' (first|refine at_seq ?_|refine at_region ?_|refine ax_then ?_|refine atl_nil ?_|refine n_run ttok rfl rfl ?_|fail))
  refine at_cond rfl (fun h => ?_) (fun h => ?_)
  · have hil : i < ls.length := by have := of_decide_eq_true h; simp at this; omega
    obtain ⟨x, hx⟩ : ∃ z, ls[i]? = some z := ⟨_, List.getElem?_eq_getElem hil⟩
    have hzg := map_get (c := lkC) hx
    obtain ⟨⟨hcf, hac⟩, hok⟩ := lkOk_drop hx hok
    rw [lkE_drop hx] at he
    rw [lkL_drop hx]
    (repeat' (first|refine at_seq ?_|refine at_region ?_|refine at_block ?_|refine at_skip ?_|refine ax_then ?_|refine atl_nil ?_|refine n_run ttok rfl rfl ?_|(apply s_index; first|refine n_index ttok ?_|refine n_indexP ttok ?_)|fail))
    refine n_callF (cs := []) x.L (lkL (ls.drop (i + 1)) ++ E) (by simpa using hac) rfl rfl rfl (by rw [List.append_assoc]) rfl rfl fun c L1 hc => ?_
    subst hc
    refine atl_turn (turn_sub (List.sublist_append_right ..)) ?_
    unfold tup2
    (repeat' (first|refine at_seq ?_|refine at_region ?_|refine ax_then ?_|refine atl_nil ?_|refine n_run ttok rfl rfl ?_|fail))
    by_cases h0 : x.e = 0
    · rw [if_pos h0] at he
      rw [h0]
      (repeat' (first|refine at_region ?_|refine at_skip ?_|refine ax_then ?_|refine ax_blk ?_|refine atl_nil ?_|refine n_run ttok rfl rfl ?_|refine atl_guard_no rfl rfl rfl rfl ?_|(apply s_bin; refine n_bin ?_)|refine n_condF rfl ?_|fail))
      exact ax_roundK (i + 1) rfl ⟨by rw [Int.natCast_add]; rfl, trivial⟩ ⟨by omega, he, hok h0⟩ (by omega) (fun _ _ h => h)
    · rw [if_neg h0] at he
      rw [show decide (x.e ≠ 0) = true from decide_eq_true h0]
      (repeat' (first|refine n_run ttok rfl rfl ?_|refine atl_guard_yes rfl rfl ?_|fail))
      refine atl_turn (turn_sub (List.sublist_append_right ..)) ?_
      refine n_yield E [] hB (hy x.e x.n h0) rfl rfl rfl (perm_nil rfl) rfl rfl fun c L1 ⟨hc, hL⟩ => ?_
      subst hc; subst hL
      rw [List.append_nil]
      (repeat' (first|refine at_ret ?_|refine ax_then ?_|refine ax_then_ret ?_|refine ax_blk_ret ?_|refine ax_loop_ret ?_|refine atl_nil ?_|refine n_run ttok rfl rfl ?_|refine atl_guard_yes rfl rfl ?_|refine n_condT rfl ?_|fail))
      refine ax_ret0 rfl ?_
      rw [he, if_neg h0]
  · have hil : i = ls.length := by have := of_decide_eq_false h; simp at this; omega
    subst hil
    rw [List.drop_length] at he ⊢
    (repeat' (first|refine at_exit ?_|refine ax_then_exit ?_|refine ax_blk_exit ?_|refine ax_loop_exit ?_|fail))
    refine ax_end0 rfl ?_
    rw [he]
    rfl
theorem faults_det (l : List (List AV)) : ADet Tryz.prog 147 [.imm 1 l] (.fn 221 [.iptr [.imm 1 l]]) := by
  refine ac_of Tryz.func147 rfl Tryz.ntmps147 rfl fun B => ?_
  (repeat' (first|refine at_seq ?_|refine at_region ?_|refine at_ret ?_|refine ax_then ?_|refine atl_nil ?_|refine n_run ttok rfl rfl ?_|refine n_boxI ?_|fail))
  exact ax_ret1 rfl rfl rfl
instance (l : List (List AV)) : AD Tryz.prog 147 [.imm 1 l] (.fn 221 [.iptr [.imm 1 l]]) := ⟨faults_det l⟩
theorem perm_two {p q : Nat × AB} {l l2 : AL} : (p :: q :: (l ++ l2)).Perm (l ++ (p :: q :: l2)) := by
  have := (List.perm_append_comm (l₁ := [p, q]) (l₂ := l)).append_right l2
  simpa using this
set_option maxHeartbeats 1000000 in
theorem first_ac (ls : List Lk) (hok : lkOk ls) : AC Tryz.prog 80 [.imm 1 (ls.map lkC)] (lkL ls) fun c _ => c = tup2 (lkE ls) := by
  refine ac_ofM Tryz.func80 rfl Tryz.ntmps80 rfl fun B => ?_
  (repeat' (first|refine at_seq ?_|refine at_region ?_|refine at_block ?_|refine ax_then ?_|refine atl_nil ?_|refine n_run ttok rfl rfl ?_|refine n_alloc ttok fun _=>?_|(apply s_call;refine n_call ?_)|fail))
  rename_i b2 b3
  refine at_range (ps := [8, 9]) rfl fun σ0 l db rec hrec => ?_
  have hy : ∀ e n : Int, e ≠ 0 → AY Tryz.prog σ0 l [I64 e, I64 n] ([(b3, .box [I64 0] 3), (b2, .box [I64 0] 40), (db, dfO)] ++ [(l, lpO rec)]) fun c L => c = Bol false ∧ L = [(b3, .box [I64 n] 3), (b2, .box [I64 e] 40), (db, dfO)] ++ [(l, lpO { ({ rec with state := .busy } : Loop) with state := .done, pending := some .ret })] := by
    intro e n he
    refine ay_of hrec rfl rfl fun B1 hB1 => ?_
    (repeat' (first|refine at_seq ?_|refine at_region ?_|refine ax_then ?_|refine atl_nil ?_|refine n_run ttok rfl rfl ?_|fail))
    refine ax_begin hrec.state ?_
    (repeat' (first|refine at_seq ?_|refine at_region ?_|refine at_block ?_|refine at_ret ?_|refine ax_then ?_|refine ax_blk_ret ?_|refine atl_nil ?_|refine n_run ttok rfl rfl ?_|(apply s_store; first|refine n_store ttok 0 rfl rfl rfl rfl rfl rfl rfl ?_|refine n_store ttok 1 rfl rfl rfl rfl rfl rfl rfl ?_|refine n_store ttok 2 rfl rfl rfl rfl rfl rfl rfl ?_|refine n_store ttok 3 rfl rfl rfl rfl rfl rfl rfl ?_|fail)|fail))
    refine ax_rnd_ret (L := [(b3, .box [I64 n] 3), (b2, .box [I64 e] 40), (db, dfO)]) ?_
    exact ⟨rfl, rfl⟩
  refine ⟨_, (faults_ac ls hok _ _ hy).perm ?_, fun c L' hL' => ?_⟩
  · simp only [List.append_assoc, List.cons_append, List.nil_append]
    exact perm_two
  · by_cases h0 : (lkE ls).1 = 0
    · rw [if_pos h0] at hL'
      subst hL'
      refine ⟨rec, _, List.Perm.refl _, (by rw [hrec.state]; intro h; cases h), ?_⟩
      rw [hrec.pending]
      show AX _ _ _ _ _ _ _ _
      (repeat' (first|refine at_seq ?_|refine at_region ?_|refine at_ret ?_|refine ax_then ?_|refine ax_blk ?_|refine atl_nil ?_|(apply s_store; first|refine n_store ttok 0 rfl rfl rfl rfl rfl rfl rfl ?_|refine n_store ttok 1 rfl rfl rfl rfl rfl rfl rfl ?_|refine n_store ttok 2 rfl rfl rfl rfl rfl rfl rfl ?_|refine n_store ttok 3 rfl rfl rfl rfl rfl rfl rfl ?_|fail)|fail))
      refine ax_retM (cs := [I64 0, I64 0]) [db] [(b3, .box [I64 0] 3), (b2, .box [I64 0] 40)] rfl (List.Perm.refl _) ?_ ?_
      · exact ⟨⟨b2, 1, _, _, rfl, rfl, .inl ⟨scI_spec ttok rfl, rfl⟩⟩, ⟨b3, 0, _, _, rfl, rfl, .inl ⟨scI_spec ttok rfl, rfl⟩⟩, trivial⟩
      · have : lkE ls = (0, 0) := lkE_zero h0
        rw [this]
        rfl
    · rw [if_neg h0] at hL'
      subst hL'
      refine ⟨_, _, List.Perm.refl _, (by intro h; cases h), ?_⟩
      show AX _ _ _ _ _ _ _ _
      (repeat' (first|refine ax_then_ret ?_|refine ax_blk_ret ?_|fail))
      refine ax_retM (cs := [I64 (lkE ls).1, I64 (lkE ls).2]) [db] [(b3, .box [I64 (lkE ls).2] 3), (b2, .box [I64 (lkE ls).1] 40)] rfl (List.Perm.refl _) ?_ rfl
      exact ⟨⟨b2, 1, _, _, rfl, rfl, .inl ⟨scI_spec ttok rfl, rfl⟩⟩, ⟨b3, 0, _, _, rfl, rfl, .inl ⟨scI_spec ttok rfl, rfl⟩⟩, trivial⟩
end Go.Proofs.YtpbinloeemebkaaGreat

namespace Go.Proofs.YtpbinloeemebkaaGreat
open Go.RowKit
attribute [local irreducible] AT ATL AX AO Av Kt ALoopK OkA DA DA1
def whenE (b : Bool) (e : Int) : Int := bif b then e else 0
theorem when_det (b : Bool) (e : Int) : ADet Tryz.prog 111 [Bol b, I64 e] (I64 (whenE b e)) := by
  refine ac_of Tryz.func111 rfl Tryz.ntmps111 rfl fun B => ?_
  (repeat' (first|refine at_seq ?_|refine at_region ?_|refine ax_then ?_|refine atl_nil ?_|refine n_run ttok rfl rfl ?_|fail))
  refine at_cond rfl (fun h => ?_) (fun h => ?_)
  · subst h
    (repeat' (first|refine at_seq ?_|refine at_region ?_|refine at_ret ?_|refine ax_then ?_|refine ax_then_ret ?_|refine atl_nil ?_|refine n_run ttok rfl rfl ?_|fail))
    exact ax_ret1 rfl rfl rfl
  · subst h
    (repeat' (first|refine at_seq ?_|refine at_region ?_|refine at_skip ?_|refine at_ret ?_|refine ax_then ?_|refine atl_nil ?_|refine n_run ttok rfl rfl ?_|fail))
    exact ax_ret1 rfl rfl rfl
instance (b : Bool) (e : Int) : AD Tryz.prog 111 [Bol b, I64 e] (I64 (whenE b e)) := ⟨when_det b e⟩
def mayN (z : Int) : Bool := decide (-16384 ≤ z ∧ z ≤ 16384)
theorem may_det (l : List Int) : ADet Tryz.prog 112 [.imm 1 (ints l)] (Bol (l.all mayN)) := by
  refine ac_of Tryz.func112 rfl Tryz.ntmps112 rfl fun B => ?_
  refine at_len 0 rfl rfl fun hlen => ?_
  rw [ints_len] at hlen
  (repeat' (first|refine at_seq ?_|refine at_region ?_|refine at_block ?_|refine ax_then ?_|refine atl_nil ?_|refine n_run ttok rfl rfl ?_|fail))
  refine at_loopK [5, 6] (α := Nat) (fun i => [(7, I64 i)]) (fun i => i ≤ l.length ∧ (l.take i).all mayN = true) (fun _ => []) (fun i => l.length - i) 0 rfl ⟨rfl, trivial⟩ ⟨Nat.zero_le _, by simp⟩ (fun _ _ h => h) fun i hi => ?_
  try dsimp only [List.cons_append, List.nil_append, List.map_cons, List.map_nil]
  (repeat' (first|refine at_seq ?_|refine at_region ?_|refine ax_then ?_|refine atl_nil ?_|refine n_run ttok rfl rfl ?_|fail))
  refine at_cond rfl (fun h => ?_) (fun h => ?_)
  · have hil : i < l.length := by have := of_decide_eq_true h; rw [ints_len] at this; omega
    obtain ⟨z, hz⟩ : ∃ z, l[i]? = some z := ⟨_, List.getElem?_eq_getElem hil⟩
    have hzg := ints_get hz
    (repeat' (first|refine at_seq ?_|refine at_region ?_|refine at_block ?_|refine at_skip ?_|refine ax_then ?_|refine atl_nil ?_|refine n_run ttok rfl rfl ?_|(apply s_index; first|refine n_index ttok ?_|refine n_indexP ttok ?_)|fail))
    refine atl_if [5, 6, 7] (mayN z = false) rfl (fun Q' K => ?_) (fun hC => ?_) (fun hC => ?_)
    · (repeat' (first|refine atl_nil ?_|refine n_run ttok rfl rfl ?_|refine atl_guard_yes rfl rfl ?_|refine atl_guard_no rfl rfl rfl rfl ?_|refine atl_guard rfl rfl rfl (fun _ => ?_) (fun _ => ?_)|fail))
      all_goals exact K _ _ rfl rfl (by unfold mayN; simp_all <;> omega)
    · (repeat' (first|refine at_seq ?_|refine at_region ?_|refine at_ret ?_|refine ax_then ?_|refine ax_then_ret ?_|refine ax_blk_ret ?_|refine ax_loop_ret ?_|refine atl_nil ?_|refine n_run ttok rfl rfl ?_|fail))
      refine ax_ret1 rfl rfl ?_
      rw [show l.all mayN = false by
        rw [List.all_eq_false]
        exact ⟨z, List.mem_of_getElem? hz, by simp [hC]⟩]
    · (repeat' (first|refine at_region ?_|refine at_skip ?_|refine ax_then ?_|refine ax_blk ?_|refine atl_nil ?_|refine n_run ttok rfl rfl ?_|(apply s_bin; refine n_bin ?_)|fail))
      refine ax_roundK (i + 1) rfl ⟨by rw [Int.natCast_add]; rfl, trivial⟩ ⟨by omega, ?_⟩ (by omega) (fun _ _ h => h)
      rw [List.take_add_one, hz, List.all_append, hi.2]
      simpa using hC
  · have hil : i = l.length := by have := of_decide_eq_false h; rw [ints_len] at this; omega
    subst hil
    rw [List.take_length] at hi
    (repeat' (first|refine at_seq ?_|refine at_region ?_|refine at_ret ?_|refine at_exit ?_|refine ax_then ?_|refine ax_then_exit ?_|refine ax_blk_exit ?_|refine ax_loop_exit ?_|refine atl_nil ?_|refine n_run ttok rfl rfl ?_|fail))
    refine ax_ret1 rfl rfl ?_
    rw [hi.2]
instance (x : Int) : AD Tryz.prog 112 [.imm 1 [[I64 x]]] (Bol ([x].all mayN)) := ⟨may_det [x]⟩
instance (x y : Int) : AD Tryz.prog 112 [.imm 1 [[I64 x], [I64 y]]] (Bol ([x, y].all mayN)) := ⟨may_det [x, y]⟩
instance (x y z : Int) : AD Tryz.prog 112 [.imm 1 [[I64 x], [I64 y], [I64 z]]] (Bol ([x, y, z].all mayN)) := ⟨may_det [x, y, z]⟩
def isG (f : FFont) (n : Int) : Bool := decide (0 ≤ n ∧ n < f.Glyphs.length)
theorem isGlyph_det (f : FFont) (n : Int) : ADet Tryz.prog 155 [aFont f, I64 n] (Bol (isG f n)) := by
  refine ac_of Tryz.func155 rfl Tryz.ntmps155 rfl fun B => ?_
  (repeat' (first|refine at_seq ?_|refine at_region ?_|refine ax_then ?_|refine atl_nil ?_|refine n_run ttok rfl rfl ?_|refine n_boxI ?_|fail))
  refine atl_cut (t := 4) [] (isG f n = true) rfl (fun Q' K => ?_) ?_
  · (repeat' (first|refine atl_nil ?_|refine n_run ttok rfl rfl ?_|refine atl_guard_yes rfl rfl ?_|refine atl_guard_no rfl rfl rfl rfl ?_|refine atl_guard rfl rfl rfl (fun _ => ?_) (fun _ => ?_)|fail))
    all_goals exact K _ _ rfl rfl (by unfold isG; simp_all <;> omega)
  (repeat' (first|refine at_ret ?_|refine ax_then ?_|fail))
  refine ax_ret1 rfl rfl ?_
  simp
instance (f : FFont) (n : Int) : AD Tryz.prog 155 [aFont f, I64 n] (Bol (isG f n)) := ⟨isGlyph_det f n⟩
def faultE (right taken : Bool) : Int := bif right then (bif taken then 24 else 0) else 23
theorem nameFault_det (a b : Bool) : ADet Tryz.prog 86 [Bol a, Bol b] (I64 (faultE a b)) := by
  refine ac_of Tryz.func86 rfl Tryz.ntmps86 rfl fun B => ?_
  (repeat' (first|refine at_seq ?_|refine at_region ?_|refine at_block ?_|refine ax_then ?_|refine atl_nil ?_|refine n_run ttok rfl rfl ?_|fail))
  refine at_cond rfl (fun h => ?_) (fun h => ?_)
  · (repeat' (first|refine at_seq ?_|refine at_region ?_|refine at_ret ?_|refine ax_then ?_|refine ax_then_ret ?_|refine ax_blk_ret ?_|refine atl_nil ?_|refine n_run ttok rfl rfl ?_|fail))
    refine ax_ret1 rfl rfl ?_
    cases a with
    | true => cases h
    | false => rfl
  · (repeat' (first|refine at_seq ?_|refine at_region ?_|refine ax_then ?_|refine atl_nil ?_|refine n_run ttok rfl rfl ?_|fail))
    have ha : a = true := by cases a with
      | true => rfl
      | false => cases h
    subst ha
    refine at_cond rfl (fun h => ?_) (fun h => ?_)
    · subst h
      (repeat' (first|refine at_seq ?_|refine at_region ?_|refine at_ret ?_|refine ax_then ?_|refine ax_then_ret ?_|refine ax_blk_ret ?_|refine atl_nil ?_|refine n_run ttok rfl rfl ?_|fail))
      exact ax_ret1 rfl rfl rfl
    · subst h
      (repeat' (first|refine at_seq ?_|refine at_region ?_|refine at_skip ?_|refine at_ret ?_|refine ax_then ?_|refine ax_blk ?_|refine atl_nil ?_|refine n_run ttok rfl rfl ?_|fail))
      exact ax_ret1 rfl rfl rfl
instance (a b : Bool) : AD Tryz.prog 86 [Bol a, Bol b] (I64 (faultE a b)) := ⟨nameFault_det a b⟩
def isLet (c : Int) : Bool := decide ((65 ≤ c ∧ c ≤ 90) ∨ (97 ≤ c ∧ c ≤ 122))
abbrev U8 (c : Int) : AV := .sc (.int .u8 c)
theorem isLetter_det (c : Int) : ADet Tryz.prog 161 [U8 c] (Bol (isLet c)) := by
  refine ac_of Tryz.func161 rfl Tryz.ntmps161 rfl fun B => ?_
  (repeat' (first|refine at_seq ?_|refine at_region ?_|refine ax_then ?_|refine atl_nil ?_|refine n_run ttok rfl rfl ?_|fail))
  refine atl_cut (t := 2) [] (isLet c = true) rfl (fun Q' K => ?_) ?_
  · (repeat' (first|refine atl_nil ?_|refine n_run ttok rfl rfl ?_|refine atl_guard_yes rfl rfl ?_|refine atl_guard_no rfl rfl rfl rfl ?_|refine atl_guard_undef rfl rfl rfl ?_|refine atl_guard rfl rfl rfl (fun _ => ?_) (fun _ => ?_)|fail))
    all_goals exact K _ _ rfl rfl (by unfold isLet; simp_all <;> omega)
  (repeat' (first|refine at_ret ?_|refine ax_then ?_|fail))
  refine ax_ret1 rfl rfl ?_
  simp
instance (c : Int) : AD Tryz.prog 161 [U8 c] (Bol (isLet c)) := ⟨isLetter_det c⟩
end Go.Proofs.YtpbinloeemebkaaGreat

namespace Go.Proofs.YtpbinloeemebkaaGreat
open Go.RowKit
attribute [local irreducible] AT ATL AX AO Av Kt ALoopK OkA DA DA1
section
variable {P : Program} {tt : TT} {r : Option Nat} {ops : Array Oper} {Q : Exit → Act → World → Prop} {nt : Nat} {D : List Deferred} {fr : AFr} {B : Bs} {L : AL} {rest : List Oper} {d : Nat} {ty t : TypeId} {pos : String} {af : Array Edge} {x y z : Operand}
theorem n_strIx (ok : TOk P tt) {s : ByteArray} {k : IntKind} {i : Int} {c : UInt8} {ti : TI} (ht : tlook tt t = some ti) (hk : ti.k = .str) (hx : aev fr x = some (.sc (.string s))) (hy : aev fr y = some (.sc (.int k i))) (h0 : 0 ≤ i) (hu : s[i.toNat]? = some c) (hd : Nat.ble nt d = false) (h : ATL P r ops Q nt D rest ((d, U8 c.toNat) :: fr) B L) : ATL P r ops Q nt D (⟨some d, .index t x y, ty, pos, af, none⟩ :: rest) fr B L := atl_val (a_strIndex (ok.str ht hk) hx hy h0 hu) hd rfl h
end
def byteAt (s : ByteArray) (i : Nat) : Int := match s[i]? with | some c => c.toNat | none => 0
theorem byteAt_get {s : ByteArray} {i : Nat} {c : UInt8} (h : s[i]? = some c) : byteAt s i = c.toNat := by unfold byteAt; rw [h]
def allAt (n : Nat) (p : Nat → Bool) : Bool := (List.range n).all p
theorem allAt_iff {n : Nat} {p : Nat → Bool} : allAt n p = true ↔ ∀ i, i < n → p i = true := by simp [allAt]
theorem allAt_false {n : Nat} {p : Nat → Bool} {i : Nat} (hi : i < n) (h : p i = false) : allAt n p = false := by
  rw [Bool.eq_false_iff]
  intro hh
  rw [allAt_iff.1 hh i hi] at h
  cases h
theorem str_get {s : ByteArray} {i : Nat} (h : i < s.size) : ∃ c, s[i]? = some c := ⟨s[i], by simp [h]⟩
def isLettersB (s : ByteArray) : Bool := decide (1 ≤ s.size ∧ s.size ≤ 8) && allAt s.size fun i => isLet (byteAt s i)
theorem isLetters_det (s : ByteArray) : ADet Tryz.prog 99 [Str s] (Bol (isLettersB s)) := by
  refine ac_of Tryz.func99 rfl Tryz.ntmps99 rfl fun B => ?_
  (repeat' (first|refine at_seq ?_|refine at_region ?_|refine ax_then ?_|refine atl_nil ?_|refine n_run ttok rfl rfl ?_|fail))
  refine atl_if [0] (¬ (1 ≤ s.size ∧ s.size ≤ 8)) rfl (fun Q' K => ?_) (fun hC => ?_) (fun hC => ?_)
  · (repeat' (first|refine atl_nil ?_|refine n_run ttok rfl rfl ?_|refine atl_guard_yes rfl rfl ?_|refine atl_guard_no rfl rfl rfl rfl ?_|refine atl_guard rfl rfl rfl (fun _ => ?_) (fun _ => ?_)|fail))
    all_goals exact K _ _ rfl rfl (by simp_all <;> omega)
  · (repeat' (first|refine at_seq ?_|refine at_region ?_|refine at_ret ?_|refine ax_then ?_|refine ax_then_ret ?_|refine atl_nil ?_|refine n_run ttok rfl rfl ?_|fail))
    refine ax_ret1 rfl rfl ?_
    unfold isLettersB
    rw [decide_eq_false hC]
    rfl
  have hC := Decidable.not_not.1 hC
  (repeat' (first|refine at_seq ?_|refine at_region ?_|refine at_block ?_|refine at_skip ?_|refine ax_then ?_|refine atl_nil ?_|refine n_run ttok rfl rfl ?_|fail))
  refine at_loopK [0, 13] (α := Nat) (fun i => [(14, I64 i)]) (fun i => i ≤ s.size ∧ ∀ j, j < i → isLet (byteAt s j) = true) (fun _ => []) (fun i => s.size - i) 0 rfl ⟨rfl, trivial⟩ ⟨Nat.zero_le _, fun j hj => absurd hj (Nat.not_lt_zero _)⟩ (fun _ _ h => h) fun i hi => ?_
  try dsimp only [List.cons_append, List.nil_append, List.map_cons, List.map_nil]
  (repeat' (first|refine at_seq ?_|refine at_region ?_|refine ax_then ?_|refine atl_nil ?_|refine n_run ttok rfl rfl ?_|fail))
  refine at_cond rfl (fun h => ?_) (fun h => ?_)
  · have hil : i < s.size := by have := of_decide_eq_true h; omega
    obtain ⟨c, hc⟩ := str_get hil
    have hb := byteAt_get hc
    (repeat' (first|refine at_seq ?_|refine at_region ?_|refine at_block ?_|refine at_skip ?_|refine ax_then ?_|refine atl_nil ?_|refine n_run ttok rfl rfl ?_|fail))
    refine n_strIx ttok rfl rfl rfl rfl (by omega) (by rw [Int.toNat_natCast]; exact hc) rfl ?_
    (repeat' (first|refine ax_then ?_|refine atl_nil ?_|refine n_run ttok rfl rfl ?_|(apply s_call;refine n_call ?_)|fail))
    refine at_cond rfl (fun h2 => ?_) (fun h2 => ?_)
    · (repeat' (first|refine at_seq ?_|refine at_region ?_|refine at_ret ?_|refine ax_then ?_|refine ax_then_ret ?_|refine ax_blk_ret ?_|refine ax_loop_ret ?_|refine atl_nil ?_|refine n_run ttok rfl rfl ?_|fail))
      refine ax_ret1 rfl rfl ?_
      unfold isLettersB
      rw [allAt_false hil (by rw [hb]; simpa using h2), Bool.and_false]
    · (repeat' (first|refine at_region ?_|refine at_skip ?_|refine ax_then ?_|refine ax_blk ?_|refine atl_nil ?_|refine n_run ttok rfl rfl ?_|(apply s_bin; refine n_bin ?_)|fail))
      refine ax_roundK (i + 1) rfl ⟨by rw [Int.natCast_add]; rfl, trivial⟩ ⟨by omega, fun j hj => ?_⟩ (by omega) (fun _ _ h => h)
      by_cases e : j = i
      · subst e; rw [hb]; simpa using h2
      · exact hi.2 j (by omega)
  · have hil : i = s.size := by have := of_decide_eq_false h; omega
    subst hil
    (repeat' (first|refine at_seq ?_|refine at_region ?_|refine at_ret ?_|refine at_exit ?_|refine ax_then ?_|refine ax_then_exit ?_|refine ax_blk_exit ?_|refine ax_loop_exit ?_|refine atl_nil ?_|refine n_run ttok rfl rfl ?_|fail))
    refine ax_ret1 rfl rfl ?_
    unfold isLettersB
    rw [decide_eq_true hC, allAt_iff.2 hi.2]
    rfl
instance (s : ByteArray) : AD Tryz.prog 99 [Str s] (Bol (isLettersB s)) := ⟨isLetters_det s⟩
def nameAt (i : Nat) (c : Int) : Bool := decide ((isLet c = true ∨ c = 95 ∨ c = 46) ∨ (0 < i ∧ ((48 ≤ c ∧ c ≤ 57) ∨ c = 45)))
def isNameB (s : ByteArray) : Bool := decide (1 ≤ s.size ∧ s.size ≤ 16) && allAt s.size fun i => nameAt i (byteAt s i)
set_option maxHeartbeats 1000000 in
theorem isName_det (s : ByteArray) : ADet Tryz.prog 87 [Str s] (Bol (isNameB s)) := by
  refine ac_of Tryz.func87 rfl Tryz.ntmps87 rfl fun B => ?_
  (repeat' (first|refine at_seq ?_|refine at_region ?_|refine ax_then ?_|refine atl_nil ?_|refine n_run ttok rfl rfl ?_|fail))
  refine atl_if [0] (¬ (1 ≤ s.size ∧ s.size ≤ 16)) rfl (fun Q' K => ?_) (fun hC => ?_) (fun hC => ?_)
  · (repeat' (first|refine atl_nil ?_|refine n_run ttok rfl rfl ?_|refine atl_guard_yes rfl rfl ?_|refine atl_guard_no rfl rfl rfl rfl ?_|refine atl_guard rfl rfl rfl (fun _ => ?_) (fun _ => ?_)|fail))
    all_goals exact K _ _ rfl rfl (by simp_all <;> omega)
  · (repeat' (first|refine at_seq ?_|refine at_region ?_|refine at_ret ?_|refine ax_then ?_|refine ax_then_ret ?_|refine atl_nil ?_|refine n_run ttok rfl rfl ?_|fail))
    refine ax_ret1 rfl rfl ?_
    unfold isNameB
    rw [decide_eq_false hC]
    rfl
  have hC := Decidable.not_not.1 hC
  (repeat' (first|refine at_seq ?_|refine at_region ?_|refine at_block ?_|refine at_skip ?_|refine ax_then ?_|refine atl_nil ?_|refine n_run ttok rfl rfl ?_|fail))
  refine at_loopK [0, 16] (α := Nat) (fun i => [(17, I64 i)]) (fun i => i ≤ s.size ∧ ∀ j, j < i → nameAt j (byteAt s j) = true) (fun _ => []) (fun i => s.size - i) 0 rfl ⟨rfl, trivial⟩ ⟨Nat.zero_le _, fun j hj => absurd hj (Nat.not_lt_zero _)⟩ (fun _ _ h => h) fun i hi => ?_
  try dsimp only [List.cons_append, List.nil_append, List.map_cons, List.map_nil]
  (repeat' (first|refine at_seq ?_|refine at_region ?_|refine ax_then ?_|refine atl_nil ?_|refine n_run ttok rfl rfl ?_|fail))
  refine at_cond rfl (fun h => ?_) (fun h => ?_)
  · have hil : i < s.size := by have := of_decide_eq_true h; omega
    obtain ⟨c, hc⟩ := str_get hil
    have hb := byteAt_get hc
    (repeat' (first|refine at_seq ?_|refine at_region ?_|refine at_block ?_|refine at_skip ?_|refine ax_then ?_|refine atl_nil ?_|refine n_run ttok rfl rfl ?_|fail))
    refine n_strIx ttok rfl rfl rfl rfl (by omega) (by rw [Int.toNat_natCast]; exact hc) rfl ?_
    generalize (c.toNat : Int) = z at *
    (repeat' (first|refine at_seq ?_|refine at_region ?_|refine ax_then ?_|refine atl_nil ?_|refine n_run ttok rfl rfl ?_|(apply s_call;refine n_call ?_)|fail))
    refine atl_cut (t := 5) [0, 3, 4, 16, 17] (isLet z = true ∨ z = 95 ∨ z = 46) rfl (fun Q' K => ?_) ?_
    · clear hi hb hc h
      (repeat' (first|refine atl_nil ?_|refine n_run ttok rfl rfl ?_|refine atl_guard_yes rfl rfl ?_|refine atl_guard_no rfl rfl rfl rfl ?_|refine atl_guard rfl rfl rfl (fun _ => ?_) (fun _ => ?_)|fail))
      all_goals exact K _ _ rfl rfl (by simp_all)
    (repeat' (first|refine at_seq ?_|refine at_region ?_|refine ax_then ?_|refine n_run ttok rfl rfl ?_|fail))
    refine atl_cut (t := 6) [0, 5, 16, 17] (0 < i ∧ ((48 ≤ z ∧ z ≤ 57) ∨ z = 45)) rfl (fun Q' K => ?_) ?_
    · clear hi hb hc h
      (repeat' (first|refine atl_nil ?_|refine n_run ttok rfl rfl ?_|refine atl_guard_yes rfl rfl ?_|refine atl_guard_no rfl rfl rfl rfl ?_|refine atl_guard_undef rfl rfl rfl ?_|refine atl_guard rfl rfl rfl (fun _ => ?_) (fun _ => ?_)|fail))
      all_goals exact K _ _ rfl rfl (by simp_all <;> omega)
    (repeat' (first|refine at_seq ?_|refine at_region ?_|refine ax_then ?_|refine n_run ttok rfl rfl ?_|fail))
    refine atl_if [0, 16, 17] (nameAt i z = false) rfl (fun Q' K => ?_) (fun h2 => ?_) (fun h2 => ?_)
    · clear hi hb hc h
      (repeat' (first|refine atl_nil ?_|refine n_run ttok rfl rfl ?_|refine atl_guard_yes rfl rfl ?_|refine atl_guard_no rfl rfl rfl rfl ?_|refine atl_guard rfl rfl rfl (fun _ => ?_) (fun _ => ?_)|fail))
      all_goals exact K _ _ rfl rfl (by clear K; unfold nameAt; grind)
    · (repeat' (first|refine at_seq ?_|refine at_region ?_|refine at_ret ?_|refine ax_then ?_|refine ax_then_ret ?_|refine ax_blk_ret ?_|refine ax_loop_ret ?_|refine atl_nil ?_|refine n_run ttok rfl rfl ?_|fail))
      refine ax_ret1 rfl rfl ?_
      unfold isNameB
      rw [allAt_false hil (by rw [hb]; exact h2), Bool.and_false]
    · (repeat' (first|refine at_region ?_|refine at_skip ?_|refine ax_then ?_|refine ax_blk ?_|refine atl_nil ?_|refine n_run ttok rfl rfl ?_|(apply s_bin; refine n_bin ?_)|fail))
      refine ax_roundK (i + 1) rfl ⟨by rw [Int.natCast_add]; rfl, trivial⟩ ⟨by omega, fun j hj => ?_⟩ (by omega) (fun _ _ h => h)
      by_cases e : j = i
      · subst e; rw [hb]; simpa using h2
      · exact hi.2 j (by omega)
  · have hil : i = s.size := by have := of_decide_eq_false h; omega
    subst hil
    (repeat' (first|refine at_seq ?_|refine at_region ?_|refine at_ret ?_|refine at_exit ?_|refine ax_then ?_|refine ax_then_exit ?_|refine ax_blk_exit ?_|refine ax_loop_exit ?_|refine atl_nil ?_|refine n_run ttok rfl rfl ?_|fail))
    refine ax_ret1 rfl rfl ?_
    unfold isNameB
    rw [decide_eq_true hC, allAt_iff.2 hi.2]
    rfl
instance (s : ByteArray) : AD Tryz.prog 87 [Str s] (Bol (isNameB s)) := ⟨isName_det s⟩
end Go.Proofs.YtpbinloeemebkaaGreat

namespace Go.Proofs.YtpbinloeemebkaaGreat
open Go.RowKit
attribute [local irreducible] AT ATL AX AO Av Kt ALoopK OkA DA DA1
def errAt {α : Type} (l : List α) (w : Nat → α → Int) (i : Nat) : Int := match l[i]? with | some x => w i x | none => 0
def eachL {α : Type} (l : List α) (w : Nat → α → Int) : Int × Int := eachE (errAt l w) l.length
def someL {α : Type} (most : Int) (l : List α) (w : Nat → α → Int) : Int × Int := someE most (errAt l w) l.length
theorem errAt_get {α : Type} {l : List α} {w : Nat → α → Int} {i : Nat} {x : α} (h : l[i]? = some x) : errAt l w i = w i x := by unfold errAt; rw [h]
theorem errAt_all {α : Type} {l : List α} {w : Nat → α → Int} (h : ∀ i x, l[i]? = some x → w i x = 0) (i : Nat) : errAt l w i = 0 := by
  unfold errAt
  split
  · exact h _ _ (by assumption)
  · rfl
theorem eachL_all {α : Type} {l : List α} {w : Nat → α → Int} (h : ∀ i x, l[i]? = some x → w i x = 0) : eachL l w = (0, 0) := eachE_all fun i _ => errAt_all h i
theorem someL_all {α : Type} {most : Int} {l : List α} {w : Nat → α → Int} (hm : (l.length : Int) ≤ most) (h : ∀ i x, l[i]? = some x → w i x = 0) : someL most l w = (0, 0) := someE_all hm fun i _ => errAt_all h i
theorem wrong_det {α : Type} {P : Program} {g : FuncId} {caps : List AV} {l : List α} {el : α → AV} {w : Nat → α → Int} (h : ∀ (i : Nat) x, l[i]? = some x → ADet P g ([I64 i, el x] ++ caps) (I64 (w i x))) : ∀ (i : Nat) x (L : AL), l[i]? = some x → True → AC P g ([I64 i, el x] ++ caps) L fun c _ => c = I64 (errAt l w i) ∧ (errAt l w i = 0 → True) := by
  intro i x L hx _
  rw [errAt_get hx]
  exact ((h i x hx).any L).mono fun c L' ⟨h1, _⟩ => ⟨h1, fun _ => trivial⟩
theorem wrong_st {α : Type} {P : Program} {g : FuncId} {caps : List AV} {l : List α} {el : α → AV} {w : Nat → α → Int} {L0 : AL} (h : ∀ (i : Nat) x, l[i]? = some x → AC P g ([I64 i, el x] ++ caps) L0 fun c L' => c = I64 (w i x) ∧ L' = L0) : ∀ (i : Nat) x (L : AL), l[i]? = some x → L = L0 → AC P g ([I64 i, el x] ++ caps) L fun c L' => c = I64 (errAt l w i) ∧ (errAt l w i = 0 → L' = L0) := by
  intro i x L hx hL
  subst hL
  rw [errAt_get hx]
  exact (h i x hx).mono fun c L' ⟨h1, h2⟩ => ⟨h1, fun _ => h2⟩
theorem within_det (n : Int) : ADet Tryz.prog 267 [I64 n] (Bol (mayN n)) := by
  refine ac_of Tryz.func267 rfl Tryz.ntmps267 rfl fun B => ?_
  (repeat' (first|refine at_seq ?_|refine at_region ?_|refine ax_then ?_|refine atl_nil ?_|refine n_run ttok rfl rfl ?_|fail))
  refine atl_cut (t := 2) [] (mayN n = true) rfl (fun Q' K => ?_) ?_
  · (repeat' (first|refine atl_nil ?_|refine n_run ttok rfl rfl ?_|refine atl_guard_yes rfl rfl ?_|refine atl_guard_no rfl rfl rfl rfl ?_|refine atl_guard rfl rfl rfl (fun _ => ?_) (fun _ => ?_)|fail))
    all_goals exact K _ _ rfl rfl (by clear K; unfold mayN; grind)
  (repeat' (first|refine at_ret ?_|refine ax_then ?_|fail))
  refine ax_ret1 rfl rfl ?_
  simp
instance (n : Int) : AD Tryz.prog 267 [I64 n] (Bol (mayN n)) := ⟨within_det n⟩
def endsOk (n : Int) : Int → List Int → Bool
  | last, [] => decide (last = n - 1)
  | last, e :: r => if e ≥ n ∨ e < last + 2 then false else endsOk n e r
def ptMay (p : FPoint) : Bool := mayN p.X && mayN p.Y
def outRight (pts : List FPoint) (ends : List Int) : Bool := decide (pts.length ≤ 200 ∧ ends.length ≤ 40) && (pts.all ptMay && endsOk pts.length (-1) ends)
theorem endsOk_drop {n last : Int} {l : List Int} {i : Nat} {e : Int} (h : l[i]? = some e) : endsOk n last (l.drop i) = if e ≥ n ∨ e < last + 2 then false else endsOk n e (l.drop (i + 1)) := by
  obtain ⟨hi, hx⟩ := List.getElem?_eq_some_iff.1 h
  rw [List.drop_eq_getElem_cons hi, hx]
  rfl
set_option maxHeartbeats 1000000 in
theorem outRight_det (pts : List FPoint) (ends : List Int) : ADet Tryz.prog 224 [.agg [.imm 3 (pts.map cPoint), .imm 1 (ints ends)]] (Bol (outRight pts ends)) := by
  refine ac_of Tryz.func224 rfl Tryz.ntmps224 rfl fun B => ?_
  (repeat' (first|refine at_seq ?_|refine at_region ?_|refine ax_then ?_|refine atl_nil ?_|refine n_run ttok rfl rfl ?_|refine n_boxI ?_|fail))
  refine atl_if [1] (¬ (pts.length ≤ 200 ∧ ends.length ≤ 40)) rfl (fun Q' K => ?_) (fun hC => ?_) (fun hC => ?_)
  · (repeat' (first|refine atl_nil ?_|refine n_run ttok rfl rfl ?_|refine atl_guard_yes rfl rfl ?_|refine atl_guard_no rfl rfl rfl rfl ?_|refine atl_guard rfl rfl rfl (fun _ => ?_) (fun _ => ?_)|fail))
    all_goals exact K _ _ rfl rfl (by clear K; simp_all [ints_len] <;> omega)
  · (repeat' (first|refine at_seq ?_|refine at_region ?_|refine at_ret ?_|refine ax_then ?_|refine ax_then_ret ?_|refine atl_nil ?_|refine n_run ttok rfl rfl ?_|fail))
    refine ax_ret1 rfl rfl ?_
    unfold outRight
    rw [decide_eq_false hC]
    rfl
  have hC := Decidable.not_not.1 hC
  have hlm : (pts.map cPoint).length = pts.length := List.length_map ..
  (repeat' (first|refine at_seq ?_|refine at_region ?_|refine at_block ?_|refine at_skip ?_|refine ax_then ?_|refine atl_nil ?_|refine n_run ttok rfl rfl ?_|fail))
  refine at_loopK [1, 19, 20] (α := Nat) (fun i => [(21, I64 i)]) (fun i => i ≤ pts.length ∧ (pts.take i).all ptMay = true) (fun _ => []) (fun i => pts.length - i) 0 rfl ⟨rfl, trivial⟩ ⟨Nat.zero_le _, by simp⟩ (fun _ _ h => h) fun i hi => ?_
  try dsimp only [List.cons_append, List.nil_append, List.map_cons, List.map_nil]
  (repeat' (first|refine at_seq ?_|refine at_region ?_|refine ax_then ?_|refine atl_nil ?_|refine n_run ttok rfl rfl ?_|fail))
  refine at_cond rfl (fun h => ?_) (fun h => ?_)
  · have hil : i < pts.length := by have := of_decide_eq_true h; simp at this; omega
    obtain ⟨z, hz⟩ : ∃ z, pts[i]? = some z := ⟨_, List.getElem?_eq_getElem hil⟩
    have hzg := map_get (c := cPoint) hz
    clear h
    (repeat' (first|refine at_seq ?_|refine at_region ?_|refine at_block ?_|refine at_skip ?_|refine ax_then ?_|refine atl_nil ?_|refine n_run ttok rfl rfl ?_|(apply s_index; first|refine n_index ttok ?_|refine n_indexP ttok ?_)|(apply s_store; first|refine n_storeF 4 ttok 0 rfl rfl rfl rfl rfl rfl rfl rfl ?_|refine n_storeF 4 ttok 1 rfl rfl rfl rfl rfl rfl rfl rfl ?_|refine n_storeF 4 ttok 2 rfl rfl rfl rfl rfl rfl rfl rfl ?_|refine n_store ttok 0 rfl rfl rfl rfl rfl rfl rfl ?_|refine n_store ttok 1 rfl rfl rfl rfl rfl rfl rfl ?_|refine n_store ttok 2 rfl rfl rfl rfl rfl rfl rfl ?_|refine n_store ttok 3 rfl rfl rfl rfl rfl rfl rfl ?_|fail)|refine n_alloc ttok fun _=>?_|(apply s_call;refine n_call ?_)|fail))
    refine atl_if [1, 19, 20, 21] (ptMay z = false) rfl (fun Q' K => ?_) (fun h2 => ?_) (fun h2 => ?_)
    · clear hi hzg
      (repeat' (first|refine atl_nil ?_|refine n_run ttok rfl rfl ?_|refine atl_guard_yes rfl rfl ?_|refine atl_guard_no rfl rfl rfl rfl ?_|(apply s_call;refine n_call ?_)|refine atl_guard rfl rfl rfl (fun _ => ?_) (fun _ => ?_)|fail))
      all_goals exact K _ _ rfl rfl (by clear K; unfold ptMay; simp_all)
    · (repeat' (first|refine at_seq ?_|refine at_region ?_|refine at_ret ?_|refine ax_then ?_|refine ax_then_ret ?_|refine ax_blk_ret ?_|refine ax_loop_ret ?_|refine atl_nil ?_|refine n_run ttok rfl rfl ?_|fail))
      refine ax_ret1 rfl rfl ?_
      unfold outRight
      rw [show pts.all ptMay = false by
        rw [List.all_eq_false]
        exact ⟨z, List.mem_of_getElem? hz, by simp [h2]⟩]
      simp
    · (repeat' (first|refine at_region ?_|refine at_skip ?_|refine ax_then ?_|refine ax_blk ?_|refine atl_nil ?_|refine n_run ttok rfl rfl ?_|(apply s_bin; refine n_bin ?_)|fail))
      refine ax_roundK (i + 1) rfl ⟨by rw [Int.natCast_add]; rfl, trivial⟩ ⟨by omega, ?_⟩ (by omega) (fun _ _ h => h)
      rw [List.take_add_one, hz, List.all_append, hi.2]
      simpa using h2
  have hil : i = pts.length := by have := of_decide_eq_false h; simp at this; omega
  subst hil
  rw [List.take_length] at hi
  have hall := hi.2
  clear hi h
  have hval : outRight pts ends = endsOk pts.length (-1) ends := by
    unfold outRight
    rw [decide_eq_true hC, hall]
    rfl
  rw [hval]
  (repeat' (first|refine at_seq ?_|refine at_region ?_|refine at_block ?_|refine at_exit ?_|refine ax_then ?_|refine ax_then_exit ?_|refine ax_blk_exit ?_|refine ax_loop_exit ?_|refine atl_nil ?_|refine n_run ttok rfl rfl ?_|fail))
  refine at_loopK [1, 37, 38] (α := Nat × Int) (fun x => [(39, I64 x.1), (5, I64 x.2)]) (fun x => x.1 ≤ ends.length ∧ -1 ≤ x.2 ∧ x.2 ≤ 1000 ∧ endsOk pts.length (-1) ends = endsOk pts.length x.2 (ends.drop x.1)) (fun _ => []) (fun x => ends.length - x.1) (0, -1) rfl ⟨rfl, rfl, trivial⟩ ⟨Nat.zero_le _, by decide, by decide, rfl⟩ (fun _ _ h => h) ?_
  rintro ⟨i, last⟩ ⟨hi, hl0, hl1, he⟩
  dsimp only at hi hl0 hl1 he ⊢
  try dsimp only [List.cons_append, List.nil_append, List.map_cons, List.map_nil]
  (repeat' (first|refine at_seq ?_|refine at_region ?_|refine ax_then ?_|refine atl_nil ?_|refine n_run ttok rfl rfl ?_|fail))
  refine at_cond rfl (fun h => ?_) (fun h => ?_)
  · have hil : i < ends.length := by have := of_decide_eq_true h; simp [ints_len] at this; omega
    obtain ⟨z, hz⟩ : ∃ z, ends[i]? = some z := ⟨_, List.getElem?_eq_getElem hil⟩
    have hzg := ints_get hz
    rw [endsOk_drop hz] at he
    clear h
    (repeat' (first|refine at_seq ?_|refine at_region ?_|refine at_block ?_|refine at_skip ?_|refine ax_then ?_|refine atl_nil ?_|refine n_run ttok rfl rfl ?_|(apply s_index; first|refine n_index ttok ?_|refine n_indexP ttok ?_)|fail))
    refine atl_if [1, 7, 37, 38, 39] (z ≥ pts.length ∨ z < last + 2) rfl (fun Q' K => ?_) (fun h2 => ?_) (fun h2 => ?_)
    · clear hi hzg he hval
      (repeat' (first|refine atl_nil ?_|refine n_run ttok rfl rfl ?_|refine atl_guard_yes rfl rfl ?_|refine atl_guard_no rfl rfl rfl rfl ?_|(apply s_bin; refine n_bin ?_)|refine atl_guard rfl rfl rfl (fun _ => ?_) (fun _ => ?_)|fail))
      all_goals exact K _ _ rfl rfl (by clear K; simp_all <;> omega)
    · rw [if_pos h2] at he
      (repeat' (first|refine at_seq ?_|refine at_region ?_|refine at_ret ?_|refine ax_then ?_|refine ax_then_ret ?_|refine ax_blk_ret ?_|refine ax_loop_ret ?_|refine atl_nil ?_|refine n_run ttok rfl rfl ?_|fail))
      refine ax_ret1 rfl rfl ?_
      rw [he]
    · rw [if_neg h2] at he
      (repeat' (first|refine at_region ?_|refine at_skip ?_|refine ax_then ?_|refine ax_blk ?_|refine atl_nil ?_|refine n_run ttok rfl rfl ?_|(apply s_bin; refine n_bin ?_)|fail))
      exact ax_roundK (i + 1, z) rfl ⟨by rw [Int.natCast_add]; rfl, rfl, trivial⟩ ⟨by dsimp only; omega, by dsimp only; omega, by dsimp only; omega, he⟩ (by dsimp only; omega) (fun _ _ h => h)
  · have hil : i = ends.length := by have := of_decide_eq_false h; simp [ints_len] at this; omega
    subst hil
    rw [List.drop_length] at he
    (repeat' (first|refine at_seq ?_|refine at_region ?_|refine at_ret ?_|refine at_exit ?_|refine ax_then ?_|refine ax_then_exit ?_|refine ax_blk_exit ?_|refine ax_loop_exit ?_|refine atl_nil ?_|refine n_run ttok rfl rfl ?_|(apply s_bin; refine n_bin ?_)|fail))
    refine ax_ret1 rfl rfl ?_
    rw [he]
    simp [endsOk]
def ptE (_ : Nat) (p : FPoint) : Int := whenE (!([p.X, p.Y].all mayN)) 30
theorem shape1_det (i : Nat) (p : FPoint) : ADet Tryz.prog 223 [I64 i, .agg (cPoint p)] (I64 (ptE i p)) := by
  refine ac_of Tryz.func223 rfl Tryz.ntmps223 rfl fun B => ?_
  (repeat' (first|refine at_seq ?_|refine at_region ?_|refine at_ret ?_|refine ax_then ?_|refine atl_nil ?_|refine n_run ttok rfl rfl ?_|refine n_boxI ?_|refine n_litI ttok ?_|(apply s_call;refine n_call ?_)|fail))
  exact ax_ret1 rfl rfl rfl
def shapeE (g : FGlyph) : Int := if g.Advance < 0 ∨ g.Advance > 16384 then 1 else if g.Points.length > 200 ∨ g.Ends.length > 40 then 2 else if (eachL g.Points ptE).1 ≠ 0 then (eachL g.Points ptE).1 else whenE (!(outRight g.Points g.Ends)) 31
theorem shape_det (g : FGlyph) : ADet Tryz.prog 152 [.agg (cGlyph g)] (I64 (shapeE g)) := by
  refine ac_of Tryz.func152 rfl Tryz.ntmps152 rfl fun B => ?_
  unfold shapeE
  (repeat' (first|refine at_seq ?_|refine at_region ?_|refine at_block ?_|refine ax_then ?_|refine atl_nil ?_|refine n_run ttok rfl rfl ?_|refine n_boxI ?_|fail))
  refine atl_if [1] (g.Advance < 0 ∨ g.Advance > 16384) rfl (fun Q' K => ?_) (fun hC => ?_) (fun hC => ?_)
  · (repeat' (first|refine atl_nil ?_|refine n_run ttok rfl rfl ?_|refine atl_guard_yes rfl rfl ?_|refine atl_guard_no rfl rfl rfl rfl ?_|refine atl_guard rfl rfl rfl (fun _ => ?_) (fun _ => ?_)|fail))
    all_goals exact K _ _ rfl rfl (by clear K; grind)
  · rw [if_pos hC]
    (repeat' (first|refine at_seq ?_|refine at_region ?_|refine at_ret ?_|refine ax_then ?_|refine ax_then_ret ?_|refine ax_blk_ret ?_|refine atl_nil ?_|refine n_run ttok rfl rfl ?_|fail))
    exact ax_ret1 rfl rfl rfl
  rw [if_neg hC]
  (repeat' (first|refine at_seq ?_|refine at_region ?_|refine n_run ttok rfl rfl ?_|fail))
  refine atl_if [1] (g.Points.length > 200 ∨ g.Ends.length > 40) rfl (fun Q' K => ?_) (fun hC => ?_) (fun hC => ?_)
  · (repeat' (first|refine atl_nil ?_|refine n_run ttok rfl rfl ?_|refine atl_guard_yes rfl rfl ?_|refine atl_guard_no rfl rfl rfl rfl ?_|refine atl_guard rfl rfl rfl (fun _ => ?_) (fun _ => ?_)|fail))
    all_goals exact K _ _ rfl rfl (by clear K; simp_all [ints_len] <;> omega)
  · rw [if_pos hC]
    (repeat' (first|refine at_seq ?_|refine at_region ?_|refine at_ret ?_|refine ax_then ?_|refine ax_then_ret ?_|refine ax_blk_ret ?_|refine atl_nil ?_|refine n_run ttok rfl rfl ?_|fail))
    exact ax_ret1 rfl rfl rfl
  rw [if_neg hC]
  (repeat' (first|refine at_seq ?_|refine at_region ?_|refine at_skip ?_|refine ax_then ?_|refine ax_blk ?_|refine n_run ttok rfl rfl ?_|fail))
  refine n_callA [] [] (each222 (u := .sc (.func (.func 223) #[] #[])) (g := 223) (caps := []) rfl g.Points _ (fun _ _ => True) [] trivial (wrong_det (fun i x _ => shape1_det i x))) rfl rfl (List.Perm.refl _) rfl fun c L1 hc => ?_
  have hc : c = tup2 (eachL g.Points ptE) := hc
  subst hc
  unfold tup2
  (repeat' (first|refine at_seq ?_|refine at_region ?_|refine ax_then ?_|refine atl_nil ?_|refine n_run ttok rfl rfl ?_|fail))
  refine at_cond rfl (fun h => ?_) (fun h => ?_)
  · rw [if_pos (of_decide_eq_true h)]
    (repeat' (first|refine at_seq ?_|refine at_region ?_|refine at_ret ?_|refine ax_then ?_|refine ax_then_ret ?_|refine atl_nil ?_|refine n_run ttok rfl rfl ?_|fail))
    exact ax_ret1 rfl rfl rfl
  · rw [if_neg (of_decide_eq_false h)]
    (repeat' (first|refine at_seq ?_|refine at_region ?_|refine at_skip ?_|refine ax_then ?_|refine n_run ttok rfl rfl ?_|fail))
    refine n_call (hc := ⟨outRight_det g.Points g.Ends⟩) ?_
    (repeat' (first|refine at_ret ?_|refine ax_then ?_|refine atl_nil ?_|refine n_run ttok rfl rfl ?_|(apply s_call;refine n_call ?_)|fail))
    exact ax_ret1 rfl rfl rfl
instance (g : FGlyph) : AD Tryz.prog 152 [.agg (cGlyph g)] (I64 (shapeE g)) := ⟨shape_det g⟩
end Go.Proofs.YtpbinloeemebkaaGreat

namespace Go.Proofs.YtpbinloeemebkaaGreat
open Go.RowKit
attribute [local irreducible] AT ATL AX AO Av Kt ALoopK OkA DA DA1
open Go.MapKept
def insE (_ : Nat) (i : FIns) : Int := if i.Op < 1 ∨ i.Op > 39 then 50 else if i.A < -999999999 ∨ i.A > 999999999 then 3 else 0
theorem program1_det (n : Nat) (i : FIns) : ADet Tryz.prog 190 [I64 n, .agg (cIns i)] (I64 (insE n i)) := by
  refine ac_of Tryz.func190 rfl Tryz.ntmps190 rfl fun B => ?_
  unfold insE
  (repeat' (first|refine at_seq ?_|refine at_region ?_|refine at_block ?_|refine ax_then ?_|refine atl_nil ?_|refine n_run ttok rfl rfl ?_|refine n_boxI ?_|fail))
  refine atl_if [3] (i.Op < 1 ∨ i.Op > 39) rfl (fun Q' K => ?_) (fun hC => ?_) (fun hC => ?_)
  · (repeat' (first|refine atl_nil ?_|refine n_run ttok rfl rfl ?_|refine atl_guard_yes rfl rfl ?_|refine atl_guard_no rfl rfl rfl rfl ?_|refine atl_guard rfl rfl rfl (fun _ => ?_) (fun _ => ?_)|fail))
    all_goals exact K _ _ rfl rfl (by clear K; grind)
  · rw [if_pos hC]
    (repeat' (first|refine at_seq ?_|refine at_region ?_|refine at_ret ?_|refine ax_then ?_|refine ax_then_ret ?_|refine ax_blk_ret ?_|refine atl_nil ?_|refine n_run ttok rfl rfl ?_|fail))
    exact ax_ret1 rfl rfl rfl
  rw [if_neg hC]
  (repeat' (first|refine at_seq ?_|refine at_region ?_|refine n_run ttok rfl rfl ?_|fail))
  refine atl_if [] (i.A < -999999999 ∨ i.A > 999999999) rfl (fun Q' K => ?_) (fun hC => ?_) (fun hC => ?_)
  · (repeat' (first|refine atl_nil ?_|refine n_run ttok rfl rfl ?_|refine atl_guard_yes rfl rfl ?_|refine atl_guard_no rfl rfl rfl rfl ?_|refine atl_guard rfl rfl rfl (fun _ => ?_) (fun _ => ?_)|fail))
    all_goals exact K _ _ rfl rfl (by clear K; grind)
  · rw [if_pos hC]
    (repeat' (first|refine at_seq ?_|refine at_region ?_|refine at_ret ?_|refine ax_then ?_|refine ax_then_ret ?_|refine ax_blk_ret ?_|refine atl_nil ?_|refine n_run ttok rfl rfl ?_|fail))
    exact ax_ret1 rfl rfl rfl
  rw [if_neg hC]
  (repeat' (first|refine at_seq ?_|refine at_region ?_|refine at_skip ?_|refine at_ret ?_|refine ax_then ?_|refine ax_blk ?_|refine atl_nil ?_|refine n_run ttok rfl rfl ?_|fail))
  exact ax_ret1 rfl rfl rfl
def progE (l : List FIns) : Int := (someL 200 l insE).1
theorem program_det (l : List FIns) : ADet Tryz.prog 108 [.imm 2 (l.map cIns)] (I64 (progE l)) := by
  refine ac_of Tryz.func108 rfl Tryz.ntmps108 rfl fun B => ?_
  (repeat' (first|refine at_seq ?_|refine at_region ?_|refine ax_then ?_|refine atl_nil ?_|refine n_run ttok rfl rfl ?_|(apply s_call;refine n_call ?_)|fail))
  refine n_callF (f := 250) (cs := []) [] [] (some250 (g := 190) (caps := []) rfl l 200 _ (fun _ _ => True) [] trivial (fun _ => wrong_det fun i x _ => program1_det i x)) rfl rfl rfl (List.Perm.refl _) rfl rfl fun c L1 hc => ?_
  have hc : c = tup2 (someL 200 l insE) := hc
  subst hc
  unfold tup2
  (repeat' (first|refine at_seq ?_|refine at_region ?_|refine at_ret ?_|refine ax_then ?_|refine atl_nil ?_|refine n_run ttok rfl rfl ?_|fail))
  exact ax_ret1 rfl rfl rfl
instance (l : List FIns) : AD Tryz.prog 108 [.imm 2 (l.map cIns)] (I64 (progE l)) := ⟨program_det l⟩
def partE (f : FFont) (_ : Nat) (p : FPart) : Int := if isG f p.Glyph = false then 32 else whenE (!([p.X, p.Y].all mayN)) 30
theorem glyph3_det (f : FFont) (n : Nat) (p : FPart) : ADet Tryz.prog 154 [I64 n, .agg (cPart p), .iptr (cFont f)] (I64 (partE f n p)) := by
  refine ac_of Tryz.func154 rfl Tryz.ntmps154 rfl fun B => ?_
  unfold partE
  (repeat' (first|refine at_seq ?_|refine at_region ?_|refine ax_then ?_|refine atl_nil ?_|refine n_run ttok rfl rfl ?_|refine n_boxI ?_|(apply s_call;refine n_call ?_)|fail))
  refine at_cond rfl (fun h => ?_) (fun h => ?_)
  · rw [if_pos (by simpa using h)]
    (repeat' (first|refine at_seq ?_|refine at_region ?_|refine at_ret ?_|refine ax_then ?_|refine ax_then_ret ?_|refine atl_nil ?_|refine n_run ttok rfl rfl ?_|fail))
    exact ax_ret1 rfl rfl rfl
  · rw [if_neg (by simpa using h)]
    (repeat' (first|refine at_seq ?_|refine at_region ?_|refine at_skip ?_|refine at_ret ?_|refine ax_then ?_|refine atl_nil ?_|refine n_run ttok rfl rfl ?_|refine n_litI ttok ?_|(apply s_call;refine n_call ?_)|fail))
    exact ax_ret1 rfl rfl rfl
def ancE (g : FGlyph) (i : Nat) (a : FAnchor) : Int := if (a.Kind < 1 ∨ a.Kind > 4) ∨ (a.Class < 0 ∨ a.Class > 15) ∨ ((a.Kind = 3 ∨ a.Kind = 4) ∧ a.Class ≠ 0) ∨ [a.X, a.Y].all mayN = false ∨ (a.Kind = 2 ∧ g.Mark = false) ∨ (∃ b ∈ g.Anchors.take i, b.Kind = a.Kind ∧ b.Class = a.Class) then 35 else 0
def delE (f : FFont) (g : FGlyph) (i : Nat) (d : FDelta) : Int := if d.Region < 0 ∨ d.Region ≥ f.Regions.length then 61 else if (d.Point < -1 ∨ d.Point ≥ g.Points.length) ∨ [d.X, d.Y].all mayN = false ∨ (d.Point = -1 ∧ d.Y ≠ 0) then 30 else if (match i with | 0 => false | j + 1 => match g.Deltas[j]? with | some b => decide (d.Region < b.Region ∨ (d.Region = b.Region ∧ d.Point ≤ b.Point)) | none => false) = true then 24 else 0
theorem anchors_ac (b : Bool) : AC Tryz.prog 157 [Bol b] [] fun c L => ∃ m, c = .fn 229 [.iptr [Bol b], .iptr [.sc (.map (some m))]] ∧ L = [(m, mapB2 fun _ _ => none)] := by
  refine ac_of Tryz.func157 rfl Tryz.ntmps157 rfl fun B => ?_
  (repeat' (first|refine at_seq ?_|refine at_region ?_|refine ax_then ?_|refine atl_nil ?_|refine n_run ttok rfl rfl ?_|refine n_boxI ?_|fail))
  refine n_makeMap2 fun m => ?_
  (repeat' (first|refine at_seq ?_|refine at_region ?_|refine at_ret ?_|refine ax_then ?_|refine atl_nil ?_|refine n_run ttok rfl rfl ?_|(apply s_store; first|refine n_storeF 3 ttok 0 rfl rfl rfl rfl rfl rfl rfl rfl ?_|refine n_storeF 3 ttok 1 rfl rfl rfl rfl rfl rfl rfl rfl ?_|refine n_storeF 3 ttok 2 rfl rfl rfl rfl rfl rfl rfl rfl ?_|refine n_store ttok 0 rfl rfl rfl rfl rfl rfl rfl ?_|refine n_store ttok 1 rfl rfl rfl rfl rfl rfl rfl ?_|refine n_store ttok 2 rfl rfl rfl rfl rfl rfl rfl ?_|refine n_store ttok 3 rfl rfl rfl rfl rfl rfl rfl ?_|fail)|refine n_alloc ttok fun _=>?_|fail))
  exact ax_ret1 rfl rfl ⟨_, rfl, rfl⟩
theorem deltas_ac (r p : Int) : AC Tryz.prog 159 [I64 r, I64 p] [] fun c L => ∃ b, c = .fn 232 [.iptr [I64 r], .iptr [I64 p], .sc (.pointer (some ⟨b, 0, none⟩))] ∧ L = [(b, .box [I64 0, I64 0] 307)] := by
  refine ac_of Tryz.func159 rfl Tryz.ntmps159 rfl fun B => ?_
  (repeat' (first|refine at_seq ?_|refine at_region ?_|refine at_ret ?_|refine ax_then ?_|refine atl_nil ?_|refine n_run ttok rfl rfl ?_|refine n_boxI ?_|refine n_alloc ttok fun _=>?_|fail))
  exact ax_ret1 rfl rfl ⟨_, rfl, rfl⟩
theorem glyph1_det (e : Int) : ADet Tryz.prog 150 [.iptr [I64 e]] (tup2 (e, 0)) := by
  refine ac_of Tryz.func150 rfl Tryz.ntmps150 rfl fun B => ?_
  (repeat' (first|refine at_seq ?_|refine at_region ?_|refine at_ret ?_|refine ax_then ?_|refine atl_nil ?_|refine n_run ttok rfl rfl ?_|fail))
  exact ax_ret2 rfl rfl rfl rfl
theorem glyph2_det (g : FGlyph) : ADet Tryz.prog 151 [.iptr (cGlyph g)] (tup2 (shapeE g, 0)) := by
  refine ac_of Tryz.func151 rfl Tryz.ntmps151 rfl fun B => ?_
  (repeat' (first|refine at_seq ?_|refine at_region ?_|refine at_ret ?_|refine ax_then ?_|refine atl_nil ?_|refine n_run ttok rfl rfl ?_|(apply s_call;refine n_call ?_)|fail))
  exact ax_ret2 rfl rfl rfl rfl
theorem glyph4_det (g : FGlyph) : ADet Tryz.prog 160 [.iptr (cGlyph g)] (tup2 (progE g.Hint, 0)) := by
  refine ac_of Tryz.func160 rfl Tryz.ntmps160 rfl fun B => ?_
  (repeat' (first|refine at_seq ?_|refine at_region ?_|refine at_ret ?_|refine ax_then ?_|refine atl_nil ?_|refine n_run ttok rfl rfl ?_|(apply s_call;refine n_call ?_)|fail))
  exact ax_ret2 rfl rfl rfl rfl
def firstE (l : List (Int × Int)) : Int × Int := match l with
  | [] => (0, 0)
  | x :: r => if x.1 = 0 then firstE r else x
theorem lkE_map : ∀ l : List Lk, lkE l = firstE (l.map fun x => (x.e, x.n))
  | [] => rfl
  | x :: r => by simp only [lkE, List.map_cons, firstE]; rw [lkE_map r]
theorem firstE_all : ∀ {l : List (Int × Int)}, (∀ x ∈ l, x.1 = 0) → firstE l = (0, 0)
  | [], _ => rfl
  | x :: r, h => by unfold firstE; rw [if_pos (h x (List.mem_cons_self ..))]; exact firstE_all fun y hy => h y (List.mem_cons_of_mem _ hy)
def glyphE (f : FFont) (g : FGlyph) (name : Int) : Int := (firstE [(name, 0), (shapeE g, 0), someL 8 g.Parts (partE f), someL 16 g.Anchors (ancE g), someL 400 g.Deltas (delE f g), (progE g.Hint, 0)]).1
end Go.Proofs.YtpbinloeemebkaaGreat
