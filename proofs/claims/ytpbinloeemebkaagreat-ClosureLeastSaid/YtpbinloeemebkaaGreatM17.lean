/-
  The program: sets of glyphs (printed by tools/glyphsets.py).
-/
import Derived.Test.YtpbinloeemebkaaGreatM16
namespace Go.Proofs.YtpbinloeemebkaaGreat
open Go.RowKit
attribute [local irreducible] AT ATL AX AO Av Kt ALoopK OkA DA DA1
def setGl (p b n : Nat) (k : Option (Nat × Nat)) (l : List Int) : AL := (p, .box [.sc (.slice (some ⟨b, 0, none⟩) n n), .vec k 1 (ints l)] 106) :: (b, .box (flags l n) 4) :: tok k 99 1 (ints l).length
theorem newGl (n : Nat) (hn : n ≤ 1000000) : AC Tryz.prog 54 [I64 n] [] fun c L => ∃ p b, c = Ptr p ∧ L = setGl p b n none [] := by
  refine ac_of Tryz.func54 rfl Tryz.ntmps54 rfl fun B => ?_
  (repeat' (first|refine at_seq ?_|refine at_region ?_|refine ax_then ?_|refine atl_nil ?_|refine n_run ttok rfl rfl ?_|fail))
  refine n_make ttok n rfl rfl rfl rfl rfl rfl rfl (by omega) (by omega) rfl fun b => ?_
  rw [show (List.replicate n (List.map AV.sc [Value.bool false])).flatten = flags [] n from flags_nil n]
  (repeat' (first|refine at_ret ?_|refine ax_then ?_|refine atl_nil ?_|refine n_run ttok rfl rfl ?_|refine n_box fun _=>?_|fail))
  refine ax_turn (turn_cells 0 (cs' := [.sc (.slice (some ⟨b, 0, none⟩) n n), .vec none 1 []]) rfl fun σ vs h => ?_) (ax_ret1 rfl rfl ⟨_, b, rfl, rfl⟩)
  obtain ⟨v, ws, rfl, h1, h2⟩ := h.inv
  obtain ⟨v', ws', rfl, h3, h4⟩ := h2.inv
  exact .cons h1 (.cons (vr_nil 1 h3) h4)
theorem addGl (p b n : Nat) (k : Option (Nat × Nat)) (l ns : List Int) (hn : n ≤ 1000000) (hl : SetOk n l) : AC Tryz.prog 36 [Ptr p, .imm 1 (ints ns)] (setGl p b n k l) fun _ L => ∃ k', L = setGl p b n k' (addN n l ns) := by
  refine ac_of Tryz.func36 rfl Tryz.ntmps36 rfl fun B => ?_
  refine at_len 1 rfl rfl fun hlen => ?_
  rw [ints_len] at hlen
  (repeat' (first|refine at_seq ?_|refine at_region ?_|refine at_block ?_|refine ax_then ?_|refine atl_nil ?_|refine n_run ttok rfl rfl ?_|fail))
  refine at_loopK [0, 6, 7] (α := Nat × Option (Nat × Nat)) (fun x => [(8, I64 x.1)]) (fun x => x.1 ≤ ns.length) (fun x => setGl p b n x.2 (addN n l (ns.take x.1))) (fun x => ns.length - x.1) (0, k) rfl ⟨rfl, trivial⟩ (Nat.zero_le _) (fun _ _ h => h) ?_
  rintro ⟨i, k⟩ hi
  dsimp only at hi ⊢
  have hok := hl.add (ns.take i)
  have hok1 := hok.len
  try dsimp only [List.cons_append, List.nil_append, List.map_cons, List.map_nil]
  (repeat' (first|refine at_seq ?_|refine at_region ?_|refine ax_then ?_|refine atl_nil ?_|refine n_run ttok rfl rfl ?_|fail))
  refine at_cond rfl (fun h => ?_) (fun h => ?_)
  · have hil : i < ns.length := by have := of_decide_eq_true h; simp [ints_len] at this; omega
    obtain ⟨z, hz⟩ : ∃ z, ns[i]? = some z := ⟨_, List.getElem?_eq_getElem hil⟩
    have hzg := ints_get hz
    have had := addN_take (n := n) (l := l) hz
    generalize addN n l (ns.take i) = l1 at *
    (repeat' (first|refine at_seq ?_|refine at_region ?_|refine at_block ?_|refine at_skip ?_|refine ax_then ?_|refine atl_nil ?_|refine n_run ttok rfl rfl ?_|(apply s_index; first|refine n_index ttok ?_|refine n_indexP ttok ?_)|fail))
    refine atl_if [0, 5, 6, 7, 8] (0 ≤ z ∧ z < n ∧ z ∉ l1) rfl (fun Q' K => ?_) (fun hC => ?_) (fun hC => ?_)
    · by_cases hin : 0 ≤ z ∧ z < n
      · obtain ⟨hz0, hz1⟩ := hin
        have hfg := flags_get l1 n hz0 hz1
        clear had hok hl
        (repeat' (first|refine atl_nil ?_|refine n_run ttok rfl rfl ?_|refine atl_guard_yes rfl rfl ?_|refine atl_guard_no rfl rfl rfl rfl ?_|(apply s_load; first|refine n_load ttok 0 rfl rfl rfl rfl rfl ?_|refine n_load ttok 1 rfl rfl rfl rfl rfl ?_|refine n_load ttok 2 rfl rfl rfl rfl rfl ?_|refine n_load ttok 3 rfl rfl rfl rfl rfl ?_|refine n_loadA ttok 0 rfl rfl rfl rfl rfl ?_|refine n_loadA ttok 1 rfl rfl rfl rfl rfl ?_|refine n_loadA ttok 2 rfl rfl rfl rfl rfl ?_|refine n_load ttok 1 rfl rfl rfl (by assumption) rfl ?_|refine n_load ttok 0 rfl rfl rfl (by assumption) rfl ?_|fail)|(apply s_index; first|refine n_index ttok ?_|refine n_indexP ttok ?_)|refine atl_guard rfl rfl rfl (fun _ => ?_) (fun _ => ?_)|fail))
        all_goals exact K _ _ rfl rfl (by simp_all)
      · clear had hok hl
        (repeat' (first|refine atl_nil ?_|refine n_run ttok rfl rfl ?_|refine atl_guard_yes rfl rfl ?_|refine atl_guard_no rfl rfl rfl rfl ?_|(apply s_load; first|refine n_load ttok 0 rfl rfl rfl rfl rfl ?_|refine n_load ttok 1 rfl rfl rfl rfl rfl ?_|refine n_load ttok 2 rfl rfl rfl rfl rfl ?_|refine n_load ttok 3 rfl rfl rfl rfl rfl ?_|refine n_loadA ttok 0 rfl rfl rfl rfl rfl ?_|refine n_loadA ttok 1 rfl rfl rfl rfl rfl ?_|refine n_loadA ttok 2 rfl rfl rfl rfl rfl ?_|refine n_load ttok 1 rfl rfl rfl (by assumption) rfl ?_|refine n_load ttok 0 rfl rfl rfl (by assumption) rfl ?_|fail)|refine atl_guard rfl rfl rfl (fun _ => ?_) (fun _ => ?_)|fail))
        all_goals first
          | (refine K _ _ rfl rfl ?_; exact ⟨fun e => (by cases e), fun hh => absurd (And.intro hh.1 hh.2.1) hin⟩)
          | (rename_i e1 e2; exact absurd ⟨of_decide_eq_true e1, of_decide_eq_true e2⟩ hin)
    · obtain ⟨hz0, hz1, hz2⟩ := hC
      have had' : addN n l (ns.take (i + 1)) = l1 ++ [z] := by rw [had]; unfold addOne; rw [if_pos ⟨hz0, hz1, hz2⟩]
      (repeat' (first|refine at_seq ?_|refine at_region ?_|refine n_run ttok rfl rfl ?_|(apply s_load; first|refine n_load ttok 0 rfl rfl rfl rfl rfl ?_|refine n_load ttok 1 rfl rfl rfl rfl rfl ?_|refine n_load ttok 2 rfl rfl rfl rfl rfl ?_|refine n_load ttok 3 rfl rfl rfl rfl rfl ?_|refine n_loadA ttok 0 rfl rfl rfl rfl rfl ?_|refine n_loadA ttok 1 rfl rfl rfl rfl rfl ?_|refine n_loadA ttok 2 rfl rfl rfl rfl rfl ?_|refine n_load ttok 1 rfl rfl rfl (by assumption) rfl ?_|refine n_load ttok 0 rfl rfl rfl (by assumption) rfl ?_|fail)|(apply s_index; first|refine n_index ttok ?_|refine n_indexP ttok ?_)|fail))
      refine n_store ttok 1 rfl rfl rfl rfl rfl rfl (by rw [Nat.ble_eq, flags_len]; show _ + 1 ≤ n; omega) ?_
      rw [putA_one, flags_set l1 n hz0 hz1]
      (repeat' (first|refine at_region ?_|refine ax_then ?_|refine atl_nil ?_|refine n_run ttok rfl rfl ?_|(apply s_load; first|refine n_load ttok 0 rfl rfl rfl rfl rfl ?_|refine n_load ttok 1 rfl rfl rfl rfl rfl ?_|refine n_load ttok 2 rfl rfl rfl rfl rfl ?_|refine n_load ttok 3 rfl rfl rfl rfl rfl ?_|refine n_loadA ttok 0 rfl rfl rfl rfl rfl ?_|refine n_loadA ttok 1 rfl rfl rfl rfl rfl ?_|refine n_loadA ttok 2 rfl rfl rfl rfl rfl ?_|refine n_load ttok 1 rfl rfl rfl (by assumption) rfl ?_|refine n_load ttok 0 rfl rfl rfl (by assumption) rfl ?_|fail)|refine n_litI ttok ?_|fail))
      refine n_append ttok [(p, .box [.sc (.slice (some ⟨b, 0, none⟩) n n), .vec k 1 (ints l1)] 106), (b, .box (flags (l1 ++ [z]) n) 4)] rfl rfl rfl rfl (List.perm_append_comm (l₁ := [(p, AB.box [.sc (.slice (some ⟨b, 0, none⟩) n n), .vec k 1 (ints l1)] 106), (b, AB.box (flags (l1 ++ [z]) n) 4)])) (by rw [ints_len]; simp; omega) (by rw [ints_len]; simp; omega) rfl fun k' => ?_
      refine atl_turn (turn_perm List.perm_append_comm) ?_
      (repeat' (first|refine at_region ?_|refine ax_then ?_|refine ax_blk ?_|refine atl_nil ?_|refine n_run ttok rfl rfl ?_|(apply s_bin; refine n_bin ?_)|(apply s_store; first|refine n_store ttok 0 rfl rfl rfl rfl rfl rfl rfl ?_|refine n_store ttok 1 rfl rfl rfl rfl rfl rfl rfl ?_|refine n_store ttok 2 rfl rfl rfl rfl rfl rfl rfl ?_|refine n_store ttok 3 rfl rfl rfl rfl rfl rfl rfl ?_|fail)|fail))
      rw [show ints l1 ++ [[I64 z]] = ints (l1 ++ [z]) from ints_app l1 [z], ← had']
      refine ax_roundK (i + 1, k') rfl ⟨by rw [Int.natCast_add]; rfl, trivial⟩ (by dsimp only; omega) (by dsimp only; omega) (fun _ _ h => h)
    · have had' : addN n l (ns.take (i + 1)) = l1 := by rw [had]; unfold addOne; rw [if_neg hC]
      (repeat' (first|refine at_region ?_|refine at_skip ?_|refine ax_then ?_|refine ax_blk ?_|refine atl_nil ?_|refine n_run ttok rfl rfl ?_|(apply s_bin; refine n_bin ?_)|fail))
      refine ax_roundK (i + 1, k) rfl ⟨by rw [Int.natCast_add]; rfl, trivial⟩ (by dsimp only; omega) (by dsimp only; omega) (fun _ _ h => by dsimp only; rw [had']; exact h)
  · have hil : i = ns.length := by have := of_decide_eq_false h; simp [ints_len] at this; omega
    subst hil
    rw [List.take_length]
    (repeat' (first|refine at_exit ?_|refine ax_then_exit ?_|refine ax_blk_exit ?_|refine ax_loop_exit ?_|fail))
    exact ax_end0 rfl ⟨k, rfl⟩
theorem risingGl (p b n : Nat) (k : Option (Nat × Nat)) (l : List Int) (hl : l.length ≤ 1000000) : AC Tryz.prog 39 [Ptr p] (setGl p b n k l) fun c L => c = .imm 1 (ints (sorted l)) ∧ L = setGl p b n k l := by
  refine ac_of Tryz.func39 rfl Tryz.ntmps39 rfl fun B => ?_
  (repeat' (first|refine at_seq ?_|refine at_region ?_|refine ax_then ?_|refine atl_nil ?_|refine n_run ttok rfl rfl ?_|(apply s_load; first|refine n_load ttok 0 rfl rfl rfl rfl rfl ?_|refine n_load ttok 1 rfl rfl rfl rfl rfl ?_|refine n_load ttok 2 rfl rfl rfl rfl rfl ?_|refine n_load ttok 3 rfl rfl rfl rfl rfl ?_|refine n_loadA ttok 0 rfl rfl rfl rfl rfl ?_|refine n_loadA ttok 1 rfl rfl rfl rfl rfl ?_|refine n_loadA ttok 2 rfl rfl rfl rfl rfl ?_|refine n_load ttok 1 rfl rfl rfl (by assumption) rfl ?_|refine n_load ttok 0 rfl rfl rfl (by assumption) rfl ?_|fail)|fail))
  refine n_make ttok l.length rfl rfl rfl rfl rfl (by rw [ints_len]) (by rw [ints_len]) (by omega) (by omega) rfl fun b3 => ?_
  rw [show (List.replicate l.length (List.map AV.sc [Value.int .i64 0])).flatten = filled l 0 from fillNil l _ rfl]
  (repeat' (first|refine at_seq ?_|refine at_region ?_|refine at_block ?_|refine ax_then ?_|refine atl_nil ?_|refine n_run ttok rfl rfl ?_|(apply s_load; first|refine n_load ttok 0 rfl rfl rfl rfl rfl ?_|refine n_load ttok 1 rfl rfl rfl rfl rfl ?_|refine n_load ttok 2 rfl rfl rfl rfl rfl ?_|refine n_load ttok 3 rfl rfl rfl rfl rfl ?_|refine n_loadA ttok 0 rfl rfl rfl rfl rfl ?_|refine n_loadA ttok 1 rfl rfl rfl rfl rfl ?_|refine n_loadA ttok 2 rfl rfl rfl rfl rfl ?_|refine n_load ttok 1 rfl rfl rfl (by assumption) rfl ?_|refine n_load ttok 0 rfl rfl rfl (by assumption) rfl ?_|fail)|fail))
  refine at_loopK [3, 15, 16] (α := Nat) (fun i => [(17, I64 i)]) (fun i => i ≤ l.length) (fun i => (b3, .box (filled l i) 3) :: setGl p b n k l) (fun i => l.length - i) 0 rfl ⟨rfl, trivial⟩ (Nat.zero_le _) (fun _ _ h => h) fun i hi => ?_
  try dsimp only [List.cons_append, List.nil_append, List.map_cons, List.map_nil]
  (repeat' (first|refine at_seq ?_|refine at_region ?_|refine ax_then ?_|refine atl_nil ?_|refine n_run ttok rfl rfl ?_|fail))
  refine at_cond rfl (fun h => ?_) (fun h => ?_)
  · have hil : i < l.length := by have := of_decide_eq_true h; simp [ints_len] at this; omega
    obtain ⟨z, hz⟩ : ∃ z, l[i]? = some z := ⟨_, List.getElem?_eq_getElem hil⟩
    have hzg := ints_get hz
    (repeat' (first|refine at_seq ?_|refine at_region ?_|refine at_block ?_|refine at_skip ?_|refine ax_then ?_|refine atl_nil ?_|refine n_run ttok rfl rfl ?_|(apply s_index; first|refine n_index ttok ?_|refine n_indexP ttok ?_)|fail))
    refine n_store ttok 0 rfl rfl rfl rfl rfl rfl (by rw [Nat.ble_eq, fillLen l hi]; show _ + 1 ≤ l.length; omega) ?_
    rw [putA_one, fillSet hz]
    (repeat' (first|refine at_region ?_|refine ax_then ?_|refine ax_blk ?_|refine atl_nil ?_|refine n_run ttok rfl rfl ?_|(apply s_bin; refine n_bin ?_)|fail))
    exact ax_roundK (i + 1) rfl ⟨by rw [Int.natCast_add]; rfl, trivial⟩ (by omega) (by omega) (fun _ _ h => h)
  · have hil : i = l.length := by have := of_decide_eq_false h; simp [ints_len] at this; omega
    subst hil
    rw [fillAll]
    (repeat' (first|refine at_seq ?_|refine at_region ?_|refine at_exit ?_|refine ax_then ?_|refine ax_then_exit ?_|refine ax_blk_exit ?_|refine ax_loop_exit ?_|refine n_run ttok rfl rfl ?_|fail))
    refine n_callA [(b3, .box (l.map I64) 3)] (setGl p b n k l) (sort_ac b3 l.length l rfl hl) rfl rfl (List.Perm.refl _) rfl fun c L1 hL1 => ?_
    subst hL1
    (repeat' (first|refine at_seq ?_|refine at_region ?_|refine at_ret ?_|refine ax_then ?_|refine atl_nil ?_|refine n_run ttok rfl rfl ?_|fail))
    refine ax_turn (turn_box (t := 2) (sz := 1) (l := ints (sorted l)) 0 rfl rfl (ints_flat _).symm (by simp [ints]) (by rw [ints_len, sorted_len]) (by omega)) ?_
    exact ax_drop (List.sublist_cons_self ..) (ax_ret1I rfl rfl rfl ⟨rfl, rfl⟩)
theorem pendGl {α : Type} {σ0 : Mem} {l p b n : Nat} (S : α → List Int) (K : α → Option (Nat × Nat)) (E : α → AL) (J : Nat → α → Prop) (hn : n ≤ 1000000) (hJ : ∀ i x, J i x → i ≤ (S x).length ∧ (S x).length ≤ n)
    (hy : ∀ i x z, J i x → (S x)[i]? = some z → AY Tryz.prog σ0 l [I64 z] (setGl p b n (K x) (S x) ++ E x) fun c L => c = Bol true ∧ ∃ x', J (i + 1) x' ∧ L = setGl p b n (K x') (S x') ++ E x') (x0 : α) (h0 : J 0 x0) :
    ACs Tryz.prog σ0 68 [.sc (.func (.yield l) #[] #[]), .iptr [Ptr p]] (setGl p b n (K x0) (S x0) ++ E x0) fun _ L => ∃ x, J (S x).length x ∧ L = setGl p b n (K x) (S x) ++ E x := by
  refine acs_of Tryz.func68 rfl Tryz.ntmps68 rfl fun B hB => ?_
  (repeat' (first|refine at_seq ?_|refine at_region ?_|refine at_block ?_|refine ax_then ?_|refine atl_nil ?_|refine n_run ttok rfl rfl ?_|fail))
  refine at_loopK [0, 1] (α := Nat × α) (fun y => [(3, I64 y.1)]) (fun y => J y.1 y.2) (fun y => setGl p b n (K y.2) (S y.2) ++ E y.2) (fun y => n - y.1) (0, x0) rfl ⟨rfl, trivial⟩ h0 (fun _ _ h => h) ?_
  rintro ⟨i, x⟩ hj
  dsimp only at hj ⊢
  obtain ⟨hi, hl⟩ := hJ i x hj
  try dsimp only [List.cons_append, List.nil_append, List.map_cons, List.map_nil]
  (repeat' (first|refine at_seq ?_|refine at_region ?_|refine ax_then ?_|refine atl_nil ?_|refine n_run ttok rfl rfl ?_|(apply s_load; first|refine n_load ttok 0 rfl rfl rfl rfl rfl ?_|refine n_load ttok 1 rfl rfl rfl rfl rfl ?_|refine n_load ttok 2 rfl rfl rfl rfl rfl ?_|refine n_load ttok 3 rfl rfl rfl rfl rfl ?_|refine n_loadA ttok 0 rfl rfl rfl rfl rfl ?_|refine n_loadA ttok 1 rfl rfl rfl rfl rfl ?_|refine n_loadA ttok 2 rfl rfl rfl rfl rfl ?_|refine n_load ttok 1 rfl rfl rfl (by assumption) rfl ?_|refine n_load ttok 0 rfl rfl rfl (by assumption) rfl ?_|fail)|fail))
  refine at_cond rfl (fun h => ?_) (fun h => ?_)
  · have hil : i < (S x).length := by have := of_decide_eq_true h; simp [ints_len] at this; omega
    obtain ⟨z, hz⟩ : ∃ z, (S x)[i]? = some z := ⟨_, List.getElem?_eq_getElem hil⟩
    have hzg := ints_get hz
    (repeat' (first|refine at_seq ?_|refine at_region ?_|refine at_block ?_|refine at_skip ?_|refine ax_then ?_|refine n_run ttok rfl rfl ?_|(apply s_load; first|refine n_load ttok 0 rfl rfl rfl rfl rfl ?_|refine n_load ttok 1 rfl rfl rfl rfl rfl ?_|refine n_load ttok 2 rfl rfl rfl rfl rfl ?_|refine n_load ttok 3 rfl rfl rfl rfl rfl ?_|refine n_loadA ttok 0 rfl rfl rfl rfl rfl ?_|refine n_loadA ttok 1 rfl rfl rfl rfl rfl ?_|refine n_loadA ttok 2 rfl rfl rfl rfl rfl ?_|refine n_load ttok 1 rfl rfl rfl (by assumption) rfl ?_|refine n_load ttok 0 rfl rfl rfl (by assumption) rfl ?_|fail)|(apply s_index; first|refine n_index ttok ?_|refine n_indexP ttok ?_)|fail))
    refine n_yield (setGl p b n (K x) (S x) ++ E x) [] hB (hy i x z hj hz) rfl rfl rfl (by rw [List.append_nil]) rfl rfl fun c L1 ⟨hc, x', hj', hL⟩ => ?_
    subst hc; subst hL
    rw [List.append_nil]
    (repeat' (first|refine at_region ?_|refine at_skip ?_|refine ax_then ?_|refine ax_blk ?_|refine atl_nil ?_|refine n_run ttok rfl rfl ?_|(apply s_bin; refine n_bin ?_)|refine n_condF rfl ?_|fail))
    have := hJ _ _ hj'
    exact ax_roundK (i + 1, x') rfl ⟨by rw [Int.natCast_add]; rfl, trivial⟩ hj' (by dsimp only; omega) (fun _ _ h => h)
  · have hil : i = (S x).length := by have := of_decide_eq_false h; simp [ints_len] at this; omega
    subst hil
    (repeat' (first|refine at_exit ?_|refine ax_then_exit ?_|refine ax_blk_exit ?_|refine ax_loop_exit ?_|fail))
    exact ax_end0 rfl ⟨x, hj, rfl⟩
theorem pendingGl (p : Nat) : ADet Tryz.prog 46 [Ptr p] (.fn 68 [.iptr [Ptr p]]) := by
  refine ac_of Tryz.func46 rfl Tryz.ntmps46 rfl fun B => ?_
  (repeat' (first|refine at_seq ?_|refine at_region ?_|refine at_ret ?_|refine ax_then ?_|refine atl_nil ?_|refine n_run ttok rfl rfl ?_|refine n_boxI ?_|fail))
  exact ax_ret1 rfl rfl rfl
instance (p : Nat) : AD Tryz.prog 46 [Ptr p] (.fn 68 [.iptr [Ptr p]]) := ⟨pendingGl p⟩
end Go.Proofs.YtpbinloeemebkaaGreat

namespace Go.Proofs.YtpbinloeemebkaaGreat
open Go.RowKit
attribute [local irreducible] AT ATL AX AO Av Kt ALoopK OkA DA DA1
open Go.MapKept
def nameM (l : List ByteArray) : Value → Option AV
  | .string s => if hasS l s then some (Bol true) else none
  | _ => none
theorem nameM_zero : (fun _ => none) = nameM ([] : List ByteArray) := by
  funext v
  unfold nameM
  split <;> rfl
theorem nameM_self {l : List ByteArray} {i : Nat} {s : ByteArray} (h : l[i]? = some s) : nameM (l.take (i + 1)) (.string s) = some (Bol true) := by
  unfold nameM
  simp only
  rw [if_pos (hasS_iff.2 (by rw [List.take_add_one, h]; simp))]
theorem nameM_other {l : List ByteArray} {i : Nat} {s : ByteArray} (h : l[i]? = some s) (q : Value) (hq : q ≠ .string s) : nameM (l.take (i + 1)) q = nameM (l.take i) q := by
  unfold nameM
  split
  · rename_i t
    have : hasS (l.take (i + 1)) t = hasS (l.take i) t := by
      rw [Bool.eq_iff_iff, hasS_iff, hasS_iff, List.take_add_one, h, List.mem_append]
      constructor
      · rintro (h | h)
        · exact h
        · simp at h; subst h; exact absurd rfl hq
      · exact Or.inl
    rw [this]
  · rfl
theorem addN_app (n : Nat) (l a b : List Int) : addN n (addN n l a) b = addN n l (a ++ b) := by unfold addN; rw [List.foldl_append]
theorem addOne_mem {n : Nat} {l : List Int} {z y : Int} : y ∈ addOne n l z ↔ y ∈ l ∨ (y = z ∧ 0 ≤ z ∧ z < n) := by
  unfold addOne
  split
  · rename_i h
    rw [List.mem_append, List.mem_singleton]
    constructor
    · rintro (h1 | h1)
      · exact Or.inl h1
      · exact Or.inr ⟨h1, h.1, h.2.1⟩
    · rintro (h1 | h1)
      · exact Or.inl h1
      · exact Or.inr h1.1
  · rename_i h
    constructor
    · exact Or.inl
    · rintro (h1 | ⟨h1, h2, h3⟩)
      · exact h1
      · subst h1; exact Classical.byContradiction fun hn => h ⟨h2, h3, hn⟩
theorem addN_mem {n : Nat} {l ns : List Int} {y : Int} : y ∈ addN n l ns ↔ y ∈ l ∨ (y ∈ ns ∧ 0 ≤ y ∧ y < n) := by
  unfold addN
  induction ns generalizing l with
  | nil => simp
  | cons z ns ih =>
    rw [List.foldl_cons, ih, addOne_mem, List.mem_cons]
    constructor
    · rintro ((h | ⟨h1, h2, h3⟩) | ⟨h1, h2, h3⟩)
      · exact Or.inl h
      · subst h1; exact Or.inr ⟨Or.inl rfl, h2, h3⟩
      · exact Or.inr ⟨Or.inr h1, h2, h3⟩
    · rintro (h | ⟨h1 | h1, h2, h3⟩)
      · exact Or.inl (Or.inl h)
      · subst h1; exact Or.inl (Or.inr ⟨rfl, h2, h3⟩)
      · exact Or.inr ⟨h1, h2, h3⟩
theorem LkWay.start2 {f : FFont} {fs : List ByteArray} : LkWay f fs (addN f.Lookups.length [] (askN fs f.Features)) 0 where
  reach z hz := by
    rcases addN_mem.1 hz with h | ⟨h1, h2, h3⟩
    · cases h
    · obtain ⟨t, ht, h4, h5⟩ := askN_mem.1 h1
      exact .base ht h4 h5 h2 h3
  nodup := (SetOk.nil.add _).nodup
  base z hz h0 h1 := addN_mem.2 (Or.inr ⟨hz, h0, h1⟩)
  done j hj := absurd hj (Nat.not_lt_zero _)
theorem LkWay.addOne {f : FFont} {fs : List ByteArray} {l : List Int} {i m : Nat} {n : Int} (h : LkWay f fs l i) (hn : Reach f fs n) (hi : i ≤ l.length) : LkWay f fs (addOne m l n) i := by
  unfold Go.Proofs.YtpbinloeemebkaaGreat.addOne
  split
  · rename_i hc
    exact h.add hn hc.2.2 hi
  · exact h
theorem addOne_get {l : List Int} {m i : Nat} {n z : Int} (h : l[i]? = some z) : (addOne m l n)[i]? = some z := by
  unfold addOne
  split
  · rw [List.getElem?_append_left (List.getElem?_eq_some_iff.1 h).1]; exact h
  · exact h
theorem rec_back {rec : Loop} (h1 : rec.state = .ready) (h2 : rec.pending = none) : ({ ({ rec with state := .busy } : Loop) with state := .ready, pending := none } : Loop) = rec := by cases rec; simp_all
set_option maxHeartbeats 4000000 in
theorem lookupsP_det (f : FFont) (fs : List ByteArray) (hs : Small f) : ADet Tryz.prog 13 [aFont f, .imm 1 (strs fs)] (.imm 1 (ints (reachN f fs))) := by
  refine ac_ofM Tryz.func13 rfl Tryz.ntmps13 rfl fun B => ?_
  have hF := hs.features
  have hLk := hs.lookups
  refine at_len 1 rfl rfl fun hlen => ?_
  rw [strs_len] at hlen
  (repeat' (first|refine at_seq ?_|refine at_region ?_|refine ax_then ?_|refine atl_nil ?_|refine n_run ttok rfl rfl ?_|refine n_boxI ?_|fail))
  refine n_makeMap .string fun bm => ?_
  rw [nameM_zero]
  (repeat' (first|refine at_seq ?_|refine at_region ?_|refine at_block ?_|refine ax_then ?_|refine atl_nil ?_|refine n_run ttok rfl rfl ?_|fail))
  refine at_loopK [2, 5, 17, 18] (α := Nat) (fun i => [(19, I64 i)]) (fun i => i ≤ fs.length) (fun i => [(bm, mapB .string (nameM (fs.take i)))]) (fun i => fs.length - i) 0 rfl ⟨rfl, trivial⟩ (Nat.zero_le _) (fun _ _ h => h) fun i hi => ?_
  try dsimp only [List.cons_append, List.nil_append, List.map_cons, List.map_nil]
  (repeat' (first|refine at_seq ?_|refine at_region ?_|refine ax_then ?_|refine atl_nil ?_|refine n_run ttok rfl rfl ?_|fail))
  refine at_cond rfl (fun h => ?_) (fun h => ?_)
  · have hil : i < fs.length := by have := of_decide_eq_true h; simp [strs_len] at this; omega
    obtain ⟨z, hz⟩ : ∃ z, fs[i]? = some z := ⟨_, List.getElem?_eq_getElem hil⟩
    have hzg := strs_get hz
    (repeat' (first|refine at_seq ?_|refine at_region ?_|refine at_block ?_|refine at_skip ?_|refine ax_then ?_|refine atl_nil ?_|refine n_run ttok rfl rfl ?_|(apply s_index; first|refine n_index ttok ?_|refine n_indexP ttok ?_)|fail))
    refine n_mapUpdate 0 (nameM (fs.take (i + 1))) Tryz.underlying78 Tryz.underlying9 rfl rfl trivial rfl rfl (nameM_self hz) (nameM_other hz) ?_
    (repeat' (first|refine at_region ?_|refine ax_then ?_|refine ax_blk ?_|refine atl_nil ?_|refine n_run ttok rfl rfl ?_|(apply s_bin; refine n_bin ?_)|fail))
    exact ax_roundK (i + 1) rfl ⟨by rw [Int.natCast_add]; rfl, trivial⟩ (by omega) (by omega) (fun _ _ h => h)
  have hil : i = fs.length := by have := of_decide_eq_false h; simp [strs_len] at this; omega
  subst hil
  rw [List.take_length]
  clear h
  (repeat' (first|refine at_seq ?_|refine at_region ?_|refine at_exit ?_|refine ax_then ?_|refine ax_then_exit ?_|refine ax_blk_exit ?_|refine ax_loop_exit ?_|refine n_run ttok rfl rfl ?_|fail))
  refine n_callA [] [(bm, mapB .string (nameM fs))] (newLk (f.Lookups.map cLookup).length (by simpa using by omega)) rfl rfl (List.Perm.refl _) rfl fun c L1 ⟨p, b, hc, hL1⟩ => ?_
  subst hc; subst hL1
  rw [List.length_map]
  refine atl_turn (turn_perm List.perm_append_comm) ?_
  (repeat' (first|refine at_seq ?_|refine at_region ?_|refine at_block ?_|refine ax_then ?_|refine atl_nil ?_|refine n_run ttok rfl rfl ?_|(apply s_store; first|refine n_storeF 8 ttok 0 rfl rfl rfl rfl rfl rfl rfl rfl ?_|refine n_storeF 8 ttok 1 rfl rfl rfl rfl rfl rfl rfl rfl ?_|refine n_storeF 8 ttok 2 rfl rfl rfl rfl rfl rfl rfl rfl ?_|refine n_storeF 10 ttok 0 rfl rfl rfl rfl rfl rfl rfl rfl ?_|refine n_storeF 10 ttok 1 rfl rfl rfl rfl rfl rfl rfl rfl ?_|refine n_storeF 10 ttok 2 rfl rfl rfl rfl rfl rfl rfl rfl ?_|refine n_storeF 13 ttok 0 rfl rfl rfl rfl rfl rfl rfl rfl ?_|refine n_storeF 13 ttok 1 rfl rfl rfl rfl rfl rfl rfl rfl ?_|refine n_storeF 13 ttok 2 rfl rfl rfl rfl rfl rfl rfl rfl ?_|refine n_storeF 15 ttok 0 rfl rfl rfl rfl rfl rfl rfl rfl ?_|refine n_storeF 15 ttok 1 rfl rfl rfl rfl rfl rfl rfl rfl ?_|refine n_storeF 15 ttok 2 rfl rfl rfl rfl rfl rfl rfl rfl ?_|refine n_store ttok 0 rfl rfl rfl rfl rfl rfl rfl ?_|refine n_store ttok 1 rfl rfl rfl rfl rfl rfl rfl ?_|refine n_store ttok 2 rfl rfl rfl rfl rfl rfl rfl ?_|refine n_store ttok 3 rfl rfl rfl rfl rfl rfl rfl ?_|fail)|refine n_alloc ttok fun _=>?_|fail))
  refine at_loopK [2, 5, 8, 31, 32] (α := Nat × Option (Nat × Nat)) (fun x => [(33, I64 x.1)]) (fun x => x.1 ≤ f.Features.length) (fun x => [(bm, mapB .string (nameM fs))] ++ setLk p b f.Lookups.length x.2 (addN f.Lookups.length [] (askN fs (f.Features.take x.1)))) (fun x => f.Features.length - x.1) (0, none) rfl ⟨rfl, trivial⟩ (Nat.zero_le _) (fun _ _ h => h) ?_
  rintro ⟨i, k⟩ hi
  dsimp only at hi ⊢
  have hok := (SetOk.nil (n := f.Lookups.length)).add (askN fs (f.Features.take i))
  try dsimp only [List.cons_append, List.nil_append, List.map_cons, List.map_nil]
  (repeat' (first|refine at_seq ?_|refine at_region ?_|refine ax_then ?_|refine atl_nil ?_|refine n_run ttok rfl rfl ?_|fail))
  refine at_cond rfl (fun h => ?_) (fun h => ?_)
  · have hil : i < f.Features.length := by have := of_decide_eq_true h; simp at this; omega
    obtain ⟨t, ht⟩ : ∃ z, f.Features[i]? = some z := ⟨_, List.getElem?_eq_getElem hil⟩
    have htg := map_get (c := cFeature) ht
    have had := askN_add fs f.Features i ht
    (repeat' (first|refine at_seq ?_|refine at_region ?_|refine at_block ?_|refine at_skip ?_|refine ax_then ?_|refine atl_nil ?_|refine n_run ttok rfl rfl ?_|(apply s_index; first|refine n_index ttok ?_|refine n_indexP ttok ?_)|(apply s_store; first|refine n_storeF 8 ttok 0 rfl rfl rfl rfl rfl rfl rfl rfl ?_|refine n_storeF 8 ttok 1 rfl rfl rfl rfl rfl rfl rfl rfl ?_|refine n_storeF 8 ttok 2 rfl rfl rfl rfl rfl rfl rfl rfl ?_|refine n_storeF 10 ttok 0 rfl rfl rfl rfl rfl rfl rfl rfl ?_|refine n_storeF 10 ttok 1 rfl rfl rfl rfl rfl rfl rfl rfl ?_|refine n_storeF 10 ttok 2 rfl rfl rfl rfl rfl rfl rfl rfl ?_|refine n_storeF 13 ttok 0 rfl rfl rfl rfl rfl rfl rfl rfl ?_|refine n_storeF 13 ttok 1 rfl rfl rfl rfl rfl rfl rfl rfl ?_|refine n_storeF 13 ttok 2 rfl rfl rfl rfl rfl rfl rfl rfl ?_|refine n_storeF 15 ttok 0 rfl rfl rfl rfl rfl rfl rfl rfl ?_|refine n_storeF 15 ttok 1 rfl rfl rfl rfl rfl rfl rfl rfl ?_|refine n_storeF 15 ttok 2 rfl rfl rfl rfl rfl rfl rfl rfl ?_|refine n_store ttok 0 rfl rfl rfl rfl rfl rfl rfl ?_|refine n_store ttok 1 rfl rfl rfl rfl rfl rfl rfl ?_|refine n_store ttok 2 rfl rfl rfl rfl rfl rfl rfl ?_|refine n_store ttok 3 rfl rfl rfl rfl rfl rfl rfl ?_|fail)|refine n_alloc ttok fun _=>?_|fail))
    refine n_lookup 0 (.bool false) Tryz.underlying78 Tryz.underlying9 rfl rfl trivial rfl (by kernel_rfl) rfl ?_
    have hM : ((nameM fs (.string t.Name)).getD (.sc (.bool false))) = Bol (hasS fs t.Name) := by
      unfold nameM
      simp only
      cases hasS fs t.Name <;> rfl
    rw [hM]
    (repeat' (first|refine ax_then ?_|refine atl_nil ?_|fail))
    refine at_cond rfl (fun h2 => ?_) (fun h2 => ?_)
    · rw [if_pos h2] at had
      (repeat' (first|refine at_region ?_|refine n_run ttok rfl rfl ?_|fail))
      refine n_callA (setLk p b f.Lookups.length k (addN f.Lookups.length [] (askN fs (f.Features.take i)))) [(bm, mapB .string (nameM fs))] (addLk p b f.Lookups.length k _ t.Lookups (by omega) hok) rfl rfl (List.perm_append_comm (l₁ := [(bm, mapB .string (nameM fs))])) rfl fun c L1 ⟨k', hL1⟩ => ?_
      subst hL1
      rw [addN_app, ← had]
      refine atl_turn (turn_perm List.perm_append_comm) ?_
      (repeat' (first|refine at_region ?_|refine ax_then ?_|refine ax_blk ?_|refine atl_nil ?_|refine n_run ttok rfl rfl ?_|(apply s_bin; refine n_bin ?_)|fail))
      exact ax_roundK (i + 1, k') rfl ⟨by rw [Int.natCast_add]; rfl, trivial⟩ (by dsimp only; omega) (by dsimp only; omega) (fun _ _ h => h)
    · rw [h2] at had
      simp only [Bool.false_eq_true, if_false, List.append_nil] at had
      (repeat' (first|refine at_region ?_|refine at_skip ?_|refine ax_then ?_|refine ax_blk ?_|refine atl_nil ?_|refine n_run ttok rfl rfl ?_|(apply s_bin; refine n_bin ?_)|fail))
      exact ax_roundK (i + 1, k) rfl ⟨by rw [Int.natCast_add]; rfl, trivial⟩ (by dsimp only; omega) (by dsimp only; omega) (fun _ _ h => by dsimp only; rw [had]; exact h)
  have hil : i = f.Features.length := by have := of_decide_eq_false h; simp at this; omega
  subst hil
  rw [List.take_length]
  rw [List.take_length] at hok
  clear h
  (repeat' (first|refine at_seq ?_|refine at_region ?_|refine at_block ?_|refine at_exit ?_|refine ax_then ?_|refine ax_then_exit ?_|refine ax_blk_exit ?_|refine ax_loop_exit ?_|refine atl_nil ?_|refine n_run ttok rfl rfl ?_|(apply s_call;refine n_call ?_)|fail))
  refine at_weak (fr' := [(47, .fn 51 [.iptr [Ptr p]]), (2, .iptr (cFont f)), (8, .iptr [Ptr p])]) (L' := setLk p b f.Lookups.length k (addN f.Lookups.length [] (askN fs f.Features))) ⟨rfl, rfl, rfl, trivial⟩ (fun _ _ h => h.sublist (List.sublist_cons_self ..)) ?_
  refine at_range (ps := [48]) rfl fun σ0 l db rec hrec => ?_
  have hy : ∀ (i : Nat) (x : List Int × Option (Nat × Nat)) (z : Int), (i ≤ x.1.length ∧ SetOk f.Lookups.length x.1 ∧ LkWay f fs x.1 i) → x.1[i]? = some z → AY Tryz.prog σ0 l [I64 z] (setLk p b f.Lookups.length x.2 x.1 ++ ([(db, dfO)] ++ [(l, lpO rec)])) fun c L => c = Bol true ∧ ∃ x' : List Int × Option (Nat × Nat), (i + 1 ≤ x'.1.length ∧ SetOk f.Lookups.length x'.1 ∧ LkWay f fs x'.1 (i + 1)) ∧ L = setLk p b f.Lookups.length x'.2 x'.1 ++ ([(db, dfO)] ++ [(l, lpO rec)]) := by
    rintro i ⟨l1, k1⟩ z ⟨hi1, hok1, hw1⟩ hz
    dsimp only at hi1 hok1 hw1 hz ⊢
    rw [← List.append_assoc]
    refine ay_of hrec rfl rfl fun B1 hB1 => ?_
    (repeat' (first|refine at_region ?_|refine atl_nil ?_|refine n_run ttok rfl rfl ?_|fail))
    refine ax_begin hrec.state ?_
    have hil := (List.getElem?_eq_some_iff.1 hz).1
    have hzr := (hw1.reach z (List.mem_of_getElem? hz)).in
    obtain ⟨x, hx⟩ : ∃ x, f.Lookups[z.toNat]? = some x := ⟨_, List.getElem?_eq_getElem (by omega)⟩
    have hxg := map_get (c := cLookup) hx
    (repeat' (first|refine at_seq ?_|refine at_region ?_|refine at_block ?_|refine ax_then ?_|refine atl_nil ?_|refine n_run ttok rfl rfl ?_|(apply s_index; first|refine n_index ttok ?_|refine n_indexP ttok ?_)|fail))
    have hrr := rec_back hrec.state hrec.pending
    refine at_cond rfl (fun h => ?_) (fun h => ?_)
    · have hK := of_decide_eq_true h
      (repeat' (first|refine at_exit ?_|refine ax_then_exit ?_|refine ax_blk_exit ?_|fail))
      refine ax_rnd ?_
      rw [hrr]
      exact ⟨rfl, (l1, k1), ⟨hil, hok1, hw1.next hz hx fun e => absurd e hK⟩, List.append_assoc ..⟩
    have hK : x.Kind = 4 := Decidable.not_not.1 (of_decide_eq_false h)
    clear h
    have hRl := hs.rulesL (List.mem_of_getElem? hx)
    (repeat' (first|refine at_seq ?_|refine at_region ?_|refine at_block ?_|refine at_skip ?_|refine ax_then ?_|refine atl_nil ?_|refine n_run ttok rfl rfl ?_|(apply s_index; first|refine n_index ttok ?_|refine n_indexP ttok ?_)|fail))
    refine at_loopK [2, 8, 48, 61, 62] (α := List Int × Nat × Option (Nat × Nat)) (fun y => [(63, I64 y.2.1)]) (fun y => y.2.1 ≤ x.Rules.length ∧ i < y.1.length ∧ y.1[i]? = some z ∧ SetOk f.Lookups.length y.1 ∧ LkWay f fs y.1 i ∧ RulesIn f y.1 (x.Rules.take y.2.1)) (fun y => setLk p b f.Lookups.length y.2.2 y.1 ++ [(db, dfO)] ++ [(l, lpO { rec with state := .busy })]) (fun y => x.Rules.length - y.2.1) (l1, 0, k1) rfl ⟨rfl, trivial⟩ ⟨Nat.zero_le _, hil, hz, hok1, hw1, fun r hr => by cases hr⟩ (fun _ _ h => h) ?_
    clear hil hz hok1 hw1 hi1
    rintro ⟨l1, j, k1⟩ ⟨hj, hil, hz, hok1, hw1, hR⟩
    dsimp only at hj hil hz hok1 hw1 hR ⊢
    try dsimp only [List.cons_append, List.nil_append, List.map_cons, List.map_nil]
    (repeat' (first|refine at_seq ?_|refine at_region ?_|refine ax_then ?_|refine atl_nil ?_|refine n_run ttok rfl rfl ?_|fail))
    refine at_cond rfl (fun h => ?_) (fun h => ?_)
    · have hjl : j < x.Rules.length := by have := of_decide_eq_true h; simp at this; omega
      obtain ⟨r, hr⟩ : ∃ r, x.Rules[j]? = some r := ⟨_, List.getElem?_eq_getElem hjl⟩
      have hrg := map_get (c := cRule) hr
      have hCl := hs.calls (List.mem_of_getElem? hx) (List.mem_of_getElem? hr)
      clear h
      (repeat' (first|refine at_seq ?_|refine at_region ?_|refine at_block ?_|refine at_skip ?_|refine ax_then ?_|refine atl_nil ?_|refine n_run ttok rfl rfl ?_|(apply s_index; first|refine n_index ttok ?_|refine n_indexP ttok ?_)|(apply s_store; first|refine n_storeF 8 ttok 0 rfl rfl rfl rfl rfl rfl rfl rfl ?_|refine n_storeF 8 ttok 1 rfl rfl rfl rfl rfl rfl rfl rfl ?_|refine n_storeF 8 ttok 2 rfl rfl rfl rfl rfl rfl rfl rfl ?_|refine n_storeF 10 ttok 0 rfl rfl rfl rfl rfl rfl rfl rfl ?_|refine n_storeF 10 ttok 1 rfl rfl rfl rfl rfl rfl rfl rfl ?_|refine n_storeF 10 ttok 2 rfl rfl rfl rfl rfl rfl rfl rfl ?_|refine n_storeF 13 ttok 0 rfl rfl rfl rfl rfl rfl rfl rfl ?_|refine n_storeF 13 ttok 1 rfl rfl rfl rfl rfl rfl rfl rfl ?_|refine n_storeF 13 ttok 2 rfl rfl rfl rfl rfl rfl rfl rfl ?_|refine n_storeF 15 ttok 0 rfl rfl rfl rfl rfl rfl rfl rfl ?_|refine n_storeF 15 ttok 1 rfl rfl rfl rfl rfl rfl rfl rfl ?_|refine n_storeF 15 ttok 2 rfl rfl rfl rfl rfl rfl rfl rfl ?_|refine n_store ttok 0 rfl rfl rfl rfl rfl rfl rfl ?_|refine n_store ttok 1 rfl rfl rfl rfl rfl rfl rfl ?_|refine n_store ttok 2 rfl rfl rfl rfl rfl rfl rfl ?_|refine n_store ttok 3 rfl rfl rfl rfl rfl rfl rfl ?_|fail)|refine n_alloc ttok fun _=>?_|fail))
      refine at_loopK [2, 8, 48, 61, 62, 63, 68, 69] (α := List Int × Nat × Option (Nat × Nat)) (fun y => [(70, I64 y.2.1)]) (fun y => y.2.1 ≤ r.Calls.length ∧ i < y.1.length ∧ y.1[i]? = some z ∧ SetOk f.Lookups.length y.1 ∧ LkWay f fs y.1 i ∧ RulesIn f y.1 (x.Rules.take j) ∧ CallsIn f y.1 (r.Calls.take y.2.1)) (fun y => setLk p b f.Lookups.length y.2.2 y.1 ++ [(db, dfO)] ++ [(l, lpO { rec with state := .busy })]) (fun y => r.Calls.length - y.2.1) (l1, 0, k1) rfl ⟨rfl, trivial⟩ ⟨Nat.zero_le _, hil, hz, hok1, hw1, hR, fun c hc => by cases hc⟩ (fun _ _ h => h) ?_
      clear hil hz hok1 hw1 hR
      rintro ⟨l1, c, k1⟩ ⟨hc, hil, hz, hok1, hw1, hR, hCs⟩
      dsimp only at hc hil hz hok1 hw1 hR hCs ⊢
      try dsimp only [List.cons_append, List.nil_append, List.map_cons, List.map_nil]
      (repeat' (first|refine at_seq ?_|refine at_region ?_|refine ax_then ?_|refine atl_nil ?_|refine n_run ttok rfl rfl ?_|fail))
      refine at_cond rfl (fun h => ?_) (fun h => ?_)
      · have hcl : c < r.Calls.length := by have := of_decide_eq_true h; simp at this; omega
        obtain ⟨q, hq⟩ : ∃ q, r.Calls[c]? = some q := ⟨_, List.getElem?_eq_getElem hcl⟩
        have hqg := map_get (c := cCall) hq
        clear h
        (repeat' (first|refine at_seq ?_|refine at_region ?_|refine at_block ?_|refine at_skip ?_|refine ax_then ?_|refine atl_nil ?_|refine n_run ttok rfl rfl ?_|(apply s_index; first|refine n_index ttok ?_|refine n_indexP ttok ?_)|(apply s_store; first|refine n_storeF 8 ttok 0 rfl rfl rfl rfl rfl rfl rfl rfl ?_|refine n_storeF 8 ttok 1 rfl rfl rfl rfl rfl rfl rfl rfl ?_|refine n_storeF 8 ttok 2 rfl rfl rfl rfl rfl rfl rfl rfl ?_|refine n_storeF 10 ttok 0 rfl rfl rfl rfl rfl rfl rfl rfl ?_|refine n_storeF 10 ttok 1 rfl rfl rfl rfl rfl rfl rfl rfl ?_|refine n_storeF 10 ttok 2 rfl rfl rfl rfl rfl rfl rfl rfl ?_|refine n_storeF 13 ttok 0 rfl rfl rfl rfl rfl rfl rfl rfl ?_|refine n_storeF 13 ttok 1 rfl rfl rfl rfl rfl rfl rfl rfl ?_|refine n_storeF 13 ttok 2 rfl rfl rfl rfl rfl rfl rfl rfl ?_|refine n_storeF 15 ttok 0 rfl rfl rfl rfl rfl rfl rfl rfl ?_|refine n_storeF 15 ttok 1 rfl rfl rfl rfl rfl rfl rfl rfl ?_|refine n_storeF 15 ttok 2 rfl rfl rfl rfl rfl rfl rfl rfl ?_|refine n_store ttok 0 rfl rfl rfl rfl rfl rfl rfl ?_|refine n_store ttok 1 rfl rfl rfl rfl rfl rfl rfl ?_|refine n_store ttok 2 rfl rfl rfl rfl rfl rfl rfl ?_|refine n_store ttok 3 rfl rfl rfl rfl rfl rfl rfl ?_|fail)|refine n_alloc ttok fun _=>?_|(apply s_call;refine n_call ?_)|fail))
        refine at_cond rfl (fun h => ?_) (fun h => ?_)
        · (repeat' (first|refine at_region ?_|refine n_run ttok rfl rfl ?_|refine n_litI ttok ?_|fail))
          refine n_callA (setLk p b f.Lookups.length k1 l1) ([(db, dfO)] ++ [(l, lpO { rec with state := .busy })]) (addLk p b f.Lookups.length k1 l1 [q.Lookup] (by omega) hok1) rfl rfl (by rw [← List.append_assoc]; exact List.Perm.refl _) rfl fun c' L1 ⟨k', hL1⟩ => ?_
          subst hL1
          rw [← List.append_assoc]
          (repeat' (first|refine at_region ?_|refine ax_then ?_|refine ax_blk ?_|refine atl_nil ?_|refine n_run ttok rfl rfl ?_|(apply s_bin; refine n_bin ?_)|fail))
          have hsub : ∀ z ∈ l1, z ∈ addOne f.Lookups.length l1 q.Lookup := fun z hz => addOne_mem.2 (Or.inl hz)
          have hge := addOne_get (m := f.Lookups.length) (n := q.Lookup) hz
          refine ax_roundK (addOne f.Lookups.length l1 q.Lookup, c + 1, k') rfl ⟨by rw [Int.natCast_add]; rfl, trivial⟩ ⟨by dsimp only; omega, (List.getElem?_eq_some_iff.1 hge).1, hge, hok1.one _, hw1.addOne (.call (hw1.reach z (List.mem_of_getElem? hz)) hx hK (List.mem_of_getElem? hr) (List.mem_of_getElem? hq) h) (by omega), hR.mono hsub, ?_⟩ (by dsimp only; omega) (fun _ _ h => h)
          intro y hy hyn
          dsimp only at hy ⊢
          rw [List.take_add_one, hq] at hy
          rcases List.mem_append.1 hy with hy | hy
          · exact hsub _ (hCs y hy hyn)
          · simp at hy
            subst hy
            have := callN_in hyn
            exact addOne_mem.2 (Or.inr ⟨rfl, this.1, this.2⟩)
        · (repeat' (first|refine at_region ?_|refine at_skip ?_|refine ax_then ?_|refine ax_blk ?_|refine atl_nil ?_|refine n_run ttok rfl rfl ?_|(apply s_bin; refine n_bin ?_)|fail))
          refine ax_roundK (l1, c + 1, k1) rfl ⟨by rw [Int.natCast_add]; rfl, trivial⟩ ⟨by dsimp only; omega, hil, hz, hok1, hw1, hR, ?_⟩ (by dsimp only; omega) (fun _ _ h => h)
          intro y hy hyn
          dsimp only at hy ⊢
          rw [List.take_add_one, hq] at hy
          rcases List.mem_append.1 hy with hy | hy
          · exact hCs y hy hyn
          · simp at hy; subst hy; rw [h] at hyn; cases hyn
      · have hcl : c = r.Calls.length := by have := of_decide_eq_false h; simp at this; omega
        subst hcl
        rw [List.take_length] at hCs
        (repeat' (first|refine at_region ?_|refine at_exit ?_|refine ax_then ?_|refine ax_then_exit ?_|refine ax_blk ?_|refine ax_blk_exit ?_|refine ax_loop_exit ?_|refine atl_nil ?_|refine n_run ttok rfl rfl ?_|(apply s_bin; refine n_bin ?_)|fail))
        refine ax_roundK (l1, j + 1, k1) rfl ⟨by rw [Int.natCast_add]; rfl, trivial⟩ ⟨by dsimp only; omega, hil, hz, hok1, hw1, fun y hy => ?_⟩ (by dsimp only; omega) (fun _ _ h => h)
        dsimp only at hy ⊢
        rw [List.take_add_one, hr] at hy
        rcases List.mem_append.1 hy with hy | hy
        · exact hR y hy
        · simp at hy; subst hy; exact hCs
    · have hjl : j = x.Rules.length := by have := of_decide_eq_false h; simp at this; omega
      subst hjl
      rw [List.take_length] at hR
      (repeat' (first|refine at_exit ?_|refine ax_then_exit ?_|refine ax_blk ?_|refine ax_blk_exit ?_|refine ax_loop_exit ?_|fail))
      refine ax_rnd ?_
      rw [hrr]
      exact ⟨rfl, (l1, k1), ⟨hil, hok1, hw1.next hz hx fun _ => hR⟩, List.append_assoc ..⟩
  have hp := pendLk (n := f.Lookups.length) (α := List Int × Option (Nat × Nat)) (·.1) (·.2) (fun _ => [(db, dfO)] ++ [(l, lpO rec)]) (fun i x => i ≤ x.1.length ∧ SetOk f.Lookups.length x.1 ∧ LkWay f fs x.1 i) (by omega) (fun i x hj => ⟨hj.1, hj.2.1.len⟩) hy (_, k) ⟨Nat.zero_le _, hok, LkWay.start2⟩
  dsimp only at hp
  rw [← List.append_assoc] at hp
  refine ⟨_, hp, ?_⟩
  · rintro c L' ⟨⟨l1, k1⟩, ⟨_, hok1, hw1⟩, hL'⟩
    dsimp only at hok1 hw1 hL'
    refine ⟨rec, setLk p b f.Lookups.length k1 l1 ++ [(db, dfO)], by rw [hL', List.append_assoc], (by rw [hrec.state]; intro e; cases e), ?_⟩
    rw [hrec.pending]
    show AX _ _ _ _ _ _ _ _
    (repeat' (first|refine at_seq ?_|refine at_region ?_|refine ax_then ?_|refine ax_blk ?_|refine n_run ttok rfl rfl ?_|fail))
    refine n_callA (setLk p b f.Lookups.length k1 l1) [(db, dfO)] (risingLk p b f.Lookups.length k1 l1 (by have := hok1.len; omega)) rfl rfl (List.Perm.refl _) rfl fun c L1 ⟨hc, hL1⟩ => ?_
    subst hc; subst hL1
    rw [sorted_set hok1, hw1.end]
    (repeat' (first|refine at_ret ?_|refine ax_then ?_|refine atl_nil ?_|refine n_run ttok rfl rfl ?_|fail))
    exact ax_retM [db] (setLk p b f.Lookups.length k1 l1) rfl (List.Perm.refl _) (cs := [.imm 1 (ints (reachN f fs))]) (show alook _ 4 = some _ ∧ True from ⟨rfl, trivial⟩) rfl
end Go.Proofs.YtpbinloeemebkaaGreat

namespace Go.Proofs.YtpbinloeemebkaaGreat
open Go.RowKit
attribute [local irreducible] AT ATL AX AO Av Kt ALoopK OkA DA DA1
def inB (n : Nat) (l : List Int) (z : Int) : Bool := decide (0 ≤ z ∧ z < n) && l.contains z
theorem hasGl (p b n : Nat) (k : Option (Nat × Nat)) (l : List Int) (z : Int) : AC Tryz.prog 47 [Ptr p, I64 z] (setGl p b n k l) fun c L => c = Bol (inB n l z) ∧ L = setGl p b n k l := by
  refine ac_of Tryz.func47 rfl Tryz.ntmps47 rfl fun B => ?_
  unfold inB
  by_cases h0 : 0 ≤ z
  · by_cases h1 : z < n
    · have hfg := flags_get l n h0 h1
      rw [decide_eq_true (And.intro h0 h1)]
      unfold setGl
      (repeat' (first|refine at_seq ?_|refine at_region ?_|refine ax_then ?_|refine atl_nil ?_|refine n_run ttok rfl rfl ?_|fail))
      rw [decide_eq_true h0]
      (repeat' (first|refine n_run ttok rfl rfl ?_|refine atl_guard_yes rfl rfl ?_|(apply s_load; first|refine n_load ttok 0 rfl rfl rfl rfl rfl ?_|refine n_load ttok 1 rfl rfl rfl rfl rfl ?_|refine n_load ttok 2 rfl rfl rfl rfl rfl ?_|refine n_load ttok 3 rfl rfl rfl rfl rfl ?_|refine n_loadA ttok 0 rfl rfl rfl rfl rfl ?_|refine n_loadA ttok 1 rfl rfl rfl rfl rfl ?_|refine n_loadA ttok 2 rfl rfl rfl rfl rfl ?_|refine n_load ttok 1 rfl rfl rfl (by assumption) rfl ?_|refine n_load ttok 0 rfl rfl rfl (by assumption) rfl ?_|fail)|fail))
      rw [decide_eq_true h1]
      (repeat' (first|refine at_ret ?_|refine ax_then ?_|refine atl_nil ?_|refine n_run ttok rfl rfl ?_|refine atl_guard_yes rfl rfl ?_|(apply s_load; first|refine n_load ttok 0 rfl rfl rfl rfl rfl ?_|refine n_load ttok 1 rfl rfl rfl rfl rfl ?_|refine n_load ttok 2 rfl rfl rfl rfl rfl ?_|refine n_load ttok 3 rfl rfl rfl rfl rfl ?_|refine n_loadA ttok 0 rfl rfl rfl rfl rfl ?_|refine n_loadA ttok 1 rfl rfl rfl rfl rfl ?_|refine n_loadA ttok 2 rfl rfl rfl rfl rfl ?_|refine n_load ttok 1 rfl rfl rfl (by assumption) rfl ?_|refine n_load ttok 0 rfl rfl rfl (by assumption) rfl ?_|fail)|(apply s_index; first|refine n_index ttok ?_|refine n_indexP ttok ?_)|fail))
      exact ax_ret1 rfl rfl ⟨rfl, rfl⟩
    · rw [decide_eq_false (fun h => h1 h.2)]
      unfold setGl
      (repeat' (first|refine at_seq ?_|refine at_region ?_|refine ax_then ?_|refine atl_nil ?_|refine n_run ttok rfl rfl ?_|fail))
      rw [decide_eq_true h0]
      (repeat' (first|refine n_run ttok rfl rfl ?_|refine atl_guard_yes rfl rfl ?_|(apply s_load; first|refine n_load ttok 0 rfl rfl rfl rfl rfl ?_|refine n_load ttok 1 rfl rfl rfl rfl rfl ?_|refine n_load ttok 2 rfl rfl rfl rfl rfl ?_|refine n_load ttok 3 rfl rfl rfl rfl rfl ?_|refine n_loadA ttok 0 rfl rfl rfl rfl rfl ?_|refine n_loadA ttok 1 rfl rfl rfl rfl rfl ?_|refine n_loadA ttok 2 rfl rfl rfl rfl rfl ?_|refine n_load ttok 1 rfl rfl rfl (by assumption) rfl ?_|refine n_load ttok 0 rfl rfl rfl (by assumption) rfl ?_|fail)|fail))
      rw [decide_eq_false h1]
      (repeat' (first|refine at_ret ?_|refine ax_then ?_|refine atl_nil ?_|refine n_run ttok rfl rfl ?_|refine atl_guard_no rfl rfl rfl rfl ?_|fail))
      exact ax_ret1 rfl rfl ⟨rfl, rfl⟩
  · rw [decide_eq_false (fun h => h0 h.1)]
    unfold setGl
    (repeat' (first|refine at_seq ?_|refine at_region ?_|refine ax_then ?_|refine atl_nil ?_|refine n_run ttok rfl rfl ?_|fail))
    rw [decide_eq_false h0]
    (repeat' (first|refine at_ret ?_|refine ax_then ?_|refine atl_nil ?_|refine n_run ttok rfl rfl ?_|refine atl_guard_no rfl rfl rfl rfl ?_|fail))
    exact ax_ret1 rfl rfl ⟨rfl, rfl⟩
theorem indexF {g : FuncId} {caps : List AV} {u : AV} [CFn Tryz.prog g] (hu : fnO u = some (g, caps)) (l : List Int) (p : Int → Bool) (L0 : AL) (hw : ∀ z, AC Tryz.prog g ([I64 z] ++ caps) L0 fun c L' => c = Bol (p z) ∧ L' = L0) : AC Tryz.prog 192 [.imm 1 (ints l), u] L0 fun c L => (∃ z : Int, c = I64 z ∧ (0 ≤ z ↔ l.any p = true)) ∧ L = L0 := by
  refine ac_of Tryz.func192 rfl Tryz.ntmps192 rfl fun B => ?_
  have hll := ints_len l
  refine at_len 0 rfl rfl fun hlen => ?_
  rw [ints_len] at hlen
  (repeat' (first|refine at_seq ?_|refine at_region ?_|refine at_block ?_|refine ax_then ?_|refine atl_nil ?_|refine n_run ttok rfl rfl ?_|fail))
  refine at_loopK [0, 1, 7] (α := Nat) (fun i => [(8, I64 i)]) (fun i => i ≤ l.length ∧ (l.take i).any p = false) (fun _ => L0) (fun i => l.length - i) 0 rfl ⟨rfl, trivial⟩ ⟨Nat.zero_le _, by simp⟩ (fun _ _ h => h) fun i ⟨hi, ha⟩ => ?_
  try dsimp only [List.cons_append, List.nil_append, List.map_cons, List.map_nil]
  (repeat' (first|refine at_seq ?_|refine at_region ?_|refine ax_then ?_|refine atl_nil ?_|refine n_run ttok rfl rfl ?_|fail))
  refine at_cond rfl (fun h => ?_) (fun h => ?_)
  · have hil : i < l.length := by have := of_decide_eq_true h; rw [ints_len] at this; omega
    obtain ⟨z, hz⟩ : ∃ z, l[i]? = some z := ⟨_, List.getElem?_eq_getElem hil⟩
    have hzg := ints_get hz
    (repeat' (first|refine at_seq ?_|refine at_region ?_|refine at_block ?_|refine at_skip ?_|refine ax_then ?_|refine atl_nil ?_|refine n_run ttok rfl rfl ?_|(apply s_index; first|refine n_index ttok ?_|refine n_indexP ttok ?_)|fail))
    refine n_callF L0 [] (hw z) rfl hu rfl (perm_nil rfl) rfl rfl fun c L1 ⟨hc, hL⟩ => ?_
    subst hc; subst hL
    rw [List.append_nil]
    (repeat' (first|refine ax_then ?_|refine atl_nil ?_|fail))
    refine at_cond rfl (fun h2 => ?_) (fun h2 => ?_)
    · (repeat' (first|refine at_seq ?_|refine at_region ?_|refine at_ret ?_|refine ax_then ?_|refine ax_then_ret ?_|refine ax_blk_ret ?_|refine ax_loop_ret ?_|refine atl_nil ?_|refine n_run ttok rfl rfl ?_|fail))
      refine ax_ret1 rfl rfl ⟨⟨i, rfl, ?_⟩, rfl⟩
      exact ⟨fun _ => List.any_eq_true.2 ⟨z, List.mem_of_getElem? hz, h2⟩, fun _ => by omega⟩
    · (repeat' (first|refine at_region ?_|refine at_skip ?_|refine ax_then ?_|refine ax_blk ?_|refine atl_nil ?_|refine n_run ttok rfl rfl ?_|(apply s_bin; refine n_bin ?_)|fail))
      refine ax_roundK (i + 1) rfl ⟨by rw [Int.natCast_add]; rfl, trivial⟩ ⟨by omega, ?_⟩ (by omega) (fun _ _ h => h)
      rw [List.take_add_one, hz, List.any_append, ha]
      simpa using h2
  · have hil : i = l.length := by have := of_decide_eq_false h; rw [ints_len] at this; omega
    subst hil
    rw [List.take_length] at ha
    (repeat' (first|refine at_seq ?_|refine at_region ?_|refine at_ret ?_|refine at_exit ?_|refine ax_then ?_|refine ax_then_exit ?_|refine ax_blk_exit ?_|refine ax_loop_exit ?_|refine atl_nil ?_|refine n_run ttok rfl rfl ?_|fail))
    refine ax_ret1 rfl rfl ⟨⟨-1, rfl, ?_⟩, rfl⟩
    rw [ha]
    exact ⟨fun h => absurd h (by decide), fun h => by cases h⟩
theorem containsF {g : FuncId} {caps : List AV} {u : AV} [CFn Tryz.prog g] (hu : fnO u = some (g, caps)) (l : List Int) (p : Int → Bool) (L0 : AL) (hw : ∀ z, AC Tryz.prog g ([I64 z] ++ caps) L0 fun c L' => c = Bol (p z) ∧ L' = L0) : AC Tryz.prog 114 [.imm 1 (ints l), u] L0 fun c L => c = Bol (l.any p) ∧ L = L0 := by
  refine ac_of Tryz.func114 rfl Tryz.ntmps114 rfl fun B => ?_
  (repeat' (first|refine at_seq ?_|refine at_region ?_|refine ax_then ?_|refine atl_nil ?_|refine n_run ttok rfl rfl ?_|fail))
  refine n_callA L0 [] (indexF hu l p L0 hw) rfl (fn_same hu) (perm_nil rfl) rfl fun c L1 ⟨⟨z, hc, hz⟩, hL⟩ => ?_
  subst hc; subst hL
  rw [List.append_nil]
  (repeat' (first|refine at_ret ?_|refine ax_then ?_|refine atl_nil ?_|refine n_run ttok rfl rfl ?_|fail))
  refine ax_ret1 rfl rfl ⟨?_, rfl⟩
  refine congrArg (fun b => Bol b) ?_
  rw [Bool.eq_iff_iff, decide_eq_true_eq]
  exact hz
end Go.Proofs.YtpbinloeemebkaaGreat
