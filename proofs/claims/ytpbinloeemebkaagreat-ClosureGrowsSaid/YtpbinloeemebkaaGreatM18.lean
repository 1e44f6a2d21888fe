/-
  The program: sets that grow (of lookups).
-/
import Derived.Test.YtpbinloeemebkaaGreatM09
import Derived.Test.YtpbinloeemebkaaGreatM17
import Derived.Test.YtpbinloeemebkaaGreatM16
namespace Go.Proofs.YtpbinloeemebkaaGreat
open Go.RowKit
attribute [local irreducible] AT ATL AX AO Av Kt ALoopK OkA DA DA1
/-- which numbers are in -/
def flags (l : List Int) (n : Nat) : List AV := (List.range n).map fun (i : Nat) => Bol (l.contains (i : Int))
theorem flags_len (l : List Int) (n : Nat) : (flags l n).length = n := by simp [flags]
theorem flags_get (l : List Int) (n : Nat) {z : Int} (h0 : 0 ≤ z) (h1 : z < n) : (flags l n)[0 + z.toNat * 1]? = some (Bol (l.contains z)) := by
  rw [Nat.zero_add, Nat.mul_one]
  unfold flags
  rw [List.getElem?_map, List.getElem?_range (by omega)]
  simp only [Option.map_some]
  rw [show ((z.toNat : Nat) : Int) = z by omega]
theorem flags_set (l : List Int) (n : Nat) {z : Int} (h0 : 0 ≤ z) (h1 : z < n) : (flags l n).set (0 + z.toNat * 1) (Bol true) = flags (l ++ [z]) n := by
  rw [Nat.zero_add, Nat.mul_one]
  apply List.ext_getElem?
  intro i
  rw [List.getElem?_set, flags_len]
  unfold flags
  by_cases hi : z.toNat = i
  · subst hi
    rw [if_pos rfl, if_pos (by omega), List.getElem?_map, List.getElem?_range (by omega)]
    simp
    omega
  · rw [if_neg hi, List.getElem?_map, List.getElem?_map]
    by_cases hn : i < n
    · rw [List.getElem?_range hn]
      simp only [Option.map_some, Option.some.injEq]
      refine congrArg Bol ?_
      rw [Bool.eq_iff_iff, List.contains_iff_mem, List.contains_iff_mem, List.mem_append, List.mem_singleton]
      constructor
      · exact Or.inl
      · rintro (h | h)
        · exact h
        · omega
    · rw [List.getElem?_eq_none (by simp; omega)]
      rfl
theorem flags_nil (n : Nat) : (List.replicate n [Bol false]).flatten = flags [] n := by
  have : ∀ m, (List.replicate m [Bol false]).flatten = List.replicate m (Bol false) := by
    intro m
    induction m with
    | zero => rfl
    | succ m ih => rw [List.replicate_succ, List.flatten_cons, ih, List.replicate_succ]; rfl
  rw [this]
  unfold flags
  apply List.ext_getElem?
  intro i
  rw [List.getElem?_replicate, List.getElem?_map]
  by_cases h : i < n
  · rw [if_pos h, List.getElem?_range h]; rfl
  · rw [if_neg h, List.getElem?_eq_none (by simp; omega)]; rfl
/-- numbers that come to a set -/
def addOne (n : Nat) (l : List Int) (z : Int) : List Int := if 0 ≤ z ∧ z < n ∧ z ∉ l then l ++ [z] else l
def addN (n : Nat) (l ns : List Int) : List Int := ns.foldl (addOne n) l
theorem addN_take {n : Nat} {l ns : List Int} {i : Nat} {z : Int} (h : ns[i]? = some z) : addN n l (ns.take (i + 1)) = addOne n (addN n l (ns.take i)) z := by
  unfold addN
  rw [List.take_add_one, h, List.foldl_append]
  rfl
structure SetOk (n : Nat) (l : List Int) : Prop where
  nodup : l.Nodup
  dom : ∀ z ∈ l, 0 ≤ z ∧ z < n
theorem SetOk.len {n : Nat} {l : List Int} (h : SetOk n l) : l.length ≤ n := nodup_le h.nodup h.dom
theorem SetOk.nil {n : Nat} : SetOk n [] := ⟨by simp, by simp⟩
theorem SetOk.one {n : Nat} {l : List Int} (h : SetOk n l) (z : Int) : SetOk n (addOne n l z) := by
  unfold addOne
  split
  · rename_i hz
    refine ⟨?_, fun y hy => ?_⟩
    · rw [List.nodup_append]
      refine ⟨h.nodup, by simp, fun a ha b hb => ?_⟩
      rw [List.mem_singleton.1 hb]
      exact fun e => hz.2.2 (e ▸ ha)
    · rcases List.mem_append.1 hy with hy | hy
      · exact h.dom y hy
      · rw [List.mem_singleton.1 hy]; exact ⟨hz.1, hz.2.1⟩
  · exact h
theorem SetOk.add {n : Nat} {l : List Int} (h : SetOk n l) (ns : List Int) : SetOk n (addN n l ns) := by
  unfold addN
  induction ns generalizing l with
  | nil => exact h
  | cons z ns ih => exact ih (h.one z)
/-- the memory of a set -/
def setLk (p b n : Nat) (k : Option (Nat × Nat)) (l : List Int) : AL := (p, .box [.sc (.slice (some ⟨b, 0, none⟩) n n), .vec k 1 (ints l)] 123) :: (b, .box (flags l n) 4) :: tok k 81 1 (ints l).length
abbrev Ptr (p : Nat) : AV := .sc (.pointer (some ⟨p, 0, none⟩))
theorem newLk (n : Nat) (hn : n ≤ 1000000) : AC Tryz.prog 26 [I64 n] [] fun c L => ∃ p b, c = Ptr p ∧ L = setLk p b n none [] := by
  refine ac_of Tryz.func26 rfl Tryz.ntmps26 rfl fun B => ?_
  (repeat' (first|refine at_seq ?_|refine at_region ?_|refine ax_then ?_|refine atl_nil ?_|refine n_run ttok rfl rfl ?_|fail))
  refine n_make ttok n rfl rfl rfl rfl rfl rfl rfl (by omega) (by omega) rfl fun b => ?_
  rw [show (List.replicate n (List.map AV.sc [Value.bool false])).flatten = flags [] n from flags_nil n]
  (repeat' (first|refine at_ret ?_|refine ax_then ?_|refine atl_nil ?_|refine n_run ttok rfl rfl ?_|refine n_box fun _=>?_|fail))
  refine ax_turn (turn_cells 0 (cs' := [.sc (.slice (some ⟨b, 0, none⟩) n n), .vec none 1 []]) rfl fun σ vs h => ?_) (ax_ret1 rfl rfl ⟨_, b, rfl, rfl⟩)
  obtain ⟨v, ws, rfl, h1, h2⟩ := h.inv
  obtain ⟨v', ws', rfl, h3, h4⟩ := h2.inv
  exact .cons h1 (.cons (vr_nil 1 h3) h4)
theorem addLk (p b n : Nat) (k : Option (Nat × Nat)) (l ns : List Int) (hn : n ≤ 1000000) (hl : SetOk n l) : AC Tryz.prog 27 [Ptr p, .imm 1 (ints ns)] (setLk p b n k l) fun _ L => ∃ k', L = setLk p b n k' (addN n l ns) := by
  refine ac_of Tryz.func27 rfl Tryz.ntmps27 rfl fun B => ?_
  refine at_len 1 rfl rfl fun hlen => ?_
  rw [ints_len] at hlen
  (repeat' (first|refine at_seq ?_|refine at_region ?_|refine at_block ?_|refine ax_then ?_|refine atl_nil ?_|refine n_run ttok rfl rfl ?_|fail))
  refine at_loopK [0, 6, 7] (α := Nat × Option (Nat × Nat)) (fun x => [(8, I64 x.1)]) (fun x => x.1 ≤ ns.length) (fun x => setLk p b n x.2 (addN n l (ns.take x.1))) (fun x => ns.length - x.1) (0, k) rfl ⟨rfl, trivial⟩ (Nat.zero_le _) (fun _ _ h => h) ?_
  rintro ⟨i, k⟩ hi
  dsimp only at hi ⊢
  have hok := hl.add (ns.take i)
  have hok1 := hok.len
  try dsimp only [List.cons_append, List.nil_append, List.map_cons, List.map_nil]
  (repeat' (first|refine at_seq ?_|refine at_region ?_|refine ax_then ?_|refine atl_nil ?_|refine n_run ttok rfl rfl ?_|fail))
  refine at_cond rfl (fun h => ?_) (fun h => ?_)
  · have hil : i < ns.length := by have := of_decide_eq_true h; simp [ints_len] at this; omega
    obtain ⟨z, hz⟩ : ∃ z, ns[i]? = some z := ⟨_, List.getElem?_eq_getElem hil⟩
    have hzg := ints_get hz
    have had := addN_take (n := n) (l := l) hz
    generalize addN n l (ns.take i) = l1 at *
    (repeat' (first|refine at_seq ?_|refine at_region ?_|refine at_block ?_|refine at_skip ?_|refine ax_then ?_|refine atl_nil ?_|refine n_run ttok rfl rfl ?_|(apply s_index; first|refine n_index ttok ?_|refine n_indexP ttok ?_)|fail))
    refine atl_if [0, 5, 6, 7, 8] (0 ≤ z ∧ z < n ∧ z ∉ l1) rfl (fun Q' K => ?_) (fun hC => ?_) (fun hC => ?_)
    · by_cases hin : 0 ≤ z ∧ z < n
      · obtain ⟨hz0, hz1⟩ := hin
        have hfg := flags_get l1 n hz0 hz1
        clear had hok hl
        (repeat' (first|refine atl_nil ?_|refine n_run ttok rfl rfl ?_|refine atl_guard_yes rfl rfl ?_|refine atl_guard_no rfl rfl rfl rfl ?_|(apply s_load; first|refine n_load ttok 0 rfl rfl rfl rfl rfl ?_|refine n_load ttok 1 rfl rfl rfl rfl rfl ?_|refine n_load ttok 2 rfl rfl rfl rfl rfl ?_|refine n_load ttok 3 rfl rfl rfl rfl rfl ?_|refine n_loadA ttok 0 rfl rfl rfl rfl rfl ?_|refine n_loadA ttok 1 rfl rfl rfl rfl rfl ?_|refine n_loadA ttok 2 rfl rfl rfl rfl rfl ?_|refine n_load ttok 1 rfl rfl rfl (by assumption) rfl ?_|refine n_load ttok 0 rfl rfl rfl (by assumption) rfl ?_|fail)|(apply s_index; first|refine n_index ttok ?_|refine n_indexP ttok ?_)|refine atl_guard rfl rfl rfl (fun _ => ?_) (fun _ => ?_)|fail))
        all_goals exact K _ _ rfl rfl (by simp_all)
      · clear had hok hl
        (repeat' (first|refine atl_nil ?_|refine n_run ttok rfl rfl ?_|refine atl_guard_yes rfl rfl ?_|refine atl_guard_no rfl rfl rfl rfl ?_|(apply s_load; first|refine n_load ttok 0 rfl rfl rfl rfl rfl ?_|refine n_load ttok 1 rfl rfl rfl rfl rfl ?_|refine n_load ttok 2 rfl rfl rfl rfl rfl ?_|refine n_load ttok 3 rfl rfl rfl rfl rfl ?_|refine n_loadA ttok 0 rfl rfl rfl rfl rfl ?_|refine n_loadA ttok 1 rfl rfl rfl rfl rfl ?_|refine n_loadA ttok 2 rfl rfl rfl rfl rfl ?_|refine n_load ttok 1 rfl rfl rfl (by assumption) rfl ?_|refine n_load ttok 0 rfl rfl rfl (by assumption) rfl ?_|fail)|refine atl_guard rfl rfl rfl (fun _ => ?_) (fun _ => ?_)|fail))
        all_goals first
          | (refine K _ _ rfl rfl ?_; exact ⟨fun e => (by cases e), fun hh => absurd (And.intro hh.1 hh.2.1) hin⟩)
          | (rename_i e1 e2; exact absurd ⟨of_decide_eq_true e1, of_decide_eq_true e2⟩ hin)
    · obtain ⟨hz0, hz1, hz2⟩ := hC
      have had' : addN n l (ns.take (i + 1)) = l1 ++ [z] := by rw [had]; unfold addOne; rw [if_pos ⟨hz0, hz1, hz2⟩]
      (repeat' (first|refine at_seq ?_|refine at_region ?_|refine n_run ttok rfl rfl ?_|(apply s_load; first|refine n_load ttok 0 rfl rfl rfl rfl rfl ?_|refine n_load ttok 1 rfl rfl rfl rfl rfl ?_|refine n_load ttok 2 rfl rfl rfl rfl rfl ?_|refine n_load ttok 3 rfl rfl rfl rfl rfl ?_|refine n_loadA ttok 0 rfl rfl rfl rfl rfl ?_|refine n_loadA ttok 1 rfl rfl rfl rfl rfl ?_|refine n_loadA ttok 2 rfl rfl rfl rfl rfl ?_|refine n_load ttok 1 rfl rfl rfl (by assumption) rfl ?_|refine n_load ttok 0 rfl rfl rfl (by assumption) rfl ?_|fail)|(apply s_index; first|refine n_index ttok ?_|refine n_indexP ttok ?_)|fail))
      refine n_store ttok 1 rfl rfl rfl rfl rfl rfl (by rw [Nat.ble_eq, flags_len]; show _ + 1 ≤ n; omega) ?_
      rw [putA_one, flags_set l1 n hz0 hz1]
      (repeat' (first|refine at_region ?_|refine ax_then ?_|refine atl_nil ?_|refine n_run ttok rfl rfl ?_|(apply s_load; first|refine n_load ttok 0 rfl rfl rfl rfl rfl ?_|refine n_load ttok 1 rfl rfl rfl rfl rfl ?_|refine n_load ttok 2 rfl rfl rfl rfl rfl ?_|refine n_load ttok 3 rfl rfl rfl rfl rfl ?_|refine n_loadA ttok 0 rfl rfl rfl rfl rfl ?_|refine n_loadA ttok 1 rfl rfl rfl rfl rfl ?_|refine n_loadA ttok 2 rfl rfl rfl rfl rfl ?_|refine n_load ttok 1 rfl rfl rfl (by assumption) rfl ?_|refine n_load ttok 0 rfl rfl rfl (by assumption) rfl ?_|fail)|refine n_litI ttok ?_|fail))
      refine n_append ttok [(p, .box [.sc (.slice (some ⟨b, 0, none⟩) n n), .vec k 1 (ints l1)] 123), (b, .box (flags (l1 ++ [z]) n) 4)] rfl rfl rfl rfl (List.perm_append_comm (l₁ := [(p, AB.box [.sc (.slice (some ⟨b, 0, none⟩) n n), .vec k 1 (ints l1)] 123), (b, AB.box (flags (l1 ++ [z]) n) 4)])) (by rw [ints_len]; simp; omega) (by rw [ints_len]; simp; omega) rfl fun k' => ?_
      refine atl_turn (turn_perm List.perm_append_comm) ?_
      (repeat' (first|refine at_region ?_|refine ax_then ?_|refine ax_blk ?_|refine atl_nil ?_|refine n_run ttok rfl rfl ?_|(apply s_bin; refine n_bin ?_)|(apply s_store; first|refine n_store ttok 0 rfl rfl rfl rfl rfl rfl rfl ?_|refine n_store ttok 1 rfl rfl rfl rfl rfl rfl rfl ?_|refine n_store ttok 2 rfl rfl rfl rfl rfl rfl rfl ?_|refine n_store ttok 3 rfl rfl rfl rfl rfl rfl rfl ?_|fail)|fail))
      rw [show ints l1 ++ [[I64 z]] = ints (l1 ++ [z]) from ints_app l1 [z], ← had']
      refine ax_roundK (i + 1, k') rfl ⟨by rw [Int.natCast_add]; rfl, trivial⟩ (by dsimp only; omega) (by dsimp only; omega) (fun _ _ h => h)
    · have had' : addN n l (ns.take (i + 1)) = l1 := by rw [had]; unfold addOne; rw [if_neg hC]
      (repeat' (first|refine at_region ?_|refine at_skip ?_|refine ax_then ?_|refine ax_blk ?_|refine atl_nil ?_|refine n_run ttok rfl rfl ?_|(apply s_bin; refine n_bin ?_)|fail))
      refine ax_roundK (i + 1, k) rfl ⟨by rw [Int.natCast_add]; rfl, trivial⟩ (by dsimp only; omega) (by dsimp only; omega) (fun _ _ h => by dsimp only; rw [had']; exact h)
  · have hil : i = ns.length := by have := of_decide_eq_false h; simp [ints_len] at this; omega
    subst hil
    rw [List.take_length]
    (repeat' (first|refine at_exit ?_|refine ax_then_exit ?_|refine ax_blk_exit ?_|refine ax_loop_exit ?_|fail))
    exact ax_end0 rfl ⟨k, rfl⟩
end Go.Proofs.YtpbinloeemebkaaGreat

namespace Go.Proofs.YtpbinloeemebkaaGreat
/-- numbers from 0 on -/
def upTo (n : Nat) : List Int := (List.range n).map fun (i : Nat) => (i : Int)
theorem mem_upTo {n : Nat} {z : Int} : z ∈ upTo n ↔ 0 ≤ z ∧ z < n := by
  simp only [upTo, List.mem_map, List.mem_range]
  constructor
  · rintro ⟨i, hi, rfl⟩; omega
  · rintro ⟨h0, h1⟩; exact ⟨z.toNat, by omega, by omega⟩
theorem upTo_nodup (n : Nat) : (upTo n).Nodup := by
  unfold upTo List.Nodup
  rw [List.pairwise_map]
  exact List.nodup_range.imp fun h e => h (by omega)
theorem upTo_len (n : Nat) : (upTo n).length = n := by simp [upTo]
theorem upTo_get {n i : Nat} (h : i < n) : (upTo n)[i]? = some (i : Int) := by simp [upTo, h]
theorem upTo_take {n i : Nat} (h : i ≤ n) : (upTo n).take i = upTo i := by
  unfold upTo
  rw [← List.map_take, List.take_range, Nat.min_eq_left h]
theorem upTo_succ (n : Nat) : upTo (n + 1) = upTo n ++ [(n : Int)] := by
  unfold upTo
  rw [List.range_succ, List.map_append]
  rfl
/-- what has a number as a part, as often as it has -/
def usersOf (pr : Int → List Int) (gs : List Int) (z : Int) : List Int := gs.flatMap fun g => ((pr g).filter fun p => decide (p = z)).map fun _ => g
theorem usersOf_count (pr : Int → List Int) (z g : Int) : ∀ gs : List Int, gs.Nodup → (usersOf pr gs z).count g = if g ∈ gs then (pr g).count z else 0
  | [], _ => by simp [usersOf]
  | y :: gs, h => by
    have h' := List.nodup_cons.1 h
    have ih := usersOf_count pr z g gs h'.2
    unfold usersOf at ih ⊢
    rw [List.flatMap_cons, List.count_append, ih]
    by_cases e : y = g
    · subst e
      rw [if_pos (List.mem_cons_self ..), if_neg h'.1, List.map_const', List.count_replicate_self, Nat.add_zero, List.count_eq_countP, List.countP_eq_length_filter]
      rfl
    · rw [List.map_const', List.count_replicate, if_neg (by simpa using e), Nat.zero_add]
      by_cases hm : g ∈ gs
      · rw [if_pos hm, if_pos (List.mem_cons_of_mem _ hm)]
      · rw [if_neg hm, if_neg (by simp [hm]; exact fun h => e h.symm)]
/-- parts that are not told yet -/
def missN (pr : Int → List Int) (T : List Int) (g : Int) : Nat := ((pr g).filter fun p => decide (p ∉ T)).length
theorem missN_snoc (pr : Int → List Int) {T : List Int} {x : Int} (hx : x ∉ T) (g : Int) : missN pr (T ++ [x]) g + (pr g).count x = missN pr T g := by
  unfold missN
  induction pr g with
  | nil => rfl
  | cons p l ih =>
    rw [List.filter_cons, List.filter_cons, List.count_cons]
    by_cases e : p = x
    · subst e
      rw [if_neg (by simp), if_pos (decide_eq_true hx)]
      rw [if_pos (by simp), List.length_cons]
      omega
    · have e1 : decide (p ∉ T ++ [x]) = decide (p ∉ T) := by simp [e]
      rw [e1]
      have e2 : (p == x) = false := by simpa using e
      rw [e2]
      simp only [Bool.false_eq_true, if_false]
      split
      · simp only [List.length_cons]; omega
      · omega
theorem missN_zero {pr : Int → List Int} {T : List Int} {g : Int} : missN pr T g = 0 ↔ ∀ p ∈ pr g, p ∈ T := by
  unfold missN
  rw [List.length_eq_zero_iff, List.filter_eq_nil_iff]
  simp
/-- each behind its parts -/
def Topo (pr : Int → List Int) (T : List Int) : Prop := ∀ (i : Nat) (x : Int), T[i]? = some x → ∀ p ∈ pr x, p ∈ T.take i
theorem Topo.snoc {pr : Int → List Int} {T : List Int} {x : Int} (h : Topo pr T) (hx : ∀ p ∈ pr x, p ∈ T) : Topo pr (T ++ [x]) := by
  intro i y hy p hp
  by_cases hi : i < T.length
  · rw [List.getElem?_append_left hi] at hy
    rw [List.take_append_of_le_length (by omega)]
    exact h i y hy p hp
  · rw [List.getElem?_append_right (by omega)] at hy
    have hil : i - T.length = 0 := by
      rcases Nat.eq_zero_or_pos (i - T.length) with h0 | h0
      · exact h0
      · rw [List.getElem?_eq_none (by simp; omega)] at hy; cases hy
    rw [hil] at hy
    simp at hy
    subst hy
    rw [show i = T.length by omega, List.take_left]
    exact hx p hp
/-- the line so far: what is told, what is ready, how many parts are missing -/
structure KInv (n : Nat) (pr : Int → List Int) (T R : List Int) (M : Int → Int) : Prop where
  nodup : (T ++ R).Nodup
  dom : ∀ z ∈ T ++ R, 0 ≤ z ∧ z < n
  miss : ∀ g : Int, 0 ≤ g → g < n → M g = missN pr T g
  ready : ∀ g : Int, 0 ≤ g → g < n → (g ∈ T ++ R ↔ M g = 0)
  topo : Topo pr T
/-- on the way through a number's users -/
structure KMid (n : Nat) (pr : Int → List Int) (T : List Int) (x : Int) (us : List Int) (R : List Int) (M : Int → Int) : Prop where
  nodup : (T ++ [x] ++ R).Nodup
  dom : ∀ z ∈ T ++ [x] ++ R, 0 ≤ z ∧ z < n
  miss : ∀ g : Int, 0 ≤ g → g < n → M g + us.count g = missN pr T g
  ready : ∀ g : Int, 0 ≤ g → g < n → (g ∈ T ++ [x] ++ R ↔ M g = 0)
  topo : Topo pr (T ++ [x])
theorem KInv.perm {n : Nat} {pr : Int → List Int} {T R R' : List Int} {M : Int → Int} (h : KInv n pr T R M) (hp : R'.Perm R) : KInv n pr T R' M := by
  have hp' : (T ++ R').Perm (T ++ R) := List.Perm.append_left T hp
  exact ⟨hp'.nodup_iff.2 h.nodup, fun z hz => h.dom z (hp'.mem_iff.1 hz), h.miss, fun g h0 h1 => by rw [hp'.mem_iff]; exact h.ready g h0 h1, h.topo⟩
theorem KMid.perm {n : Nat} {pr : Int → List Int} {T R R' us : List Int} {x : Int} {M : Int → Int} (h : KMid n pr T x us R M) (hp : R'.Perm R) : KMid n pr T x us R' M := by
  have hp' : (T ++ [x] ++ R').Perm (T ++ [x] ++ R) := List.Perm.append_left _ hp
  exact ⟨hp'.nodup_iff.2 h.nodup, fun z hz => h.dom z (hp'.mem_iff.1 hz), h.miss, fun g h0 h1 => by rw [hp'.mem_iff]; exact h.ready g h0 h1, h.topo⟩
theorem KInv.pop {n : Nat} {pr : Int → List Int} {T R : List Int} {x : Int} {M : Int → Int} (h : KInv n pr T (R ++ [x]) M) : KMid n pr T x [] R M := by
  have hp : (T ++ [x] ++ R).Perm (T ++ (R ++ [x])) := by
    rw [List.append_assoc]
    exact List.Perm.append_left T List.perm_append_comm
  have hx := h.dom x (by simp)
  refine ⟨hp.nodup_iff.2 h.nodup, fun z hz => h.dom z (hp.mem_iff.1 hz), fun g h0 h1 => by simpa using h.miss g h0 h1, fun g h0 h1 => by rw [hp.mem_iff]; exact h.ready g h0 h1, h.topo.snoc ?_⟩
  have h1 := (h.ready x hx.1 hx.2).1 (by simp)
  rw [h.miss x hx.1 hx.2] at h1
  exact missN_zero.1 (by omega)
theorem count_take_le {all : List Int} {j : Nat} (g : Int) : (all.take j).count g ≤ all.count g := (List.take_sublist j all).count_le g
theorem count_take_succ {all : List Int} {j : Nat} {u : Int} (h : all[j]? = some u) (g : Int) : (all.take (j + 1)).count g = (all.take j).count g + if u = g then 1 else 0 := by
  rw [List.take_add_one, h, Option.toList_some, List.count_append]
  by_cases e : u = g
  · subst e; simp
  · rw [if_neg e, List.count_singleton, if_neg (by simpa using e)]
/-- one user more -/
theorem KMid.step {n : Nat} {pr : Int → List Int} {T R all : List Int} {x u : Int} {j : Nat} {M : Int → Int} (hall : ∀ g : Int, 0 ≤ g → g < n → all.count g = (pr g).count x) (hx : x ∉ T) (h : KMid n pr T x (all.take j) R M) (hu : all[j]? = some u) (h0 : 0 ≤ u) (h1 : u < n) :
    0 < M u ∧ KMid n pr T x (all.take (j + 1)) (if M u - 1 = 0 then R ++ [u] else R) (fun g => if g = u then M u - 1 else M g) := by
  have hm := h.miss u h0 h1
  have hlt : (all.take (j + 1)).count u ≤ all.count u := (List.take_sublist _ _).count_le u
  have hsn := missN_snoc pr hx u
  rw [count_take_succ hu, if_pos rfl, hall u h0 h1] at hlt
  have hpos : 0 < M u := by omega
  have hnot : u ∉ T ++ [x] ++ R := fun hm' => by have := (h.ready u h0 h1).1 hm'; omega
  refine ⟨hpos, ?_⟩
  have hmiss : ∀ g : Int, 0 ≤ g → g < n → (if g = u then M u - 1 else M g) + ((all.take (j + 1)).count g : Int) = missN pr T g := by
    intro g g0 g1
    rw [count_take_succ hu]
    by_cases e : g = u
    · subst e
      rw [if_pos rfl, if_pos rfl]
      have := h.miss g g0 g1
      omega
    · rw [if_neg e, if_neg (fun q => e q.symm)]
      have := h.miss g g0 g1
      omega
  by_cases hz : M u - 1 = 0
  · rw [if_pos hz]
    refine ⟨?_, fun z hz' => ?_, hmiss, fun g g0 g1 => ?_, h.topo⟩
    · rw [← List.append_assoc, List.nodup_append]
      refine ⟨h.nodup, by simp, fun a ha b hb => ?_⟩
      rw [List.mem_singleton.1 hb]
      exact fun e => hnot (e ▸ ha)
    · rw [← List.append_assoc] at hz'
      rcases List.mem_append.1 hz' with hz' | hz'
      · exact h.dom z hz'
      · rw [List.mem_singleton.1 hz']; exact ⟨h0, h1⟩
    · rw [← List.append_assoc, List.mem_append, List.mem_singleton]
      by_cases e : g = u
      · subst e; simp [hz]
      · rw [if_neg e, h.ready g g0 g1]
        simp [e]
  · rw [if_neg hz]
    refine ⟨h.nodup, h.dom, hmiss, fun g g0 g1 => ?_, h.topo⟩
    by_cases e : g = u
    · subst e
      rw [if_pos rfl]
      exact ⟨fun q => absurd q hnot, fun q => absurd q hz⟩
    · rw [if_neg e]
      exact h.ready g g0 g1
theorem KMid.done {n : Nat} {pr : Int → List Int} {T R all : List Int} {x : Int} {M : Int → Int} (hall : ∀ g : Int, 0 ≤ g → g < n → all.count g = (pr g).count x) (hx : x ∉ T) (h : KMid n pr T x all R M) : KInv n pr (T ++ [x]) R M := by
  refine ⟨h.nodup, h.dom, fun g h0 h1 => ?_, h.ready, h.topo⟩
  have h2 := h.miss g h0 h1
  have h3 := missN_snoc pr hx g
  rw [hall g h0 h1] at h2
  omega
/-- what is told in the end -/
structure KDone (n : Nat) (pr : Int → List Int) (T : List Int) : Prop where
  nodup : T.Nodup
  dom : ∀ z ∈ T, 0 ≤ z ∧ z < n
  topo : Topo pr T
  full : ∀ g : Int, 0 ≤ g → g < n → (∀ p ∈ pr g, p ∈ T) → g ∈ T
theorem KInv.fin {n : Nat} {pr : Int → List Int} {T : List Int} {M : Int → Int} (h : KInv n pr T [] M) : KDone n pr T := by
  have h1 := h.nodup
  have h2 := h.dom
  have h3 := h.ready
  rw [List.append_nil] at h1 h2 h3
  exact ⟨h1, h2, h.topo, fun g h0 h4 hp => (h3 g h0 h4).2 (by rw [h.miss g h0 h4, missN_zero.2 hp]; rfl)⟩
theorem KInv.start {n : Nat} {pr : Int → List Int} {M : Int → Int} (hM : ∀ g : Int, 0 ≤ g → g < n → M g = (pr g).length) : KInv n pr [] ((upTo n).filter fun g => decide (M g = 0)) M := by
  refine ⟨by rw [List.nil_append]; exact (upTo_nodup n).filter _, fun z hz => ?_, fun g h0 h1 => ?_, fun g h0 h1 => ?_, fun i x h => by simp at h⟩
  · rw [List.nil_append, List.mem_filter, mem_upTo] at hz
    exact hz.1
  · rw [hM g h0 h1]
    unfold missN
    rw [List.filter_eq_self.2 (by simp)]
  · rw [List.nil_append, List.mem_filter, mem_upTo, decide_eq_true_eq]
    exact ⟨fun h => h.2, fun h => ⟨⟨h0, h1⟩, h⟩⟩
/-- nothing is part of itself -/
def Acyc (n : Nat) (pr : Int → List Int) : Prop := ∃ r : Int → Nat, ∀ g : Int, 0 ≤ g → g < n → ∀ p ∈ pr g, r p < r g
theorem KDone.all {n : Nat} {pr : Int → List Int} {T : List Int} (h : KDone n pr T) (ha : Acyc n pr) (hp : ∀ g, ∀ p ∈ pr g, 0 ≤ p ∧ p < n) : ∀ g : Int, 0 ≤ g → g < n → g ∈ T := by
  obtain ⟨r, hr⟩ := ha
  have : ∀ (k : Nat) (g : Int), r g < k → 0 ≤ g → g < n → g ∈ T := by
    intro k
    induction k with
    | zero => intro g hk; exact absurd hk (Nat.not_lt_zero _)
    | succ k ih =>
      intro g hk h0 h1
      refine h.full g h0 h1 fun p hpp => ih p ?_ (hp g p hpp).1 (hp g p hpp).2
      have := hr g h0 h1 p hpp
      omega
  intro g h0 h1
  exact this (r g + 1) g (by omega) h0 h1
theorem KDone.len {n : Nat} {pr : Int → List Int} {T : List Int} (h : KDone n pr T) : T.length ≤ n := nodup_le h.nodup h.dom
theorem nodup_sub_le : ∀ (l T : List Int), l.Nodup → (∀ x ∈ l, x ∈ T) → l.length ≤ T.length
  | [], _, _, _ => Nat.zero_le _
  | x :: l, T, h, hs => by
    have h' := List.nodup_cons.1 h
    have hx := hs x (List.mem_cons_self ..)
    have := nodup_sub_le l (T.erase x) h'.2 fun y hy => (List.mem_erase_of_ne (fun e => h'.1 (by rw [← e]; exact hy))).2 (hs y (List.mem_cons_of_mem _ hy))
    rw [List.length_erase_of_mem hx] at this
    have hpos := List.length_pos_of_mem hx
    rw [List.length_cons]
    omega
theorem KDone.len_all {n : Nat} {pr : Int → List Int} {T : List Int} (h : KDone n pr T) (ha : ∀ g : Int, 0 ≤ g → g < n → g ∈ T) : T.length = n := by
  refine Nat.le_antisymm h.len ?_
  have := nodup_sub_le (upTo n) T (upTo_nodup n) fun z hz => by
    rw [mem_upTo] at hz
    exact ha z hz.1 hz.2
  rwa [upTo_len] at this
theorem KDone.all_of_len {n : Nat} {pr : Int → List Int} {T : List Int} (h : KDone n pr T) (hl : T.length = n) : ∀ g : Int, 0 ≤ g → g < n → g ∈ T := by
  intro g h0 h1
  apply Classical.byContradiction
  intro hn
  have := nodup_le (l := g :: T) (n := n) (List.nodup_cons.2 ⟨hn, h.nodup⟩) fun z hz => by
    rcases List.mem_cons.1 hz with rfl | hz
    · exact ⟨h0, h1⟩
    · exact h.dom z hz
  rw [List.length_cons] at this
  omega
theorem KDone.acyc {n : Nat} {pr : Int → List Int} {T : List Int} (h : KDone n pr T) (ha : ∀ g : Int, 0 ≤ g → g < n → g ∈ T) : Acyc n pr := by
  refine ⟨fun g => T.idxOf g, fun g h0 h1 p hp => ?_⟩
  have hg := ha g h0 h1
  have hi := List.idxOf_lt_length_iff.2 hg
  have h2 := h.topo (T.idxOf g) g (by rw [List.getElem?_eq_getElem hi, List.getElem_idxOf]) p hp
  obtain ⟨j, hj⟩ := List.mem_iff_getElem?.1 h2
  rw [List.getElem?_take] at hj
  split at hj
  · rename_i hlt
    dsimp only
    obtain ⟨hjl, hje⟩ := List.getElem?_eq_some_iff.1 hj
    have : T.idxOf p ≤ j := by
      rw [← hje]
      have := h.nodup.idxOf_getElem j hjl
      omega
    omega
  · cases hj
end Go.Proofs.YtpbinloeemebkaaGreat

namespace Go.Proofs.YtpbinloeemebkaaGreat
open Go.RowKit Go.MapKept
section
variable {P : Program} {fr : AFr} {B : Bs} {L : AL}
/-- what is told, told in another way -/
theorem AO.as {o : Oper} {a b : AV} (h : AO P o fr B L (fun c L' => c = a ∧ L' = L)) (hv : ∀ σ v, VR σ a v → VR σ b v) : AO P o fr B L (fun c L' => c = b ∧ L' = L) :=
  fun σ ρ w hρ hw => (h σ ρ w hρ hw).mono fun _ _ ⟨τ, c, L', h1, h2, h3, h4, h5⟩ => ⟨τ, b, L', h1, hv τ _ (by rw [← h4]; exact h2), h3, rfl, h5⟩
end
section
variable {P : Program} {tt : TT} {l : List Oper} {fr : AFr} {fin : AFr → AL → Prop} {sk : AkL} {acc : AFr} {L : AL} {k : Nat} {dd : Option Tmp} {ty t t' : TypeId} {pos : String} {af : Array Edge} {g : Option (Nat × Bool)} {x y z : Operand} {u : AV}
theorem d_lookupA (i : Nat) (v0 : Value) (a : AV) {b kt et : Nat} {kd : TypeDesc} {q : Value} {m : Value → Option AV} (ht : P.underlying t = some (.map kt et)) (hkt : P.underlying kt = some kd) (hx : aev (frkA l.toArray acc fr af.toList) x = some (.sc (.map (some b)))) (hy : aev (frkA l.toArray acc fr af.toList) y = some (.sc q)) (hk : IsKey kd q) (hL : L[i]? = some (b, mapB kd m)) (hz : zeroIs P et v0 = true) (ha : ∀ σ v, VR σ ((m q).getD (.sc v0)) v → VR σ a v) (hg : GOA ⟨dd, .lookup t x y false, ty, pos, af, g⟩ acc) (h : DA P l fr fin sk ((k, a) :: acc) L) :
    DA1 P l fr fin k .e ⟨dd, .lookup t x y false, ty, pos, af, g⟩ sk acc L :=
  da_eff hg (fun B => (ao_lookup i ht hkt hx hy hk hL (zeroIs_spec hz) fun _ => .sc _).as ha) fun c L' ⟨h1, h2⟩ => by subst h1; subst h2; exact h
theorem d_append (ok : TOk P tt) (L0 : AL) {e sz by_ : Nat} {q : Option (Nat × Nat)} {l1 l2 : List (List AV)} (ht : slI tt t = some (e, sz, by_)) (hx : aev (frkA l.toArray acc fr af.toList) x = some (.vec q sz l1)) (hy : aev (frkA l.toArray acc fr af.toList) y = some u) (hu : immO u = some (sz, l2)) (hL : L.Perm (tok q e sz l1.length ++ L0)) (h63 : l1.length + l2.length ≤ 9223372036854775807) (hby : (l1.length + l2.length) * by_ ≤ 140737488355328) (hg : GOA ⟨dd, .call ⟨.builtin .append, #[x, y], #[t, t]⟩, ty, pos, af, g⟩ acc)
    (h : ∀ k', DA P l fr fin sk ((k, .vec k' sz (l1 ++ l2)) :: acc) (tok k' e sz (l1 ++ l2).length ++ L0)) :
    DA1 P l fr fin k .e ⟨dd, .call ⟨.builtin .append, #[x, y], #[t, t]⟩, ty, pos, af, g⟩ sk acc L :=
  da_eff hg (fun _ => ao_append L0 (slI_spec ok ht).1 (slI_spec ok ht).2 hx hy (immO_spec hu) hL h63 hby) fun c L' ⟨k', h1, h2⟩ => by subst h1; subst h2; exact h k'
theorem d_mapUpdate (i : Nat) (m' : Value → Option AV) {b kt et : Nat} {kd : TypeDesc} {q : Value} {m : Value → Option AV} (ht : P.underlying t = some (.map kt et)) (hkt : P.underlying kt = some kd) (hx : aev (frkA l.toArray acc fr af.toList) x = some (.sc (.map (some b)))) (hy : aev (frkA l.toArray acc fr af.toList) y = some (.sc q)) (hk : IsKey kd q) (hz : aev (frkA l.toArray acc fr af.toList) z = some u) (hL : L[i]? = some (b, mapB kd m)) (h1 : m' q = some u) (h2 : ∀ p, p ≠ q → m' p = m p) (hg : GOA ⟨dd, .mapUpdate t x y z, ty, pos, af, g⟩ acc) (h : ∀ c, DA P l fr fin sk ((k, c) :: acc) (aput L i (mapB kd m'))) :
    DA1 P l fr fin k .e ⟨dd, .mapUpdate t x y z, ty, pos, af, g⟩ sk acc L :=
  da_eff hg (fun _ => ao_mapUpdate i ht hkt hx hy hk hz hL h1 h2) fun c L' h3 => by subst h3; exact h c
end
section
variable {P : Program} {r : Option Nat} {ops : Array Oper} {Q : Exit → Act → World → Prop} {nt : Nat} {D : List Deferred} {fr : AFr} {B : Bs} {L : AL} {rest : List Oper} {d : Nat} {ty t : TypeId} {pos : String} {af : Array Edge} {x y z : Operand} {u : AV}
theorem n_lookupA (i : Nat) (v0 : Value) (a : AV) {b kt et : Nat} {kd : TypeDesc} {k : Value} {m : Value → Option AV} (ht : P.underlying t = some (.map kt et)) (hkt : P.underlying kt = some kd) (hx : aev fr x = some (.sc (.map (some b)))) (hy : aev fr y = some (.sc k)) (hk : IsKey kd k) (hL : L[i]? = some (b, mapB kd m)) (hz : zeroIs P et v0 = true) (ha : ∀ σ v, VR σ ((m k).getD (.sc v0)) v → VR σ a v) (hd : Nat.ble nt d = false)
    (h : ATL P r ops Q nt D rest ((d, a) :: fr) B L) : ATL P r ops Q nt D (⟨some d, .lookup t x y false, ty, pos, af, none⟩ :: rest) fr B L :=
  atl_op hd rfl ((ao_lookup i ht hkt hx hy hk hL (zeroIs_spec hz) fun _ => .sc _).as ha) fun c L' ⟨h1, h2⟩ => by subst h1; subst h2; exact h
end
/-- a map with one thing put in -/
noncomputable def mput (m : Value → Option AV) (k : Value) (c : AV) : Value → Option AV := fun q => open Classical in if q = k then some c else m q
theorem mput_self {m : Value → Option AV} {k : Value} {c : AV} : mput m k c k = some c := by simp [mput]
theorem mput_other {m : Value → Option AV} {k : Value} {c : AV} (q : Value) (h : q ≠ k) : mput m k c q = m q := by simp [mput, h]
/-- numbers that are counted -/
def MNum (m : Value → Option AV) (M : Int → Int) : Prop := ∀ z, m (.int .i64 z) = none ∧ M z = 0 ∨ m (.int .i64 z) = some (.sc (.int .i64 (M z)))
theorem MNum.at {m : Value → Option AV} {M : Int → Int} (h : MNum m M) (z : Int) : ∀ (σ : Mem) (v : Value), VR σ ((m (.int .i64 z)).getD (.sc (.int .i64 0))) v → VR σ (.sc (.int .i64 (M z))) v := by
  intro σ v hv
  rcases h z with ⟨h1, h2⟩ | h1
  · rw [h1] at hv; rw [h2]; exact hv
  · rw [h1] at hv; exact hv
theorem MNum.put {m : Value → Option AV} {M : Int → Int} (h : MNum m M) (z c : Int) : MNum (mput m (.int .i64 z) (.sc (.int .i64 c))) fun q => if q = z then c else M q := by
  intro q
  by_cases e : q = z
  · subst e; simp only [if_true, mput_self]; exact .inr trivial
  · simp only [if_neg e]; rw [mput_other _ (by intro h; injection h with _ h; exact e h)]; exact h q
/-- rows that are appended to -/
def MRow (m : Value → Option AV) (K : Int → Option (Nat × Nat)) (U : Int → List Int) : Prop := ∀ z, (m (.int .i64 z) = none ∧ U z = [] ∧ K z = none) ∨ m (.int .i64 z) = some (.vec (K z) 1 (ints (U z)))
theorem MRow.at {m : Value → Option AV} {K : Int → Option (Nat × Nat)} {U : Int → List Int} (h : MRow m K U) (z : Int) : ∀ (σ : Mem) (v : Value), VR σ ((m (.int .i64 z)).getD (.sc (.slice none 0 0))) v → VR σ (.vec (K z) 1 (ints (U z))) v := by
  intro σ v hv
  rcases h z with ⟨h1, h2, h3⟩ | h1
  · rw [h1] at hv; rw [h2, h3]; exact vr_nil 1 hv
  · rw [h1] at hv; exact hv
theorem MRow.put {m : Value → Option AV} {K : Int → Option (Nat × Nat)} {U : Int → List Int} (h : MRow m K U) (z : Int) (k : Option (Nat × Nat)) (l : List Int) : MRow (mput m (.int .i64 z) (.vec k 1 (ints l))) (fun q => if q = z then k else K q) fun q => if q = z then l else U q := by
  intro q
  by_cases e : q = z
  · subst e; simp only [if_true, mput_self]; exact .inr trivial
  · simp only [if_neg e]
    rw [mput_other _ (by intro h; injection h with _ h; exact e h)]
    exact h q
/-- the rights to append -/
def toks (e : TypeId) (K : Int → Option (Nat × Nat)) (U : Int → List Int) (zs : List Int) : AL := zs.flatMap fun z => tok (K z) e 1 (ints (U z)).length
theorem toks_pick {e : TypeId} {K : Int → Option (Nat × Nat)} {U : Int → List Int} : ∀ {zs : List Int} {z : Int}, z ∈ zs → (toks e K U zs).Perm (tok (K z) e 1 (ints (U z)).length ++ toks e K U (zs.erase z))
  | y :: zs, z, h => by
    by_cases hz : y = z
    · subst hz
      rw [List.erase_cons_head]
      exact List.Perm.refl _
    · have hm : z ∈ zs := by
        rcases List.mem_cons.1 h with h | h
        · exact absurd h.symm hz
        · exact h
      rw [List.erase_cons_tail (by simpa using hz)]
      have ih := toks_pick (e := e) (K := K) (U := U) hm
      unfold toks at ih ⊢
      rw [List.flatMap_cons, List.flatMap_cons]
      refine (List.Perm.append_left _ ih).trans ?_
      rw [← List.append_assoc, ← List.append_assoc]
      exact List.Perm.append_right _ List.perm_append_comm
theorem toks_congr {e : TypeId} {K K' : Int → Option (Nat × Nat)} {U U' : Int → List Int} {zs : List Int} (h : ∀ z ∈ zs, K z = K' z ∧ U z = U' z) : toks e K U zs = toks e K' U' zs := by
  unfold toks
  induction zs with
  | nil => rfl
  | cons z zs ih =>
    rw [List.flatMap_cons, List.flatMap_cons, ih fun y hy => h y (List.mem_cons_of_mem _ hy), (h z (List.mem_cons_self ..)).1, (h z (List.mem_cons_self ..)).2]
theorem toks_put {e : TypeId} {K : Int → Option (Nat × Nat)} {U : Int → List Int} {zs : List Int} {z : Int} {k : Option (Nat × Nat)} {l : List Int} (hn : zs.Nodup) (h : z ∈ zs) : (tok k e 1 (ints l).length ++ toks e K U (zs.erase z)).Perm (toks e (fun q => if q = z then k else K q) (fun q => if q = z then l else U q) zs) := by
  have h1 := toks_pick (e := e) (K := fun q => if q = z then k else K q) (U := fun q => if q = z then l else U q) h
  simp only [if_true] at h1
  refine List.Perm.trans ?_ h1.symm
  rw [toks_congr (K := K) (U := U) (K' := fun q => if q = z then k else K q) (U' := fun q => if q = z then l else U q) fun y hy => by
    have hne : y ≠ z := fun e => by subst e; exact (List.Nodup.not_mem_erase hn) hy
    simp only [if_neg hne]
    exact ⟨trivial, trivial⟩]
theorem toks_none (e : TypeId) (U : Int → List Int) (zs : List Int) : toks e (fun _ => none) U zs = [] := by
  unfold toks tok
  induction zs with
  | nil => rfl
  | cons z zs ih => rw [List.flatMap_cons, ih]; rfl
end Go.Proofs.YtpbinloeemebkaaGreat

namespace Go.Proofs.YtpbinloeemebkaaGreat
open Go.RowKit
theorem AO.permL {P : Program} {o : Oper} {fr : AFr} {B : Bs} {L L2 : AL} {R : AV → AL → Prop} (h : AO P o fr B L2 R) (hp : L.Perm L2) : AO P o fr B L R := fun σ ρ w hρ hw => h σ ρ w hρ (hw.perm hp)
section
variable {P : Program} {r : Option Nat} {ops : Array Oper} {Q : Exit → Act → World → Prop} {nt : Nat} {D : List Deferred} {fr : AFr} {B : Bs} {L : AL} {cd : Code}
def ALoopM (nt : Nat) (B : Bs) {α : Type} (Dx : α → List Deferred) (V : α → AFr) (fr0 : AFr) (C : α → Prop) (Lx : α → AL) (μ : α → Nat) (x : α) (Q : Exit → Act → World → Prop) : Exit → Act → World → Prop := Exit.then (fun a w => ∃ σ x', AAg σ nt (Dx x') (V x' ++ fr0) a ∧ C x' ∧ ASt B σ (Lx x') w ∧ μ x' < μ x) Q
theorem at_loopM (ks : List Nat) {α : Type} (Dx : α → List Deferred) (V : α → AFr) (C : α → Prop) (Lx : α → AL) (μ : α → Nat) (x0 : α) {fr0 : AFr} (hk : akeep fr ks = some fr0) (hV : afle (V x0) fr) (hD : D = Dx x0) (hC : C x0) (hL : ∀ σ w, ASt B σ L w → ASt B σ (Lx x0) w)
    (hb : ∀ x, C x → AT P r cd (ALoopM nt B Dx V fr0 C Lx μ x Q) nt (Dx x) (V x ++ fr0) B (Lx x)) : AT P r (.loop cd) Q nt D fr B L := by
  intro σ a w ha hw
  subst hD
  classical
  let G : Nat → Act → World → Prop := fun m a w => ∃ σ x, AAg σ nt (Dx x) (V x ++ fr0) a ∧ C x ∧ ASt B σ (Lx x) w ∧ μ x = m
  let M : Act → World → Nat := fun a w => if h : ∃ m, G m a w ∧ ∀ m', G m' a w → m ≤ m' then h.choose else 0
  have least : ∀ a w, (∃ m, G m a w) → G (M a w) a w ∧ ∀ m', G m' a w → M a w ≤ m' := by
    rintro a w ⟨m0, hg0⟩
    have hex : ∃ m, G m a w ∧ ∀ m', G m' a w → m ≤ m' := by
      have : ∀ k, ∀ m, m ≤ k → G m a w → ∃ m, G m a w ∧ ∀ m', G m' a w → m ≤ m' := by
        intro k
        induction k with
        | zero => intro m hm hg; exact ⟨m, hg, fun m' _ => by omega⟩
        | succ k ih =>
          intro m hm hg
          by_cases h : ∃ m', m' < m ∧ G m' a w
          · obtain ⟨m', hlt, hg'⟩ := h
            exact ih m' (by omega) hg'
          · exact ⟨m, hg, fun m' hg' => by
              rcases Nat.lt_or_ge m' m with hlt | hge
              · exact absurd ⟨m', hlt, hg'⟩ h
              · exact hge⟩
      exact this m0 m0 (Nat.le_refl _) hg0
    have hM : M a w = hex.choose := dif_pos hex
    rw [hM]; exact hex.choose_spec
  refine wpIn_loop (fun a w => ∃ m, G m a w) M ⟨_, σ, x0, ha.weak (afle_app hV (akeep_afle ks hk)), hC, hL σ w hw, rfl⟩ ?_
  intro a w hI
  obtain ⟨⟨σ', x, hx, hj, hst, hm⟩, _⟩ := least a w hI
  refine wpIn_mono (hb x hj σ' a w hx hst) ?_
  intro e a' w' hq
  cases e with
  | normal =>
    obtain ⟨τ, x', hx', hj', hst', hlt⟩ := hq
    have hg : G (μ x') a' w' := ⟨τ, x', hx', hj', hst', rfl⟩
    refine ⟨⟨_, hg⟩, ?_⟩
    have := (least a' w' ⟨_, hg⟩).2 (μ x') hg
    omega
  | _ => exact hq
theorem ax_roundM {α : Type} {Dx : α → List Deferred} {V : α → AFr} {fr0 : AFr} {C : α → Prop} {Lx : α → AL} {μ : α → Nat} {x : α} (x' : α) (hk : akeep fr (fr0.map (·.1)) = some fr0) (hV : afle (V x') fr) (hD : D = Dx x') (hC : C x') (hm : μ x' < μ x) (hL : ∀ σ w, ASt B σ L w → ASt B σ (Lx x') w) :
    AX P .normal (ALoopM nt B Dx V fr0 C Lx μ x Q) nt D fr B L := fun σ a w ha hw => by
  subst hD
  exact ⟨σ, x', ha.weak (afle_app hV (akeep_afle _ hk)), hC, hL _ _ hw, hm⟩
theorem ax_loopM_exit {α : Type} {Dx : α → List Deferred} {V : α → AFr} {fr0 : AFr} {C : α → Prop} {Lx : α → AL} {μ : α → Nat} {x : α} {id : Nat} (h : AX P (.exit id) Q nt D fr B L) : AX P (.exit id) (ALoopM nt B Dx V fr0 C Lx μ x Q) nt D fr B L := fun σ a w ha hw => h σ a w ha hw
theorem ax_loopM_ret {α : Type} {Dx : α → List Deferred} {V : α → AFr} {fr0 : AFr} {C : α → Prop} {Lx : α → AL} {μ : α → Nat} {x : α} (h : AX P .ret Q nt D fr B L) : AX P .ret (ALoopM nt B Dx V fr0 C Lx μ x Q) nt D fr B L := fun σ a w ha hw => h σ a w ha hw
end
section
variable {nt : Nat} {D : List Deferred} {B : Bs} {fr : AFr} {L : AL}
/-- the same, of a row behind a box that is only read -/
theorem turn_boxP {t b e sz n : Nat} {cs : List AV} {l : List (List AV)} (i : Nat) (hl : alook fr t = some (.iptr [.sc (.slice (some ⟨b, 0, none⟩) n n)])) (hL : L[i]? = some (b, .box cs e)) (hc : cs = l.flatten) (hs : ∀ q ∈ l, q.length = sz) (hn : l.length = n) (h63 : n ≤ 9223372036854775807) : Turn nt D B fr L ((t, .iptr [.imm sz l]) :: fr) ((b, .vec e sz n n) :: L.eraseIdx i) := by
  intro σ a w ha hw0
  have hw := hw0.perm (aperm_get hL)
  obtain ⟨o, ho, vs, rfl, hvs, h1⟩ := hw.here _ (List.mem_cons_self ..)
  have hfree := hw.free _ (List.mem_cons_self ..)
  have hvl : vs.length = n * sz := by rw [← hvs.1, hc, flat_len l hs, hn]
  -- the block as a row with nothing told of it
  have hst : ASt B σ ((b, .vec e sz 0 n) :: L.eraseIdx i) w := by
    refine ⟨hw.os, hw.tape, hw.output, hw.size, hw.old, fun p hp => ?_, fun p hp => ?_, by simpa using hw.apart, hw.froz, fun p hp off hm => ?_, hw.grow, hw.same⟩
    · rcases List.mem_cons.1 hp with rfl | hp'
      · exact ⟨_, ho, _, rfl, by simp [hvl], Nat.zero_le _, by unfold maxLen; omega⟩
      · exact hw.here p (List.mem_cons_of_mem _ hp')
    · rcases List.mem_cons.1 hp with rfl | hp'
      · exact hw.mine (b, .box cs e) (List.mem_cons_self ..)
      · exact hw.mine p (List.mem_cons_of_mem _ hp')
    · rcases List.mem_cons.1 hp with rfl | hp'
      · exact hfree off trivial
      · exact hw.free p (List.mem_cons_of_mem _ hp') off hm
  obtain ⟨hst', hle⟩ := hst.freezeHead (n' := n) (xs := vs) (fun j u hj => by rw [cell_of ho]; simpa using hj) hvl (Nat.zero_le _) (Nat.le_refl _)
  refine ⟨_, ?_, hst'⟩
  have hv : VR (σ.add b vs) (.vec (some (b, n)) sz l) (.slice (some ⟨b, 0, none⟩) n n) := by
    have := vec_of (σ := σ.add b vs) (b := b) (cap := n) hs (by rw [← hc]; exact hvs.mono hle) h1 (by omega) (by unfold maxLen; omega) (fun j u hj => Mem.add_at hj)
    rwa [hn] at this
  have ha' := ha.mono hle
  refine ⟨ha'.size, ha'.defers, fun t' v' hl' => ?_⟩
  rw [alook_cons] at hl'
  by_cases e : t = t'
  · subst e
    simp only [if_true, Option.some.injEq] at hl'
    subst hl'
    have hp := ha.look t _ hl
    generalize a.tmps.getD t undef = v0 at hp
    generalize hq : AV.iptr [.sc (.slice (some ⟨b, 0, none⟩) n n)] = q at hp
    cases hp with
    | iptr cs2 b0 off hx h =>
      injection hq with hq
      subst hq
      refine .iptr _ b0 off (fun j hj => ?_) fun j c u hc hu => ?_
      · obtain ⟨u, hu, h1⟩ := hx j hj
        exact ⟨u, hle _ _ _ hu, h1⟩
      · have hj : j = 0 := by
          have := (List.getElem?_eq_some_iff.1 hc).1
          simp at this
          exact this
        subst hj
        simp at hc
        subst hc
        obtain ⟨u', hu', _⟩ := hx 0 (by simp)
        have h2 := hle _ _ _ hu'
        rw [hu] at h2
        injection h2 with h2
        subst h2
        rw [(h 0 _ u rfl hu').sc_inv]
        exact hv.im
    | _ => cases hq
  · rw [if_neg e] at hl'
    exact ha'.look t' v' hl'
end
end Go.Proofs.YtpbinloeemebkaaGreat

namespace Go.Proofs.YtpbinloeemebkaaGreat
open Go.RowKit
attribute [local irreducible] AT ATL AX AO Av Kt ALoopK OkA DA DA1
theorem there_det (f : FFont) (n : Int) : ADet Tryz.prog 281 [aFont f, I64 n] (Bol (isG f n)) := by
  refine ac_of Tryz.func281 rfl Tryz.ntmps281 rfl fun B => ?_
  (repeat' (first|refine at_seq ?_|refine at_region ?_|refine ax_then ?_|refine atl_nil ?_|refine n_run ttok rfl rfl ?_|refine n_boxI ?_|fail))
  refine atl_cut (t := 4) [] (isG f n = true) rfl (fun Q' K => ?_) ?_
  · (repeat' (first|refine atl_nil ?_|refine n_run ttok rfl rfl ?_|refine atl_guard_yes rfl rfl ?_|refine atl_guard_no rfl rfl rfl rfl ?_|refine atl_guard rfl rfl rfl (fun _ => ?_) (fun _ => ?_)|fail))
    all_goals exact K _ _ rfl rfl (by unfold isG; simp_all <;> omega)
  (repeat' (first|refine at_ret ?_|refine ax_then ?_|fail))
  refine ax_ret1 rfl rfl ?_
  simp
instance (f : FFont) (n : Int) : AD Tryz.prog 281 [aFont f, I64 n] (Bol (isG f n)) := ⟨there_det f n⟩
theorem parts_det (f : FFont) (g : Int) : ADet Tryz.prog 268 [aFont f, I64 g] (.fn 280 [.iptr (cFont f), .iptr [I64 g]]) := by
  refine ac_of Tryz.func268 rfl Tryz.ntmps268 rfl fun B => ?_
  (repeat' (first|refine at_seq ?_|refine at_region ?_|refine at_ret ?_|refine ax_then ?_|refine atl_nil ?_|refine n_run ttok rfl rfl ?_|refine n_boxI ?_|fail))
  exact ax_ret1 rfl rfl rfl
instance (f : FFont) (g : Int) : AD Tryz.prog 268 [aFont f, I64 g] (.fn 280 [.iptr (cFont f), .iptr [I64 g]]) := ⟨parts_det f g⟩
set_option maxHeartbeats 1000000 in
theorem partsIt {α : Type} {σ0 : Mem} {l : Nat} (f : FFont) (g : Nat) (gl : FGlyph) (hg : f.Glyphs[g]? = some gl) (E : α → AL) (J : Nat → α → Prop)
    (hy : ∀ i x p, J i x → gl.Parts[i]? = some p → isG f p.Glyph = true → AY Tryz.prog σ0 l [.agg (cPart p)] (E x) fun c L => c = Bol true ∧ ∃ x', J (i + 1) x' ∧ L = E x')
    (hs : ∀ i x p, J i x → gl.Parts[i]? = some p → isG f p.Glyph = false → J (i + 1) x) (x0 : α) (h0 : J 0 x0) (hlen : gl.Parts.length ≤ 1000000) :
    ACs Tryz.prog σ0 280 [.sc (.func (.yield l) #[] #[]), .iptr (cFont f), .iptr [I64 g]] (E x0) fun _ L => ∃ x, J gl.Parts.length x ∧ L = E x := by
  refine acs_of Tryz.func280 rfl Tryz.ntmps280 rfl fun B hB => ?_
  have hgg := map_get (c := cGlyph) hg
  (repeat' (first|refine at_seq ?_|refine at_region ?_|refine at_block ?_|refine ax_then ?_|refine atl_nil ?_|refine n_run ttok rfl rfl ?_|(apply s_index; first|refine n_index ttok ?_|refine n_indexP ttok ?_)|fail))
  refine at_loopK [0, 1, 11, 12] (α := Nat × α) (fun y => [(13, I64 y.1)]) (fun y => y.1 ≤ gl.Parts.length ∧ J y.1 y.2) (fun y => E y.2) (fun y => gl.Parts.length - y.1) (0, x0) rfl ⟨rfl, trivial⟩ ⟨Nat.zero_le _, h0⟩ (fun _ _ h => h) ?_
  rintro ⟨i, x⟩ ⟨hi, hj⟩
  dsimp only at hi hj ⊢
  try dsimp only [List.cons_append, List.nil_append, List.map_cons, List.map_nil]
  (repeat' (first|refine at_seq ?_|refine at_region ?_|refine ax_then ?_|refine atl_nil ?_|refine n_run ttok rfl rfl ?_|fail))
  refine at_cond rfl (fun h => ?_) (fun h => ?_)
  · have hil : i < gl.Parts.length := by have := of_decide_eq_true h; simp at this; omega
    obtain ⟨p, hp⟩ : ∃ z, gl.Parts[i]? = some z := ⟨_, List.getElem?_eq_getElem hil⟩
    have hpg := map_get (c := cPart) hp
    (repeat' (first|refine at_seq ?_|refine at_region ?_|refine at_block ?_|refine at_skip ?_|refine ax_then ?_|refine atl_nil ?_|refine n_run ttok rfl rfl ?_|(apply s_index; first|refine n_index ttok ?_|refine n_indexP ttok ?_)|(apply s_store; first|refine n_storeF 5 ttok 0 rfl rfl rfl rfl rfl rfl rfl rfl ?_|refine n_storeF 5 ttok 1 rfl rfl rfl rfl rfl rfl rfl rfl ?_|refine n_storeF 5 ttok 2 rfl rfl rfl rfl rfl rfl rfl rfl ?_|refine n_store ttok 0 rfl rfl rfl rfl rfl rfl rfl ?_|refine n_store ttok 1 rfl rfl rfl rfl rfl rfl rfl ?_|refine n_store ttok 2 rfl rfl rfl rfl rfl rfl rfl ?_|refine n_store ttok 3 rfl rfl rfl rfl rfl rfl rfl ?_|fail)|refine n_alloc ttok fun _=>?_|(apply s_call;refine n_call ?_)|fail))
    by_cases hG : isG f p.Glyph = true
    · rw [hG]
      (repeat' (first|refine n_run ttok rfl rfl ?_|refine atl_guard_yes rfl rfl ?_|fail))
      refine n_yield (E x) [] hB (hy i x p hj hp hG) rfl rfl rfl (by rw [List.append_nil]; exact List.Perm.refl _) rfl rfl fun c L1 ⟨hc, x', hj', hL⟩ => ?_
      subst hc; subst hL
      rw [List.append_nil]
      (repeat' (first|refine at_region ?_|refine at_skip ?_|refine ax_then ?_|refine ax_blk ?_|refine atl_nil ?_|refine n_run ttok rfl rfl ?_|refine atl_guard_yes rfl rfl ?_|(apply s_bin; refine n_bin ?_)|refine n_condF rfl ?_|fail))
      exact ax_roundK (i + 1, x') rfl ⟨by rw [Int.natCast_add]; rfl, trivial⟩ ⟨by dsimp only; omega, hj'⟩ (by dsimp only; omega) (fun _ _ h => h)
    · have hG' : isG f p.Glyph = false := by simpa using hG
      rw [hG']
      (repeat' (first|refine at_region ?_|refine at_skip ?_|refine ax_then ?_|refine ax_blk ?_|refine atl_nil ?_|refine n_run ttok rfl rfl ?_|refine atl_guard_no rfl rfl rfl rfl ?_|(apply s_bin; refine n_bin ?_)|refine n_condF rfl ?_|fail))
      exact ax_roundK (i + 1, x) rfl ⟨by rw [Int.natCast_add]; rfl, trivial⟩ ⟨by dsimp only; omega, hs i x p hj hp hG'⟩ (by dsimp only; omega) (fun _ _ h => h)
  · have hil : i = gl.Parts.length := by have := of_decide_eq_false h; simp at this; omega
    subst hil
    (repeat' (first|refine at_exit ?_|refine ax_then_exit ?_|refine ax_blk_exit ?_|refine ax_loop_exit ?_|fail))
    exact ax_end0 rfl ⟨x, hj, rfl⟩
end Go.Proofs.YtpbinloeemebkaaGreat

namespace Go.Proofs.YtpbinloeemebkaaGreat
open Go.RowKit
attribute [local irreducible] AT ATL AX AO Av Kt ALoopK OkA DA DA1
open Go.MapKept
attribute [local irreducible] ALoopM
section
variable {P : Program} {l : List Oper} {fr : AFr} {fin : AFr → AL → Prop} {sk : AkL} {acc : AFr} {L : AL} {k : Nat} {dd : Option Tmp} {ty t : TypeId} {pos : String} {af : Array Edge} {g : Option (Nat × Bool)} {x y z : Operand} {u : AV}
theorem d_mapUpdateP (L2 : AL) (i : Nat) (m' : Value → Option AV) {b kt et : Nat} {kd : TypeDesc} {q : Value} {m : Value → Option AV} (hp : L.Perm L2) (ht : P.underlying t = some (.map kt et)) (hkt : P.underlying kt = some kd) (hx : aev (frkA l.toArray acc fr af.toList) x = some (.sc (.map (some b)))) (hy : aev (frkA l.toArray acc fr af.toList) y = some (.sc q)) (hk : IsKey kd q) (hz : aev (frkA l.toArray acc fr af.toList) z = some u) (hL : L2[i]? = some (b, mapB kd m)) (h1 : m' q = some u) (h2 : ∀ p, p ≠ q → m' p = m p) (hg : GOA ⟨dd, .mapUpdate t x y z, ty, pos, af, g⟩ acc) (h : ∀ c, DA P l fr fin sk ((k, c) :: acc) (aput L2 i (mapB kd m'))) :
    DA1 P l fr fin k .e ⟨dd, .mapUpdate t x y z, ty, pos, af, g⟩ sk acc L :=
  da_eff hg (fun _ => (ao_mapUpdate i ht hkt hx hy hk hz hL h1 h2).permL hp) fun c L' h3 => by subst h3; exact h c
end
/-- a glyph's parts that there are -/
def prt (f : FFont) (g : Int) : List Int := match f.Glyphs[g.toNat]? with
  | some gl => (gl.Parts.map FPart.Glyph).filter (isG f)
  | none => []
def prI (f : FFont) (gl : FGlyph) (i : Nat) : List Int := ((gl.Parts.take i).map FPart.Glyph).filter (isG f)
theorem prI_yes {f : FFont} {gl : FGlyph} {i : Nat} {p : FPart} (h : gl.Parts[i]? = some p) (hg : isG f p.Glyph = true) : prI f gl (i + 1) = prI f gl i ++ [p.Glyph] := by
  unfold prI
  rw [List.take_add_one, h, Option.toList_some, List.map_append, List.filter_append]
  simp [hg]
theorem prI_no {f : FFont} {gl : FGlyph} {i : Nat} {p : FPart} (h : gl.Parts[i]? = some p) (hg : isG f p.Glyph = false) : prI f gl (i + 1) = prI f gl i := by
  unfold prI
  rw [List.take_add_one, h, Option.toList_some, List.map_append, List.filter_append]
  simp [hg]
theorem prI_all {f : FFont} {g : Nat} {gl : FGlyph} (hg : f.Glyphs[g]? = some gl) : prI f gl gl.Parts.length = prt f g := by
  unfold prI prt
  rw [Int.toNat_natCast, hg, List.take_length]
theorem prI_len (f : FFont) (gl : FGlyph) (i : Nat) : (prI f gl i).length ≤ gl.Parts.length := by
  unfold prI
  refine Nat.le_trans (List.length_filter_le _ _) ?_
  rw [List.length_map, List.length_take]
  omega
theorem isG_iff {f : FFont} {z : Int} : isG f z = true ↔ 0 ≤ z ∧ z < f.Glyphs.length := by unfold isG; simp
theorem prt_in {f : FFont} {g p : Int} (h : p ∈ prt f g) : 0 ≤ p ∧ p < f.Glyphs.length := by
  unfold prt at h
  split at h
  · rw [List.mem_filter] at h; exact isG_iff.1 h.2
  · cases h
structure Few (f : FFont) : Prop where
  n : f.Glyphs.length ≤ 1000
  parts : ∀ gl ∈ f.Glyphs, gl.Parts.length ≤ 1000
theorem Few.prt {f : FFont} (h : Few f) (g : Int) : (prt f g).length ≤ 1000 := by
  unfold Go.Proofs.YtpbinloeemebkaaGreat.prt
  split
  · rename_i gl hgl
    refine Nat.le_trans (List.length_filter_le _ _) ?_
    rw [List.length_map]
    exact h.parts gl (List.mem_of_getElem? hgl)
  · exact Nat.zero_le _
theorem users_len {pr : Int → List Int} (h : ∀ g, (pr g).length ≤ 1000) (z : Int) : ∀ gs : List Int, (usersOf pr gs z).length ≤ 1000 * gs.length
  | [] => by simp [usersOf]
  | g :: gs => by
    have ih := users_len h z gs
    unfold usersOf at ih ⊢
    rw [List.flatMap_cons, List.length_append, List.length_map, List.length_cons]
    have h1 := List.length_filter_le (fun p => decide (p = z)) (pr g)
    have h2 := h g
    omega
theorem users_mem {pr : Int → List Int} {gs : List Int} {z g : Int} (h : g ∈ usersOf pr gs z) : g ∈ gs := by
  unfold usersOf at h
  obtain ⟨y, hy, h1⟩ := List.mem_flatMap.1 h
  obtain ⟨_, _, rfl⟩ := List.mem_map.1 h1
  exact hy
theorem missN_le (pr : Int → List Int) (T : List Int) (g : Int) : missN pr T g ≤ (pr g).length := List.length_filter_le _ _
/-- on the way through a glyph's parts -/
def Mi (f : FFont) (gl : FGlyph) (g i : Nat) : Int → Int := fun z => if z = g then (prI f gl i).length else if 0 ≤ z ∧ z < g then (prt f z).length else 0
def Ui (f : FFont) (gl : FGlyph) (g i : Nat) : Int → List Int := fun z => usersOf (prt f) (upTo g) z ++ ((prI f gl i).filter fun p => decide (p = z)).map fun _ => (g : Int)
def Mb (f : FFont) (g : Nat) : Int → Int := fun z => if 0 ≤ z ∧ z < g then (prt f z).length else 0
def Rb (f : FFont) (g : Nat) : List Int := (upTo g).filter fun z => decide ((prt f z).length = 0)
theorem Mi_zero (f : FFont) (gl : FGlyph) (g : Nat) : Mi f gl g 0 = Mb f g := by
  funext z
  unfold Mi Mb prI
  by_cases e : z = g
  · subst e; rw [if_pos rfl, if_neg (by omega)]; rfl
  · rw [if_neg e]
theorem Ui_zero (f : FFont) (gl : FGlyph) (g : Nat) : Ui f gl g 0 = usersOf (prt f) (upTo g) := by
  funext z
  unfold Ui prI
  simp
theorem Mi_all {f : FFont} {g : Nat} {gl : FGlyph} (hg : f.Glyphs[g]? = some gl) : Mi f gl g gl.Parts.length = Mb f (g + 1) := by
  funext z
  unfold Mi Mb
  rw [prI_all hg]
  by_cases e : z = g
  · subst e; rw [if_pos rfl, if_pos (by omega)]
  · rw [if_neg e]
    by_cases h : 0 ≤ z ∧ z < g
    · rw [if_pos h, if_pos (by omega)]
    · rw [if_neg h, if_neg (by omega)]
theorem Ui_all {f : FFont} {g : Nat} {gl : FGlyph} (hg : f.Glyphs[g]? = some gl) : Ui f gl g gl.Parts.length = usersOf (prt f) (upTo (g + 1)) := by
  funext z
  unfold Ui
  rw [prI_all hg, upTo_succ]
  unfold usersOf
  rw [List.flatMap_append]
  simp
theorem Mi_yes {f : FFont} {gl : FGlyph} {g i : Nat} {p : FPart} (h : gl.Parts[i]? = some p) (hg : isG f p.Glyph = true) : (fun q => if q = (g : Int) then Mi f gl g i g + 1 else Mi f gl g i q) = Mi f gl g (i + 1) := by
  funext q
  unfold Mi
  rw [prI_yes h hg]
  by_cases e : q = g
  · rw [if_pos e, if_pos e, if_pos rfl]; simp
  · rw [if_neg e, if_neg e, if_neg e]
theorem Ui_yes {f : FFont} {gl : FGlyph} {g i : Nat} {p : FPart} (h : gl.Parts[i]? = some p) (hg : isG f p.Glyph = true) : (fun q => if q = p.Glyph then Ui f gl g i p.Glyph ++ [(g : Int)] else Ui f gl g i q) = Ui f gl g (i + 1) := by
  funext q
  unfold Ui
  rw [prI_yes h hg, List.filter_append, List.map_append]
  by_cases e : q = p.Glyph
  · subst e; rw [if_pos rfl]; simp
  · have e' : ¬ p.Glyph = q := fun h => e h.symm
    rw [if_neg e]; simp [e']
theorem Mi_no {f : FFont} {gl : FGlyph} {g i : Nat} {p : FPart} (h : gl.Parts[i]? = some p) (hg : isG f p.Glyph = false) : Mi f gl g (i + 1) = Mi f gl g i := by unfold Mi; rw [prI_no h hg]
theorem Ui_no {f : FFont} {gl : FGlyph} {g i : Nat} {p : FPart} (h : gl.Parts[i]? = some p) (hg : isG f p.Glyph = false) : Ui f gl g (i + 1) = Ui f gl g i := by unfold Ui; rw [prI_no h hg]
theorem Ui_len {f : FFont} (hf : Few f) (gl : FGlyph) (hgl : gl ∈ f.Glyphs) {g : Nat} (hg : g ≤ 1000) (i : Nat) (z : Int) : (Ui f gl g i z).length ≤ 1001000 := by
  unfold Ui
  have h1 := users_len hf.prt z (upTo g)
  have h2 := prI_len f gl i
  have h3 := List.length_filter_le (fun p => decide (p = z)) (prI f gl i)
  have h4 := hf.parts gl hgl
  rw [upTo_len] at h1
  rw [List.length_append, List.length_map]
  omega
theorem Rb_succ (f : FFont) (g : Nat) : Rb f (g + 1) = if (prt f g).length = 0 then Rb f g ++ [(g : Int)] else Rb f g := by
  unfold Rb
  rw [upTo_succ, List.filter_append]
  by_cases h : (prt f g).length = 0
  · rw [if_pos h, List.filter_cons_of_pos (by simpa using h)]; rfl
  · rw [if_neg h, List.filter_cons_of_neg (by simpa using h)]; simp
theorem Rb_len (f : FFont) (g : Nat) : (Rb f g).length ≤ g := by
  unfold Rb
  refine Nat.le_trans (List.length_filter_le _ _) ?_
  rw [upTo_len]
  exact Nat.le_refl _
theorem perm_tok {a b : Nat × AB} {T T' t H R : AL} (h : T.Perm (t ++ T')) : (a :: b :: (H ++ (T ++ R))).Perm (t ++ (a :: b :: (H ++ (T' ++ R)))) := by
  have h1 : (a :: b :: (H ++ (T ++ R))).Perm (a :: b :: (H ++ (t ++ (T' ++ R)))) := by
    refine List.Perm.cons _ (List.Perm.cons _ (List.Perm.append_left _ ?_))
    rw [← List.append_assoc]
    exact h.append_right _
  refine h1.trans ?_
  have h2 : (a :: b :: (H ++ (t ++ (T' ++ R)))) = ((a :: b :: H) ++ t) ++ (T' ++ R) := by simp
  have h3 : t ++ (a :: b :: (H ++ (T' ++ R))) = (t ++ (a :: b :: H)) ++ (T' ++ R) := by simp
  rw [h2, h3]
  exact List.Perm.append_right _ List.perm_append_comm
end Go.Proofs.YtpbinloeemebkaaGreat
