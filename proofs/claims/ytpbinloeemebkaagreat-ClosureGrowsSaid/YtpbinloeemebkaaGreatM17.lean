/-
  The program: a heap of numbers.
-/
import Derived.Test.YtpbinloeemebkaaGreatM16
import Derived.Test.YtpbinloeemebkaaGreatM08
namespace Go.Proofs.YtpbinloeemebkaaGreat
open Go.RowKit
attribute [local irreducible] AT ATL AX AO Av Kt ALoopK OkA DA DA1
instance : CFn Tryz.prog 305 := ⟨enters_fn Tryz.func305 (by kernel_rfl) rfl⟩
instance : CFn Tryz.prog 306 := ⟨enters_fn Tryz.func306 (by kernel_rfl) rfl⟩
instance : CFn Tryz.prog 307 := ⟨enters_fn Tryz.func307 (by kernel_rfl) rfl⟩
instance : CFn Tryz.prog 308 := ⟨enters_fn Tryz.func308 (by kernel_rfl) rfl⟩
instance : CFn Tryz.prog 309 := ⟨enters_fn Tryz.func309 (by kernel_rfl) rfl⟩
theorem m_len : Meth Tryz.prog 333 "Len" 305 false 328 := methB_spec (by kernel_rfl)
theorem m_less : Meth Tryz.prog 333 "Less" 306 false 328 := methB_spec (by kernel_rfl)
theorem m_swap : Meth Tryz.prog 333 "Swap" 307 false 328 := methB_spec (by kernel_rfl)
theorem m_pop : Meth Tryz.prog 333 "Pop" 308 true 328 := methB_spec (by kernel_rfl)
theorem m_push : Meth Tryz.prog 333 "Push" 309 true 328 := methB_spec (by kernel_rfl)
section
variable {P : Program} {fr : AFr} {d : Option Tmp} {ty t t' : TypeId} {pos : String} {af : Array Edge} {g : Option (Nat × Bool)} {x y : Operand}
/-- half of what is less by one -/
theorem a_half {z : Int} {n : Nat} (hz : z = (n : Int) - 1) (hx : aev fr x = some (I64 z)) (hy : aev fr y = some (I64 2)) (hn : n ≤ 9223372036854775807) : Av P ⟨d, .binOp .quo t x y t', ty, pos, af, g⟩ fr (I64 (((n - 1) / 2 : Nat) : Int)) := by
  have h := a_quo (P := P) (d := d) (ty := ty) (pos := pos) (af := af) (g := g) (t := t) (t' := t') hx hy (by omega)
  have e : IntKind.i64.wrap (z.tdiv 2) = (((n - 1) / 2 : Nat) : Int) := by
    subst hz
    have : ((n : Int) - 1).tdiv 2 = (((n - 1) / 2 : Nat) : Int) := by
      cases n with
      | zero => rfl
      | succ m =>
        rw [show (((m + 1 : Nat) : Int) - 1) = (m : Int) by omega, Int.tdiv_eq_ediv_of_nonneg (by omega)]
        simp
    rw [this, fits64 (by omega)]
  rwa [e] at h
end
/-- a heap of numbers behind a pointer: its row -/
abbrev HI (p : Nat) : AV := .sc (.iface 333 (.pointer (some ⟨p, 0, none⟩)))
def hSl (k : Option (Nat × List AV)) (n : Nat) : Value := match k with
  | none => .slice none 0 0
  | some (b, cs) => .slice (some ⟨b, 0, none⟩) n cs.length
def hRow (k : Option (Nat × List AV)) : AL := match k with
  | none => []
  | some (b, cs) => [(b, .box cs 3)]
def hst (p : Nat) (k : Option (Nat × List AV)) (l : List Int) : AL := (p, .box [.sc (hSl k l.length)] 328) :: hRow k
def HOk (k : Option (Nat × List AV)) (l : List Int) : Prop := match k with
  | none => l = []
  | some (_, cs) => cs.take l.length = l.map I64 ∧ l.length ≤ cs.length ∧ 0 < cs.length
theorem HOk.get {b : Nat} {cs : List AV} {l : List Int} (h : HOk (some (b, cs)) l) {a : Int} (h0 : 0 ≤ a) (h1 : a < l.length) : ∃ x, l[a.toNat]? = some x ∧ cs[0 + a.toNat * 1]? = some (I64 x) := by
  obtain ⟨x, hx⟩ : ∃ x, l[a.toNat]? = some x := ⟨_, List.getElem?_eq_getElem (by omega)⟩
  refine ⟨x, hx, ?_⟩
  have h2 := congrArg (fun q => q[a.toNat]?) h.1
  simp only [List.getElem?_take, List.getElem?_map, hx] at h2
  rw [if_pos (by omega)] at h2
  rw [Nat.zero_add, Nat.mul_one]
  exact h2
theorem len305 (v : Value) (n c : Nat) (A : Option Addr) (hv : v = .slice A n c) : ADet Tryz.prog 305 [.sc v] (I64 n) := by
  subst hv
  refine ac_of Tryz.func305 rfl Tryz.ntmps305 rfl fun B => ?_
  (repeat' (first|refine at_seq ?_|refine at_region ?_|refine at_ret ?_|refine ax_then ?_|refine atl_nil ?_|refine n_run ttok rfl rfl ?_|fail))
  exact ax_ret1 rfl rfl rfl
theorem less306 {b n c : Nat} {cs : List AV} {x y a e : Int} (ha : 0 ≤ a ∧ a < n) (he : 0 ≤ e ∧ e < n) (hx : cs[0 + a.toNat * 1]? = some (I64 x)) (hy : cs[0 + e.toNat * 1]? = some (I64 y)) : AC Tryz.prog 306 [.sc (.slice (some ⟨b, 0, none⟩) n c), I64 a, I64 e] [(b, .box cs 3)] fun r L => r = Bol (decide (x < y)) ∧ L = [(b, .box cs 3)] := by
  refine ac_of Tryz.func306 rfl Tryz.ntmps306 rfl fun B => ?_
  (repeat' (first|refine at_seq ?_|refine at_region ?_|refine ax_then ?_|refine atl_nil ?_|refine n_run ttok rfl rfl ?_|fail))
  refine at_draw 8 [(0, .v), (1, .v), (2, .v), (3, .l), (4, .v), (5, .v), (6, .v), (7, .l)] none ?_ trivial rfl (by kernel_rfl) (by kernel_rfl) (by kernel_rfl) mixed (by kernel_rfl) rfl
  (repeat' (first|refine da_open ?_|refine d_run ttok ?_|fail))
  refine d_indexP ttok rfl rfl rfl ha trivial ?_
  (repeat' (first|refine da_open ?_|fail))
  refine d_load ttok 0 rfl rfl rfl hx trivial ?_
  (repeat' (first|refine da_open ?_|refine d_run ttok ?_|fail))
  refine d_indexP ttok rfl rfl rfl he trivial ?_
  (repeat' (first|refine da_open ?_|fail))
  refine d_load ttok 0 rfl rfl rfl hy trivial ?_
  (repeat' (first|fail))
  refine da_end [10, 14] rfl rfl ?_
  (repeat' (first|refine at_ret ?_|refine ax_then ?_|refine atl_nil ?_|refine n_run ttok rfl rfl ?_|fail))
  exact ax_ret1 rfl rfl ⟨rfl, rfl⟩
theorem swap307 {b n c : Nat} {cs : List AV} {x y a e : Int} (ha : 0 ≤ a ∧ a < n) (he : 0 ≤ e ∧ e < n) (hx : cs[0 + a.toNat * 1]? = some (I64 x)) (hy : cs[0 + e.toNat * 1]? = some (I64 y)) (hn : n ≤ cs.length) : AC Tryz.prog 307 [.sc (.slice (some ⟨b, 0, none⟩) n c), I64 a, I64 e] [(b, .box cs 3)] fun _ L => L = [(b, .box ((cs.set a.toNat (I64 y)).set e.toNat (I64 x)) 3)] := by
  refine ac_of Tryz.func307 rfl Tryz.ntmps307 rfl fun B => ?_
  (repeat' (first|fail))
  refine at_draw 14 [(0, .v), (1, .v), (2, .v), (3, .v), (4, .v), (5, .v), (6, .v), (7, .l), (8, .v), (9, .v), (10, .v), (11, .l), (12, .v), (13, .e)] none ?_ trivial rfl (by kernel_rfl) (by kernel_rfl) (by kernel_rfl) mixed (by kernel_rfl) rfl
  (repeat' (first|refine da_open ?_|refine d_run ttok ?_|fail))
  refine d_indexP ttok rfl rfl rfl he trivial ?_
  (repeat' (first|refine da_open ?_|fail))
  refine d_load ttok 0 rfl rfl rfl hy trivial ?_
  (repeat' (first|refine da_open ?_|refine d_run ttok ?_|fail))
  refine d_indexP ttok rfl rfl rfl ha trivial ?_
  (repeat' (first|refine da_open ?_|fail))
  refine d_load ttok 0 rfl rfl rfl hx trivial ?_
  (repeat' (first|refine da_open ?_|fail))
  refine d_indexP ttok rfl rfl rfl ha trivial ?_
  (repeat' (first|refine da_open ?_|fail))
  refine d_storeB ttok 0 rfl rfl rfl rfl rfl rfl (by rw [Nat.ble_eq]; show _ + 1 ≤ _; omega) trivial fun _ => ?_
  (repeat' (first|fail))
  refine da_end [8, 9, 17] rfl rfl ?_
  (repeat' (first|(apply s_index; first|refine n_index ttok ?_|refine n_indexP ttok ?_)|fail))
  refine n_store ttok 0 rfl rfl rfl rfl rfl rfl (by rw [Nat.ble_eq]; show _ + 1 ≤ (putA _ _ _).length; rw [putA_len]; omega) ?_
  (repeat' (first|refine atl_nil ?_|fail))
  refine ax_end0 rfl ?_
  simp only [aput, putA, Nat.zero_add, Nat.mul_one]
theorem HOk.swap {b : Nat} {cs : List AV} {l : List Int} (h : HOk (some (b, cs)) l) {a e x y : Int} (ha : 0 ≤ a ∧ a < l.length) (he : 0 ≤ e ∧ e < l.length) (hx : l[a.toNat]? = some x) (hy : l[e.toNat]? = some y) : HOk (some (b, (cs.set a.toNat (I64 y)).set e.toNat (I64 x))) ((l.set a.toNat y).set e.toNat x) ∧ ((l.set a.toNat y).set e.toNat x).Perm l := by
  obtain ⟨h1, h2, h3⟩ := h
  refine ⟨⟨?_, by simpa using h2, by simpa using h3⟩, ?_⟩
  · simp only [List.length_set]
    rw [List.take_set, List.take_set, h1, List.map_set, List.map_set]
  · obtain ⟨hx1, hx2⟩ := List.getElem?_eq_some_iff.1 hx
    obtain ⟨hy1, hy2⟩ := List.getElem?_eq_some_iff.1 hy
    subst hx2; subst hy2
    exact List.set_set_perm hx1 hy1
set_option maxHeartbeats 4000000 in
theorem down_ac (p b : Nat) (cs0 : List AV) (l0 : List Int) (h : HOk (some (b, cs0)) l0) (i0 n : Nat) (hn : n ≤ l0.length) (hl : l0.length ≤ 1000000) (hi0 : i0 ≤ 1000000) : AC Tryz.prog 282 [HI p, I64 i0, I64 n] (hst p (some (b, cs0)) l0) fun _ L => ∃ cs' l', L = hst p (some (b, cs')) l' ∧ HOk (some (b, cs')) l' ∧ l'.Perm l0 := by
  refine ac_of Tryz.func282 rfl Tryz.ntmps282 rfl fun B => ?_
  (repeat' (first|refine at_seq ?_|refine at_region ?_|refine at_block ?_|refine ax_then ?_|refine atl_nil ?_|refine n_run ttok rfl rfl ?_|fail))
  refine at_loopK [0, 1, 2] (α := Nat × List AV × List Int) (fun x => [(7, I64 x.1)]) (fun x => x.1 ≤ 1000000 ∧ HOk (some (b, x.2.1)) x.2.2 ∧ x.2.2.Perm l0) (fun x => hst p (some (b, x.2.1)) x.2.2) (fun x => 1000001 - x.1) (i0, cs0, l0) rfl ⟨rfl, trivial⟩ ⟨hi0, h, List.Perm.refl _⟩ (fun _ _ h => h) ?_
  rintro ⟨i, cs, l⟩ ⟨hi, hok, hpm⟩
  dsimp only at hi hok hpm ⊢
  have hll := hpm.length_eq
  unfold hst hRow hSl
  dsimp only
  try dsimp only [List.cons_append, List.nil_append, List.map_cons, List.map_nil]
  (repeat' (first|refine at_seq ?_|refine at_region ?_|refine at_block ?_|refine ax_then ?_|refine atl_nil ?_|refine n_run ttok rfl rfl ?_|(apply s_bin; refine n_bin ?_)|fail))
  refine atl_if [0, 1, 2, 7, 8] (¬ (2 * (i : Int) + 1 < n)) rfl (fun Q' K => ?_) (fun hC => ?_) (fun hC => ?_)
  · (repeat' (first|refine atl_nil ?_|refine n_run ttok rfl rfl ?_|refine atl_guard_yes rfl rfl ?_|refine atl_guard_no rfl rfl rfl rfl ?_|refine atl_guard rfl rfl rfl (fun _ => ?_) (fun _ => ?_)|fail))
    all_goals exact K _ _ rfl rfl (by clear K; simp_all <;> omega)
  · (repeat' (first|refine at_seq ?_|refine at_region ?_|refine at_ret ?_|refine at_exit ?_|refine ax_then ?_|refine ax_then_exit ?_|refine ax_blk_exit ?_|refine ax_blk_other rfl ?_|refine ax_loop_exit ?_|refine atl_nil ?_|refine n_run ttok rfl rfl ?_|fail))
    exact ax_ret1 rfl rfl ⟨cs, l, rfl, hok, hpm⟩
  have hC := Decidable.not_not.1 hC
  obtain ⟨x, hx, hxc⟩ := hok.get (a := i) (by omega) (by omega)
  (repeat' (first|refine at_seq ?_|refine at_region ?_|refine at_skip ?_|refine ax_then ?_|refine atl_nil ?_|refine n_run ttok rfl rfl ?_|(apply s_bin; refine n_bin ?_)|fail))
  refine atl_guard rfl rfl rfl (fun h2 => ?_) (fun h2 => ?_)
  · have h2' := of_decide_eq_true h2
    obtain ⟨u, hu, huc⟩ := hok.get (a := 2 * (i : Int) + 1 + 1) (by omega) (by omega)
    obtain ⟨v, hv, hvc⟩ := hok.get (a := 2 * (i : Int) + 1) (by omega) (by omega)
    (repeat' (first|refine n_run ttok rfl rfl ?_|refine atl_guard_yes rfl rfl ?_|fail))
    refine n_invokeV 0 [(b, .box cs 3)] [(p, .box [.sc (.slice (some ⟨b, 0, none⟩) l.length cs.length)] 328)] m_less (scI_spec ttok rfl) rfl rfl rfl rfl (List.Perm.swap ..) (less306 (x := u) (y := v) ⟨by omega, by omega⟩ ⟨by omega, by omega⟩ huc hvc) rfl rfl fun c L1 ⟨hc, hL⟩ => ?_
    subst hc; subst hL
    refine atl_turn (turn_perm (List.Perm.swap ..)) ?_
    (repeat' (first|refine ax_then ?_|refine atl_nil ?_|refine n_run ttok rfl rfl ?_|fail))
    refine at_cond rfl (fun h3 => ?_) (fun h3 => ?_)
    · clear h3
      (repeat' (first|refine at_seq ?_|refine at_region ?_|refine ax_then ?_|refine atl_nil ?_|refine n_run ttok rfl rfl ?_|fail))
      obtain ⟨y, hy, hyc⟩ := hok.get (a := (2 * (i : Int) + 1 + 1)) (by omega) (by omega)
      refine n_invokeV 0 [(b, .box cs 3)] [(p, .box [.sc (.slice (some ⟨b, 0, none⟩) l.length cs.length)] 328)] m_less (scI_spec ttok rfl) rfl rfl rfl rfl (List.Perm.swap ..) (less306 (x := y) (y := x) ⟨by omega, by omega⟩ ⟨by omega, by omega⟩ hyc hxc) rfl rfl fun c L1 ⟨hc, hL⟩ => ?_
      subst hc; subst hL
      (repeat' (first|refine ax_then ?_|refine atl_nil ?_|refine n_run ttok rfl rfl ?_|fail))
      refine at_cond rfl (fun h5 => ?_) (fun h5 => ?_)
      · (repeat' (first|refine at_seq ?_|refine at_region ?_|refine at_ret ?_|refine at_exit ?_|refine ax_then ?_|refine ax_then_exit ?_|refine ax_blk_exit ?_|refine ax_blk_other rfl ?_|refine ax_loop_exit ?_|refine atl_nil ?_|refine n_run ttok rfl rfl ?_|fail))
        refine ax_turn (turn_perm (List.Perm.swap ..)) ?_
        exact ax_ret1 rfl rfl ⟨cs, l, rfl, hok, hpm⟩
      (repeat' (first|refine at_seq ?_|refine at_region ?_|refine at_skip ?_|refine ax_then ?_|refine n_run ttok rfl rfl ?_|fail))
      refine atl_turn (turn_perm (List.Perm.swap ..)) ?_
      refine n_invokeV 0 [(b, .box cs 3)] [(p, .box [.sc (.slice (some ⟨b, 0, none⟩) l.length cs.length)] 328)] m_swap (scI_spec ttok rfl) rfl rfl rfl rfl (List.Perm.swap ..) (swap307 (x := x) (y := y) ⟨by omega, by omega⟩ ⟨by omega, by omega⟩ hxc hyc hok.2.1) rfl rfl fun c L1 hL => ?_
      subst hL
      (repeat' (first|refine at_region ?_|refine ax_then ?_|refine ax_blk ?_|refine atl_nil ?_|refine n_run ttok rfl rfl ?_|fail))
      have hs := hok.swap (a := i) (e := (2 * (i : Int) + 1 + 1)) ⟨by omega, by omega⟩ ⟨by omega, by omega⟩ hx hy
      refine ax_roundK (((2 * (i : Int) + 1 + 1)).toNat, (cs.set ((i : Int)).toNat (I64 y)).set ((2 * (i : Int) + 1 + 1)).toNat (I64 x), (l.set ((i : Int)).toNat y).set ((2 * (i : Int) + 1 + 1)).toNat x) rfl ⟨by rw [show ((((2 * (i : Int) + 1 + 1)).toNat : Nat) : Int) = (2 * (i : Int) + 1 + 1) by omega]; rfl, trivial⟩ ⟨by dsimp only; omega, hs.1, hs.2.trans hpm⟩ (by dsimp only; omega) (fun σ w h => ?_)
      have h := h.perm (List.Perm.swap ..)
      simpa [hst, hSl, hRow, List.length_set] using h
    · clear h3
      (repeat' (first|refine at_seq ?_|refine at_region ?_|refine at_skip ?_|refine ax_then ?_|refine n_run ttok rfl rfl ?_|fail))
      obtain ⟨y, hy, hyc⟩ := hok.get (a := (2 * (i : Int) + 1)) (by omega) (by omega)
      refine n_invokeV 0 [(b, .box cs 3)] [(p, .box [.sc (.slice (some ⟨b, 0, none⟩) l.length cs.length)] 328)] m_less (scI_spec ttok rfl) rfl rfl rfl rfl (List.Perm.swap ..) (less306 (x := y) (y := x) ⟨by omega, by omega⟩ ⟨by omega, by omega⟩ hyc hxc) rfl rfl fun c L1 ⟨hc, hL⟩ => ?_
      subst hc; subst hL
      (repeat' (first|refine ax_then ?_|refine atl_nil ?_|refine n_run ttok rfl rfl ?_|fail))
      refine at_cond rfl (fun h5 => ?_) (fun h5 => ?_)
      · (repeat' (first|refine at_seq ?_|refine at_region ?_|refine at_ret ?_|refine at_exit ?_|refine ax_then ?_|refine ax_then_exit ?_|refine ax_blk_exit ?_|refine ax_blk_other rfl ?_|refine ax_loop_exit ?_|refine atl_nil ?_|refine n_run ttok rfl rfl ?_|fail))
        refine ax_turn (turn_perm (List.Perm.swap ..)) ?_
        exact ax_ret1 rfl rfl ⟨cs, l, rfl, hok, hpm⟩
      (repeat' (first|refine at_seq ?_|refine at_region ?_|refine at_skip ?_|refine ax_then ?_|refine n_run ttok rfl rfl ?_|fail))
      refine atl_turn (turn_perm (List.Perm.swap ..)) ?_
      refine n_invokeV 0 [(b, .box cs 3)] [(p, .box [.sc (.slice (some ⟨b, 0, none⟩) l.length cs.length)] 328)] m_swap (scI_spec ttok rfl) rfl rfl rfl rfl (List.Perm.swap ..) (swap307 (x := x) (y := y) ⟨by omega, by omega⟩ ⟨by omega, by omega⟩ hxc hyc hok.2.1) rfl rfl fun c L1 hL => ?_
      subst hL
      (repeat' (first|refine at_region ?_|refine ax_then ?_|refine ax_blk ?_|refine atl_nil ?_|refine n_run ttok rfl rfl ?_|fail))
      have hs := hok.swap (a := i) (e := (2 * (i : Int) + 1)) ⟨by omega, by omega⟩ ⟨by omega, by omega⟩ hx hy
      refine ax_roundK (((2 * (i : Int) + 1)).toNat, (cs.set ((i : Int)).toNat (I64 y)).set ((2 * (i : Int) + 1)).toNat (I64 x), (l.set ((i : Int)).toNat y).set ((2 * (i : Int) + 1)).toNat x) rfl ⟨by rw [show ((((2 * (i : Int) + 1)).toNat : Nat) : Int) = (2 * (i : Int) + 1) by omega]; rfl, trivial⟩ ⟨by dsimp only; omega, hs.1, hs.2.trans hpm⟩ (by dsimp only; omega) (fun σ w h => ?_)
      have h := h.perm (List.Perm.swap ..)
      simpa [hst, hSl, hRow, List.length_set] using h
  · have h2' : ¬ (2 * (i : Int) + 1 + 1 < n) := of_decide_eq_false (by simpa using h2)
    (repeat' (first|refine at_seq ?_|refine at_region ?_|refine at_skip ?_|refine ax_then ?_|refine atl_nil ?_|refine n_run ttok rfl rfl ?_|refine atl_guard_no rfl rfl rfl rfl ?_|refine n_condF rfl ?_|fail))
    obtain ⟨y, hy, hyc⟩ := hok.get (a := (2 * (i : Int) + 1)) (by omega) (by omega)
    refine n_invokeV 0 [(b, .box cs 3)] [(p, .box [.sc (.slice (some ⟨b, 0, none⟩) l.length cs.length)] 328)] m_less (scI_spec ttok rfl) rfl rfl rfl rfl (List.Perm.swap ..) (less306 (x := y) (y := x) ⟨by omega, by omega⟩ ⟨by omega, by omega⟩ hyc hxc) rfl rfl fun c L1 ⟨hc, hL⟩ => ?_
    subst hc; subst hL
    (repeat' (first|refine ax_then ?_|refine atl_nil ?_|refine n_run ttok rfl rfl ?_|fail))
    refine at_cond rfl (fun h5 => ?_) (fun h5 => ?_)
    · (repeat' (first|refine at_seq ?_|refine at_region ?_|refine at_ret ?_|refine at_exit ?_|refine ax_then ?_|refine ax_then_exit ?_|refine ax_blk_exit ?_|refine ax_blk_other rfl ?_|refine ax_loop_exit ?_|refine atl_nil ?_|refine n_run ttok rfl rfl ?_|fail))
      refine ax_turn (turn_perm (List.Perm.swap ..)) ?_
      exact ax_ret1 rfl rfl ⟨cs, l, rfl, hok, hpm⟩
    (repeat' (first|refine at_seq ?_|refine at_region ?_|refine at_skip ?_|refine ax_then ?_|refine n_run ttok rfl rfl ?_|fail))
    refine atl_turn (turn_perm (List.Perm.swap ..)) ?_
    refine n_invokeV 0 [(b, .box cs 3)] [(p, .box [.sc (.slice (some ⟨b, 0, none⟩) l.length cs.length)] 328)] m_swap (scI_spec ttok rfl) rfl rfl rfl rfl (List.Perm.swap ..) (swap307 (x := x) (y := y) ⟨by omega, by omega⟩ ⟨by omega, by omega⟩ hxc hyc hok.2.1) rfl rfl fun c L1 hL => ?_
    subst hL
    (repeat' (first|refine at_region ?_|refine ax_then ?_|refine ax_blk ?_|refine atl_nil ?_|refine n_run ttok rfl rfl ?_|fail))
    have hs := hok.swap (a := i) (e := (2 * (i : Int) + 1)) ⟨by omega, by omega⟩ ⟨by omega, by omega⟩ hx hy
    refine ax_roundK (((2 * (i : Int) + 1)).toNat, (cs.set ((i : Int)).toNat (I64 y)).set ((2 * (i : Int) + 1)).toNat (I64 x), (l.set ((i : Int)).toNat y).set ((2 * (i : Int) + 1)).toNat x) rfl ⟨by rw [show ((((2 * (i : Int) + 1)).toNat : Nat) : Int) = (2 * (i : Int) + 1) by omega]; rfl, trivial⟩ ⟨by dsimp only; omega, hs.1, hs.2.trans hpm⟩ (by dsimp only; omega) (fun σ w h => ?_)
    have h := h.perm (List.Perm.swap ..)
    simpa [hst, hSl, hRow, List.length_set] using h
theorem up_ac (p b : Nat) (cs0 : List AV) (l0 : List Int) (h : HOk (some (b, cs0)) l0) (j0 : Nat) (hj0 : j0 < l0.length) (hl : l0.length ≤ 1000000) : AC Tryz.prog 283 [HI p, I64 j0] (hst p (some (b, cs0)) l0) fun _ L => ∃ cs' l', L = hst p (some (b, cs')) l' ∧ HOk (some (b, cs')) l' ∧ l'.Perm l0 := by
  refine ac_of Tryz.func283 rfl Tryz.ntmps283 rfl fun B => ?_
  (repeat' (first|refine at_block ?_|fail))
  refine at_loopK [0] (α := Nat × List AV × List Int) (fun x => [(1, I64 x.1)]) (fun x => x.1 < l0.length ∧ HOk (some (b, x.2.1)) x.2.2 ∧ x.2.2.Perm l0) (fun x => hst p (some (b, x.2.1)) x.2.2) (fun x => x.1) (j0, cs0, l0) rfl ⟨rfl, trivial⟩ ⟨hj0, h, List.Perm.refl _⟩ (fun _ _ h => h) ?_
  rintro ⟨j, cs, l⟩ ⟨hi, hok, hpm⟩
  dsimp only at hi hok hpm ⊢
  have hll := hpm.length_eq
  unfold hst hRow hSl
  dsimp only
  try dsimp only [List.cons_append, List.nil_append, List.map_cons, List.map_nil]
  (repeat' (first|refine at_seq ?_|refine at_region ?_|refine at_block ?_|refine n_run ttok rfl rfl ?_|(apply s_bin; refine n_bin ?_)|fail))
  refine n_bin ?_ (a_half (n := j) rfl rfl rfl (by omega))
  obtain ⟨x, hx, hxc⟩ := hok.get (a := j) (by omega) (by omega)
  obtain ⟨y, hy, hyc⟩ := hok.get (a := (((j - 1) / 2 : Nat) : Int)) (by omega) (by omega)
  (repeat' (first|refine at_seq ?_|refine at_region ?_|refine ax_then ?_|refine atl_nil ?_|refine n_run ttok rfl rfl ?_|fail))
  refine atl_guard rfl rfl rfl (fun h2 => ?_) (fun h2 => ?_)
  · have h2' := of_decide_eq_false h2
    (repeat' (first|refine n_run ttok rfl rfl ?_|refine atl_guard_yes rfl rfl ?_|fail))
    refine n_invokeV 0 [(b, .box cs 3)] [(p, .box [.sc (.slice (some ⟨b, 0, none⟩) l.length cs.length)] 328)] m_less (scI_spec ttok rfl) rfl rfl rfl rfl (List.Perm.swap ..) (less306 (x := x) (y := y) ⟨by omega, by omega⟩ ⟨by omega, by omega⟩ hxc hyc) rfl rfl fun c L1 ⟨hc, hL⟩ => ?_
    subst hc; subst hL
    refine atl_turn (turn_perm (List.Perm.swap ..)) ?_
    (repeat' (first|refine ax_then ?_|refine atl_nil ?_|refine n_run ttok rfl rfl ?_|refine atl_guard_yes rfl rfl ?_|fail))
    refine at_cond rfl (fun h3 => ?_) (fun h3 => ?_)
    · (repeat' (first|refine at_exit ?_|refine ax_then_exit ?_|refine ax_blk_exit ?_|refine ax_blk_other rfl ?_|refine ax_loop_exit ?_|fail))
      exact ax_end0 rfl ⟨cs, l, rfl, hok, hpm⟩
    (repeat' (first|refine at_seq ?_|refine at_region ?_|refine at_skip ?_|refine ax_then ?_|refine n_run ttok rfl rfl ?_|fail))
    refine n_invokeV 0 [(b, .box cs 3)] [(p, .box [.sc (.slice (some ⟨b, 0, none⟩) l.length cs.length)] 328)] m_swap (scI_spec ttok rfl) rfl rfl rfl rfl (List.Perm.swap ..) (swap307 (x := y) (y := x) ⟨by omega, by omega⟩ ⟨by omega, by omega⟩ hyc hxc hok.2.1) rfl rfl fun c L1 hL => ?_
    subst hL
    (repeat' (first|refine at_region ?_|refine ax_then ?_|refine ax_blk ?_|refine atl_nil ?_|refine n_run ttok rfl rfl ?_|fail))
    have hs := hok.swap (a := (((j - 1) / 2 : Nat) : Int)) (e := j) ⟨by omega, by omega⟩ ⟨by omega, by omega⟩ hy hx
    refine ax_roundK ((j - 1) / 2, (cs.set (((j - 1) / 2 : Nat) : Int).toNat (I64 x)).set (j : Int).toNat (I64 y), (l.set (((j - 1) / 2 : Nat) : Int).toNat x).set (j : Int).toNat y) rfl ⟨rfl, trivial⟩ ⟨by dsimp only; omega, hs.1, hs.2.trans hpm⟩ (by dsimp only; omega) (fun σ w h => ?_)
    have h := h.perm (List.Perm.swap ..)
    simpa [hst, hSl, hRow, List.length_set] using h
  · (repeat' (first|refine at_exit ?_|refine ax_then ?_|refine ax_then_exit ?_|refine ax_blk_exit ?_|refine ax_blk_other rfl ?_|refine ax_loop_exit ?_|refine atl_nil ?_|refine n_run ttok rfl rfl ?_|refine atl_guard_no rfl rfl rfl rfl ?_|refine n_condT rfl ?_|fail))
    exact ax_end0 rfl ⟨cs, l, rfl, hok, hpm⟩
theorem pop308 (p b : Nat) (cs : List AV) (l : List Int) (h : HOk (some (b, cs)) l) (h0 : 0 < l.length) (hl : l.length ≤ 1000000) : AC Tryz.prog 308 [.sc (.pointer (some ⟨p, 0, none⟩))] (hst p (some (b, cs)) l) fun c L => ∃ z l', c = .sc (.iface 3 (.int .i64 z)) ∧ L = hst p (some (b, cs)) l' ∧ HOk (some (b, cs)) l' ∧ l = l' ++ [z] := by
  refine ac_of Tryz.func308 rfl Tryz.ntmps308 rfl fun B => ?_
  unfold hst hRow hSl
  dsimp only
  obtain ⟨z, hz, hzc⟩ := h.get (a := (l.length : Int) - 1) (by omega) (by omega)
  have hcl := h.2.1
  have hc1 := h.2.2
  (repeat' (first|refine at_seq ?_|refine at_region ?_|refine ax_then ?_|refine atl_nil ?_|refine n_run ttok rfl rfl ?_|(apply s_load; first|refine n_load ttok 0 rfl rfl rfl rfl rfl ?_|refine n_load ttok 1 rfl rfl rfl rfl rfl ?_|refine n_load ttok 2 rfl rfl rfl rfl rfl ?_|refine n_load ttok 3 rfl rfl rfl rfl rfl ?_|refine n_loadA ttok 0 rfl rfl rfl rfl rfl ?_|refine n_loadA ttok 1 rfl rfl rfl rfl rfl ?_|refine n_loadA ttok 2 rfl rfl rfl rfl rfl ?_|refine n_load ttok 1 rfl rfl rfl (by assumption) rfl ?_|refine n_load ttok 0 rfl rfl rfl (by assumption) rfl ?_|fail)|(apply s_bin; refine n_bin ?_)|(apply s_index; first|refine n_index ttok ?_|refine n_indexP ttok ?_)|fail))
  refine n_cutB ttok (l.length - 1) rfl rfl rfl (by omega) (by omega) (by omega) rfl ?_
  (repeat' (first|refine at_seq ?_|refine at_region ?_|refine ax_then ?_|refine atl_nil ?_|refine n_run ttok rfl rfl ?_|(apply s_store; first|refine n_store ttok 0 rfl rfl rfl rfl rfl rfl rfl ?_|refine n_store ttok 1 rfl rfl rfl rfl rfl rfl rfl ?_|refine n_store ttok 2 rfl rfl rfl rfl rfl rfl rfl ?_|refine n_store ttok 3 rfl rfl rfl rfl rfl rfl rfl ?_|fail)|fail))
  refine n_iface (by kernel_rfl) rfl rfl ?_
  (repeat' (first|refine at_ret ?_|refine ax_then ?_|refine atl_nil ?_|refine n_run ttok rfl rfl ?_|fail))
  have hlast : l.take (l.length - 1) ++ [z] = l := by
    have h1 : l.take (l.length - 1 + 1) = l := List.take_of_length_le (by omega)
    rw [List.take_add_one, show l[l.length - 1]? = some z by rw [← hz]; congr 1; omega] at h1
    exact h1
  have hlen : (l.take (l.length - 1)).length = l.length - 1 := by rw [List.length_take]; omega
  refine ax_ret1 rfl rfl ⟨z, l.take (l.length - 1), rfl, ?_, ⟨?_, by rw [hlen]; omega, hc1⟩, hlast.symm⟩
  · rw [hlen]
    rfl
  · rw [hlen, List.map_take, ← h.1, List.take_take]
    congr 1
    omega
theorem push309 (p : Nat) (k : Option (Nat × List AV)) (l : List Int) (z : Int) (h : HOk k l) (hl : l.length ≤ 1000000) : AC Tryz.prog 309 [.sc (.pointer (some ⟨p, 0, none⟩)), .sc (.iface 3 (.int .i64 z))] (hst p k l) fun _ L => ∃ b cs, L = hst p (some (b, cs)) (l ++ [z]) ∧ HOk (some (b, cs)) (l ++ [z]) := by
  refine ac_of Tryz.func309 rfl Tryz.ntmps309 rfl fun B => ?_
  unfold hst hRow hSl
  cases k with
  | none =>
    have hl0 : l = [] := h
    subst hl0
    dsimp only
    (repeat' (first|fail))
    refine at_draw 8 [(0, .v), (1, .v), (2, .v), (3, .l), (4, .v), (5, .v), (6, .v), (7, .e)] none ?_ trivial rfl (by kernel_rfl) (by kernel_rfl) (by kernel_rfl) mixed (by kernel_rfl) rfl
    (repeat' (first|refine da_open ?_|refine d_run ttok ?_|refine d_load ttok 0 rfl rfl rfl rfl (by first|trivial|rfl) ?_|fail))
    refine d_assert (by kernel_rfl) rfl trivial ?_
    (repeat' (first|refine da_open ?_|refine d_lit ttok ?_|fail))
    refine d_appendN ttok rfl rfl rfl rfl rfl rfl trivial fun b' cs' h1 h2 => ?_
    (repeat' (first|fail))
    refine da_end [4, 11] rfl rfl ?_
    (repeat' (first|refine atl_nil ?_|refine n_run ttok rfl rfl ?_|(apply s_store; first|refine n_store ttok 0 rfl rfl rfl rfl rfl rfl rfl ?_|refine n_store ttok 1 rfl rfl rfl rfl rfl rfl rfl ?_|refine n_store ttok 2 rfl rfl rfl rfl rfl rfl rfl ?_|refine n_store ttok 3 rfl rfl rfl rfl rfl rfl rfl ?_|fail)|fail))
    exact ax_turn (turn_perm (List.Perm.swap ..)) (ax_end0 rfl ⟨b', cs', rfl, h1, h2, h2⟩)
  | some q =>
    obtain ⟨b, cs⟩ := q
    dsimp only
    (repeat' (first|fail))
    refine at_draw 8 [(0, .v), (1, .v), (2, .v), (3, .l), (4, .v), (5, .v), (6, .v), (7, .e)] none ?_ trivial rfl (by kernel_rfl) (by kernel_rfl) (by kernel_rfl) mixed (by kernel_rfl) rfl
    (repeat' (first|refine da_open ?_|refine d_run ttok ?_|refine d_load ttok 0 rfl rfl rfl rfl (by first|trivial|rfl) ?_|fail))
    refine d_assert (by kernel_rfl) rfl trivial ?_
    (repeat' (first|refine da_open ?_|refine d_lit ttok ?_|fail))
    refine d_appendB ttok 1 rfl rfl rfl rfl rfl rfl rfl h.2.1 (by omega) (by omega) trivial fun b' cs' h1 h2 => ?_
    (repeat' (first|fail))
    refine da_end [4, 11] rfl rfl ?_
    (repeat' (first|refine atl_nil ?_|refine n_run ttok rfl rfl ?_|(apply s_store; first|refine n_store ttok 0 rfl rfl rfl rfl rfl rfl rfl ?_|refine n_store ttok 1 rfl rfl rfl rfl rfl rfl rfl ?_|refine n_store ttok 2 rfl rfl rfl rfl rfl rfl rfl ?_|refine n_store ttok 3 rfl rfl rfl rfl rfl rfl rfl ?_|fail)|fail))
    refine ax_turn (turn_perm (List.Perm.swap ..)) (ax_end0 rfl ⟨b', cs', ?_, ?_, by simpa using h2, by omega⟩)
    · rw [List.length_append]
      rfl
    · rw [List.length_append, List.map_append, ← h.1]
      exact h1
theorem hst_some (p b : Nat) (cs : List AV) (l : List Int) : hst p (some (b, cs)) l = [(p, .box [.sc (.slice (some ⟨b, 0, none⟩) l.length cs.length)] 328), (b, .box cs 3)] := rfl
set_option maxHeartbeats 1000000 in
theorem heapPush (p : Nat) (k : Option (Nat × List AV)) (l : List Int) (z : Int) (h : HOk k l) (hl : l.length < 1000000) : AC Tryz.prog 271 [HI p, .sc (.iface 3 (.int .i64 z))] (hst p k l) fun _ L => ∃ b cs l', L = hst p (some (b, cs)) l' ∧ HOk (some (b, cs)) l' ∧ l'.Perm (l ++ [z]) := by
  refine ac_of Tryz.func271 rfl Tryz.ntmps271 rfl fun B => ?_
  (repeat' (first|refine at_seq ?_|refine at_region ?_|refine n_run ttok rfl rfl ?_|fail))
  refine n_invoke (hst p k l) [] m_push rfl rfl (by rw [List.append_nil]) (push309 p k l z h (by omega)) rfl rfl fun c L1 ⟨b, cs, hL, hok⟩ => ?_
  subst hL
  rw [List.append_nil, hst_some]
  have hll : (l ++ [z]).length = l.length + 1 := by simp
  (repeat' (first|refine at_region ?_|refine ax_then ?_|refine atl_nil ?_|refine n_run ttok rfl rfl ?_|fail))
  refine n_invokeV 0 [] [(p, .box [.sc (.slice (some ⟨b, 0, none⟩) (l ++ [z]).length cs.length)] 328), (b, .box cs 3)] m_len (scI_spec ttok rfl) rfl rfl rfl rfl (List.Perm.refl _) (len305 _ (l ++ [z]).length _ _ rfl) rfl rfl fun c L1 hc => ?_
  have hc : c = I64 (l ++ [z]).length := hc
  subst hc
  refine atl_turn (turn_sub (List.sublist_append_right ..)) ?_
  rw [hll]
  (repeat' (first|(apply s_bin; refine n_bin ?_)|fail))
  have hup := up_ac p b cs (l ++ [z]) hok l.length (by rw [hll]; omega) (by rw [hll]; omega)
  rw [hst_some, hll] at hup
  rw [show (((l.length + 1 : Nat) : Int) - 1) = (l.length : Int) by omega]
  refine n_callA _ [] hup rfl rfl (by rw [List.append_nil]) rfl fun c L1 ⟨cs', l', hL, hok', hpm⟩ => ?_
  subst hL
  rw [List.append_nil]
  (repeat' (first|refine atl_nil ?_|fail))
  exact ax_end0 rfl ⟨b, cs', l', rfl, hok', hpm⟩
set_option maxHeartbeats 1000000 in
theorem heapPop (p b : Nat) (cs : List AV) (l : List Int) (h : HOk (some (b, cs)) l) (h0 : 0 < l.length) (hl : l.length ≤ 1000000) : AC Tryz.prog 270 [HI p] (hst p (some (b, cs)) l) fun c L => ∃ z cs' l', c = .sc (.iface 3 (.int .i64 z)) ∧ L = hst p (some (b, cs')) l' ∧ HOk (some (b, cs')) l' ∧ (l' ++ [z]).Perm l := by
  refine ac_of Tryz.func270 rfl Tryz.ntmps270 rfl fun B => ?_
  rw [hst_some]
  (repeat' (first|refine at_seq ?_|refine at_region ?_|refine ax_then ?_|refine atl_nil ?_|refine n_run ttok rfl rfl ?_|fail))
  refine n_invokeV 0 [] [(p, .box [.sc (.slice (some ⟨b, 0, none⟩) l.length cs.length)] 328), (b, .box cs 3)] m_len (scI_spec ttok rfl) rfl rfl rfl rfl (List.Perm.refl _) (len305 _ l.length _ _ rfl) rfl rfl fun c L1 hc => ?_
  have hc : c = I64 l.length := hc
  subst hc
  refine atl_turn (turn_sub (List.sublist_append_right ..)) ?_
  (repeat' (first|refine at_seq ?_|refine at_region ?_|refine ax_then ?_|refine atl_nil ?_|refine n_run ttok rfl rfl ?_|(apply s_bin; refine n_bin ?_)|fail))
  obtain ⟨x, hx, hxc⟩ := h.get (a := 0) (by omega) (by omega)
  obtain ⟨y, hy, hyc⟩ := h.get (a := (l.length : Int) - 1) (by omega) (by omega)
  refine n_invokeV 0 [(b, .box cs 3)] [(p, .box [.sc (.slice (some ⟨b, 0, none⟩) l.length cs.length)] 328)] m_swap (scI_spec ttok rfl) rfl rfl rfl rfl (List.Perm.swap ..) (swap307 (x := x) (y := y) ⟨by omega, by omega⟩ ⟨by omega, by omega⟩ hxc hyc h.2.1) rfl rfl fun c L1 hL => ?_
  subst hL
  have hs := h.swap (a := 0) (e := (l.length : Int) - 1) ⟨by omega, by omega⟩ ⟨by omega, by omega⟩ hx hy
  have hsl := hs.2.length_eq
  refine atl_turn (turn_perm (List.Perm.swap ..)) ?_
  (repeat' (first|refine at_seq ?_|refine at_region ?_|refine ax_then ?_|refine atl_nil ?_|refine n_run ttok rfl rfl ?_|fail))
  have hdn := down_ac p b _ _ hs.1 0 (l.length - 1) (by rw [hsl]; omega) (by rw [hsl]; omega) (by omega)
  rw [hst_some, hsl, show (((l.length - 1 : Nat)) : Int) = (l.length : Int) - 1 by omega] at hdn
  rw [show cs.length = ((cs.set (0 : Int).toNat (I64 y)).set ((l.length : Int) - 1).toNat (I64 x)).length by simp]
  refine n_callA _ [] hdn rfl rfl (by rw [List.append_nil]) rfl fun c L1 ⟨cs', l', hL, hok', hpm⟩ => ?_
  subst hL
  rw [List.append_nil]
  (repeat' (first|refine at_seq ?_|refine at_region ?_|refine ax_then ?_|refine atl_nil ?_|refine n_run ttok rfl rfl ?_|fail))
  have hl' := hpm.length_eq
  refine n_invoke (hst p (some (b, cs')) l') [] m_pop rfl rfl (by rw [List.append_nil]) (pop308 p b cs' l' hok' (by omega) (by omega)) rfl rfl fun c L1 ⟨z, l2, hc, hL, hok2, he⟩ => ?_
  subst hc; subst hL
  rw [List.append_nil]
  (repeat' (first|refine at_ret ?_|refine ax_then ?_|refine atl_nil ?_|refine n_run ttok rfl rfl ?_|fail))
  refine ax_ret1 rfl rfl ⟨z, cs', l2, rfl, rfl, hok2, ?_⟩
  rw [← he]
  exact hpm.trans hs.2
theorem hSl_is {k : Option (Nat × List AV)} {l : List Int} (h : HOk k l) : ∃ A c, hSl k l.length = .slice A l.length c := by
  cases k with
  | none => rw [show l = [] from h]; exact ⟨_, _, rfl⟩
  | some q => exact ⟨_, _, rfl⟩
section
variable {P : Program} {fr : AFr} {d : Option Tmp} {ty t t' : TypeId} {pos : String} {af : Array Edge} {g : Option (Nat × Bool)} {x y : Operand}
theorem a_half0 {n : Nat} (hx : aev fr x = some (I64 n)) (hy : aev fr y = some (I64 2)) (hn : n ≤ 9223372036854775807) : Av P ⟨d, .binOp .quo t x y t', ty, pos, af, g⟩ fr (I64 ((n / 2 : Nat) : Int)) := by
  have h := a_quo (P := P) (d := d) (ty := ty) (pos := pos) (af := af) (g := g) (t := t) (t' := t') hx hy (by omega)
  have e : IntKind.i64.wrap ((n : Int).tdiv 2) = ((n / 2 : Nat) : Int) := by
    have : (n : Int).tdiv 2 = ((n / 2 : Nat) : Int) := by
      rw [Int.tdiv_eq_ediv_of_nonneg (by omega)]
      simp
    rw [this, fits64 (by omega)]
  rwa [e] at h
end
set_option maxHeartbeats 1000000 in
theorem heapInit (p : Nat) (k : Option (Nat × List AV)) (l : List Int) (h : HOk k l) (hl : l.length ≤ 1000000) : AC Tryz.prog 269 [HI p] (hst p k l) fun _ L => ∃ k' l', L = hst p k' l' ∧ HOk k' l' ∧ l'.Perm l := by
  refine ac_of Tryz.func269 rfl Tryz.ntmps269 rfl fun B => ?_
  obtain ⟨A, cc, hA⟩ := hSl_is h
  (repeat' (first|refine at_seq ?_|refine at_region ?_|refine n_run ttok rfl rfl ?_|fail))
  refine n_invokeV 0 [] (hst p k l) m_len (scI_spec ttok rfl) rfl rfl rfl rfl (List.Perm.refl _) (len305 _ l.length cc A hA) rfl rfl fun c L1 hc => ?_
  have hc : c = I64 l.length := hc
  subst hc
  refine atl_turn (turn_sub (List.sublist_append_right ..)) ?_
  (repeat' (first|refine at_seq ?_|refine at_region ?_|refine ax_then ?_|refine atl_nil ?_|refine n_run ttok rfl rfl ?_|fail))
  refine n_bin ?_ (a_half0 (n := l.length) rfl rfl (by omega))
  (repeat' (first|refine at_block ?_|refine ax_then ?_|refine atl_nil ?_|refine n_run ttok rfl rfl ?_|(apply s_bin; refine n_bin ?_)|fail))
  refine at_loopK [0, 2] (α := Nat × Option (Nat × List AV) × List Int) (fun x => [(3, I64 ((x.1 : Int) - 1))]) (fun x => x.1 ≤ l.length / 2 ∧ HOk x.2.1 x.2.2 ∧ x.2.2.Perm l) (fun x => hst p x.2.1 x.2.2) (fun x => x.1) (l.length / 2, k, l) rfl ⟨rfl, trivial⟩ ⟨Nat.le_refl _, h, List.Perm.refl _⟩ (fun _ _ h => h) ?_
  rintro ⟨m, k, l'⟩ ⟨hm, hok, hpm⟩
  dsimp only at hm hok hpm ⊢
  have hll := hpm.length_eq
  try dsimp only [List.cons_append, List.nil_append, List.map_cons, List.map_nil]
  (repeat' (first|refine at_seq ?_|refine at_region ?_|refine ax_then ?_|refine atl_nil ?_|refine n_run ttok rfl rfl ?_|fail))
  refine at_cond rfl (fun h2 => ?_) (fun h2 => ?_)
  · have h2' := of_decide_eq_true h2
    cases k with
    | none => rw [show l' = [] from hok] at hll; simp at hll; omega
    | some q =>
      obtain ⟨b, cs⟩ := q
      (repeat' (first|refine at_seq ?_|refine at_region ?_|refine at_block ?_|refine at_skip ?_|refine ax_then ?_|refine n_run ttok rfl rfl ?_|fail))
      have hdn := down_ac p b cs l' hok (m - 1) l.length (by omega) (by omega) (by omega)
      rw [show (((m - 1 : Nat)) : Int) = (m : Int) - 1 by omega] at hdn
      refine n_callA _ [] hdn rfl rfl (by rw [List.append_nil]) rfl fun c L1 ⟨cs', l2, hL, hok', hpm'⟩ => ?_
      subst hL
      rw [List.append_nil]
      (repeat' (first|refine at_region ?_|refine ax_then ?_|refine ax_blk ?_|refine atl_nil ?_|refine n_run ttok rfl rfl ?_|(apply s_bin; refine n_bin ?_)|fail))
      exact ax_roundK (m - 1, some (b, cs'), l2) rfl ⟨by rw [show (((m - 1 : Nat)) : Int) = (m : Int) - 1 by omega]; rfl, trivial⟩ ⟨by dsimp only; omega, hok', hpm'.trans hpm⟩ (by dsimp only; omega) (fun _ _ h => h)
  · (repeat' (first|refine at_exit ?_|refine ax_then_exit ?_|refine ax_blk_exit ?_|refine ax_loop_exit ?_|fail))
    exact ax_end0 rfl ⟨k, l', rfl, hok, hpm⟩
end Go.Proofs.YtpbinloeemebkaaGreat

namespace Go.Proofs.YtpbinloeemebkaaGreat
open Go.RowKit
attribute [local irreducible] AT ATL AX AO Av Kt ALoopK OkA DA DA1
/-- what the features that are asked for have -/
def askN (fs : List ByteArray) (l : List FFeature) : List Int := (l.map fun t => if hasS fs t.Name then t.Lookups else []).flatten
theorem askN_add (fs : List ByteArray) (l : List FFeature) (i : Nat) {t : FFeature} (h : l[i]? = some t) : askN fs (l.take (i + 1)) = askN fs (l.take i) ++ (if hasS fs t.Name then t.Lookups else []) := by
  unfold askN
  rw [List.take_add_one, h, List.map_append, List.flatten_append]
  simp
theorem askN_len (fs : List ByteArray) (l : List FFeature) (i : Nat) : (askN fs (l.take i)).length ≤ (l.map (·.Lookups.length)).sum := by
  unfold askN
  induction l generalizing i with
  | nil => simp
  | cons t l ih =>
    cases i with
    | zero => simp
    | succ i =>
      have := ih i
      rw [List.take_succ_cons, List.map_cons, List.flatten_cons, List.length_append, List.map_cons, List.sum_cons]
      split
      · omega
      · simp only [List.length_nil]; omega
theorem askN_mem {fs : List ByteArray} {l : List FFeature} {z : Int} : z ∈ askN fs l ↔ ∃ t ∈ l, hasS fs t.Name = true ∧ z ∈ t.Lookups := by
  unfold askN
  rw [List.mem_flatten]
  constructor
  · rintro ⟨q, hq, hz⟩
    rw [List.mem_map] at hq
    obtain ⟨t, ht, rfl⟩ := hq
    refine ⟨t, ht, ?_⟩
    split at hz
    · exact ⟨by assumption, hz⟩
    · cases hz
  · rintro ⟨t, ht, h1, h2⟩
    exact ⟨_, List.mem_map.2 ⟨t, ht, rfl⟩, by rw [if_pos h1]; exact h2⟩
/-- the calls of a rule, up to one, have been seen -/
def CallsIn (f : FFont) (l : List Int) (cs : List FCall) : Prop := ∀ c ∈ cs, callN f c.Lookup = true → c.Lookup ∈ l
def RulesIn (f : FFont) (l : List Int) (rs : List FRule) : Prop := ∀ r ∈ rs, CallsIn f l r.Calls
/-- a row of lookups on the way -/
structure LkWay (f : FFont) (fs : List ByteArray) (l : List Int) (i : Nat) : Prop where
  reach : ∀ z ∈ l, Reach f fs z
  nodup : l.Nodup
  base : ∀ z ∈ askN fs f.Features, 0 ≤ z → z < f.Lookups.length → z ∈ l
  done : ∀ j < i, ∀ z, l[j]? = some z → ∀ x, f.Lookups[z.toNat]? = some x → x.Kind = 4 → RulesIn f l x.Rules
theorem CallsIn.mono {f : FFont} {l k : List Int} {cs : List FCall} (h : CallsIn f l cs) (hs : ∀ z ∈ l, z ∈ k) : CallsIn f k cs := fun c hc hn => hs _ (h c hc hn)
theorem RulesIn.mono {f : FFont} {l k : List Int} {rs : List FRule} (h : RulesIn f l rs) (hs : ∀ z ∈ l, z ∈ k) : RulesIn f k rs := fun r hr => (h r hr).mono hs
theorem LkWay.len {f : FFont} {fs : List ByteArray} {l : List Int} {i : Nat} (h : LkWay f fs l i) : l.length ≤ f.Lookups.length := nodup_le h.nodup fun z hz => (h.reach z hz).in
theorem LkWay.add {f : FFont} {fs : List ByteArray} {l : List Int} {i : Nat} {n : Int} (h : LkWay f fs l i) (hn : Reach f fs n) (hl : n ∉ l) (hi : i ≤ l.length) : LkWay f fs (l ++ [n]) i where
  reach z hz := by
    rcases List.mem_append.1 hz with hz | hz
    · exact h.reach z hz
    · rw [List.mem_singleton.1 hz]; exact hn
  nodup := by
    rw [List.nodup_append]
    refine ⟨h.nodup, by simp, fun a ha b hb => ?_⟩
    rw [List.mem_singleton.1 hb]
    exact fun e => hl (e ▸ ha)
  base z hz h0 h1 := List.mem_append.2 (Or.inl (h.base z hz h0 h1))
  done j hj z hz x hx hk := by
    rw [List.getElem?_append_left (by omega)] at hz
    exact (h.done j hj z hz x hx hk).mono fun z hz => List.mem_append.2 (Or.inl hz)
theorem LkWay.start {f : FFont} {fs : List ByteArray} : LkWay f fs (setN (askN fs f.Features) f.Lookups.length) 0 where
  reach z hz := by
    obtain ⟨h1, h2, h3⟩ := setN_mem.1 hz
    obtain ⟨t, ht, h4, h5⟩ := askN_mem.1 h1
    exact .base ht h4 h5 h2 h3
  nodup := setN_nodup _ _
  base z hz h0 h1 := setN_mem.2 ⟨hz, h0, h1⟩
  done j hj := absurd hj (Nat.not_lt_zero _)
theorem LkWay.end {f : FFont} {fs : List ByteArray} {l : List Int} (h : LkWay f fs l l.length) : setN l f.Lookups.length = reachN f fs := by
  refine setN_reach fun z h0 h1 => ⟨h.reach z, fun hr => ?_⟩
  clear h0 h1
  induction hr with
  | base ht hn hm h0 h1 => exact h.base _ (askN_mem.2 ⟨_, ht, hn, hm⟩) h0 h1
  | call hm hl hk hr hc hn ih =>
    obtain ⟨j, hj⟩ := List.mem_iff_getElem?.1 ih
    exact h.done j (List.getElem?_eq_some_iff.1 hj).1 _ hj _ hl hk _ hr _ hc hn
theorem LkWay.next {f : FFont} {fs : List ByteArray} {l : List Int} {i : Nat} {z : Int} {x : FLookup} (h : LkWay f fs l i) (hz : l[i]? = some z) (hx : f.Lookups[z.toNat]? = some x) (hd : x.Kind = 4 → RulesIn f l x.Rules) : LkWay f fs l (i + 1) where
  reach := h.reach
  nodup := h.nodup
  base := h.base
  done j hj y hy w hw hk := by
    by_cases e : j = i
    · subst e
      rw [hz] at hy
      injection hy with hy
      subst hy
      rw [hx] at hw
      injection hw with hw
      subst hw
      exact hd hk
    · exact h.done j (by omega) y hy w hw hk
theorem kind_callN {f : FFont} {n : Int} {l : FLookup} (hl : f.Lookups[n.toNat]? = some l) : callN f n = true ↔ 0 ≤ n ∧ 1 ≤ l.Kind ∧ l.Kind ≤ 4 := by
  unfold callN
  rw [hl]
  simp only [decide_eq_true_iff]
  omega
set_option maxHeartbeats 2000000 in
theorem lookups_det (f : FFont) (fs : List ByteArray) (hs : Small f) : ADet Tryz.prog 14 [aFont f, .imm 1 (strs fs)] (.imm 1 (ints (reachN f fs))) := by
  refine ac_of Tryz.func14 rfl Tryz.ntmps14 rfl fun B => ?_
  have hF := hs.features
  have hLk := hs.lookups
  (repeat' (first|refine at_seq ?_|refine at_region ?_|refine at_block ?_|refine ax_then ?_|refine atl_nil ?_|refine n_run ttok rfl rfl ?_|refine n_boxI ?_|refine n_lit (n := 0) ttok fun _=>?_|fail))
  rename_i b12
  refine at_loopK [1, 2] (α := Nat × Option (Nat × Nat)) (fun x => [(5, .vec x.2 1 (ints (askN fs (f.Features.take x.1)))), (6, I64 x.1)]) (fun x => x.1 ≤ f.Features.length) (fun x => tok x.2 3 1 (ints (askN fs (f.Features.take x.1))).length) (fun x => f.Features.length - x.1) (0, some (b12, 0)) rfl ⟨rfl, rfl, trivial⟩ (Nat.zero_le _) (fun _ _ h => h) ?_
  rintro ⟨i, k⟩ hi
  dsimp only at hi ⊢
  have hal := askN_len fs f.Features i
  have hfe := hs.feats
  try dsimp only [List.cons_append, List.nil_append, List.map_cons, List.map_nil]
  (repeat' (first|refine at_seq ?_|refine at_region ?_|refine ax_then ?_|refine atl_nil ?_|refine n_run ttok rfl rfl ?_|fail))
  refine at_cond rfl (fun h => ?_) (fun h => ?_)
  · have hil : i < f.Features.length := by have := of_decide_eq_true h; simp at this; omega
    obtain ⟨t, ht⟩ : ∃ z, f.Features[i]? = some z := ⟨_, List.getElem?_eq_getElem hil⟩
    have htg := map_get (c := cFeature) ht
    have had := askN_add fs f.Features i ht
    (repeat' (first|refine at_seq ?_|refine at_region ?_|refine at_block ?_|refine at_skip ?_|refine ax_then ?_|refine atl_nil ?_|refine n_run ttok rfl rfl ?_|(apply s_index; first|refine n_index ttok ?_|refine n_indexP ttok ?_)|(apply s_call;refine n_call ?_)|fail))
    refine at_cond rfl (fun h2 => ?_) (fun h2 => ?_)
    · rw [if_pos h2] at had
      have htl : t.Lookups.length ≤ 2000 := by
        have := sum_mem (g := fun t : FFeature => t.Lookups.length) (List.mem_of_getElem? ht)
        omega
      (repeat' (first|refine at_region ?_|refine n_run ttok rfl rfl ?_|(apply s_index; first|refine n_index ttok ?_|refine n_indexP ttok ?_)|fail))
      refine n_append ttok [] rfl rfl rfl rfl (by simp) (by rw [ints_len, ints_len]; omega) (by rw [ints_len, ints_len]; omega) rfl fun k' => ?_
      (repeat' (first|refine at_region ?_|refine ax_then ?_|refine ax_blk ?_|refine atl_nil ?_|refine n_run ttok rfl rfl ?_|(apply s_bin; refine n_bin ?_)|fail))
      rw [ints_app, ← had]
      refine ax_roundK (i + 1, k') rfl ⟨rfl, by rw [Int.natCast_add]; rfl, trivial⟩ (by dsimp only; omega) (by dsimp only; omega) (fun _ _ h => by simpa using h)
    · rw [h2] at had
      simp only [Bool.false_eq_true, if_false, List.append_nil] at had
      (repeat' (first|refine at_region ?_|refine at_skip ?_|refine ax_then ?_|refine ax_blk ?_|refine atl_nil ?_|refine n_run ttok rfl rfl ?_|(apply s_bin; refine n_bin ?_)|fail))
      rw [← had]
      refine ax_roundK (i + 1, k) rfl ⟨rfl, by rw [Int.natCast_add]; rfl, trivial⟩ (by dsimp only; omega) (by dsimp only; omega) (fun _ _ h => h)
  · have hil : i = f.Features.length := by have := of_decide_eq_false h; simp at this; omega
    subst hil
    rw [List.take_length]
    (repeat' (first|refine at_seq ?_|refine at_region ?_|refine at_exit ?_|refine ax_then ?_|refine ax_then_exit ?_|refine ax_blk_exit ?_|refine ax_loop_exit ?_|refine n_run ttok rfl rfl ?_|fail))
    refine n_callV (set_vec (askN fs f.Features) (f.Lookups.map cLookup).length (by simpa using by omega)) rfl rfl rfl fun k2 => ?_
    rw [List.length_map]
    (repeat' (first|refine at_seq ?_|refine at_region ?_|refine at_block ?_|refine ax_then ?_|refine atl_nil ?_|refine n_run ttok rfl rfl ?_|fail))
    refine at_loopK [2] (α := List Int × Nat × Option (Nat × Nat)) (fun x => [(5, .vec x.2.2 1 (ints x.1)), (7, I64 x.2.1)]) (fun x => x.2.1 ≤ x.1.length ∧ LkWay f fs x.1 x.2.1) (fun x => tok x.2.2 3 1 (ints x.1).length) (fun x => f.Lookups.length - x.2.1) (_, 0, k2) rfl ⟨rfl, rfl, trivial⟩ ⟨Nat.zero_le _, LkWay.start⟩ (fun _ _ h => h.sublist (List.sublist_append_left ..)) ?_
    rintro ⟨l, i, k3⟩ ⟨hi, hw⟩
    dsimp only at hi hw ⊢
    have hll := hw.len
    try dsimp only [List.cons_append, List.nil_append, List.map_cons, List.map_nil]
    (repeat' (first|refine at_seq ?_|refine at_region ?_|refine ax_then ?_|refine atl_nil ?_|refine n_run ttok rfl rfl ?_|fail))
    refine at_cond rfl (fun h => ?_) (fun h => ?_)
    · have hil : i < l.length := by have := of_decide_eq_true h; rw [ints_len] at this; omega
      obtain ⟨z, hz⟩ : ∃ z, l[i]? = some z := ⟨_, List.getElem?_eq_getElem hil⟩
      have hzg := ints_get hz
      have hzr := (hw.reach z (List.mem_of_getElem? hz)).in
      obtain ⟨x, hx⟩ : ∃ x, f.Lookups[z.toNat]? = some x := ⟨_, List.getElem?_eq_getElem (by omega)⟩
      have hxg := map_get (c := cLookup) hx
      (repeat' (first|refine at_seq ?_|refine at_block ?_|refine at_skip ?_|refine ax_then ?_|fail))
      refine at_draw 9 [(0, .v), (1, .v), (2, .v), (3, .v), (4, .v), (5, .v), (6, .v), (7, .v)] (some (8, .box _ 70)) ?_ ⟨_, rfl, rfl, fun _ _ _ => ao_alloc (zI_spec ttok rfl) rfl⟩ rfl (by kernel_rfl) (by kernel_rfl) (by kernel_rfl) mixed (by kernel_rfl) rfl
      (repeat' (first|refine da_open ?_|refine d_run ttok ?_|(apply ds_index;refine d_index ttok ?_)|fail))
      refine da_endA [2, 5, 7, 8, 54] (fun _ => _) (fun _ => rfl) rfl fun _ => ?_
      refine atl_turn (turn_perm List.perm_append_comm) ?_
      (repeat' (first|refine at_seq ?_|refine at_region ?_|refine at_block ?_|refine ax_then ?_|refine atl_nil ?_|refine n_run ttok rfl rfl ?_|(apply s_store; first|refine n_storeF 8 ttok 0 rfl rfl rfl rfl rfl rfl rfl rfl ?_|refine n_storeF 8 ttok 1 rfl rfl rfl rfl rfl rfl rfl rfl ?_|refine n_storeF 8 ttok 2 rfl rfl rfl rfl rfl rfl rfl rfl ?_|refine n_store ttok 0 rfl rfl rfl rfl rfl rfl rfl ?_|refine n_store ttok 1 rfl rfl rfl rfl rfl rfl rfl ?_|refine n_store ttok 2 rfl rfl rfl rfl rfl rfl rfl ?_|refine n_store ttok 3 rfl rfl rfl rfl rfl rfl rfl ?_|fail)|fail))
      have hRl := hs.rulesL (List.mem_of_getElem? hx)
      refine at_loopK [2, 7, 8] (α := List Int × Nat × Option (Nat × Nat)) (fun y => [(5, .vec y.2.2 1 (ints y.1)), (9, I64 y.2.1)]) (fun y => y.2.1 ≤ x.Rules.length ∧ i < y.1.length ∧ y.1[i]? = some z ∧ LkWay f fs y.1 i ∧ (x.Kind = 4 → RulesIn f y.1 (x.Rules.take y.2.1))) (fun x => tok x.2.2 3 1 (ints x.1).length) (fun y => x.Rules.length - y.2.1) (l, 0, k3) rfl ⟨rfl, rfl, trivial⟩ ⟨Nat.zero_le _, hil, hz, hw, fun _ r hr => by cases hr⟩ (fun _ _ h => h) ?_
      clear hi hw hll hil hz hzg h
      rintro ⟨l, k, k3⟩ ⟨hk, hil, hz, hw, hR⟩
      dsimp only at hk hil hz hw hR ⊢
      have hll := hw.len
      try dsimp only [List.cons_append, List.nil_append, List.map_cons, List.map_nil]
      (repeat' (first|refine at_seq ?_|refine at_region ?_|refine n_run ttok rfl rfl ?_|fail))
      refine atl_if [2, 5, 7, 8, 9] (k < x.Rules.length ∧ x.Kind = 4) rfl (fun Q' K => ?_) (fun hC => ?_) (fun hC => ?_)
      · (repeat' (first|refine atl_nil ?_|refine n_run ttok rfl rfl ?_|refine atl_guard_yes rfl rfl ?_|refine atl_guard_no rfl rfl rfl rfl ?_|refine atl_guard rfl rfl rfl (fun _ => ?_) (fun _ => ?_)|fail))
        all_goals exact K _ _ rfl rfl (by simp_all <;> omega)
      · obtain ⟨hkl, hK4⟩ := hC
        obtain ⟨r, hr⟩ : ∃ r, x.Rules[k]? = some r := ⟨_, List.getElem?_eq_getElem hkl⟩
        have hrg := map_get (c := cRule) hr
        have hCl := hs.calls (List.mem_of_getElem? hx) (List.mem_of_getElem? hr)
        (repeat' (first|refine at_seq ?_|refine at_region ?_|refine at_block ?_|refine at_skip ?_|refine ax_then ?_|refine atl_nil ?_|refine n_run ttok rfl rfl ?_|fail))
        refine at_loopK [2, 7, 8, 9] (α := List Int × Nat × Option (Nat × Nat)) (fun y => [(5, .vec y.2.2 1 (ints y.1)), (10, I64 y.2.1)]) (fun y => y.2.1 ≤ r.Calls.length ∧ i < y.1.length ∧ y.1[i]? = some z ∧ LkWay f fs y.1 i ∧ RulesIn f y.1 (x.Rules.take k) ∧ CallsIn f y.1 (r.Calls.take y.2.1)) (fun x => tok x.2.2 3 1 (ints x.1).length) (fun y => r.Calls.length - y.2.1) (l, 0, k3) rfl ⟨rfl, rfl, trivial⟩ ⟨Nat.zero_le _, hil, hz, hw, hR hK4, fun c hc => by cases hc⟩ (fun _ _ h => h) ?_
        clear hil hz hw hR hll
        rintro ⟨l, c, k3⟩ ⟨hc, hil, hz, hw, hR, hCs⟩
        dsimp only at hc hil hz hw hR hCs ⊢
        have hll := hw.len
        try dsimp only [List.cons_append, List.nil_append, List.map_cons, List.map_nil]
        (repeat' (first|refine at_seq ?_|refine at_region ?_|refine ax_then ?_|refine atl_nil ?_|refine n_run ttok rfl rfl ?_|(apply s_index; first|refine n_index ttok ?_|refine n_indexP ttok ?_)|fail))
        refine at_cond rfl (fun h => ?_) (fun h => ?_)
        · have hcl : c < r.Calls.length := by have := of_decide_eq_true h; simp at this; omega
          obtain ⟨q, hq⟩ : ∃ q, r.Calls[c]? = some q := ⟨_, List.getElem?_eq_getElem hcl⟩
          have hqg := map_get (c := cCall) hq
          (repeat' (first|refine at_seq ?_|refine at_region ?_|refine at_block ?_|refine at_skip ?_|refine ax_then ?_|refine atl_nil ?_|refine n_run ttok rfl rfl ?_|(apply s_index; first|refine n_index ttok ?_|refine n_indexP ttok ?_)|fail))
          refine atl_if [2, 5, 7, 8, 9, 10, 11] (callN f q.Lookup = true ∧ q.Lookup ∉ l) rfl (fun Q' K => ?_) (fun hC => ?_) (fun hC => ?_)
          · by_cases hin : 0 ≤ q.Lookup ∧ q.Lookup < f.Lookups.length
            · obtain ⟨y, hy⟩ : ∃ y, f.Lookups[q.Lookup.toNat]? = some y := ⟨_, List.getElem?_eq_getElem (by omega)⟩
              have hyg := map_get (c := cLookup) hy
              have hcn := kind_callN hy
              clear hR hCs hw hz hrg hqg
              (repeat' (first|refine atl_nil ?_|refine n_run ttok rfl rfl ?_|refine atl_guard_yes rfl rfl ?_|refine atl_guard_no rfl rfl rfl rfl ?_|(apply s_index; first|refine n_index ttok ?_|refine n_indexP ttok ?_)|(apply s_call;refine n_call ?_)|refine atl_guard rfl rfl rfl (fun _ => ?_) (fun _ => ?_)|fail))
              all_goals exact K _ _ rfl rfl (by simp_all <;> omega)
            · have hcn : callN f q.Lookup = false := by
                rw [Bool.eq_false_iff]
                exact fun e => hin (callN_in e)
              clear hR hCs hw hz hrg hqg
              (repeat' (first|refine atl_nil ?_|refine n_run ttok rfl rfl ?_|refine atl_guard_yes rfl rfl ?_|refine atl_guard_no rfl rfl rfl rfl ?_|refine atl_guard rfl rfl rfl (fun _ => ?_) (fun _ => ?_)|fail))
              all_goals first
                | exact K _ _ rfl rfl (by simp_all)
                | (rename_i e1 e2; have e3 := of_decide_eq_true e2; rw [List.length_map] at e3; exact absurd ⟨of_decide_eq_true e1, e3⟩ hin)
          · (repeat' (first|refine at_region ?_|refine n_run ttok rfl rfl ?_|refine n_litI ttok ?_|fail))
            refine n_append ttok [] rfl rfl rfl rfl (by simp) (by rw [ints_len]; simp; omega) (by rw [ints_len]; simp; omega) rfl fun k' => ?_
            (repeat' (first|refine at_region ?_|refine ax_then ?_|refine ax_blk ?_|refine atl_nil ?_|refine n_run ttok rfl rfl ?_|(apply s_bin; refine n_bin ?_)|fail))
            have hin : ints l ++ [[I64 q.Lookup]] = ints (l ++ [q.Lookup]) := (ints_app l [q.Lookup])
            have hsub : ∀ z ∈ l, z ∈ l ++ [q.Lookup] := fun z hz => List.mem_append.2 (Or.inl hz)
            rw [hin]
            refine ax_roundK (l ++ [q.Lookup], c + 1, k') rfl ⟨rfl, by rw [Int.natCast_add]; rfl, trivial⟩ ⟨by dsimp only; omega, by dsimp only; rw [List.length_append]; omega, by dsimp only; rw [List.getElem?_append_left hil]; exact hz, hw.add (.call (hw.reach z (List.mem_of_getElem? hz)) hx hK4 (List.mem_of_getElem? hr) (List.mem_of_getElem? hq) hC.1) hC.2 (by omega), hR.mono hsub, ?_⟩ (by dsimp only; omega) (fun _ _ h => by simpa using h)
            intro y hy hyn
            dsimp only at hy ⊢
            rw [List.take_add_one, hq] at hy
            rcases List.mem_append.1 hy with hy | hy
            · exact hsub _ (hCs y hy hyn)
            · simp at hy; subst hy; simp
          · (repeat' (first|refine at_region ?_|refine at_skip ?_|refine ax_then ?_|refine ax_blk ?_|refine atl_nil ?_|refine n_run ttok rfl rfl ?_|(apply s_bin; refine n_bin ?_)|fail))
            refine ax_roundK (l, c + 1, k3) rfl ⟨rfl, by rw [Int.natCast_add]; rfl, trivial⟩ ⟨by dsimp only; omega, hil, hz, hw, hR, ?_⟩ (by dsimp only; omega) (fun _ _ h => h)
            intro y hy hyn
            dsimp only at hy ⊢
            rw [List.take_add_one, hq] at hy
            rcases List.mem_append.1 hy with hy | hy
            · exact hCs y hy hyn
            · simp at hy; subst hy; exact Classical.byContradiction fun hn => hC ⟨hyn, hn⟩
        · have hcl : c = r.Calls.length := by have := of_decide_eq_false h; simp at this; omega
          subst hcl
          rw [List.take_length] at hCs
          (repeat' (first|refine at_region ?_|refine at_exit ?_|refine ax_then ?_|refine ax_then_exit ?_|refine ax_blk ?_|refine ax_blk_exit ?_|refine ax_loop_exit ?_|refine atl_nil ?_|refine n_run ttok rfl rfl ?_|(apply s_bin; refine n_bin ?_)|fail))
          refine ax_roundK (l, k + 1, k3) rfl ⟨rfl, by rw [Int.natCast_add]; rfl, trivial⟩ ⟨by dsimp only; omega, hil, hz, hw, fun _ y hy => ?_⟩ (by dsimp only; omega) (fun _ _ h => h)
          dsimp only at hy ⊢
          rw [List.take_add_one, hr] at hy
          rcases List.mem_append.1 hy with hy | hy
          · exact hR y hy
          · simp at hy; subst hy; exact hCs
      · (repeat' (first|refine at_region ?_|refine at_exit ?_|refine ax_then ?_|refine ax_then_exit ?_|refine ax_blk ?_|refine ax_blk_exit ?_|refine ax_loop_exit ?_|refine atl_nil ?_|refine n_run ttok rfl rfl ?_|(apply s_bin; refine n_bin ?_)|fail))
        refine ax_roundK (l, i + 1, k3) rfl ⟨rfl, by rw [Int.natCast_add]; rfl, trivial⟩ ⟨hil, hw.next hz hx fun hK4 => ?_⟩ (by dsimp only; omega) (fun _ _ h => h)
        have hkl : k = x.Rules.length := by
          have : ¬ k < x.Rules.length := fun h => hC ⟨h, hK4⟩
          omega
        subst hkl
        have := hR hK4
        rwa [List.take_length] at this
    · have hil : i = l.length := by have := of_decide_eq_false h; rw [ints_len] at this; omega
      subst hil
      have hset := AD.mk (P := Tryz.prog) (set_det l (f.Lookups.map cLookup).length (by simpa using by omega))
      rw [List.length_map, hw.end, ← List.length_map (f := cLookup)] at hset
      (repeat' (first|refine at_seq ?_|refine at_region ?_|refine at_ret ?_|refine at_exit ?_|refine ax_then ?_|refine ax_then_exit ?_|refine ax_blk_exit ?_|refine ax_loop_exit ?_|refine atl_nil ?_|refine n_run ttok rfl rfl ?_|(apply s_call;refine n_call ?_)|fail))
      exact ax_ret1I rfl rfl rfl rfl
end Go.Proofs.YtpbinloeemebkaaGreat
