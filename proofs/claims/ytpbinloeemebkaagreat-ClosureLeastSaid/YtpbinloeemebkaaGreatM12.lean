/-
  The program: features; the first thing of a name.
-/
import Derived.Test.YtpbinloeemebkaaGreatM10
import Derived.Test.YtpbinloeemebkaaGreatM07
namespace Go.Proofs.YtpbinloeemebkaaGreat
open Go.RowKit
attribute [local irreducible] AT ATL AX AO Av Kt ALoopK OkA DA DA1
open Go.MapKept
section
variable {P : Program} {r : Option Nat} {ops : Array Oper} {Q : Exit → Act → World → Prop} {nt : Nat} {D : List Deferred} {fr : AFr} {B : Bs} {L : AL} {rest : List Oper} {d : Nat} {ty t : TypeId} {pos : String} {af : Array Edge} {x y z : Operand} {u : AV} {cd : Code}
theorem n_callFD {f : FuncId} {args : Array Operand} {ts : Array TypeId} {cs caps : List AV} {v : AV} [CFn P f] (hc : ADet P f (cs ++ caps) v) (hx : aev fr x = some u) (hu : fnO u = some (f, caps)) (hv : aevs fr args.toList = some cs) (hn : Oper.noDefer ⟨some d, .call ⟨.value x, args, ts⟩, ty, pos, af, none⟩ = true) (hd : Nat.ble nt d = false) (h : ATL P r ops Q nt D rest ((d, v) :: fr) B L) :
    ATL P r ops Q nt D (⟨some d, .call ⟨.value x, args, ts⟩, ty, pos, af, none⟩ :: rest) fr B L :=
  n_callF [] L hc hx hu hv (List.Perm.refl _) hn hd fun c L1 hc => by
    have hc' : c = v := hc
    subst hc'
    exact atl_turn (turn_sub (List.sublist_append_right ..)) h
theorem atl_len (t : Nat) {u : AV} {s : Nat} {l : List (List AV)} (hl : alook fr t = some u) (hu : immO u = some (s, l)) (h : l.length ≤ 9223372036854775807 → ATL P r ops Q nt D rest fr B L) : ATL P r ops Q nt D rest fr B L :=
  atl_get (fun σ a w ha _ => (imm_le (ha.look t u hl) hu).1) h
end
def lateF (t : FFeature) (i : Nat) (l : Int) : Bool := match i with | 0 => false | j + 1 => match t.Lookups[j]? with | some b => decide (l ≤ b) | none => false
def featLkE (f : FFont) (t : FFeature) (i : Nat) (l : Int) : Int := whenE (decide (l < 0 ∨ l ≥ f.Lookups.length) || lateF t i l) 43
set_option maxHeartbeats 1000000 in
theorem feat1_det (f : FFont) (t : FFeature) (i : Nat) (l : Int) (hl : t.Lookups[i]? = some l) (hn : t.Lookups.length ≤ 9223372036854775807) : ADet Tryz.prog 180 [I64 i, I64 l, .iptr (cFont f), .iptr (cFeature t)] (I64 (featLkE f t i l)) := by
  refine ac_of Tryz.func180 rfl Tryz.ntmps180 rfl fun B => ?_
  have hil := (List.getElem?_eq_some_iff.1 hl).1
  unfold featLkE
  cases i with
  | zero =>
    (repeat' (first|refine at_seq ?_|refine at_region ?_|refine ax_then ?_|refine atl_nil ?_|refine n_run ttok rfl rfl ?_|fail))
    refine atl_cut (t := 7) [] (l < 0 ∨ l ≥ f.Lookups.length) rfl (fun Q' K => ?_) ?_
    · (repeat' (first|refine atl_nil ?_|refine n_run ttok rfl rfl ?_|refine atl_guard_yes rfl rfl ?_|refine atl_guard_no rfl rfl rfl rfl ?_|refine atl_guard_undef rfl rfl rfl ?_|refine atl_guard rfl rfl rfl (fun _ => ?_) (fun _ => ?_)|fail))
      all_goals exact K _ _ rfl rfl (by clear K; simp_all <;> omega)
    (repeat' (first|refine at_seq ?_|refine at_region ?_|refine at_ret ?_|refine ax_then ?_|refine atl_nil ?_|refine n_run ttok rfl rfl ?_|(apply s_call;refine n_call ?_)|fail))
    refine ax_ret1 rfl rfl ?_
    simp [lateF]
  | succ j =>
    obtain ⟨b, hb⟩ : ∃ b, t.Lookups[j]? = some b := ⟨_, List.getElem?_eq_getElem (by omega)⟩
    have hbg : (ints t.Lookups)[(((j + 1 : Nat) : Int) - 1).toNat]? = some [I64 b] := by rw [show (((j + 1 : Nat) : Int) - 1).toNat = j by omega]; exact ints_get hb
    have hlt : lateF t (j + 1) l = decide (l ≤ b) := by simp [lateF, hb]
    have hpos : decide (0 < ((j + 1 : Nat) : Int)) = true := decide_eq_true (by omega)
    rw [hlt]
    (repeat' (first|refine at_seq ?_|refine at_region ?_|refine ax_then ?_|refine atl_nil ?_|refine n_run ttok rfl rfl ?_|fail))
    refine atl_cut (t := 7) [] ((l < 0 ∨ l ≥ f.Lookups.length) ∨ l ≤ b) rfl (fun Q' K => ?_) ?_
    · (repeat' (first|refine atl_nil ?_|refine n_run ttok rfl rfl ?_|refine atl_guard_yes rfl rfl ?_|refine atl_guard_no rfl rfl rfl rfl ?_|refine atl_guard_undef rfl rfl rfl ?_|(apply s_bin; refine n_bin ?_)|(apply s_index; first|refine n_index ttok ?_|refine n_indexP ttok ?_)|refine atl_guard rfl rfl rfl (fun _ => ?_) (fun _ => ?_)|fail))
      all_goals exact K _ _ rfl rfl (by clear K; simp_all <;> omega)
    (repeat' (first|refine at_seq ?_|refine at_region ?_|refine at_ret ?_|refine ax_then ?_|refine atl_nil ?_|refine n_run ttok rfl rfl ?_|(apply s_call;refine n_call ?_)|fail))
    refine ax_ret1 rfl rfl ?_
    rw [Bool.decide_or]
def featE (f : FFont) (t : FFeature) (name : Int) : Int := if name ≠ 0 then name else (eachL t.Lookups (featLkE f t)).1
theorem feature_det (f : FFont) (t : FFeature) (name : Int) : ADet Tryz.prog 98 [aFont f, .agg (cFeature t), I64 name] (I64 (featE f t name)) := by
  refine ac_of Tryz.func98 rfl Tryz.ntmps98 rfl fun B => ?_
  unfold featE
  (repeat' (first|refine at_seq ?_|refine at_region ?_|refine ax_then ?_|refine atl_nil ?_|refine n_run ttok rfl rfl ?_|refine n_boxI ?_|fail))
  refine at_cond rfl (fun h => ?_) (fun h => ?_)
  · rw [if_pos (of_decide_eq_true h)]
    (repeat' (first|refine at_seq ?_|refine at_region ?_|refine at_ret ?_|refine ax_then ?_|refine ax_then_ret ?_|refine atl_nil ?_|refine n_run ttok rfl rfl ?_|fail))
    exact ax_ret1 rfl rfl rfl
  rw [if_neg (of_decide_eq_false h)]
  (repeat' (first|refine at_seq ?_|refine at_region ?_|refine at_skip ?_|refine ax_then ?_|refine n_run ttok rfl rfl ?_|fail))
  refine atl_len 14 rfl rfl fun hlen => ?_
  rw [ints_len] at hlen
  refine n_callA [] [] (each164 (u := .fn 180 [.iptr (cFont f), .iptr (cFeature t)]) (g := 180) rfl t.Lookups _ (fun _ _ => True) [] trivial (wrong_det (fun i x hx => feat1_det f t i x hx (by omega)))) rfl rfl (List.Perm.refl _) rfl fun c L1 hc => ?_
  have hc : c = tup2 (eachL t.Lookups (featLkE f t)) := hc
  subst hc
  unfold tup2
  (repeat' (first|refine at_seq ?_|refine at_region ?_|refine at_ret ?_|refine ax_then ?_|refine atl_nil ?_|refine n_run ttok rfl rfl ?_|fail))
  exact ax_ret1 rfl rfl rfl
instance (f : FFont) (t : FFeature) (name : Int) : AD Tryz.prog 98 [aFont f, .agg (cFeature t), I64 name] (I64 (featE f t name)) := ⟨feature_det f t name⟩
def firstAt (names : List ByteArray) (s : ByteArray) : Option Nat := names.findIdx? (fun x => decide (x = s))
def firstM (names : List ByteArray) (v : Value) : Option AV := match v with
  | .string s => (firstAt names s).map fun (n : Nat) => I64 (n : Int)
  | _ => none
theorem firstAt_take {names : List ByteArray} {i : Nat} {s : ByteArray} (h : names[i]? = some s) (q : ByteArray) : firstAt (names.take (i + 1)) q = match firstAt (names.take i) q with | some n => some n | none => if s = q then some i else none := by
  unfold firstAt
  have hlt := (List.getElem?_eq_some_iff.1 h).1
  have hlen : (names.take i).length = i := by rw [List.length_take]; omega
  rw [List.take_add_one, h, Option.toList_some, List.findIdx?_append, hlen]
  cases List.findIdx? (fun x => decide (x = q)) (names.take i) with
  | some n => rfl
  | none =>
    by_cases e : s = q
    · simp [e]
    · simp [e]
theorem firstM_nil : firstM [] = fun _ => none := by
  funext v
  cases v <;> rfl
theorem firstM_some {names : List ByteArray} {s : ByteArray} : (firstM names (.string s)).isSome = (firstAt names s).isSome := by
  show (Option.map (fun n : Nat => I64 (n : Int)) (firstAt names s)).isSome = _
  cases firstAt names s <;> rfl
theorem firstM_known {names : List ByteArray} {i : Nat} {s : ByteArray} (h : names[i]? = some s) (hk : (firstAt (names.take i) s).isSome = true) : firstM (names.take (i + 1)) = firstM (names.take i) := by
  funext v
  cases v with
  | string q =>
    simp only [firstM]
    rw [firstAt_take h]
    cases hq : firstAt (names.take i) q with
    | some n => rfl
    | none =>
      by_cases e : s = q
      · subst e; rw [hq] at hk; cases hk
      · simp [e]
  | _ => rfl
theorem firstM_self {names : List ByteArray} {i : Nat} {s : ByteArray} (h : names[i]? = some s) (hk : (firstAt (names.take i) s).isSome = false) : firstM (names.take (i + 1)) (.string s) = some (I64 i) := by
  simp only [firstM]
  rw [firstAt_take h]
  cases hq : firstAt (names.take i) s with
  | some n => rw [hq] at hk; cases hk
  | none => simp
theorem firstM_other {names : List ByteArray} {i : Nat} {s : ByteArray} (h : names[i]? = some s) (q : Value) (hne : q ≠ .string s) : firstM (names.take (i + 1)) q = firstM (names.take i) q := by
  cases q with
  | string q =>
    have hne' : s ≠ q := fun e => hne (by rw [e])
    simp only [firstM]
    rw [firstAt_take h]
    cases hq : firstAt (names.take i) q with
    | some n => rfl
    | none => simp [hne']
  | _ => rfl
theorem name75_det (g : FGlyph) : ADet Tryz.prog 75 [.agg (cGlyph g)] (Str g.Name) := by
  refine ac_of Tryz.func75 rfl Tryz.ntmps75 rfl fun B => ?_
  (repeat' (first|refine at_seq ?_|refine at_region ?_|refine at_ret ?_|refine ax_then ?_|refine atl_nil ?_|refine n_run ttok rfl rfl ?_|refine n_boxI ?_|fail))
  exact ax_ret1 rfl rfl rfl
theorem name77_det (g : FFeature) : ADet Tryz.prog 77 [.agg (cFeature g)] (Str g.Name) := by
  refine ac_of Tryz.func77 rfl Tryz.ntmps77 rfl fun B => ?_
  (repeat' (first|refine at_seq ?_|refine at_region ?_|refine at_ret ?_|refine ax_then ?_|refine atl_nil ?_|refine n_run ttok rfl rfl ?_|refine n_boxI ?_|fail))
  exact ax_ret1 rfl rfl rfl
theorem name79_det (g : FAxis) : ADet Tryz.prog 79 [.agg (cAxis g)] (Str g.Name) := by
  refine ac_of Tryz.func79 rfl Tryz.ntmps79 rfl fun B => ?_
  (repeat' (first|refine at_seq ?_|refine at_region ?_|refine at_ret ?_|refine ax_then ?_|refine atl_nil ?_|refine n_run ttok rfl rfl ?_|refine n_boxI ?_|fail))
  exact ax_ret1 rfl rfl rfl
set_option maxHeartbeats 1000000 in
theorem firsts74 (l : List FGlyph) : AC Tryz.prog 74 [.imm 9 (l.map cGlyph), .sc (.func (.func 75) #[] #[])] [] fun c L => ∃ m, c = .sc (.map (some m)) ∧ L = [(m, mapB .string (firstM (l.map FGlyph.Name)))] := by
  refine ac_of Tryz.func74 rfl Tryz.ntmps74 rfl fun B => ?_
  refine at_len 0 rfl rfl fun hlen => ?_
  rw [List.length_map] at hlen
  (repeat' (first|refine at_seq ?_|refine at_region ?_|refine ax_then ?_|refine atl_nil ?_|refine n_run ttok rfl rfl ?_|fail))
  refine n_makeMap .string fun m => ?_
  (repeat' (first|refine at_seq ?_|refine at_region ?_|refine at_block ?_|refine ax_then ?_|refine atl_nil ?_|refine n_run ttok rfl rfl ?_|fail))
  refine at_loopK [1, 5, 11, 12] (α := Nat) (fun i => [(13, I64 i)]) (fun i => i ≤ l.length) (fun i => [(m, mapB .string (firstM ((l.map FGlyph.Name).take i)))]) (fun i => l.length - i) 0 rfl ⟨rfl, trivial⟩ (Nat.zero_le _) (fun _ _ h => by rw [List.take_zero, firstM_nil]; exact h) fun i hi => ?_
  try dsimp only [List.cons_append, List.nil_append, List.map_cons, List.map_nil]
  (repeat' (first|refine at_seq ?_|refine at_region ?_|refine ax_then ?_|refine atl_nil ?_|refine n_run ttok rfl rfl ?_|fail))
  refine at_cond rfl (fun h => ?_) (fun h => ?_)
  · have hil : i < l.length := by have := of_decide_eq_true h; simp at this; omega
    obtain ⟨z, hz⟩ : ∃ z, l[i]? = some z := ⟨_, List.getElem?_eq_getElem hil⟩
    have hzg := map_get (c := cGlyph) hz
    have hzn : (l.map FGlyph.Name)[i]? = some z.Name := by rw [List.getElem?_map, hz]; rfl
    (repeat' (first|refine at_seq ?_|refine at_region ?_|refine at_block ?_|refine at_skip ?_|refine ax_then ?_|refine atl_nil ?_|refine n_run ttok rfl rfl ?_|(apply s_index; first|refine n_index ttok ?_|refine n_indexP ttok ?_)|(apply s_store; first|refine n_storeF 7 ttok 0 rfl rfl rfl rfl rfl rfl rfl rfl ?_|refine n_storeF 7 ttok 1 rfl rfl rfl rfl rfl rfl rfl rfl ?_|refine n_storeF 7 ttok 2 rfl rfl rfl rfl rfl rfl rfl rfl ?_|refine n_store ttok 0 rfl rfl rfl rfl rfl rfl rfl ?_|refine n_store ttok 1 rfl rfl rfl rfl rfl rfl rfl ?_|refine n_store ttok 2 rfl rfl rfl rfl rfl rfl rfl ?_|refine n_store ttok 3 rfl rfl rfl rfl rfl rfl rfl ?_|fail)|refine n_alloc ttok fun _=>?_|fail))
    refine n_callFD (cs := [.agg (cGlyph z)]) (caps := []) (name75_det z) rfl rfl rfl rfl rfl ?_
    (repeat' (first|fail))
    refine n_lookup2 0 (.int .i64 0) Tryz.underlying164 Tryz.underlying9 rfl rfl trivial rfl (by kernel_rfl) rfl ?_
    rw [firstM_some]
    (repeat' (first|refine at_seq ?_|refine at_region ?_|refine ax_then ?_|refine atl_nil ?_|refine n_run ttok rfl rfl ?_|fail))
    refine at_cond rfl (fun h2 => ?_) (fun h2 => ?_)
    · have h2' : (firstAt ((l.map FGlyph.Name).take i) z.Name).isSome = false := by simpa using h2
      (repeat' (first|refine at_region ?_|refine n_run ttok rfl rfl ?_|fail))
      refine n_callFD (cs := [.agg (cGlyph z)]) (caps := []) (name75_det z) rfl rfl rfl rfl rfl ?_
      (repeat' (first|refine n_run ttok rfl rfl ?_|fail))
      refine n_mapUpdate 0 (firstM ((l.map FGlyph.Name).take (i + 1))) Tryz.underlying164 Tryz.underlying9 rfl rfl trivial rfl rfl (firstM_self hzn h2') (firstM_other hzn) ?_
      (repeat' (first|refine at_region ?_|refine ax_then ?_|refine ax_blk ?_|refine atl_nil ?_|refine n_run ttok rfl rfl ?_|(apply s_bin; refine n_bin ?_)|fail))
      exact ax_roundK (i + 1) rfl ⟨by rw [Int.natCast_add]; rfl, trivial⟩ (by omega) (by omega) (fun _ _ h => h)
    · have h2' : (firstAt ((l.map FGlyph.Name).take i) z.Name).isSome = true := by simpa using h2
      (repeat' (first|refine at_region ?_|refine at_skip ?_|refine ax_then ?_|refine ax_blk ?_|refine atl_nil ?_|refine n_run ttok rfl rfl ?_|(apply s_bin; refine n_bin ?_)|fail))
      exact ax_roundK (i + 1) rfl ⟨by rw [Int.natCast_add]; rfl, trivial⟩ (by omega) (by omega) (fun _ _ h => by rw [firstM_known hzn h2']; exact h)
  · have hil : i = l.length := by have := of_decide_eq_false h; simp at this; omega
    subst hil
    rw [List.take_of_length_le (by simp)]
    (repeat' (first|refine at_seq ?_|refine at_region ?_|refine at_ret ?_|refine at_exit ?_|refine ax_then ?_|refine ax_then_exit ?_|refine ax_blk_exit ?_|refine ax_loop_exit ?_|refine atl_nil ?_|refine n_run ttok rfl rfl ?_|fail))
    exact ax_ret1 rfl rfl ⟨_, rfl, rfl⟩
set_option maxHeartbeats 1000000 in
theorem firsts76 (l : List FFeature) : AC Tryz.prog 76 [.imm 2 (l.map cFeature), .sc (.func (.func 77) #[] #[])] [] fun c L => ∃ m, c = .sc (.map (some m)) ∧ L = [(m, mapB .string (firstM (l.map FFeature.Name)))] := by
  refine ac_of Tryz.func76 rfl Tryz.ntmps76 rfl fun B => ?_
  refine at_len 0 rfl rfl fun hlen => ?_
  rw [List.length_map] at hlen
  (repeat' (first|refine at_seq ?_|refine at_region ?_|refine ax_then ?_|refine atl_nil ?_|refine n_run ttok rfl rfl ?_|fail))
  refine n_makeMap .string fun m => ?_
  (repeat' (first|refine at_seq ?_|refine at_region ?_|refine at_block ?_|refine ax_then ?_|refine atl_nil ?_|refine n_run ttok rfl rfl ?_|fail))
  refine at_loopK [1, 5, 11, 12] (α := Nat) (fun i => [(13, I64 i)]) (fun i => i ≤ l.length) (fun i => [(m, mapB .string (firstM ((l.map FFeature.Name).take i)))]) (fun i => l.length - i) 0 rfl ⟨rfl, trivial⟩ (Nat.zero_le _) (fun _ _ h => by rw [List.take_zero, firstM_nil]; exact h) fun i hi => ?_
  try dsimp only [List.cons_append, List.nil_append, List.map_cons, List.map_nil]
  (repeat' (first|refine at_seq ?_|refine at_region ?_|refine ax_then ?_|refine atl_nil ?_|refine n_run ttok rfl rfl ?_|fail))
  refine at_cond rfl (fun h => ?_) (fun h => ?_)
  · have hil : i < l.length := by have := of_decide_eq_true h; simp at this; omega
    obtain ⟨z, hz⟩ : ∃ z, l[i]? = some z := ⟨_, List.getElem?_eq_getElem hil⟩
    have hzg := map_get (c := cFeature) hz
    have hzn : (l.map FFeature.Name)[i]? = some z.Name := by rw [List.getElem?_map, hz]; rfl
    (repeat' (first|refine at_seq ?_|refine at_region ?_|refine at_block ?_|refine at_skip ?_|refine ax_then ?_|refine atl_nil ?_|refine n_run ttok rfl rfl ?_|(apply s_index; first|refine n_index ttok ?_|refine n_indexP ttok ?_)|(apply s_store; first|refine n_storeF 7 ttok 0 rfl rfl rfl rfl rfl rfl rfl rfl ?_|refine n_storeF 7 ttok 1 rfl rfl rfl rfl rfl rfl rfl rfl ?_|refine n_storeF 7 ttok 2 rfl rfl rfl rfl rfl rfl rfl rfl ?_|refine n_store ttok 0 rfl rfl rfl rfl rfl rfl rfl ?_|refine n_store ttok 1 rfl rfl rfl rfl rfl rfl rfl ?_|refine n_store ttok 2 rfl rfl rfl rfl rfl rfl rfl ?_|refine n_store ttok 3 rfl rfl rfl rfl rfl rfl rfl ?_|fail)|refine n_alloc ttok fun _=>?_|fail))
    refine n_callFD (cs := [.agg (cFeature z)]) (caps := []) (name77_det z) rfl rfl rfl rfl rfl ?_
    (repeat' (first|fail))
    refine n_lookup2 0 (.int .i64 0) Tryz.underlying164 Tryz.underlying9 rfl rfl trivial rfl (by kernel_rfl) rfl ?_
    rw [firstM_some]
    (repeat' (first|refine at_seq ?_|refine at_region ?_|refine ax_then ?_|refine atl_nil ?_|refine n_run ttok rfl rfl ?_|fail))
    refine at_cond rfl (fun h2 => ?_) (fun h2 => ?_)
    · have h2' : (firstAt ((l.map FFeature.Name).take i) z.Name).isSome = false := by simpa using h2
      (repeat' (first|refine at_region ?_|refine n_run ttok rfl rfl ?_|fail))
      refine n_callFD (cs := [.agg (cFeature z)]) (caps := []) (name77_det z) rfl rfl rfl rfl rfl ?_
      (repeat' (first|refine n_run ttok rfl rfl ?_|fail))
      refine n_mapUpdate 0 (firstM ((l.map FFeature.Name).take (i + 1))) Tryz.underlying164 Tryz.underlying9 rfl rfl trivial rfl rfl (firstM_self hzn h2') (firstM_other hzn) ?_
      (repeat' (first|refine at_region ?_|refine ax_then ?_|refine ax_blk ?_|refine atl_nil ?_|refine n_run ttok rfl rfl ?_|(apply s_bin; refine n_bin ?_)|fail))
      exact ax_roundK (i + 1) rfl ⟨by rw [Int.natCast_add]; rfl, trivial⟩ (by omega) (by omega) (fun _ _ h => h)
    · have h2' : (firstAt ((l.map FFeature.Name).take i) z.Name).isSome = true := by simpa using h2
      (repeat' (first|refine at_region ?_|refine at_skip ?_|refine ax_then ?_|refine ax_blk ?_|refine atl_nil ?_|refine n_run ttok rfl rfl ?_|(apply s_bin; refine n_bin ?_)|fail))
      exact ax_roundK (i + 1) rfl ⟨by rw [Int.natCast_add]; rfl, trivial⟩ (by omega) (by omega) (fun _ _ h => by rw [firstM_known hzn h2']; exact h)
  · have hil : i = l.length := by have := of_decide_eq_false h; simp at this; omega
    subst hil
    rw [List.take_of_length_le (by simp)]
    (repeat' (first|refine at_seq ?_|refine at_region ?_|refine at_ret ?_|refine at_exit ?_|refine ax_then ?_|refine ax_then_exit ?_|refine ax_blk_exit ?_|refine ax_loop_exit ?_|refine atl_nil ?_|refine n_run ttok rfl rfl ?_|fail))
    exact ax_ret1 rfl rfl ⟨_, rfl, rfl⟩
set_option maxHeartbeats 1000000 in
theorem firsts78 (l : List FAxis) : AC Tryz.prog 78 [.imm 4 (l.map cAxis), .sc (.func (.func 79) #[] #[])] [] fun c L => ∃ m, c = .sc (.map (some m)) ∧ L = [(m, mapB .string (firstM (l.map FAxis.Name)))] := by
  refine ac_of Tryz.func78 rfl Tryz.ntmps78 rfl fun B => ?_
  refine at_len 0 rfl rfl fun hlen => ?_
  rw [List.length_map] at hlen
  (repeat' (first|refine at_seq ?_|refine at_region ?_|refine ax_then ?_|refine atl_nil ?_|refine n_run ttok rfl rfl ?_|fail))
  refine n_makeMap .string fun m => ?_
  (repeat' (first|refine at_seq ?_|refine at_region ?_|refine at_block ?_|refine ax_then ?_|refine atl_nil ?_|refine n_run ttok rfl rfl ?_|fail))
  refine at_loopK [1, 5, 11, 12] (α := Nat) (fun i => [(13, I64 i)]) (fun i => i ≤ l.length) (fun i => [(m, mapB .string (firstM ((l.map FAxis.Name).take i)))]) (fun i => l.length - i) 0 rfl ⟨rfl, trivial⟩ (Nat.zero_le _) (fun _ _ h => by rw [List.take_zero, firstM_nil]; exact h) fun i hi => ?_
  try dsimp only [List.cons_append, List.nil_append, List.map_cons, List.map_nil]
  (repeat' (first|refine at_seq ?_|refine at_region ?_|refine ax_then ?_|refine atl_nil ?_|refine n_run ttok rfl rfl ?_|fail))
  refine at_cond rfl (fun h => ?_) (fun h => ?_)
  · have hil : i < l.length := by have := of_decide_eq_true h; simp at this; omega
    obtain ⟨z, hz⟩ : ∃ z, l[i]? = some z := ⟨_, List.getElem?_eq_getElem hil⟩
    have hzg := map_get (c := cAxis) hz
    have hzn : (l.map FAxis.Name)[i]? = some z.Name := by rw [List.getElem?_map, hz]; rfl
    (repeat' (first|refine at_seq ?_|refine at_region ?_|refine at_block ?_|refine at_skip ?_|refine ax_then ?_|refine atl_nil ?_|refine n_run ttok rfl rfl ?_|(apply s_index; first|refine n_index ttok ?_|refine n_indexP ttok ?_)|(apply s_store; first|refine n_storeF 7 ttok 0 rfl rfl rfl rfl rfl rfl rfl rfl ?_|refine n_storeF 7 ttok 1 rfl rfl rfl rfl rfl rfl rfl rfl ?_|refine n_storeF 7 ttok 2 rfl rfl rfl rfl rfl rfl rfl rfl ?_|refine n_store ttok 0 rfl rfl rfl rfl rfl rfl rfl ?_|refine n_store ttok 1 rfl rfl rfl rfl rfl rfl rfl ?_|refine n_store ttok 2 rfl rfl rfl rfl rfl rfl rfl ?_|refine n_store ttok 3 rfl rfl rfl rfl rfl rfl rfl ?_|fail)|refine n_alloc ttok fun _=>?_|fail))
    refine n_callFD (cs := [.agg (cAxis z)]) (caps := []) (name79_det z) rfl rfl rfl rfl rfl ?_
    (repeat' (first|fail))
    refine n_lookup2 0 (.int .i64 0) Tryz.underlying164 Tryz.underlying9 rfl rfl trivial rfl (by kernel_rfl) rfl ?_
    rw [firstM_some]
    (repeat' (first|refine at_seq ?_|refine at_region ?_|refine ax_then ?_|refine atl_nil ?_|refine n_run ttok rfl rfl ?_|fail))
    refine at_cond rfl (fun h2 => ?_) (fun h2 => ?_)
    · have h2' : (firstAt ((l.map FAxis.Name).take i) z.Name).isSome = false := by simpa using h2
      (repeat' (first|refine at_region ?_|refine n_run ttok rfl rfl ?_|fail))
      refine n_callFD (cs := [.agg (cAxis z)]) (caps := []) (name79_det z) rfl rfl rfl rfl rfl ?_
      (repeat' (first|refine n_run ttok rfl rfl ?_|fail))
      refine n_mapUpdate 0 (firstM ((l.map FAxis.Name).take (i + 1))) Tryz.underlying164 Tryz.underlying9 rfl rfl trivial rfl rfl (firstM_self hzn h2') (firstM_other hzn) ?_
      (repeat' (first|refine at_region ?_|refine ax_then ?_|refine ax_blk ?_|refine atl_nil ?_|refine n_run ttok rfl rfl ?_|(apply s_bin; refine n_bin ?_)|fail))
      exact ax_roundK (i + 1) rfl ⟨by rw [Int.natCast_add]; rfl, trivial⟩ (by omega) (by omega) (fun _ _ h => h)
    · have h2' : (firstAt ((l.map FAxis.Name).take i) z.Name).isSome = true := by simpa using h2
      (repeat' (first|refine at_region ?_|refine at_skip ?_|refine ax_then ?_|refine ax_blk ?_|refine atl_nil ?_|refine n_run ttok rfl rfl ?_|(apply s_bin; refine n_bin ?_)|fail))
      exact ax_roundK (i + 1) rfl ⟨by rw [Int.natCast_add]; rfl, trivial⟩ (by omega) (by omega) (fun _ _ h => by rw [firstM_known hzn h2']; exact h)
  · have hil : i = l.length := by have := of_decide_eq_false h; simp at this; omega
    subst hil
    rw [List.take_of_length_le (by simp)]
    (repeat' (first|refine at_seq ?_|refine at_region ?_|refine at_ret ?_|refine at_exit ?_|refine ax_then ?_|refine ax_then_exit ?_|refine ax_blk_exit ?_|refine ax_loop_exit ?_|refine atl_nil ?_|refine n_run ttok rfl rfl ?_|fail))
    exact ax_ret1 rfl rfl ⟨_, rfl, rfl⟩
end Go.Proofs.YtpbinloeemebkaaGreat

namespace Go.Proofs.YtpbinloeemebkaaGreat
open Go.RowKit
attribute [local irreducible] AT ATL AX AO Av Kt ALoopK OkA DA DA1
theorem firstM_getD (names : List ByteArray) (s : ByteArray) : (firstM names (.string s)).getD (.sc (.int .i64 0)) = I64 ((firstAt names s).getD 0 : Nat) := by
  show (Option.map (fun n : Nat => I64 (n : Int)) (firstAt names s)).getD (.sc (.int .i64 0)) = _
  cases firstAt names s <;> rfl
def takenN (names : List ByteArray) (i : Nat) (s : ByteArray) : Bool := decide ((((firstAt names s).getD 0 : Nat) : Int) < (i : Int))
def gNames (f : FFont) : List ByteArray := f.Glyphs.map FGlyph.Name
def tNames (f : FFont) : List ByteArray := f.Features.map FFeature.Name
def aNames (f : FFont) : List ByteArray := f.Axes.map FAxis.Name
def glyphAtE (f : FFont) (i : Nat) (g : FGlyph) : Int := glyphE f g (faultE (isNameB g.Name) (takenN (gNames f) i g.Name))
def featAtE (f : FFont) (i : Nat) (t : FFeature) : Int := featE f t (faultE (isLettersB t.Name) (takenN (tNames f) i t.Name))
def axisAtE (f : FFont) (i : Nat) (a : FAxis) : Int := axisE a (faultE (isNameB a.Name) (takenN (aNames f) i a.Name))
set_option maxHeartbeats 1000000 in
theorem glyphAt_ac (f : FFont) (i : Nat) (g : FGlyph) (m : Nat) : AC Tryz.prog 84 [I64 i, .agg (cGlyph g), .iptr (cFont f), .iptr [.sc (.map (some m))]] [(m, mapB .string (firstM (gNames f)))] fun c L => c = I64 (glyphAtE f i g) ∧ L = [(m, mapB .string (firstM (gNames f)))] := by
  refine ac_of Tryz.func84 rfl Tryz.ntmps84 rfl fun B => ?_
  (repeat' (first|refine at_seq ?_|refine at_region ?_|refine ax_then ?_|refine atl_nil ?_|refine n_run ttok rfl rfl ?_|refine n_boxI ?_|fail))
  refine at_draw 12 [(0, .v), (1, .v), (2, .v), (3, .v), (4, .v), (5, .v), (6, .v), (7, .v), (9, .v), (8, .e), (10, .v), (11, .v)] none ?_ trivial rfl (by kernel_rfl) (by kernel_rfl) (by kernel_rfl) mixed (by kernel_rfl) rfl
  (repeat' (first|refine da_open ?_|refine d_run ttok ?_|(apply ds_call;refine d_call ?_)|fail))
  refine d_lookup 0 (.int .i64 0) Tryz.underlying164 Tryz.underlying9 rfl rfl trivial rfl (by kernel_rfl) trivial ?_
  rw [firstM_getD]
  (repeat' (first|refine da_open ?_|refine d_run ttok ?_|(apply ds_call;refine d_call ?_)|fail))
  refine da_end [7, 8, 18] rfl rfl ?_
  (repeat' (first|refine at_ret ?_|refine ax_then ?_|refine atl_nil ?_|refine n_run ttok rfl rfl ?_|(apply s_call;refine n_call ?_)|fail))
  exact ax_ret1 rfl rfl ⟨rfl, rfl⟩
set_option maxHeartbeats 1000000 in
theorem featAt_ac (f : FFont) (i : Nat) (t : FFeature) (m : Nat) : AC Tryz.prog 97 [I64 i, .agg (cFeature t), .iptr (cFont f), .iptr [.sc (.map (some m))]] [(m, mapB .string (firstM (tNames f)))] fun c L => c = I64 (featAtE f i t) ∧ L = [(m, mapB .string (firstM (tNames f)))] := by
  refine ac_of Tryz.func97 rfl Tryz.ntmps97 rfl fun B => ?_
  (repeat' (first|refine at_seq ?_|refine at_region ?_|refine ax_then ?_|refine atl_nil ?_|refine n_run ttok rfl rfl ?_|refine n_boxI ?_|fail))
  refine at_draw 12 [(0, .v), (1, .v), (2, .v), (3, .v), (4, .v), (5, .v), (6, .v), (7, .v), (9, .v), (8, .e), (10, .v), (11, .v)] none ?_ trivial rfl (by kernel_rfl) (by kernel_rfl) (by kernel_rfl) mixed (by kernel_rfl) rfl
  (repeat' (first|refine da_open ?_|refine d_run ttok ?_|(apply ds_call;refine d_call ?_)|fail))
  refine d_lookup 0 (.int .i64 0) Tryz.underlying164 Tryz.underlying9 rfl rfl trivial rfl (by kernel_rfl) trivial ?_
  rw [firstM_getD]
  (repeat' (first|refine da_open ?_|refine d_run ttok ?_|(apply ds_call;refine d_call ?_)|fail))
  refine da_end [7, 8, 18] rfl rfl ?_
  (repeat' (first|refine at_ret ?_|refine ax_then ?_|refine atl_nil ?_|refine n_run ttok rfl rfl ?_|(apply s_call;refine n_call ?_)|fail))
  exact ax_ret1 rfl rfl ⟨rfl, rfl⟩
set_option maxHeartbeats 1000000 in
theorem axisAt_ac (f : FFont) (i : Nat) (a : FAxis) (m : Nat) : AC Tryz.prog 101 [I64 i, .agg (cAxis a), .iptr [.sc (.map (some m))]] [(m, mapB .string (firstM (aNames f)))] fun c L => c = I64 (axisAtE f i a) ∧ L = [(m, mapB .string (firstM (aNames f)))] := by
  refine ac_of Tryz.func101 rfl Tryz.ntmps101 rfl fun B => ?_
  (repeat' (first|refine at_seq ?_|refine at_region ?_|refine ax_then ?_|refine atl_nil ?_|refine n_run ttok rfl rfl ?_|refine n_boxI ?_|fail))
  refine at_draw 11 [(0, .v), (1, .v), (2, .v), (3, .v), (4, .v), (5, .v), (6, .v), (8, .v), (7, .e), (9, .v), (10, .v)] none ?_ trivial rfl (by kernel_rfl) (by kernel_rfl) (by kernel_rfl) mixed (by kernel_rfl) rfl
  (repeat' (first|refine da_open ?_|refine d_run ttok ?_|(apply ds_call;refine d_call ?_)|fail))
  refine d_lookup 0 (.int .i64 0) Tryz.underlying164 Tryz.underlying9 rfl rfl trivial rfl (by kernel_rfl) trivial ?_
  rw [firstM_getD]
  (repeat' (first|refine da_open ?_|refine d_run ttok ?_|(apply ds_call;refine d_call ?_)|fail))
  refine da_end [6, 16] rfl rfl ?_
  (repeat' (first|refine at_ret ?_|refine ax_then ?_|refine atl_nil ?_|refine n_run ttok rfl rfl ?_|(apply s_call;refine n_call ?_)|fail))
  exact ax_ret1 rfl rfl ⟨rfl, rfl⟩
end Go.Proofs.YtpbinloeemebkaaGreat

namespace Go.Proofs.YtpbinloeemebkaaGreat
open Go.RowKit
attribute [local irreducible] AT ATL AX AO Av Kt ALoopK OkA DA DA1
theorem grow_ac (n : Nat) (hn : n ≤ 1000000) : AC Tryz.prog 113 [.sc (.slice none 0 0), I64 n] [] fun c L => ∃ k, c = .vec k 1 [] ∧ L = tok k 29 1 0 := by
  refine ac_of Tryz.func113 rfl Tryz.ntmps113 rfl fun B => ?_
  (repeat' (first|refine at_seq ?_|refine at_region ?_|refine at_skip ?_|refine ax_then ?_|refine atl_nil ?_|refine n_run ttok rfl rfl ?_|refine n_condF rfl ?_|fail))
  refine n_capS ttok rfl rfl rfl ?_
  (repeat' (first|refine at_seq ?_|refine at_region ?_|refine ax_then ?_|refine atl_nil ?_|refine n_run ttok rfl rfl ?_|(apply s_bin; refine n_bin ?_)|fail))
  by_cases h0 : n = 0
  · subst h0
    (repeat' (first|refine at_seq ?_|refine at_region ?_|refine at_skip ?_|refine at_ret ?_|refine ax_then ?_|refine atl_nil ?_|refine n_run ttok rfl rfl ?_|refine n_condF rfl ?_|fail))
    refine ax_turn (turn_val (t := 4) (c' := .vec none 1 []) rfl fun σ v h => vr_nil 1 h) (ax_ret1 rfl rfl ⟨none, rfl, rfl⟩)
  · refine at_cond rfl (fun h2 => ?_) (fun h2 => ?_)
    · (repeat' (first|refine at_region ?_|refine n_run ttok rfl rfl ?_|fail))
      refine n_capS ttok rfl rfl rfl ?_
      (repeat' (first|fail))
      refine n_cutN ttok rfl rfl rfl rfl ?_
      (repeat' (first|refine n_run ttok rfl rfl ?_|fail))
      refine n_appendZ ttok n rfl Tryz.underlying3 rfl rfl (by omega) (by omega) (by omega) (by omega) rfl fun b cap h3 h4 => ?_
      (repeat' (first|refine n_run ttok rfl rfl ?_|fail))
      refine n_cutB ttok 0 rfl rfl rfl rfl (by omega) (by omega) rfl ?_
      (repeat' (first|refine at_seq ?_|refine at_region ?_|refine at_ret ?_|refine ax_then ?_|refine atl_nil ?_|refine n_run ttok rfl rfl ?_|fail))
      refine ax_turn (turn_val (t := 4) (c' := .vec (some (b, cap)) 1 []) rfl fun σ v h => vr_vec0 h4 h) (ax_ret1 rfl rfl ⟨some (b, cap), rfl, rfl⟩)
    · exact absurd (of_decide_eq_false h2) (by omega)
def rowsR (l : List (List (List Int))) : List (List AV) := l.map fun r => [.imm 1 (rowsI r)]
def sumLen (l : List (List (List Int))) : Nat := (l.map List.length).sum
theorem sumLen_take {l : List (List (List Int))} {i : Nat} {r : List (List Int)} (h : l[i]? = some r) : sumLen (l.take (i + 1)) = sumLen (l.take i) + r.length := by
  unfold sumLen
  rw [List.take_add_one, h]
  simp
theorem sumLen_le (l : List (List (List Int))) (i : Nat) : sumLen (l.take i) ≤ sumLen l := by
  have h : ((l.take i ++ l.drop i).map List.length).sum = (l.map List.length).sum := by rw [List.take_append_drop]
  rw [List.map_append, List.sum_append] at h
  unfold sumLen
  omega
theorem flat_sum (l : List (List (List Int))) : l.flatten.length = sumLen l := by
  unfold sumLen
  rw [List.length_flatten]
theorem rowsI_app (a b : List (List Int)) : rowsI a ++ rowsI b = rowsI (a ++ b) := by unfold rowsI; rw [List.map_append]
set_option maxHeartbeats 1000000 in
theorem concat_det (l : List (List (List Int))) (hs : sumLen l ≤ 1000000) : ADet Tryz.prog 55 [.imm 1 (rowsR l)] (.imm 1 (rowsI l.flatten)) := by
  refine ac_of Tryz.func55 rfl Tryz.ntmps55 rfl fun B => ?_
  have hrl : (rowsR l).length = l.length := by simp [rowsR]
  refine at_len 0 rfl rfl fun hlen => ?_
  rw [hrl] at hlen
  (repeat' (first|refine at_seq ?_|refine at_region ?_|refine at_block ?_|refine ax_then ?_|refine atl_nil ?_|refine n_run ttok rfl rfl ?_|fail))
  refine at_loopK [0, 9, 10] (α := Nat) (fun i => [(11, I64 i), (3, I64 (sumLen (l.take i)))]) (fun i => i ≤ l.length) (fun _ => []) (fun i => l.length - i) 0 rfl ⟨rfl, rfl, trivial⟩ (Nat.zero_le _) (fun _ _ h => h) fun i hi => ?_
  try dsimp only [List.cons_append, List.nil_append, List.map_cons, List.map_nil]
  (repeat' (first|refine at_seq ?_|refine at_region ?_|refine ax_then ?_|refine atl_nil ?_|refine n_run ttok rfl rfl ?_|fail))
  refine at_cond rfl (fun h => ?_) (fun h => ?_)
  · have hil : i < l.length := by have := of_decide_eq_true h; rw [hrl] at this; omega
    obtain ⟨z, hz⟩ : ∃ z, l[i]? = some z := ⟨_, List.getElem?_eq_getElem hil⟩
    have hzg : (rowsR l)[i]? = some [.imm 1 (rowsI z)] := by simp [rowsR, hz]
    have hsz := sumLen_take hz
    have hle := sumLen_le l (i + 1)
    have hzl : (rowsI z).length = z.length := by simp [rowsI]
    (repeat' (first|refine at_seq ?_|refine at_region ?_|refine at_block ?_|refine at_skip ?_|refine ax_then ?_|refine ax_blk ?_|refine atl_nil ?_|refine n_run ttok rfl rfl ?_|(apply s_bin; refine n_bin ?_)|(apply s_index; first|refine n_index ttok ?_|refine n_indexP ttok ?_)|refine n_condF rfl ?_|fail))
    exact ax_roundK (i + 1) rfl ⟨by rw [Int.natCast_add]; rfl, by rw [hsz, Int.natCast_add, hzl]; rfl, trivial⟩ (by omega) (by omega) (fun _ _ h => h)
  have hil : i = l.length := by have := of_decide_eq_false h; rw [hrl] at this; omega
  subst hil
  rw [List.take_length]
  clear h
  (repeat' (first|refine at_seq ?_|refine at_region ?_|refine at_exit ?_|refine ax_then ?_|refine ax_then_exit ?_|refine ax_blk_exit ?_|refine ax_loop_exit ?_|refine n_run ttok rfl rfl ?_|fail))
  refine n_callA [] [] (grow_ac (sumLen l) hs) rfl rfl (List.Perm.refl _) rfl fun c L1 ⟨k, hc, hL⟩ => ?_
  subst hc; subst hL
  rw [List.append_nil]
  (repeat' (first|refine at_seq ?_|refine at_region ?_|refine at_block ?_|refine ax_then ?_|refine atl_nil ?_|refine n_run ttok rfl rfl ?_|fail))
  refine at_loopK [25, 26] (α := Nat × Option (Nat × Nat)) (fun x => [(27, I64 x.1), (6, .vec x.2 1 (rowsI (l.take x.1).flatten))]) (fun x => x.1 ≤ l.length) (fun x => tok x.2 29 1 (rowsI (l.take x.1).flatten).length) (fun x => l.length - x.1) (0, k) rfl ⟨rfl, rfl, trivial⟩ (Nat.zero_le _) (fun _ _ h => h) ?_
  rintro ⟨i, k⟩ hi
  dsimp only at hi ⊢
  try dsimp only [List.cons_append, List.nil_append, List.map_cons, List.map_nil]
  (repeat' (first|refine at_seq ?_|refine at_region ?_|refine ax_then ?_|refine atl_nil ?_|refine n_run ttok rfl rfl ?_|fail))
  refine at_cond rfl (fun h => ?_) (fun h => ?_)
  · have hil : i < l.length := by have := of_decide_eq_true h; rw [hrl] at this; omega
    obtain ⟨z, hz⟩ : ∃ z, l[i]? = some z := ⟨_, List.getElem?_eq_getElem hil⟩
    have hzg : (rowsR l)[i]? = some [.imm 1 (rowsI z)] := by simp [rowsR, hz]
    have hsz := sumLen_take hz
    have hle := sumLen_le l (i + 1)
    have hzl : (rowsI z).length = z.length := by simp [rowsI]
    have hfl : (rowsI (l.take i).flatten).length = sumLen (l.take i) := by rw [rowsI_len, flat_sum]
    have hcat : rowsI (l.take i).flatten ++ rowsI z = rowsI (l.take (i + 1)).flatten := by rw [rowsI_app, List.take_add_one, hz]; simp
    (repeat' (first|refine at_seq ?_|refine at_region ?_|refine at_block ?_|refine at_skip ?_|refine ax_then ?_|refine atl_nil ?_|refine n_run ttok rfl rfl ?_|(apply s_index; first|refine n_index ttok ?_|refine n_indexP ttok ?_)|fail))
    refine n_append ttok [] rfl rfl rfl rfl (by rw [List.append_nil]) (by rw [hfl, hzl]; omega) (by rw [hfl, hzl]; omega) rfl fun k' => ?_
    rw [hcat, List.append_nil]
    (repeat' (first|refine at_region ?_|refine ax_then ?_|refine ax_blk ?_|refine atl_nil ?_|refine n_run ttok rfl rfl ?_|(apply s_bin; refine n_bin ?_)|fail))
    exact ax_roundK (i + 1, k') rfl ⟨by rw [Int.natCast_add]; rfl, rfl, trivial⟩ (by dsimp only; omega) (by dsimp only; omega) (fun _ _ h => h)
  · have hil : i = l.length := by have := of_decide_eq_false h; rw [hrl] at this; omega
    subst hil
    rw [List.take_length]
    (repeat' (first|refine at_seq ?_|refine at_region ?_|refine at_ret ?_|refine at_exit ?_|refine ax_then ?_|refine ax_then_exit ?_|refine ax_blk_exit ?_|refine ax_loop_exit ?_|refine atl_nil ?_|refine n_run ttok rfl rfl ?_|fail))
    exact ax_ret1I rfl rfl rfl rfl
end Go.Proofs.YtpbinloeemebkaaGreat

namespace Go.Proofs.YtpbinloeemebkaaGreat
open Go.RowKit
attribute [local irreducible] AT ATL AX AO Av Kt ALoopK OkA DA DA1
def risingB (l : List Int) : Bool := decide (∀ i, i < l.length - 1 → l.getD i 0 < l.getD (i + 1) 0)
theorem getD_get {l : List Int} {i : Nat} {z : Int} (h : l[i]? = some z) : l.getD i 0 = z := by simp [h]
theorem rising_det (l : List Int) : ADet Tryz.prog 275 [.imm 1 (ints l)] (Bol (risingB l)) := by
  refine ac_of Tryz.func275 rfl Tryz.ntmps275 rfl fun B => ?_
  refine at_len 0 rfl rfl fun hlen => ?_
  have hll := ints_len l
  rw [ints_len] at hlen
  (repeat' (first|refine at_seq ?_|refine at_region ?_|refine at_block ?_|refine ax_then ?_|refine atl_nil ?_|refine n_run ttok rfl rfl ?_|fail))
  refine at_loopK [0] (α := Nat) (fun i => [(3, I64 (i + 1 : Nat))]) (fun i => i ≤ l.length ∧ ∀ j, j < i → j + 1 < l.length → l.getD j 0 < l.getD (j + 1) 0) (fun _ => []) (fun i => l.length - i) 0 rfl ⟨rfl, trivial⟩ ⟨Nat.zero_le _, fun j hj => absurd hj (Nat.not_lt_zero _)⟩ (fun _ _ h => h) fun i ⟨hi, hall⟩ => ?_
  try dsimp only [List.cons_append, List.nil_append, List.map_cons, List.map_nil]
  (repeat' (first|refine at_seq ?_|refine at_region ?_|refine ax_then ?_|refine atl_nil ?_|refine n_run ttok rfl rfl ?_|fail))
  refine at_cond rfl (fun h => ?_) (fun h => ?_)
  · have hil : i + 1 < l.length := by have := of_decide_eq_true h; rw [ints_len] at this; omega
    obtain ⟨y, hy⟩ : ∃ z, l[i]? = some z := ⟨_, List.getElem?_eq_getElem (by omega)⟩
    obtain ⟨z, hz⟩ : ∃ z, l[i + 1]? = some z := ⟨_, List.getElem?_eq_getElem hil⟩
    have hyg : (ints l)[(((i + 1 : Nat) : Int) - 1).toNat]? = some [I64 y] := by rw [show (((i + 1 : Nat) : Int) - 1).toNat = i by omega]; exact ints_get hy
    have hzg := ints_get hz
    (repeat' (first|refine at_seq ?_|refine at_block ?_|refine at_skip ?_|refine ax_then ?_|fail))
    refine at_draw 9 [(0, .v), (1, .v), (2, .v), (3, .v), (4, .v), (5, .v), (6, .v), (7, .v), (8, .v)] none ?_ trivial rfl (by kernel_rfl) (by kernel_rfl) (by kernel_rfl) mixed (by kernel_rfl) rfl
    (repeat' (first|refine da_open ?_|refine d_run ttok ?_|(apply ds_bin;refine d_bin ?_)|(apply ds_index;refine d_index ttok ?_)|fail))
    refine da_end [0, 3, 13, 18] rfl rfl ?_
    (repeat' (first|refine ax_then ?_|refine atl_nil ?_|refine n_run ttok rfl rfl ?_|fail))
    refine at_cond rfl (fun h2 => ?_) (fun h2 => ?_)
    · have h2' := of_decide_eq_true h2
      (repeat' (first|refine at_seq ?_|refine at_region ?_|refine at_ret ?_|refine ax_then ?_|refine ax_then_ret ?_|refine ax_blk_ret ?_|refine ax_loop_ret ?_|refine atl_nil ?_|refine n_run ttok rfl rfl ?_|fail))
      refine ax_ret1 rfl rfl ?_
      rw [show risingB l = false from decide_eq_false (fun hh => by have := hh i (by omega); rw [getD_get hy, getD_get hz] at this; omega)]
    · have h2' := of_decide_eq_false h2
      (repeat' (first|refine at_region ?_|refine at_skip ?_|refine ax_then ?_|refine ax_blk ?_|refine atl_nil ?_|refine n_run ttok rfl rfl ?_|(apply s_bin; refine n_bin ?_)|fail))
      refine ax_roundK (i + 1) rfl ⟨by rw [Int.natCast_add (i + 1) 1]; rfl, trivial⟩ ⟨by omega, fun j hj hjl => ?_⟩ (by omega) (fun _ _ h => h)
      by_cases e : j = i
      · subst e; rw [getD_get hy, getD_get hz]; omega
      · exact hall j (by omega) hjl
  · have hil : l.length ≤ i + 1 := by have := of_decide_eq_false h; rw [ints_len] at this; omega
    (repeat' (first|refine at_seq ?_|refine at_region ?_|refine at_ret ?_|refine at_exit ?_|refine ax_then ?_|refine ax_then_exit ?_|refine ax_blk_exit ?_|refine ax_loop_exit ?_|refine atl_nil ?_|refine n_run ttok rfl rfl ?_|fail))
    refine ax_ret1 rfl rfl ?_
    rw [show risingB l = true from decide_eq_true (fun j hj => hall j (by omega) (by omega))]
instance (l : List Int) : AD Tryz.prog 275 [.imm 1 (ints l)] (Bol (risingB l)) := ⟨rising_det l⟩
def isSetB (f : FFont) (l : List Int) : Bool := decide (0 < l.length) && (risingB l && (isG f (l.getD 0 0) && isG f (l.getD (l.length - 1) 0)))
set_option maxHeartbeats 1000000 in
theorem isSet_det (f : FFont) (l : List Int) : ADet Tryz.prog 241 [aFont f, .imm 1 (ints l)] (Bol (isSetB f l)) := by
  refine ac_of Tryz.func241 rfl Tryz.ntmps241 rfl fun B => ?_
  refine at_len 1 rfl rfl fun hlen => ?_
  cases l with
  | nil =>
    (repeat' (first|refine at_seq ?_|refine at_region ?_|refine ax_then ?_|refine atl_nil ?_|refine n_run ttok rfl rfl ?_|refine n_boxI ?_|fail))
    refine at_draw 24 [(0, .v), (1, .v), (2, .v), (3, .v), (4, .v), (5, .v), (6, .v), (7, .v), (8, .v), (9, .v), (10, .v), (11, .v), (12, .v), (13, .v), (14, .v), (15, .v), (16, .v), (17, .v), (18, .v), (19, .v), (20, .v), (21, .v), (22, .v), (23, .v)] none ?_ trivial rfl (by kernel_rfl) (by kernel_rfl) (by kernel_rfl) mixed (by kernel_rfl) rfl
    (repeat' (first|refine da_open ?_|refine d_run ttok ?_|refine da_no rfl rfl ?_|fail))
    refine da_end [28] rfl rfl ?_
    (repeat' (first|refine at_ret ?_|refine ax_then ?_|refine atl_nil ?_|refine n_run ttok rfl rfl ?_|fail))
    exact ax_ret1 rfl rfl rfl
  | cons y q =>
    have hll : (ints (y :: q)).length = q.length + 1 := by rw [ints_len]; rfl
    rw [hll] at hlen
    obtain ⟨z, hz⟩ : ∃ z, (y :: q)[q.length]? = some z := ⟨_, List.getElem?_eq_getElem (by simp)⟩
    have hzg : (ints (y :: q))[((((ints (y :: q)).length : Nat) : Int) - 1).toNat]? = some [I64 z] := by rw [show ((((ints (y :: q)).length : Nat) : Int) - 1).toNat = q.length by rw [hll]; omega]; exact ints_get hz
    have hyg : (ints (y :: q))[(0 : Int).toNat]? = some [I64 y] := rfl
    have hval : isSetB f (y :: q) = (risingB (y :: q) && (isG f y && isG f z)) := by
      unfold isSetB
      rw [show (y :: q).length - 1 = q.length by simp, getD_get hz]
      simp
    rw [hval]
    have hpos : decide (0 < (((ints (y :: q)).length : Nat) : Int)) = true := decide_eq_true (by rw [hll]; omega)
    (repeat' (first|refine at_seq ?_|refine at_region ?_|refine ax_then ?_|refine atl_nil ?_|refine n_run ttok rfl rfl ?_|refine n_boxI ?_|fail))
    refine at_draw 24 [(0, .v), (1, .v), (2, .v), (3, .v), (4, .v), (5, .v), (6, .v), (7, .v), (8, .v), (9, .v), (10, .v), (11, .v), (12, .v), (13, .v), (14, .v), (15, .v), (16, .v), (17, .v), (18, .v), (19, .v), (20, .v), (21, .v), (22, .v), (23, .v)] none ?_ trivial rfl (by kernel_rfl) (by kernel_rfl) (by kernel_rfl) mixed (by kernel_rfl) rfl
    (repeat' (first|refine da_open ?_|refine d_run ttok ?_|fail))
    rw [hpos]
    (repeat' (first|refine da_open ?_|refine d_run ttok ?_|(apply ds_call;refine d_call ?_)|fail))
    generalize risingB (y :: q) = b1
    cases b1
    · (repeat' (first|refine da_open ?_|refine d_run ttok ?_|refine da_no rfl rfl ?_|fail))
      refine da_end [28] rfl rfl ?_
      (repeat' (first|refine at_ret ?_|refine ax_then ?_|refine atl_nil ?_|refine n_run ttok rfl rfl ?_|fail))
      exact ax_ret1 rfl rfl rfl
    (repeat' (first|refine da_open ?_|refine d_run ttok ?_|(apply ds_index;refine d_index ttok ?_)|(apply ds_call;refine d_call ?_)|fail))
    generalize isG f y = b2
    cases b2
    · (repeat' (first|refine da_open ?_|refine d_run ttok ?_|refine da_no rfl rfl ?_|fail))
      refine da_end [28] rfl rfl ?_
      (repeat' (first|refine at_ret ?_|refine ax_then ?_|refine atl_nil ?_|refine n_run ttok rfl rfl ?_|fail))
      exact ax_ret1 rfl rfl rfl
    (repeat' (first|refine da_open ?_|refine d_run ttok ?_|(apply ds_bin;refine d_bin ?_)|(apply ds_index;refine d_index ttok ?_)|(apply ds_call;refine d_call ?_)|fail))
    refine da_end [28] rfl rfl ?_
    (repeat' (first|refine at_ret ?_|refine ax_then ?_|refine atl_nil ?_|refine n_run ttok rfl rfl ?_|fail))
    exact ax_ret1 rfl rfl rfl
instance (f : FFont) (l : List Int) : AD Tryz.prog 241 [aFont f, .imm 1 (ints l)] (Bol (isSetB f l)) := ⟨isSet_det f l⟩
def wrongRows (kind : Int) (r : FRule) : Bool := if kind = 1 ∨ kind = 2 ∨ kind = 5 then decide ((r.In.length : Int) ≠ 1) else if kind = 6 then decide ((r.In.length : Int) ≠ 2 ∨ (r.Back.length : Int) > 0 ∨ (r.Ahead.length : Int) > 0) else decide ((r.In.length : Int) = 0)
def rowsE (kind : Int) (r : FRule) : Int := if (r.Back.length : Int) > 6 ∨ (r.In.length : Int) > 6 ∨ (r.Ahead.length : Int) > 6 then 2 else whenE (wrongRows kind r) 40
set_option maxHeartbeats 1000000 in
theorem rows_det (kind : Int) (r : FRule) : ADet Tryz.prog 237 [I64 kind, .agg (cRule r)] (I64 (rowsE kind r)) := by
  refine ac_of Tryz.func237 rfl Tryz.ntmps237 rfl fun B => ?_
  unfold rowsE wrongRows
  have hB := rowsI_len r.Back
  have hI := rowsI_len r.In
  have hA := rowsI_len r.Ahead
  rw [← hB, ← hI, ← hA]
  (repeat' (first|refine at_seq ?_|refine at_region ?_|refine ax_then ?_|refine atl_nil ?_|refine n_run ttok rfl rfl ?_|refine n_boxI ?_|fail))
  refine atl_if [0, 3] (((rowsI r.Back).length : Int) > 6 ∨ ((rowsI r.In).length : Int) > 6 ∨ ((rowsI r.Ahead).length : Int) > 6) rfl (fun Q' K => ?_) (fun hC => ?_) (fun hC => ?_)
  · (repeat' (first|refine atl_nil ?_|refine n_run ttok rfl rfl ?_|refine atl_guard_yes rfl rfl ?_|refine atl_guard_no rfl rfl rfl rfl ?_|refine atl_guard rfl rfl rfl (fun _ => ?_) (fun _ => ?_)|fail))
    all_goals exact K _ _ rfl rfl (by clear K; grind)
  · rw [if_pos hC]
    (repeat' (first|refine at_seq ?_|refine at_region ?_|refine at_ret ?_|refine ax_then ?_|refine ax_then_ret ?_|refine atl_nil ?_|refine n_run ttok rfl rfl ?_|fail))
    exact ax_ret1 rfl rfl rfl
  rw [if_neg hC]
  by_cases h1 : kind = 1
  · subst h1
    (repeat' (first|refine at_seq ?_|refine at_region ?_|refine at_block ?_|refine at_skip ?_|refine at_ret ?_|refine ax_then ?_|refine ax_blk ?_|refine atl_nil ?_|refine n_run ttok rfl rfl ?_|(apply s_call;refine n_call ?_)|refine n_condT rfl ?_|fail))
    exact ax_ret1 rfl rfl rfl
  by_cases h2 : kind = 2
  · subst h2
    (repeat' (first|refine at_seq ?_|refine at_region ?_|refine at_block ?_|refine at_skip ?_|refine at_ret ?_|refine ax_then ?_|refine ax_blk ?_|refine atl_nil ?_|refine n_run ttok rfl rfl ?_|(apply s_call;refine n_call ?_)|refine n_condT rfl ?_|refine n_condF rfl ?_|fail))
    exact ax_ret1 rfl rfl rfl
  by_cases h5 : kind = 5
  · subst h5
    (repeat' (first|refine at_seq ?_|refine at_region ?_|refine at_block ?_|refine at_skip ?_|refine at_ret ?_|refine ax_then ?_|refine ax_blk ?_|refine atl_nil ?_|refine n_run ttok rfl rfl ?_|(apply s_call;refine n_call ?_)|refine n_condT rfl ?_|refine n_condF rfl ?_|fail))
    exact ax_ret1 rfl rfl rfl
  rw [if_neg (by omega)]
  by_cases h6 : kind = 6
  · subst h6
    rw [if_pos rfl]
    (repeat' (first|refine at_seq ?_|refine at_region ?_|refine at_block ?_|refine at_skip ?_|refine ax_then ?_|refine atl_nil ?_|refine n_run ttok rfl rfl ?_|refine n_condT rfl ?_|refine n_condF rfl ?_|fail))
    refine atl_cut (t := 5) [] (((rowsI r.In).length : Int) ≠ 2 ∨ ((rowsI r.Back).length : Int) > 0 ∨ ((rowsI r.Ahead).length : Int) > 0) rfl (fun Q' K => ?_) ?_
    · (repeat' (first|refine atl_nil ?_|refine n_run ttok rfl rfl ?_|refine atl_guard_yes rfl rfl ?_|refine atl_guard_no rfl rfl rfl rfl ?_|refine atl_guard rfl rfl rfl (fun _ => ?_) (fun _ => ?_)|fail))
      all_goals exact K _ _ rfl rfl (by clear K; grind)
    (repeat' (first|refine at_seq ?_|refine at_region ?_|refine at_ret ?_|refine ax_then ?_|refine ax_blk ?_|refine atl_nil ?_|refine n_run ttok rfl rfl ?_|(apply s_call;refine n_call ?_)|fail))
    exact ax_ret1 rfl rfl rfl
  rw [if_neg h6]
  (repeat' (first|refine at_seq ?_|refine at_region ?_|refine at_block ?_|refine at_skip ?_|refine ax_then ?_|refine atl_nil ?_|refine n_run ttok rfl rfl ?_|fail))
  refine at_cond rfl (fun h => absurd (of_decide_eq_true h) h1) (fun h => ?_)
  (repeat' (first|refine at_seq ?_|refine at_region ?_|refine ax_then ?_|refine atl_nil ?_|refine n_run ttok rfl rfl ?_|fail))
  refine at_cond rfl (fun h => absurd (of_decide_eq_true h) h2) (fun h => ?_)
  (repeat' (first|refine at_region ?_|refine ax_then ?_|refine atl_nil ?_|refine n_run ttok rfl rfl ?_|fail))
  refine at_cond rfl (fun h => absurd (of_decide_eq_true h) h5) (fun h => ?_)
  rw [decide_eq_false h5]
  (repeat' (first|refine at_seq ?_|refine at_region ?_|refine ax_then ?_|refine atl_nil ?_|refine n_run ttok rfl rfl ?_|fail))
  refine at_cond rfl (fun h => absurd (of_decide_eq_true h) h6) (fun h => ?_)
  (repeat' (first|refine at_seq ?_|refine at_region ?_|refine at_skip ?_|refine at_ret ?_|refine ax_then ?_|refine ax_blk ?_|refine atl_nil ?_|refine n_run ttok rfl rfl ?_|(apply s_call;refine n_call ?_)|fail))
  exact ax_ret1 rfl rfl rfl
instance (kind : Int) (r : FRule) : AD Tryz.prog 237 [I64 kind, .agg (cRule r)] (I64 (rowsE kind r)) := ⟨rows_det kind r⟩
theorem rows_in {kind : Int} {r : FRule} (h : rowsE kind r = 0) : r.In ≠ [] ∧ r.Back.length ≤ 6 ∧ r.In.length ≤ 6 ∧ r.Ahead.length ≤ 6 := by
  unfold rowsE at h
  split at h
  · cases h
  · rename_i hc
    refine ⟨fun e => ?_, by omega, by omega, by omega⟩
    have hw : wrongRows kind r = true := by
      unfold wrongRows
      rw [e]
      split
      · decide
      · split <;> simp
    rw [hw] at h
    cases h
def outB (kind : Int) (r : FRule) : Bool := if kind = 1 ∨ kind = 5 then decide ((r.Out.length : Int) = ((r.In.headD []).length : Int)) else if kind = 2 then decide ((r.Out.length : Int) ≤ 6) else if kind = 3 then decide ((r.Out.length : Int) = 1) else decide ((r.Out.length : Int) = 0)
set_option maxHeartbeats 1000000 in
theorem out_det (kind : Int) (r : FRule) (hin : r.In ≠ []) : ADet Tryz.prog 243 [I64 kind, .agg (cRule r)] (Bol (outB kind r)) := by
  refine ac_of Tryz.func243 rfl Tryz.ntmps243 rfl fun B => ?_
  obtain ⟨y, hy⟩ : ∃ y, r.In[0]? = some y := ⟨_, List.getElem?_eq_getElem (List.length_pos_iff.2 hin)⟩
  have hyg := rowsI_get hy
  have hv : outB kind r = if kind = 1 ∨ kind = 5 then decide (((ints r.Out).length : Int) = ((ints y).length : Int)) else if kind = 2 then decide (((ints r.Out).length : Int) ≤ 6) else if kind = 3 then decide (((ints r.Out).length : Int) = 1) else decide (((ints r.Out).length : Int) = 0) := by
    have hd : r.In.headD [] = y := by
      cases hI : r.In with
      | nil => exact absurd hI hin
      | cons y' q => rw [hI] at hy; simpa using hy
    unfold outB
    rw [hd, ints_len, ints_len]
  rw [hv]
  by_cases h1 : kind = 1
  · subst h1
    (repeat' (first|refine at_seq ?_|refine at_region ?_|refine at_block ?_|refine at_skip ?_|refine ax_then ?_|refine atl_nil ?_|refine n_run ttok rfl rfl ?_|refine n_boxI ?_|refine n_condT rfl ?_|fail))
    refine at_draw 8 [(0, .v), (1, .v), (2, .v), (3, .v), (4, .v), (5, .v), (6, .v), (7, .v)] none ?_ trivial rfl (by kernel_rfl) (by kernel_rfl) (by kernel_rfl) mixed (by kernel_rfl) rfl
    (repeat' (first|refine da_open ?_|refine d_run ttok ?_|(apply ds_index;refine d_index ttok ?_)|fail))
    refine da_end [11, 16] rfl rfl ?_
    (repeat' (first|refine at_ret ?_|refine ax_then ?_|refine ax_then_ret ?_|refine ax_blk_ret ?_|refine atl_nil ?_|refine n_run ttok rfl rfl ?_|fail))
    exact ax_ret1 rfl rfl rfl
  by_cases h5 : kind = 5
  · subst h5
    (repeat' (first|refine at_seq ?_|refine at_region ?_|refine at_block ?_|refine ax_then ?_|refine atl_nil ?_|refine n_run ttok rfl rfl ?_|refine n_boxI ?_|refine n_condT rfl ?_|refine n_condF rfl ?_|fail))
    refine at_draw 8 [(0, .v), (1, .v), (2, .v), (3, .v), (4, .v), (5, .v), (6, .v), (7, .v)] none ?_ trivial rfl (by kernel_rfl) (by kernel_rfl) (by kernel_rfl) mixed (by kernel_rfl) rfl
    (repeat' (first|refine da_open ?_|refine d_run ttok ?_|(apply ds_index;refine d_index ttok ?_)|fail))
    refine da_end [11, 16] rfl rfl ?_
    (repeat' (first|refine at_ret ?_|refine ax_then ?_|refine ax_then_ret ?_|refine ax_blk_ret ?_|refine atl_nil ?_|refine n_run ttok rfl rfl ?_|fail))
    exact ax_ret1 rfl rfl rfl
  rw [if_neg (by omega)]
  by_cases h2 : kind = 2
  · subst h2
    (repeat' (first|refine at_seq ?_|refine at_region ?_|refine at_block ?_|refine at_ret ?_|refine ax_then ?_|refine ax_then_ret ?_|refine ax_blk_ret ?_|refine atl_nil ?_|refine n_run ttok rfl rfl ?_|refine n_boxI ?_|refine n_condT rfl ?_|refine n_condF rfl ?_|fail))
    exact ax_ret1 rfl rfl rfl
  rw [if_neg h2]
  by_cases h3 : kind = 3
  · subst h3
    (repeat' (first|refine at_seq ?_|refine at_region ?_|refine at_block ?_|refine at_ret ?_|refine ax_then ?_|refine ax_then_ret ?_|refine ax_blk_ret ?_|refine atl_nil ?_|refine n_run ttok rfl rfl ?_|refine n_boxI ?_|refine n_condT rfl ?_|refine n_condF rfl ?_|fail))
    exact ax_ret1 rfl rfl rfl
  rw [if_neg h3]
  (repeat' (first|refine at_seq ?_|refine at_region ?_|refine at_block ?_|refine ax_then ?_|refine atl_nil ?_|refine n_run ttok rfl rfl ?_|refine n_boxI ?_|fail))
  refine at_cond rfl (fun h => absurd (of_decide_eq_true h) h1) (fun h => ?_)
  (repeat' (first|refine at_region ?_|refine ax_then ?_|refine atl_nil ?_|refine n_run ttok rfl rfl ?_|fail))
  refine at_cond rfl (fun h => absurd (of_decide_eq_true h) h5) (fun h => ?_)
  rw [decide_eq_false h5]
  (repeat' (first|refine at_seq ?_|refine at_region ?_|refine ax_then ?_|refine atl_nil ?_|refine n_run ttok rfl rfl ?_|fail))
  refine at_cond rfl (fun h => absurd (of_decide_eq_true h) h2) (fun h => ?_)
  (repeat' (first|refine at_seq ?_|refine at_region ?_|refine ax_then ?_|refine atl_nil ?_|refine n_run ttok rfl rfl ?_|fail))
  refine at_cond rfl (fun h => absurd (of_decide_eq_true h) h3) (fun h => ?_)
  (repeat' (first|refine at_seq ?_|refine at_region ?_|refine at_skip ?_|refine at_ret ?_|refine ax_then ?_|refine ax_blk ?_|refine atl_nil ?_|refine n_run ttok rfl rfl ?_|fail))
  exact ax_ret1 rfl rfl rfl
def kindAt (f : FFont) (n : Int) : Int := match f.Lookups[n.toNat]? with | some l => l.Kind | none => 0
def callE (f : FFont) (r : FRule) (_ : Nat) (c : FCall) : Int := if c.At < 0 ∨ c.At ≥ r.In.length then 40 else if c.Lookup < 0 ∨ c.Lookup ≥ f.Lookups.length then 42 else whenE (decide (kindAt f c.Lookup < 1 ∨ kindAt f c.Lookup > 4)) 42
set_option maxHeartbeats 1000000 in
theorem call_det (f : FFont) (r : FRule) (i : Nat) (c : FCall) : ADet Tryz.prog 277 [I64 i, .agg (cCall c), .iptr (cRule r), .iptr (cFont f)] (I64 (callE f r i c)) := by
  refine ac_of Tryz.func277 rfl Tryz.ntmps277 rfl fun B => ?_
  unfold callE
  have hI := rowsI_len r.In
  have hL : (f.Lookups.map cLookup).length = f.Lookups.length := List.length_map ..
  rw [← hI]
  (repeat' (first|refine at_seq ?_|refine at_region ?_|refine at_block ?_|refine ax_then ?_|refine atl_nil ?_|refine n_run ttok rfl rfl ?_|refine n_boxI ?_|fail))
  refine atl_if [3, 5] (c.At < 0 ∨ c.At ≥ ((rowsI r.In).length : Int)) rfl (fun Q' K => ?_) (fun hC => ?_) (fun hC => ?_)
  · (repeat' (first|refine atl_nil ?_|refine n_run ttok rfl rfl ?_|refine atl_guard_yes rfl rfl ?_|refine atl_guard_no rfl rfl rfl rfl ?_|refine atl_guard rfl rfl rfl (fun _ => ?_) (fun _ => ?_)|fail))
    all_goals exact K _ _ rfl rfl (by clear K; grind)
  · rw [if_pos hC]
    (repeat' (first|refine at_seq ?_|refine at_region ?_|refine at_ret ?_|refine ax_then ?_|refine ax_then_ret ?_|refine ax_blk_ret ?_|refine atl_nil ?_|refine n_run ttok rfl rfl ?_|fail))
    exact ax_ret1 rfl rfl rfl
  rw [if_neg hC]
  (repeat' (first|refine at_seq ?_|refine at_region ?_|refine n_run ttok rfl rfl ?_|fail))
  refine atl_if [3, 5] (c.Lookup < 0 ∨ c.Lookup ≥ f.Lookups.length) rfl (fun Q' K => ?_) (fun hC => ?_) (fun hC => ?_)
  · (repeat' (first|refine atl_nil ?_|refine n_run ttok rfl rfl ?_|refine atl_guard_yes rfl rfl ?_|refine atl_guard_no rfl rfl rfl rfl ?_|refine atl_guard rfl rfl rfl (fun _ => ?_) (fun _ => ?_)|fail))
    all_goals exact K _ _ rfl rfl (by clear K; grind)
  · rw [if_pos hC]
    (repeat' (first|refine at_seq ?_|refine at_region ?_|refine at_ret ?_|refine ax_then ?_|refine ax_then_ret ?_|refine ax_blk_ret ?_|refine atl_nil ?_|refine n_run ttok rfl rfl ?_|fail))
    exact ax_ret1 rfl rfl rfl
  rw [if_neg hC]
  obtain ⟨l, hl⟩ : ∃ l, f.Lookups[c.Lookup.toNat]? = some l := ⟨_, List.getElem?_eq_getElem (by omega)⟩
  have hlg := map_get (c := cLookup) hl
  have hk : kindAt f c.Lookup = l.Kind := by unfold kindAt; rw [hl]
  rw [hk]
  (repeat' (first|refine at_seq ?_|refine at_region ?_|refine at_skip ?_|refine ax_then ?_|refine ax_blk ?_|refine atl_nil ?_|refine n_run ttok rfl rfl ?_|(apply s_index; first|refine n_index ttok ?_|refine n_indexP ttok ?_)|fail))
  by_cases h1 : l.Kind < 1
  · rw [decide_eq_true h1, decide_eq_true (Or.inl h1)]
    (repeat' (first|refine at_ret ?_|refine ax_then ?_|refine atl_nil ?_|refine n_run ttok rfl rfl ?_|refine atl_guard_no rfl rfl rfl rfl ?_|(apply s_call;refine n_call ?_)|fail))
    exact ax_ret1 rfl rfl rfl
  · rw [decide_eq_false h1, show decide (l.Kind < 1 ∨ l.Kind > 4) = decide (4 < l.Kind) from decide_eq_decide.2 ⟨fun h => h.resolve_left h1, Or.inr⟩]
    (repeat' (first|refine at_ret ?_|refine ax_then ?_|refine atl_nil ?_|refine n_run ttok rfl rfl ?_|refine atl_guard_yes rfl rfl ?_|(apply s_call;refine n_call ?_)|fail))
    exact ax_ret1 rfl rfl rfl
def callsE (f : FFont) (kind : Int) (r : FRule) : Int := if (r.Calls.length : Int) > 6 then 2 else if (r.Calls.length : Int) > 0 ∧ kind ≠ 4 then 40 else (eachL r.Calls (callE f r)).1
set_option maxHeartbeats 1000000 in
theorem calls_det (f : FFont) (kind : Int) (r : FRule) : ADet Tryz.prog 247 [aFont f, I64 kind, .agg (cRule r)] (I64 (callsE f kind r)) := by
  refine ac_of Tryz.func247 rfl Tryz.ntmps247 rfl fun B => ?_
  unfold callsE
  have hL : (r.Calls.map cCall).length = r.Calls.length := List.length_map ..
  rw [← hL]
  (repeat' (first|refine at_seq ?_|refine at_region ?_|refine at_block ?_|refine ax_then ?_|refine atl_nil ?_|refine n_run ttok rfl rfl ?_|refine n_boxI ?_|fail))
  refine at_cond rfl (fun h => ?_) (fun h => ?_)
  · rw [if_pos (of_decide_eq_true h)]
    (repeat' (first|refine at_seq ?_|refine at_region ?_|refine at_ret ?_|refine ax_then ?_|refine ax_then_ret ?_|refine ax_blk_ret ?_|refine atl_nil ?_|refine n_run ttok rfl rfl ?_|fail))
    exact ax_ret1 rfl rfl rfl
  rw [if_neg (of_decide_eq_false h)]
  (repeat' (first|refine at_seq ?_|refine at_region ?_|refine n_run ttok rfl rfl ?_|fail))
  refine atl_if [3, 5] (((r.Calls.map cCall).length : Int) > 0 ∧ kind ≠ 4) rfl (fun Q' K => ?_) (fun hC => ?_) (fun hC => ?_)
  · (repeat' (first|refine atl_nil ?_|refine n_run ttok rfl rfl ?_|refine atl_guard_yes rfl rfl ?_|refine atl_guard_no rfl rfl rfl rfl ?_|refine atl_guard rfl rfl rfl (fun _ => ?_) (fun _ => ?_)|fail))
    all_goals exact K _ _ rfl rfl (by clear K; grind)
  · rw [if_pos hC]
    (repeat' (first|refine at_seq ?_|refine at_region ?_|refine at_ret ?_|refine ax_then ?_|refine ax_then_ret ?_|refine ax_blk_ret ?_|refine atl_nil ?_|refine n_run ttok rfl rfl ?_|fail))
    exact ax_ret1 rfl rfl rfl
  rw [if_neg hC]
  (repeat' (first|refine at_seq ?_|refine at_region ?_|refine at_skip ?_|refine ax_then ?_|refine ax_blk ?_|refine n_run ttok rfl rfl ?_|fail))
  refine n_callA [] [] (each276 (u := .fn 277 [.iptr (cRule r), .iptr (cFont f)]) (g := 277) rfl r.Calls _ (fun _ _ => True) [] trivial (wrong_det (fun i x _ => call_det f r i x))) rfl rfl (List.Perm.refl _) rfl fun c L1 hc => ?_
  have hc : c = tup2 (eachL r.Calls (callE f r)) := hc
  subst hc
  unfold tup2
  (repeat' (first|refine at_seq ?_|refine at_region ?_|refine at_ret ?_|refine ax_then ?_|refine atl_nil ?_|refine n_run ttok rfl rfl ?_|fail))
  exact ax_ret1 rfl rfl rfl
instance (f : FFont) (kind : Int) (r : FRule) : AD Tryz.prog 247 [aFont f, I64 kind, .agg (cRule r)] (I64 (callsE f kind r)) := ⟨calls_det f kind r⟩
end Go.Proofs.YtpbinloeemebkaaGreat
