/-
  From what came in to what the walks are told: rows of numbers; from a walk to a claim.
-/
import Derived.Test.YtpbinloeemebkaaGreatM10
import Derived.SizedLaws
import Derived.Test.YtpbinloeemebkaaGreatM24
import Derived.Test.YtpbinloeemebkaaGreatM09
namespace Go.Proofs.YtpbinloeemebkaaGreat
open Go.ChangeShapes Go.WideShapes Go.ChangeAt Go.RowKit Go.Deep Go.Joins
theorem Tryz.own : ownKnob Tryz.prog.godebug = none := by kernel_rfl
theorem Tryz.laidOut : laidOutB Tryz.prog = true := by kernel_rfl
/-- what a walk told, for the claim -/
theorem det_calls {P : Program} {f : FuncId} {args : List AV} {u : Value} (h : ADet P f args (.sc u)) (W : World) (vs : List Value) (hv : VRs (memOf W) args vs) : Calls P f vs.toArray W fun e W' => ∃ v, e = .returned v ∧ Below W.heap.size W W' ∧ v = u :=
  (h (memOf W) W vs hv (memOf_st W)).mono fun e W' ⟨v, τ, c, L', he, hr, hst, hc⟩ => by
    subst hc
    exact ⟨v, he, ⟨hst.os, hst.tape, hst.output, hst.size, fun k hk => hst.old k hk (by simp)⟩, hr.sc_inv⟩
section
variable {H : Type} {enc : TypeId × Value → H} {W : World}
set_option maxRecDepth 100000 in
theorem open_intsV {base : Nat} {v : Value} {d : DataW H} {p : List MemPlace} (hok : Value.okWide Tryz.prog W .any base 29 v) (h : DataW.Trod enc Tryz.prog W 0 (fun _ => true) true 29 v d p) (hl : Light Tryz.prog 29 d) : ∃ l, VR (memOf W) (.imm 1 (ints l)) v := by
  obtain ⟨a0, len, cap, rfl⟩ := okWide_slice Tryz.underlying29 hok
  obtain ⟨fuel, hf⟩ := h
  obtain ⟨l, h1, _⟩ := o29 (enc := enc) fuel [.slice a0 len cap] _ (by simpa [Value.cells] using hf) hl
  exact ⟨l, h1.2 0 _ _ rfl rfl⟩
end
end Go.Proofs.YtpbinloeemebkaaGreat

namespace Go.Proofs.YtpbinloeemebkaaGreat
open Go.RowKit
attribute [local irreducible] AT ATL AX AO Av Kt ALoopK OkA DA DA1
set_option maxHeartbeats 1000000 in
theorem in_det (l : List Int) (n : Int) : ADet Tryz.prog 20 [.imm 1 (ints l), I64 n] (Bol (l.contains n)) := by
  refine ac_of Tryz.func20 rfl Tryz.ntmps20 rfl fun B => ?_
  refine at_len 0 rfl rfl fun hlen => ?_
  rw [ints_len] at hlen
  (repeat' (first|refine at_seq ?_|refine at_region ?_|refine at_block ?_|refine ax_then ?_|refine atl_nil ?_|refine n_run ttok rfl rfl ?_|fail))
  refine at_loopK [0, 1] (α := Nat) (fun i => [(5, I64 i)]) (fun i => i ≤ l.length ∧ (l.take i).contains n = false) (fun _ => []) (fun i => l.length - i) 0 rfl ⟨rfl, trivial⟩ ⟨Nat.zero_le _, rfl⟩ (fun _ _ h => h) ?_
  rintro i ⟨hi, ha⟩
  try dsimp only [List.cons_append, List.nil_append, List.map_cons, List.map_nil]
  (repeat' (first|refine at_seq ?_|refine at_region ?_|refine ax_then ?_|refine atl_nil ?_|refine n_run ttok rfl rfl ?_|fail))
  refine at_cond rfl (fun h => ?_) (fun h => ?_)
  · have hil : i < l.length := by have := of_decide_eq_true h; simp [ints_len] at this; omega
    obtain ⟨z, hz⟩ : ∃ z, l[i]? = some z := ⟨_, List.getElem?_eq_getElem hil⟩
    have hzg := ints_get hz
    (repeat' (first|refine at_seq ?_|refine at_region ?_|refine at_block ?_|refine at_skip ?_|refine ax_then ?_|refine atl_nil ?_|refine n_run ttok rfl rfl ?_|(apply s_index; first|refine n_index ttok ?_|refine n_indexP ttok ?_)|fail))
    refine at_cond rfl (fun h2 => ?_) (fun h2 => ?_)
    · have h2 : z = n := of_decide_eq_true h2
      subst h2
      (repeat' (first|refine at_seq ?_|refine at_region ?_|refine at_ret ?_|refine ax_then ?_|refine ax_then_ret ?_|refine ax_blk_ret ?_|refine ax_loop_ret ?_|refine atl_nil ?_|refine n_run ttok rfl rfl ?_|fail))
      refine ax_ret1 rfl rfl ?_
      have : l.contains z = true := List.contains_iff_mem.2 (List.mem_of_getElem? hz)
      rw [this]
    · have h2 : ¬ z = n := of_decide_eq_false h2
      (repeat' (first|refine at_region ?_|refine at_skip ?_|refine ax_then ?_|refine ax_blk ?_|refine atl_nil ?_|refine n_run ttok rfl rfl ?_|(apply s_bin; refine n_bin ?_)|fail))
      refine ax_roundK (i + 1) rfl ⟨by rw [Int.natCast_add]; rfl, trivial⟩ ⟨by omega, ?_⟩ (by omega) (fun _ _ h => h)
      rw [Bool.eq_false_iff] at ha ⊢
      intro hc
      refine ha ?_
      rw [List.contains_iff_mem] at hc ⊢
      rw [List.take_add_one, hz, List.mem_append] at hc
      rcases hc with hc | hc
      · exact hc
      · exact absurd (List.mem_singleton.1 hc).symm h2
  have hil : i = l.length := by have := of_decide_eq_false h; simp [ints_len] at this; omega
  subst hil
  rw [List.take_length] at ha
  (repeat' (first|refine at_seq ?_|refine at_region ?_|refine at_ret ?_|refine at_exit ?_|refine ax_then ?_|refine ax_then_exit ?_|refine ax_blk_exit ?_|refine ax_loop_exit ?_|refine atl_nil ?_|refine n_run ttok rfl rfl ?_|fail))
  refine ax_ret1 rfl rfl ?_
  rw [ha]
instance (l : List Int) (n : Int) : AD Tryz.prog 20 [.imm 1 (ints l), I64 n] (Bol (l.contains n)) := ⟨in_det l n⟩
set_option maxHeartbeats 1000000 in
theorem inside_det (a b : List Int) : ADet Tryz.prog 18 [.imm 1 (ints a), .imm 1 (ints b)] (Bol (a.all fun z => b.contains z)) := by
  refine ac_of Tryz.func18 rfl Tryz.ntmps18 rfl fun B => ?_
  refine at_len 0 rfl rfl fun hlen => ?_
  rw [ints_len] at hlen
  (repeat' (first|refine at_seq ?_|refine at_region ?_|refine at_block ?_|refine ax_then ?_|refine atl_nil ?_|refine n_run ttok rfl rfl ?_|fail))
  refine at_loopK [0, 1] (α := Nat) (fun i => [(5, I64 i)]) (fun i => i ≤ a.length ∧ (a.take i).all (fun z => b.contains z) = true) (fun _ => []) (fun i => a.length - i) 0 rfl ⟨rfl, trivial⟩ ⟨Nat.zero_le _, rfl⟩ (fun _ _ h => h) ?_
  rintro i ⟨hi, ha⟩
  try dsimp only [List.cons_append, List.nil_append, List.map_cons, List.map_nil]
  (repeat' (first|refine at_seq ?_|refine at_region ?_|refine ax_then ?_|refine atl_nil ?_|refine n_run ttok rfl rfl ?_|fail))
  refine at_cond rfl (fun h => ?_) (fun h => ?_)
  · have hil : i < a.length := by have := of_decide_eq_true h; simp [ints_len] at this; omega
    obtain ⟨z, hz⟩ : ∃ z, a[i]? = some z := ⟨_, List.getElem?_eq_getElem hil⟩
    have hzg := ints_get hz
    have hzm := List.mem_of_getElem? hz
    (repeat' (first|refine at_seq ?_|refine at_region ?_|refine at_block ?_|refine at_skip ?_|refine ax_then ?_|refine atl_nil ?_|refine n_run ttok rfl rfl ?_|(apply s_index; first|refine n_index ttok ?_|refine n_indexP ttok ?_)|(apply s_call;refine n_call ?_)|fail))
    refine at_cond rfl (fun h2 => ?_) (fun h2 => ?_)
    · have h2 : b.contains z = false := by simpa using h2
      (repeat' (first|refine at_seq ?_|refine at_region ?_|refine at_ret ?_|refine ax_then ?_|refine ax_then_ret ?_|refine ax_blk_ret ?_|refine ax_loop_ret ?_|refine atl_nil ?_|refine n_run ttok rfl rfl ?_|fail))
      refine ax_ret1 rfl rfl ?_
      have : (a.all fun z => b.contains z) = false := by
        rw [Bool.eq_false_iff]
        intro e
        rw [List.all_eq_true] at e
        rw [e z hzm] at h2
        cases h2
      rw [this]
    · have h2 : b.contains z = true := by simpa using h2
      (repeat' (first|refine at_region ?_|refine at_skip ?_|refine ax_then ?_|refine ax_blk ?_|refine atl_nil ?_|refine n_run ttok rfl rfl ?_|(apply s_bin; refine n_bin ?_)|fail))
      refine ax_roundK (i + 1) rfl ⟨by rw [Int.natCast_add]; rfl, trivial⟩ ⟨by omega, ?_⟩ (by omega) (fun _ _ h => h)
      rw [List.take_add_one, hz, List.all_append, ha]
      simpa using h2
  have hil : i = a.length := by have := of_decide_eq_false h; simp [ints_len] at this; omega
  subst hil
  rw [List.take_length] at ha
  (repeat' (first|refine at_seq ?_|refine at_region ?_|refine at_ret ?_|refine at_exit ?_|refine ax_then ?_|refine ax_then_exit ?_|refine ax_blk_exit ?_|refine ax_loop_exit ?_|refine atl_nil ?_|refine n_run ttok rfl rfl ?_|fail))
  refine ax_ret1 rfl rfl ?_
  rw [ha]
instance (a b : List Int) : AD Tryz.prog 18 [.imm 1 (ints a), .imm 1 (ints b)] (Bol (a.all fun z => b.contains z)) := ⟨inside_det a b⟩
theorem inB_iff {n : Nat} {l : List Int} {z : Int} : inB n l z = true ↔ (0 ≤ z ∧ z < n) ∧ z ∈ l := by
  unfold inB
  rw [Bool.and_eq_true, decide_eq_true_iff, List.contains_iff_mem]
theorem seenB_mono {f : FFont} {S T : List Int} (h : ∀ z ∈ S, z ∈ T) {ign : Bool} {z : Int} (hs : seenB f S ign z = true) : seenB f T ign z = true := by
  unfold seenB at hs ⊢
  rw [Bool.and_eq_true] at hs ⊢
  exact ⟨inB_iff.2 ⟨(inB_iff.1 hs.1).1, h _ (inB_iff.1 hs.1).2⟩, hs.2⟩
theorem tellN_mono {h : Hop} {p q : Int → Bool} (hpq : ∀ z, p z = true → q z = true) {z : Int} (hz : z ∈ tellN h p) : z ∈ tellN h q := by
  unfold tellN at hz ⊢
  split
  · rename_i hk
    rw [if_pos hk] at hz
    obtain ⟨x, hx, rfl⟩ := List.mem_map.1 hz
    rw [List.mem_filter] at hx
    exact List.mem_map.2 ⟨x, List.mem_filter.2 ⟨hx.1, hpq _ hx.2⟩, rfl⟩
  · rename_i hk
    rw [if_neg hk] at hz
    exact hz
theorem tellAdds_mono {f : FFont} {S T : List Int} (h : ∀ z ∈ S, z ∈ T) {x : Hop} {z : Int} (hz : z ∈ tellAdds f S x) : z ∈ tellAdds f T x := by
  unfold tellAdds at hz ⊢
  split at hz
  · rename_i hc
    rw [if_pos]
    · exact tellN_mono (fun _ => seenB_mono h) hz
    · rw [List.all_eq_true] at hc ⊢
      intro s hs
      have := hc s hs
      rw [List.any_eq_true] at this ⊢
      obtain ⟨y, hy, hp⟩ := this
      exact ⟨y, hy, seenB_mono h hp⟩
  · cases hz
theorem progStep_mem {f : FFont} {ks gs : List Int} {z : Int} : z ∈ progStep f ks gs ↔ (z ∈ selfAdds f (addN f.Glyphs.length [] gs) ∨ ∃ h ∈ hopsOf f (addN f.Lookups.length [] ks), z ∈ tellAdds f (addN f.Glyphs.length [] gs) h) ∧ 0 ≤ z ∧ z < f.Glyphs.length := by
  unfold progStep stepN
  rw [addN_mem, List.mem_append, List.mem_flatMap]
  constructor
  · rintro (h | h)
    · cases h
    · exact h
  · exact Or.inr
theorem addN_sub {n : Nat} {a b : List Int} (h : ∀ z ∈ a, z ∈ b) : ∀ z ∈ addN n [] a, z ∈ addN n [] b := by
  intro z hz
  rcases addN_mem.1 hz with k | ⟨k, k2⟩
  · cases k
  · exact addN_mem.2 (Or.inr ⟨h z k, k2⟩)
theorem progStep_mono {f : FFont} {ks ks' gs gs' : List Int} (hk : ∀ z ∈ ks, z ∈ ks') (hg : ∀ z ∈ gs, z ∈ gs') : ∀ z ∈ progStep f ks gs, z ∈ progStep f ks' gs' := by
  intro z hz
  rw [progStep_mem] at hz ⊢
  refine ⟨?_, hz.2⟩
  rcases hz.1 with h | ⟨x, hx, h⟩
  · refine Or.inl ?_
    unfold selfAdds at h ⊢
    obtain ⟨y, hy, h⟩ := List.mem_flatMap.1 h
    exact List.mem_flatMap.2 ⟨y, addN_sub hg y hy, h⟩
  · refine Or.inr ⟨x, ?_, tellAdds_mono (addN_sub hg) h⟩
    unfold hopsOf at hx ⊢
    obtain ⟨y, hy, h⟩ := List.mem_flatMap.1 hx
    exact List.mem_flatMap.2 ⟨y, addN_sub hk y hy, h⟩
theorem progStep_self {f : FFont} {ks gs : List Int} {z : Int} (hz : z ∈ gs) (h0 : 0 ≤ z) (h1 : z < f.Glyphs.length) : z ∈ progStep f ks gs := by
  rw [progStep_mem]
  refine ⟨Or.inl ?_, h0, h1⟩
  unfold selfAdds
  exact List.mem_flatMap.2 ⟨z, addN_mem.2 (Or.inr ⟨hz, h0, h1⟩), List.mem_cons_self ..⟩
theorem within_sorted {a b : List Int} (h : ∀ z ∈ a, z ∈ b) : ((sorted a).all fun z => (sorted b).contains z) = true := by
  rw [List.all_eq_true]
  intro z hz
  rw [List.contains_iff_mem]
  exact (sorted_perm b).mem_iff.2 (h z ((sorted_perm a).mem_iff.1 hz))
section
variable {P : Program} {tt : TT} {l : List Oper} {fr : AFr} {fin : AFr → AL → Prop} {sk : AkL} {acc : AFr} {L : AL} {k : Nat} {dd : Option Tmp} {ty t t' : TypeId} {pos : String} {af : Array Edge} {g : Option (Nat × Bool)} {x y : Operand} {u : AV}
theorem d_cutL (ok : TOk P tt) (lo : Nat) {e sz by_ s : Nat} {l1 : List (List AV)} {q : IntKind} {a : Int} (ht : slI tt t = some (e, sz, by_)) (hx : aev (frkA l.toArray acc fr af.toList) x = some u) (hu : immO u = some (s, l1)) (hs : Nat.beq s sz = true) (hy : aev (frkA l.toArray acc fr af.toList) y = some (.sc (.int q a))) (ha : a = (lo : Int)) (h1 : lo ≤ l1.length) (hg : GOA ⟨dd, .slice t x (some y) none none, ty, pos, af, g⟩ acc) (h : DA P l fr fin sk ((k, .imm s (l1.drop lo)) :: acc) L) :
    DA1 P l fr fin k .v ⟨dd, .slice t x (some y) none none, ty, pos, af, g⟩ sk acc L := da_val hg (fun _ _ => (a_cutL (slI_spec ok ht).1 hx (immO_spec hu) hs hy ha h1).ao) h
end
set_option maxHeartbeats 4000000 in
theorem grows_law (f : FFont) (hf : FontFits f) (ks gs : List Int) : ADet Tryz.prog 8 [aFont f, .imm 1 (ints ks), .imm 1 (ints gs)] (Bol true) := by
  refine ac_of Tryz.func8 rfl Tryz.ntmps8 rfl fun B => ?_
  haveI c1 : AD Tryz.prog 11 [] (Bol true) := ⟨closed_ac⟩
  (repeat' (first|refine at_seq ?_|refine at_region ?_|refine ax_then ?_|refine atl_nil ?_|refine n_run ttok rfl rfl ?_|refine n_boxI ?_|fail))
  refine n_call (hc := ⟨big_det f hf⟩) ?_
  by_cases hb : 2000 < fontN f
  · rw [decide_eq_true hb]
    (repeat' (first|refine at_seq ?_|refine at_region ?_|refine at_ret ?_|refine ax_then ?_|refine ax_then_ret ?_|refine atl_nil ?_|refine n_run ttok rfl rfl ?_|refine atl_guard_no rfl rfl rfl rfl ?_|refine n_condT rfl ?_|fail))
    exact ax_ret1 rfl rfl rfl
  rw [decide_eq_false hb]
  have hs : Small f := Nat.le_of_not_lt hb
  refine atl_cut (t := 30) [1, 2, 3] (ks.length > 200 ∨ gs.length > 200 ∨ ks.length = 0 ∨ gs.length = 0) rfl (fun Q' K => ?_) ?_
  · (repeat' (first|refine atl_nil ?_|refine n_run ttok rfl rfl ?_|refine atl_guard_yes rfl rfl ?_|refine atl_guard_no rfl rfl rfl rfl ?_|refine atl_guard rfl rfl rfl (fun _ => ?_) (fun _ => ?_)|fail))
    all_goals exact K _ _ rfl rfl (by clear K; simp_all [ints_len, -List.length_eq_zero_iff] <;> omega)
  (repeat' (first|refine ax_then ?_|fail))
  refine at_cond rfl (fun h => ?_) (fun h => ?_)
  · (repeat' (first|refine at_seq ?_|refine at_region ?_|refine at_ret ?_|refine ax_then ?_|refine ax_then_ret ?_|refine atl_nil ?_|refine n_run ttok rfl rfl ?_|fail))
    exact ax_ret1 rfl rfl rfl
  (repeat' (first|refine at_seq ?_|refine at_region ?_|refine at_skip ?_|refine ax_then ?_|refine n_run ttok rfl rfl ?_|fail))
  refine n_call (hc := ⟨Step_ac f hs ks gs⟩) ?_
  (repeat' (first|refine at_seq ?_|refine at_region ?_|refine at_block ?_|refine ax_then ?_|refine atl_nil ?_|refine n_run ttok rfl rfl ?_|fail))
  refine at_len 2 rfl rfl fun hlen => ?_
  rw [ints_len] at hlen
  have hnot := of_decide_eq_false h
  refine at_loopK [1, 2, 3, 7] (α := Nat) (fun i => [(8, I64 i)]) (fun i => i ≤ gs.length) (fun _ => []) (fun i => gs.length - i) 0 rfl ⟨rfl, trivial⟩ (Nat.zero_le _) (fun _ _ h => h) ?_
  rintro i hi
  try dsimp only [List.cons_append, List.nil_append, List.map_cons, List.map_nil]
  (repeat' (first|refine at_seq ?_|refine at_region ?_|refine ax_then ?_|refine atl_nil ?_|refine n_run ttok rfl rfl ?_|fail))
  refine at_cond rfl (fun h => ?_) (fun h => ?_)
  · have hil : i < gs.length := by have := of_decide_eq_true h; simp [ints_len] at this; omega
    obtain ⟨z, hz⟩ : ∃ z, gs[i]? = some z := ⟨_, List.getElem?_eq_getElem hil⟩
    have hzg := ints_get hz
    have hzm := List.mem_of_getElem? hz
    (repeat' (first|refine at_seq ?_|refine at_block ?_|refine at_skip ?_|refine ax_then ?_|fail))
    have hstep : 0 ≤ z → z < f.Glyphs.length → (sorted (progStep f ks gs)).contains z = true := fun h0 h1 => List.contains_iff_mem.2 ((sorted_perm _).mem_iff.2 (progStep_self hzm h0 h1))
    have hml : (f.Glyphs.map cGlyph).length = f.Glyphs.length := List.length_map ..
    by_cases h0 : 0 ≤ z
    · by_cases h1 : z < f.Glyphs.length
      · refine at_draw 21 [(0, .v), (1, .v), (2, .v), (3, .v), (4, .v), (5, .v), (6, .v), (7, .v), (8, .v), (9, .v), (10, .v), (11, .v), (12, .v), (13, .v), (14, .v), (15, .v), (16, .v), (17, .v), (18, .v), (19, .v), (20, .v)] none ?_ trivial rfl (by kernel_rfl) (by kernel_rfl) (by kernel_rfl) mixed (by kernel_rfl) rfl
        (repeat' (first|refine da_open ?_|refine d_run ttok ?_|(apply ds_index;refine d_index ttok ?_)|fail))
        rw [decide_eq_true h0]
        (repeat' (first|refine da_open ?_|refine d_run ttok ?_|(apply ds_index;refine d_index ttok ?_)|fail))
        rw [hml, decide_eq_true h1]
        (repeat' (first|refine da_open ?_|refine d_run ttok ?_|(apply ds_index;refine d_index ttok ?_)|fail))
        refine da_end [1, 2, 3, 7, 8, 56, 57, 61] rfl rfl ?_
        (repeat' (first|refine ax_then ?_|refine atl_nil ?_|refine n_run ttok rfl rfl ?_|refine atl_guard_yes rfl rfl ?_|(apply s_call;refine n_call ?_)|fail))
        rw [hstep h0 h1]
        (repeat' (first|refine at_region ?_|refine at_skip ?_|refine ax_then ?_|refine ax_blk ?_|refine atl_nil ?_|refine n_run ttok rfl rfl ?_|(apply s_bin; refine n_bin ?_)|refine n_condF rfl ?_|fail))
        exact ax_roundK (i + 1) rfl ⟨by rw [Int.natCast_add]; rfl, trivial⟩ (by omega) (by omega) (fun _ _ h => h)
      · refine at_draw 21 [(0, .v), (1, .v), (2, .v), (3, .v), (4, .v), (5, .v), (6, .v), (7, .v), (8, .v), (9, .v), (10, .v), (11, .v), (12, .v), (13, .v), (14, .v), (15, .v), (16, .v), (17, .v), (18, .v), (19, .v), (20, .v)] none ?_ trivial rfl (by kernel_rfl) (by kernel_rfl) (by kernel_rfl) mixed (by kernel_rfl) rfl
        (repeat' (first|refine da_open ?_|refine d_run ttok ?_|(apply ds_index;refine d_index ttok ?_)|fail))
        rw [decide_eq_true h0]
        (repeat' (first|refine da_open ?_|refine d_run ttok ?_|(apply ds_index;refine d_index ttok ?_)|fail))
        rw [hml, decide_eq_false h1]
        (repeat' (first|refine da_open ?_|refine da_no rfl rfl ?_|fail))
        refine da_end [1, 2, 3, 7, 8, 56, 57, 61] rfl rfl ?_
        (repeat' (first|refine at_region ?_|refine at_skip ?_|refine ax_then ?_|refine ax_blk ?_|refine atl_nil ?_|refine n_run ttok rfl rfl ?_|refine atl_guard_no rfl rfl rfl rfl ?_|(apply s_bin; refine n_bin ?_)|refine n_condF rfl ?_|fail))
        exact ax_roundK (i + 1) rfl ⟨by rw [Int.natCast_add]; rfl, trivial⟩ (by omega) (by omega) (fun _ _ h => h)
    · refine at_draw 21 [(0, .v), (1, .v), (2, .v), (3, .v), (4, .v), (5, .v), (6, .v), (7, .v), (8, .v), (9, .v), (10, .v), (11, .v), (12, .v), (13, .v), (14, .v), (15, .v), (16, .v), (17, .v), (18, .v), (19, .v), (20, .v)] none ?_ trivial rfl (by kernel_rfl) (by kernel_rfl) (by kernel_rfl) mixed (by kernel_rfl) rfl
      (repeat' (first|refine da_open ?_|refine d_run ttok ?_|(apply ds_index;refine d_index ttok ?_)|fail))
      rw [decide_eq_false h0]
      (repeat' (first|refine da_open ?_|refine d_run ttok ?_|refine da_no rfl rfl ?_|fail))
      refine da_end [1, 2, 3, 7, 8, 56, 57, 61] rfl rfl ?_
      (repeat' (first|refine at_region ?_|refine at_skip ?_|refine ax_then ?_|refine ax_blk ?_|refine atl_nil ?_|refine n_run ttok rfl rfl ?_|refine atl_guard_no rfl rfl rfl rfl ?_|(apply s_bin; refine n_bin ?_)|refine n_condF rfl ?_|fail))
      exact ax_roundK (i + 1) rfl ⟨by rw [Int.natCast_add]; rfl, trivial⟩ (by omega) (by omega) (fun _ _ h => h)
  (repeat' (first|refine at_seq ?_|refine at_exit ?_|refine ax_then ?_|refine ax_then_exit ?_|refine ax_blk_exit ?_|refine ax_loop_exit ?_|fail))
  have hka : 1 ≤ ks.length := by omega
  have hga : 1 ≤ gs.length := by omega
  haveI s1 : AD Tryz.prog 21 [aFont f, .imm 1 (ints (ks.drop 1)), .imm 1 (ints gs)] (.imm 1 (ints (sorted (progStep f (ks.drop 1) gs)))) := ⟨Step_ac f hs _ _⟩
  haveI s2 : AD Tryz.prog 21 [aFont f, .imm 1 (ints ks), .imm 1 (ints (gs.drop 1))] (.imm 1 (ints (sorted (progStep f ks (gs.drop 1))))) := ⟨Step_ac f hs _ _⟩
  have e1 : (ints ks).drop 1 = ints (ks.drop 1) := by simp [ints]
  have e2 : (ints gs).drop 1 = ints (gs.drop 1) := by simp [ints]
  have m1 := within_sorted (progStep_mono (f := f) (ks := ks.drop 1) (ks' := ks) (gs := gs) (gs' := gs) (fun z hz => List.mem_of_mem_drop hz) (fun z hz => hz))
  have m2 := within_sorted (progStep_mono (f := f) (ks := ks) (ks' := ks) (gs := gs.drop 1) (gs' := gs) (fun z hz => hz) (fun z hz => List.mem_of_mem_drop hz))
  refine at_draw 17 [(0, .v), (1, .v), (2, .v), (3, .v), (4, .v), (5, .v), (6, .v), (7, .v), (8, .v), (9, .v), (10, .v), (11, .v), (12, .v), (13, .v), (14, .v), (15, .v), (16, .v)] none ?_ trivial rfl (by kernel_rfl) (by kernel_rfl) (by kernel_rfl) mixed (by kernel_rfl) rfl
  (repeat' (first|refine da_open ?_|refine d_run ttok ?_|(apply ds_call;refine d_call ?_)|fail))
  refine d_cutL ttok 1 rfl rfl rfl rfl rfl rfl (by rw [ints_len]; omega) (by first | trivial | rfl) ?_
  rw [e1]
  (repeat' (first|refine da_open ?_|refine d_run ttok ?_|(apply ds_call;refine d_call ?_)|fail))
  rw [m1]
  (repeat' (first|refine da_open ?_|refine d_run ttok ?_|fail))
  refine d_cutL ttok 1 rfl rfl rfl rfl rfl rfl (by rw [ints_len]; omega) (by first | trivial | rfl) ?_
  rw [e2]
  (repeat' (first|refine da_open ?_|refine d_run ttok ?_|(apply ds_call;refine d_call ?_)|fail))
  refine da_end [75, 80, 81] rfl rfl ?_
  (repeat' (first|refine at_ret ?_|refine ax_then ?_|refine atl_nil ?_|refine n_run ttok rfl rfl ?_|refine atl_guard_yes rfl rfl ?_|(apply s_call;refine n_call ?_)|fail))
  exact ax_ret1 rfl rfl (by rw [m2])
end Go.Proofs.YtpbinloeemebkaaGreat
