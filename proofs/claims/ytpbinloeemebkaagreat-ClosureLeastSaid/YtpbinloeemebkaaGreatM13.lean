/-
  The program: a rule, a lookup, as check looks at them.
-/
import Derived.Test.YtpbinloeemebkaaGreatM12
import Derived.Test.YtpbinloeemebkaaGreatM10
namespace Go.Proofs.YtpbinloeemebkaaGreat
open Go.RowKit
attribute [local irreducible] AT ATL AX AO Av Kt ALoopK OkA DA DA1
def setE (f : FFont) (_ : Nat) (l : List Int) : Int := whenE (!(isSetB f l)) 41
def outE (f : FFont) (_ : Nat) (n : Int) : Int := whenE (!(isG f n)) 32
def xE (kind : Int) (r : FRule) : Int := whenE (decide (r.X ≠ 0 ∧ kind ≠ 6)) 40
def sets3 (r : FRule) : List (List Int) := r.Back ++ (r.In ++ r.Ahead)
theorem rule1_det (kind : Int) (r : FRule) : ADet Tryz.prog 236 [.iptr [I64 kind], .iptr (cRule r)] (tup2 (rowsE kind r, 0)) := by
  refine ac_of Tryz.func236 rfl Tryz.ntmps236 rfl fun B => ?_
  (repeat' (first|refine at_seq ?_|refine at_region ?_|refine at_ret ?_|refine ax_then ?_|refine atl_nil ?_|refine n_run ttok rfl rfl ?_|(apply s_call;refine n_call ?_)|fail))
  exact ax_ret2 rfl rfl rfl rfl
theorem rule2s_det (f : FFont) (i : Nat) (l : List Int) : ADet Tryz.prog 240 [I64 i, .imm 1 (ints l), .iptr (cFont f)] (I64 (setE f i l)) := by
  refine ac_of Tryz.func240 rfl Tryz.ntmps240 rfl fun B => ?_
  (repeat' (first|refine at_seq ?_|refine at_region ?_|refine at_ret ?_|refine ax_then ?_|refine atl_nil ?_|refine n_run ttok rfl rfl ?_|(apply s_call;refine n_call ?_)|fail))
  exact ax_ret1 rfl rfl rfl
theorem rule2_det (f : FFont) (r : FRule) (h : r.Back.length ≤ 6 ∧ r.In.length ≤ 6 ∧ r.Ahead.length ≤ 6) : ADet Tryz.prog 238 [.iptr (cRule r), .iptr (cFont f)] (tup2 (eachL (sets3 r) (setE f))) := by
  refine ac_of Tryz.func238 rfl Tryz.ntmps238 rfl fun B => ?_
  (repeat' (first|refine at_seq ?_|refine at_region ?_|refine ax_then ?_|refine atl_nil ?_|refine n_run ttok rfl rfl ?_|refine n_litI ttok ?_|fail))
  refine n_call (hc := ⟨concat_det [r.Back, r.In, r.Ahead] (by simp [sumLen]; omega)⟩) ?_
  rw [show ([r.Back, r.In, r.Ahead] : List (List (List Int))).flatten = sets3 r by simp [sets3]]
  (repeat' (first|refine n_run ttok rfl rfl ?_|fail))
  refine n_callA [] [] (each239 (u := .fn 240 [.iptr (cFont f)]) (g := 240) rfl (sets3 r) _ (fun _ _ => True) [] trivial (wrong_det (fun i x _ => rule2s_det f i x))) rfl rfl (List.Perm.refl _) rfl fun c L1 hc => ?_
  have hc : c = tup2 (eachL (sets3 r) (setE f)) := hc
  subst hc
  unfold tup2
  (repeat' (first|refine at_ret ?_|refine ax_then ?_|refine atl_nil ?_|refine n_run ttok rfl rfl ?_|fail))
  exact ax_ret2 rfl rfl rfl rfl
theorem rule3_det (kind : Int) (r : FRule) (hin : r.In ≠ []) : ADet Tryz.prog 242 [.iptr [I64 kind], .iptr (cRule r)] (tup2 (whenE (!(outB kind r)) 40, 0)) := by
  refine ac_of Tryz.func242 rfl Tryz.ntmps242 rfl fun B => ?_
  (repeat' (first|refine at_seq ?_|refine at_region ?_|refine ax_then ?_|refine atl_nil ?_|refine n_run ttok rfl rfl ?_|fail))
  refine n_call (hc := ⟨out_det kind r hin⟩) ?_
  (repeat' (first|refine at_ret ?_|refine ax_then ?_|refine atl_nil ?_|refine n_run ttok rfl rfl ?_|(apply s_call;refine n_call ?_)|fail))
  exact ax_ret2 rfl rfl rfl rfl
theorem rule4s_det (f : FFont) (i : Nat) (n : Int) : ADet Tryz.prog 245 [I64 i, I64 n, .iptr (cFont f)] (I64 (outE f i n)) := by
  refine ac_of Tryz.func245 rfl Tryz.ntmps245 rfl fun B => ?_
  (repeat' (first|refine at_seq ?_|refine at_region ?_|refine at_ret ?_|refine ax_then ?_|refine atl_nil ?_|refine n_run ttok rfl rfl ?_|(apply s_call;refine n_call ?_)|fail))
  exact ax_ret1 rfl rfl rfl
theorem rule4_det (f : FFont) (r : FRule) : ADet Tryz.prog 244 [.iptr (cRule r), .iptr (cFont f)] (tup2 (eachL r.Out (outE f))) := by
  refine ac_of Tryz.func244 rfl Tryz.ntmps244 rfl fun B => ?_
  (repeat' (first|refine at_seq ?_|refine at_region ?_|refine ax_then ?_|refine atl_nil ?_|refine n_run ttok rfl rfl ?_|fail))
  refine n_callA [] [] (each164 (u := .fn 245 [.iptr (cFont f)]) (g := 245) rfl r.Out _ (fun _ _ => True) [] trivial (wrong_det (fun i x _ => rule4s_det f i x))) rfl rfl (List.Perm.refl _) rfl fun c L1 hc => ?_
  have hc : c = tup2 (eachL r.Out (outE f)) := hc
  subst hc
  unfold tup2
  (repeat' (first|refine at_ret ?_|refine ax_then ?_|refine atl_nil ?_|refine n_run ttok rfl rfl ?_|fail))
  exact ax_ret2 rfl rfl rfl rfl
theorem rule5_det (f : FFont) (kind : Int) (r : FRule) : ADet Tryz.prog 246 [.iptr (cFont f), .iptr [I64 kind], .iptr (cRule r)] (tup2 (callsE f kind r, 0)) := by
  refine ac_of Tryz.func246 rfl Tryz.ntmps246 rfl fun B => ?_
  (repeat' (first|refine at_seq ?_|refine at_region ?_|refine at_ret ?_|refine ax_then ?_|refine atl_nil ?_|refine n_run ttok rfl rfl ?_|(apply s_call;refine n_call ?_)|fail))
  exact ax_ret2 rfl rfl rfl rfl
theorem rule6_det (r : FRule) : ADet Tryz.prog 248 [.iptr (cRule r)] (tup2 (whenE (!([r.X].all mayN)) 1, 0)) := by
  refine ac_of Tryz.func248 rfl Tryz.ntmps248 rfl fun B => ?_
  (repeat' (first|refine at_seq ?_|refine at_region ?_|refine at_ret ?_|refine ax_then ?_|refine atl_nil ?_|refine n_run ttok rfl rfl ?_|refine n_litI ttok ?_|(apply s_call;refine n_call ?_)|fail))
  exact ax_ret2 rfl rfl rfl rfl
theorem rule7_det (kind : Int) (r : FRule) : ADet Tryz.prog 249 [.iptr (cRule r), .iptr [I64 kind]] (tup2 (xE kind r, 0)) := by
  refine ac_of Tryz.func249 rfl Tryz.ntmps249 rfl fun B => ?_
  unfold xE
  by_cases h : r.X ≠ 0
  · rw [show decide (r.X ≠ 0 ∧ kind ≠ 6) = decide (kind ≠ 6) from decide_eq_decide.2 ⟨fun q => q.2, fun q => ⟨h, q⟩⟩]
    (repeat' (first|refine at_seq ?_|refine at_region ?_|refine ax_then ?_|refine atl_nil ?_|refine n_run ttok rfl rfl ?_|fail))
    rw [decide_eq_true h]
    (repeat' (first|refine at_ret ?_|refine ax_then ?_|refine atl_nil ?_|refine n_run ttok rfl rfl ?_|refine atl_guard_yes rfl rfl ?_|(apply s_call;refine n_call ?_)|fail))
    exact ax_ret2 rfl rfl rfl rfl
  · rw [show decide (r.X ≠ 0 ∧ kind ≠ 6) = false from decide_eq_false (fun q => h q.1)]
    (repeat' (first|refine at_seq ?_|refine at_region ?_|refine ax_then ?_|refine atl_nil ?_|refine n_run ttok rfl rfl ?_|fail))
    rw [decide_eq_false h]
    (repeat' (first|refine at_ret ?_|refine ax_then ?_|refine atl_nil ?_|refine n_run ttok rfl rfl ?_|refine atl_guard_no rfl rfl rfl rfl ?_|(apply s_call;refine n_call ?_)|fail))
    exact ax_ret2 rfl rfl rfl rfl
def ruleE (f : FFont) (kind : Int) (r : FRule) : Int := (firstE [(rowsE kind r, 0), eachL (sets3 r) (setE f), (whenE (!(outB kind r)) 40, 0), eachL r.Out (outE f), (callsE f kind r, 0), (whenE (!([r.X].all mayN)) 1, 0), (xE kind r, 0)]).1
set_option maxHeartbeats 1000000 in
theorem rule_det (f : FFont) (kind : Int) (r : FRule) : ADet Tryz.prog 177 [aFont f, I64 kind, .agg (cRule r)] (I64 (ruleE f kind r)) := by
  refine ac_of Tryz.func177 rfl Tryz.ntmps177 rfl fun B => ?_
  (repeat' (first|refine at_seq ?_|refine at_region ?_|refine ax_then ?_|refine atl_nil ?_|refine n_run ttok rfl rfl ?_|refine n_boxI ?_|refine n_litI ttok ?_|fail))
  refine n_callA [] [] (first_ac [⟨236, [.iptr [I64 kind], .iptr (cRule r)], [], rowsE kind r, 0⟩, ⟨238, [.iptr (cRule r), .iptr (cFont f)], [], (eachL (sets3 r) (setE f)).1, (eachL (sets3 r) (setE f)).2⟩, ⟨242, [.iptr [I64 kind], .iptr (cRule r)], [], whenE (!(outB kind r)) 40, 0⟩, ⟨244, [.iptr (cRule r), .iptr (cFont f)], [], (eachL r.Out (outE f)).1, (eachL r.Out (outE f)).2⟩, ⟨246, [.iptr (cFont f), .iptr [I64 kind], .iptr (cRule r)], [], callsE f kind r, 0⟩, ⟨248, [.iptr (cRule r)], [], whenE (!([r.X].all mayN)) 1, 0⟩, ⟨249, [.iptr (cRule r), .iptr [I64 kind]], [], xE kind r, 0⟩] ?_) rfl rfl (List.Perm.refl _) rfl fun c L1 hc => ?_
  · exact ⟨⟨inferInstance, rule1_det kind r⟩, fun h1 => ⟨⟨inferInstance, rule2_det f r (rows_in h1).2⟩, fun _ => ⟨⟨inferInstance, rule3_det kind r (rows_in h1).1⟩, fun _ => ⟨⟨inferInstance, rule4_det f r⟩, fun _ => ⟨⟨inferInstance, rule5_det f kind r⟩, fun _ => ⟨⟨inferInstance, rule6_det r⟩, fun _ => ⟨⟨inferInstance, rule7_det kind r⟩, fun _ => trivial⟩⟩⟩⟩⟩⟩⟩
  rw [lkE_map] at hc
  subst hc
  unfold tup2
  (repeat' (first|refine at_seq ?_|refine at_region ?_|refine at_ret ?_|refine ax_then ?_|refine atl_nil ?_|refine n_run ttok rfl rfl ?_|fail))
  exact ax_ret1 rfl rfl rfl
instance (f : FFont) (kind : Int) (r : FRule) : AD Tryz.prog 177 [aFont f, I64 kind, .agg (cRule r)] (I64 (ruleE f kind r)) := ⟨rule_det f kind r⟩
theorem lookup1_det (l : FLookup) : ADet Tryz.prog 172 [.iptr (cLookup l)] (tup2 (whenE (decide ((l.Rules.length : Int) > 60)) 2, 0)) := by
  refine ac_of Tryz.func172 rfl Tryz.ntmps172 rfl fun B => ?_
  rw [show (l.Rules.length : Int) = ((l.Rules.map cRule).length : Int) by rw [List.length_map]]
  (repeat' (first|refine at_seq ?_|refine at_region ?_|refine at_ret ?_|refine ax_then ?_|refine atl_nil ?_|refine n_run ttok rfl rfl ?_|(apply s_call;refine n_call ?_)|fail))
  exact ax_ret2 rfl rfl rfl rfl
def anchE (l : FLookup) : Int := whenE (decide (l.Kind = 7 ∨ l.Kind = 8) && decide ((l.Rules.length : Int) > 0)) 40
theorem lookup2_det (l : FLookup) (b : Bool) (hb : b = decide (l.Kind = 7 ∨ l.Kind = 8)) : ADet Tryz.prog 173 [.iptr [Bol b], .iptr (cLookup l)] (tup2 (anchE l, 0)) := by
  refine ac_of Tryz.func173 rfl Tryz.ntmps173 rfl fun B => ?_
  unfold anchE
  rw [← hb, show (l.Rules.length : Int) = ((l.Rules.map cRule).length : Int) by rw [List.length_map]]
  cases b
  · (repeat' (first|refine at_seq ?_|refine at_region ?_|refine at_ret ?_|refine ax_then ?_|refine atl_nil ?_|refine n_run ttok rfl rfl ?_|refine atl_guard_no rfl rfl rfl rfl ?_|(apply s_call;refine n_call ?_)|fail))
    exact ax_ret2 rfl rfl rfl rfl
  · (repeat' (first|refine at_seq ?_|refine at_region ?_|refine at_ret ?_|refine ax_then ?_|refine atl_nil ?_|refine n_run ttok rfl rfl ?_|refine atl_guard_yes rfl rfl ?_|(apply s_call;refine n_call ?_)|fail))
    exact ax_ret2 rfl rfl rfl rfl
theorem lookup3s_det (f : FFont) (l : FLookup) (i : Nat) (r : FRule) : ADet Tryz.prog 176 [I64 i, .agg (cRule r), .iptr (cFont f), .iptr (cLookup l)] (I64 (ruleE f l.Kind r)) := by
  refine ac_of Tryz.func176 rfl Tryz.ntmps176 rfl fun B => ?_
  (repeat' (first|refine at_seq ?_|refine at_region ?_|refine at_ret ?_|refine ax_then ?_|refine atl_nil ?_|refine n_run ttok rfl rfl ?_|refine n_boxI ?_|(apply s_call;refine n_call ?_)|fail))
  exact ax_ret1 rfl rfl rfl
theorem lookup3_det (f : FFont) (l : FLookup) : ADet Tryz.prog 174 [.iptr (cLookup l), .iptr (cFont f)] (tup2 (eachL l.Rules fun _ r => ruleE f l.Kind r)) := by
  refine ac_of Tryz.func174 rfl Tryz.ntmps174 rfl fun B => ?_
  (repeat' (first|refine at_seq ?_|refine at_region ?_|refine ax_then ?_|refine atl_nil ?_|refine n_run ttok rfl rfl ?_|fail))
  refine n_callA [] [] (each175 (u := .fn 176 [.iptr (cFont f), .iptr (cLookup l)]) (g := 176) rfl l.Rules _ (fun _ _ => True) [] trivial (wrong_det (w := fun _ r => ruleE f l.Kind r) (fun i x _ => lookup3s_det f l i x))) rfl rfl (List.Perm.refl _) rfl fun c L1 hc => ?_
  have hc : c = tup2 (eachL l.Rules fun _ r => ruleE f l.Kind r) := hc
  subst hc
  unfold tup2
  (repeat' (first|refine at_ret ?_|refine ax_then ?_|refine atl_nil ?_|refine n_run ttok rfl rfl ?_|fail))
  exact ax_ret2 rfl rfl rfl rfl
def lookupE (f : FFont) (l : FLookup) : Int := if l.Kind < 1 ∨ l.Kind > 8 then 42 else (firstE [(whenE (decide ((l.Rules.length : Int) > 60)) 2, 0), (anchE l, 0), eachL l.Rules fun _ r => ruleE f l.Kind r]).1
set_option maxHeartbeats 1000000 in
theorem lookup_det (f : FFont) (l : FLookup) : ADet Tryz.prog 95 [aFont f, .agg (cLookup l)] (I64 (lookupE f l)) := by
  refine ac_of Tryz.func95 rfl Tryz.ntmps95 rfl fun B => ?_
  unfold lookupE
  (repeat' (first|refine at_seq ?_|refine at_region ?_|refine ax_then ?_|refine atl_nil ?_|refine n_run ttok rfl rfl ?_|refine n_boxI ?_|fail))
  refine atl_if [2, 3] (l.Kind < 1 ∨ l.Kind > 8) rfl (fun Q' K => ?_) (fun hC => ?_) (fun hC => ?_)
  · (repeat' (first|refine atl_nil ?_|refine n_run ttok rfl rfl ?_|refine atl_guard_yes rfl rfl ?_|refine atl_guard_no rfl rfl rfl rfl ?_|refine atl_guard rfl rfl rfl (fun _ => ?_) (fun _ => ?_)|fail))
    all_goals exact K _ _ rfl rfl (by clear K; grind)
  · rw [if_pos hC]
    (repeat' (first|refine at_seq ?_|refine at_region ?_|refine at_ret ?_|refine ax_then ?_|refine ax_then_ret ?_|refine atl_nil ?_|refine n_run ttok rfl rfl ?_|fail))
    exact ax_ret1 rfl rfl rfl
  rw [if_neg hC]
  (repeat' (first|refine at_seq ?_|refine at_region ?_|refine at_skip ?_|refine ax_then ?_|refine n_run ttok rfl rfl ?_|fail))
  by_cases h7 : l.Kind = 7
  · rw [decide_eq_true h7]
    (repeat' (first|refine at_seq ?_|refine at_region ?_|refine ax_then ?_|refine atl_nil ?_|refine n_run ttok rfl rfl ?_|refine atl_guard_no rfl rfl rfl rfl ?_|(apply s_store; first|refine n_storeF 5 ttok 0 rfl rfl rfl rfl rfl rfl rfl rfl ?_|refine n_storeF 5 ttok 1 rfl rfl rfl rfl rfl rfl rfl rfl ?_|refine n_storeF 5 ttok 2 rfl rfl rfl rfl rfl rfl rfl rfl ?_|refine n_store ttok 0 rfl rfl rfl rfl rfl rfl rfl ?_|refine n_store ttok 1 rfl rfl rfl rfl rfl rfl rfl ?_|refine n_store ttok 2 rfl rfl rfl rfl rfl rfl rfl ?_|refine n_store ttok 3 rfl rfl rfl rfl rfl rfl rfl ?_|fail)|refine n_alloc ttok fun _=>?_|refine n_litI ttok ?_|fail))
    refine n_callA [] [] (first_ac [⟨172, [.iptr (cLookup l)], [], whenE (decide ((l.Rules.length : Int) > 60)) 2, 0⟩, ⟨173, [.iptr [Bol true], .iptr (cLookup l)], [], anchE l, 0⟩, ⟨174, [.iptr (cLookup l), .iptr (cFont f)], [], (eachL l.Rules fun _ r => ruleE f l.Kind r).1, (eachL l.Rules fun _ r => ruleE f l.Kind r).2⟩] ⟨⟨inferInstance, lookup1_det l⟩, fun _ => ⟨⟨inferInstance, lookup2_det l true (decide_eq_true (Or.inl h7)).symm⟩, fun _ => ⟨⟨inferInstance, lookup3_det f l⟩, fun _ => trivial⟩⟩⟩) rfl rfl (List.Perm.refl _) rfl fun c L1 hc => ?_
    rw [lkE_map] at hc
    subst hc
    unfold tup2
    (repeat' (first|refine at_seq ?_|refine at_region ?_|refine at_ret ?_|refine ax_then ?_|refine atl_nil ?_|refine n_run ttok rfl rfl ?_|fail))
    exact ax_ret1 rfl rfl rfl
  · rw [decide_eq_false h7]
    (repeat' (first|refine at_seq ?_|refine at_region ?_|refine ax_then ?_|refine atl_nil ?_|refine n_run ttok rfl rfl ?_|refine atl_guard_yes rfl rfl ?_|(apply s_store; first|refine n_storeF 5 ttok 0 rfl rfl rfl rfl rfl rfl rfl rfl ?_|refine n_storeF 5 ttok 1 rfl rfl rfl rfl rfl rfl rfl rfl ?_|refine n_storeF 5 ttok 2 rfl rfl rfl rfl rfl rfl rfl rfl ?_|refine n_store ttok 0 rfl rfl rfl rfl rfl rfl rfl ?_|refine n_store ttok 1 rfl rfl rfl rfl rfl rfl rfl ?_|refine n_store ttok 2 rfl rfl rfl rfl rfl rfl rfl ?_|refine n_store ttok 3 rfl rfl rfl rfl rfl rfl rfl ?_|fail)|refine n_alloc ttok fun _=>?_|refine n_litI ttok ?_|fail))
    refine n_callA [] [] (first_ac [⟨172, [.iptr (cLookup l)], [], whenE (decide ((l.Rules.length : Int) > 60)) 2, 0⟩, ⟨173, [.iptr [Bol (decide (l.Kind = 8))], .iptr (cLookup l)], [], anchE l, 0⟩, ⟨174, [.iptr (cLookup l), .iptr (cFont f)], [], (eachL l.Rules fun _ r => ruleE f l.Kind r).1, (eachL l.Rules fun _ r => ruleE f l.Kind r).2⟩] ⟨⟨inferInstance, lookup1_det l⟩, fun _ => ⟨⟨inferInstance, lookup2_det l (decide (l.Kind = 8)) (decide_eq_decide.2 ⟨Or.inr, fun h => h.resolve_left h7⟩)⟩, fun _ => ⟨⟨inferInstance, lookup3_det f l⟩, fun _ => trivial⟩⟩⟩) rfl rfl (List.Perm.refl _) rfl fun c L1 hc => ?_
    rw [lkE_map] at hc
    subst hc
    unfold tup2
    (repeat' (first|refine at_seq ?_|refine at_region ?_|refine at_ret ?_|refine ax_then ?_|refine atl_nil ?_|refine n_run ttok rfl rfl ?_|fail))
    exact ax_ret1 rfl rfl rfl
instance (f : FFont) (l : FLookup) : AD Tryz.prog 95 [aFont f, .agg (cLookup l)] (I64 (lookupE f l)) := ⟨lookup_det f l⟩
theorem lookupAt_det (f : FFont) (i : Nat) (l : FLookup) : ADet Tryz.prog 94 [I64 i, .agg (cLookup l), .iptr (cFont f)] (I64 (lookupE f l)) := by
  refine ac_of Tryz.func94 rfl Tryz.ntmps94 rfl fun B => ?_
  (repeat' (first|refine at_seq ?_|refine at_region ?_|refine at_ret ?_|refine ax_then ?_|refine atl_nil ?_|refine n_run ttok rfl rfl ?_|refine n_boxI ?_|(apply s_call;refine n_call ?_)|fail))
  exact ax_ret1 rfl rfl rfl
end Go.Proofs.YtpbinloeemebkaaGreat

namespace Go.Proofs.YtpbinloeemebkaaGreat
open Go.RowKit
attribute [local irreducible] AT ATL AX AO Av Kt ALoopK OkA DA DA1
instance : CFn Tryz.prog 305 := ⟨enters_fn Tryz.func305 (by kernel_rfl) rfl⟩
instance : CFn Tryz.prog 306 := ⟨enters_fn Tryz.func306 (by kernel_rfl) rfl⟩
instance : CFn Tryz.prog 307 := ⟨enters_fn Tryz.func307 (by kernel_rfl) rfl⟩
instance : CFn Tryz.prog 308 := ⟨enters_fn Tryz.func308 (by kernel_rfl) rfl⟩
instance : CFn Tryz.prog 309 := ⟨enters_fn Tryz.func309 (by kernel_rfl) rfl⟩
theorem m_len : Meth Tryz.prog 333 "Len" 305 false 328 := methB_spec (by kernel_rfl)
theorem m_less : Meth Tryz.prog 333 "Less" 306 false 328 := methB_spec (by kernel_rfl)
theorem m_swap : Meth Tryz.prog 333 "Swap" 307 false 328 := methB_spec (by kernel_rfl)
theorem m_pop : Meth Tryz.prog 333 "Pop" 308 true 328 := methB_spec (by kernel_rfl)
theorem m_push : Meth Tryz.prog 333 "Push" 309 true 328 := methB_spec (by kernel_rfl)
section
variable {P : Program} {fr : AFr} {d : Option Tmp} {ty t t' : TypeId} {pos : String} {af : Array Edge} {g : Option (Nat × Bool)} {x y : Operand}
theorem a_half {z : Int} {n : Nat} (hz : z = (n : Int) - 1) (hx : aev fr x = some (I64 z)) (hy : aev fr y = some (I64 2)) (hn : n ≤ 9223372036854775807) : Av P ⟨d, .binOp .quo t x y t', ty, pos, af, g⟩ fr (I64 (((n - 1) / 2 : Nat) : Int)) := by
  have h := a_quo (P := P) (d := d) (ty := ty) (pos := pos) (af := af) (g := g) (t := t) (t' := t') hx hy (by omega)
  have e : IntKind.i64.wrap (z.tdiv 2) = (((n - 1) / 2 : Nat) : Int) := by
    subst hz
    have : ((n : Int) - 1).tdiv 2 = (((n - 1) / 2 : Nat) : Int) := by
      cases n with
      | zero => rfl
      | succ m =>
        rw [show (((m + 1 : Nat) : Int) - 1) = (m : Int) by omega, Int.tdiv_eq_ediv_of_nonneg (by omega)]
        simp
    rw [this, fits64 (by omega)]
  rwa [e] at h
end
abbrev HI (p : Nat) : AV := .sc (.iface 333 (.pointer (some ⟨p, 0, none⟩)))
def hSl (k : Option (Nat × List AV)) (n : Nat) : Value := match k with
  | none => .slice none 0 0
  | some (b, cs) => .slice (some ⟨b, 0, none⟩) n cs.length
def hRow (k : Option (Nat × List AV)) : AL := match k with
  | none => []
  | some (b, cs) => [(b, .box cs 3)]
def hst (p : Nat) (k : Option (Nat × List AV)) (l : List Int) : AL := (p, .box [.sc (hSl k l.length)] 328) :: hRow k
def HOk (k : Option (Nat × List AV)) (l : List Int) : Prop := match k with
  | none => l = []
  | some (_, cs) => cs.take l.length = l.map I64 ∧ l.length ≤ cs.length ∧ 0 < cs.length
theorem HOk.get {b : Nat} {cs : List AV} {l : List Int} (h : HOk (some (b, cs)) l) {a : Int} (h0 : 0 ≤ a) (h1 : a < l.length) : ∃ x, l[a.toNat]? = some x ∧ cs[0 + a.toNat * 1]? = some (I64 x) := by
  obtain ⟨x, hx⟩ : ∃ x, l[a.toNat]? = some x := ⟨_, List.getElem?_eq_getElem (by omega)⟩
  refine ⟨x, hx, ?_⟩
  have h2 := congrArg (fun q => q[a.toNat]?) h.1
  simp only [List.getElem?_take, List.getElem?_map, hx] at h2
  rw [if_pos (by omega)] at h2
  rw [Nat.zero_add, Nat.mul_one]
  exact h2
theorem len305 (v : Value) (n c : Nat) (A : Option Addr) (hv : v = .slice A n c) : ADet Tryz.prog 305 [.sc v] (I64 n) := by
  subst hv
  refine ac_of Tryz.func305 rfl Tryz.ntmps305 rfl fun B => ?_
  (repeat' (first|refine at_seq ?_|refine at_region ?_|refine at_ret ?_|refine ax_then ?_|refine atl_nil ?_|refine n_run ttok rfl rfl ?_|fail))
  exact ax_ret1 rfl rfl rfl
theorem less306 {b n c : Nat} {cs : List AV} {x y a e : Int} (ha : 0 ≤ a ∧ a < n) (he : 0 ≤ e ∧ e < n) (hx : cs[0 + a.toNat * 1]? = some (I64 x)) (hy : cs[0 + e.toNat * 1]? = some (I64 y)) : AC Tryz.prog 306 [.sc (.slice (some ⟨b, 0, none⟩) n c), I64 a, I64 e] [(b, .box cs 3)] fun r L => r = Bol (decide (x < y)) ∧ L = [(b, .box cs 3)] := by
  refine ac_of Tryz.func306 rfl Tryz.ntmps306 rfl fun B => ?_
  (repeat' (first|refine at_seq ?_|refine at_region ?_|refine ax_then ?_|refine atl_nil ?_|refine n_run ttok rfl rfl ?_|fail))
  refine at_draw 8 [(0, .v), (1, .v), (2, .v), (3, .l), (4, .v), (5, .v), (6, .v), (7, .l)] none ?_ trivial rfl (by kernel_rfl) (by kernel_rfl) (by kernel_rfl) mixed (by kernel_rfl) rfl
  (repeat' (first|refine da_open ?_|refine d_run ttok ?_|fail))
  refine d_indexP ttok rfl rfl rfl ha trivial ?_
  (repeat' (first|refine da_open ?_|fail))
  refine d_load ttok 0 rfl rfl rfl hx trivial ?_
  (repeat' (first|refine da_open ?_|refine d_run ttok ?_|fail))
  refine d_indexP ttok rfl rfl rfl he trivial ?_
  (repeat' (first|refine da_open ?_|fail))
  refine d_load ttok 0 rfl rfl rfl hy trivial ?_
  (repeat' (first|fail))
  refine da_end [10, 14] rfl rfl ?_
  (repeat' (first|refine at_ret ?_|refine ax_then ?_|refine atl_nil ?_|refine n_run ttok rfl rfl ?_|fail))
  exact ax_ret1 rfl rfl ⟨rfl, rfl⟩
theorem swap307 {b n c : Nat} {cs : List AV} {x y a e : Int} (ha : 0 ≤ a ∧ a < n) (he : 0 ≤ e ∧ e < n) (hx : cs[0 + a.toNat * 1]? = some (I64 x)) (hy : cs[0 + e.toNat * 1]? = some (I64 y)) (hn : n ≤ cs.length) : AC Tryz.prog 307 [.sc (.slice (some ⟨b, 0, none⟩) n c), I64 a, I64 e] [(b, .box cs 3)] fun _ L => L = [(b, .box ((cs.set a.toNat (I64 y)).set e.toNat (I64 x)) 3)] := by
  refine ac_of Tryz.func307 rfl Tryz.ntmps307 rfl fun B => ?_
  (repeat' (first|fail))
  refine at_draw 14 [(0, .v), (1, .v), (2, .v), (3, .v), (4, .v), (5, .v), (6, .v), (7, .l), (8, .v), (9, .v), (10, .v), (11, .l), (12, .v), (13, .e)] none ?_ trivial rfl (by kernel_rfl) (by kernel_rfl) (by kernel_rfl) mixed (by kernel_rfl) rfl
  (repeat' (first|refine da_open ?_|refine d_run ttok ?_|fail))
  refine d_indexP ttok rfl rfl rfl he trivial ?_
  (repeat' (first|refine da_open ?_|fail))
  refine d_load ttok 0 rfl rfl rfl hy trivial ?_
  (repeat' (first|refine da_open ?_|refine d_run ttok ?_|fail))
  refine d_indexP ttok rfl rfl rfl ha trivial ?_
  (repeat' (first|refine da_open ?_|fail))
  refine d_load ttok 0 rfl rfl rfl hx trivial ?_
  (repeat' (first|refine da_open ?_|fail))
  refine d_indexP ttok rfl rfl rfl ha trivial ?_
  (repeat' (first|refine da_open ?_|fail))
  refine d_storeB ttok 0 rfl rfl rfl rfl rfl rfl (by rw [Nat.ble_eq]; show _ + 1 ≤ _; omega) trivial fun _ => ?_
  (repeat' (first|fail))
  refine da_end [8, 9, 17] rfl rfl ?_
  (repeat' (first|(apply s_index; first|refine n_index ttok ?_|refine n_indexP ttok ?_)|fail))
  refine n_store ttok 0 rfl rfl rfl rfl rfl rfl (by rw [Nat.ble_eq]; show _ + 1 ≤ (putA _ _ _).length; rw [putA_len]; omega) ?_
  (repeat' (first|refine atl_nil ?_|fail))
  refine ax_end0 rfl ?_
  simp only [aput, putA, Nat.zero_add, Nat.mul_one]
theorem HOk.swap {b : Nat} {cs : List AV} {l : List Int} (h : HOk (some (b, cs)) l) {a e x y : Int} (ha : 0 ≤ a ∧ a < l.length) (he : 0 ≤ e ∧ e < l.length) (hx : l[a.toNat]? = some x) (hy : l[e.toNat]? = some y) : HOk (some (b, (cs.set a.toNat (I64 y)).set e.toNat (I64 x))) ((l.set a.toNat y).set e.toNat x) ∧ ((l.set a.toNat y).set e.toNat x).Perm l := by
  obtain ⟨h1, h2, h3⟩ := h
  refine ⟨⟨?_, by simpa using h2, by simpa using h3⟩, ?_⟩
  · simp only [List.length_set]
    rw [List.take_set, List.take_set, h1, List.map_set, List.map_set]
  · obtain ⟨hx1, hx2⟩ := List.getElem?_eq_some_iff.1 hx
    obtain ⟨hy1, hy2⟩ := List.getElem?_eq_some_iff.1 hy
    subst hx2; subst hy2
    exact List.set_set_perm hx1 hy1
set_option maxHeartbeats 4000000 in
theorem down_ac (p b : Nat) (cs0 : List AV) (l0 : List Int) (h : HOk (some (b, cs0)) l0) (i0 n : Nat) (hn : n ≤ l0.length) (hl : l0.length ≤ 1000000) (hi0 : i0 ≤ 1000000) : AC Tryz.prog 282 [HI p, I64 i0, I64 n] (hst p (some (b, cs0)) l0) fun _ L => ∃ cs' l', L = hst p (some (b, cs')) l' ∧ HOk (some (b, cs')) l' ∧ l'.Perm l0 := by
  refine ac_of Tryz.func282 rfl Tryz.ntmps282 rfl fun B => ?_
  (repeat' (first|refine at_seq ?_|refine at_region ?_|refine at_block ?_|refine ax_then ?_|refine atl_nil ?_|refine n_run ttok rfl rfl ?_|fail))
  refine at_loopK [0, 1, 2] (α := Nat × List AV × List Int) (fun x => [(7, I64 x.1)]) (fun x => x.1 ≤ 1000000 ∧ HOk (some (b, x.2.1)) x.2.2 ∧ x.2.2.Perm l0) (fun x => hst p (some (b, x.2.1)) x.2.2) (fun x => 1000001 - x.1) (i0, cs0, l0) rfl ⟨rfl, trivial⟩ ⟨hi0, h, List.Perm.refl _⟩ (fun _ _ h => h) ?_
  rintro ⟨i, cs, l⟩ ⟨hi, hok, hpm⟩
  dsimp only at hi hok hpm ⊢
  have hll := hpm.length_eq
  unfold hst hRow hSl
  dsimp only
  try dsimp only [List.cons_append, List.nil_append, List.map_cons, List.map_nil]
  (repeat' (first|refine at_seq ?_|refine at_region ?_|refine at_block ?_|refine ax_then ?_|refine atl_nil ?_|refine n_run ttok rfl rfl ?_|(apply s_bin; refine n_bin ?_)|fail))
  refine atl_if [0, 1, 2, 7, 8] (¬ (2 * (i : Int) + 1 < n)) rfl (fun Q' K => ?_) (fun hC => ?_) (fun hC => ?_)
  · (repeat' (first|refine atl_nil ?_|refine n_run ttok rfl rfl ?_|refine atl_guard_yes rfl rfl ?_|refine atl_guard_no rfl rfl rfl rfl ?_|refine atl_guard rfl rfl rfl (fun _ => ?_) (fun _ => ?_)|fail))
    all_goals exact K _ _ rfl rfl (by clear K; simp_all <;> omega)
  · (repeat' (first|refine at_seq ?_|refine at_region ?_|refine at_ret ?_|refine at_exit ?_|refine ax_then ?_|refine ax_then_exit ?_|refine ax_blk_exit ?_|refine ax_blk_other rfl ?_|refine ax_loop_exit ?_|refine atl_nil ?_|refine n_run ttok rfl rfl ?_|fail))
    exact ax_ret1 rfl rfl ⟨cs, l, rfl, hok, hpm⟩
  have hC := Decidable.not_not.1 hC
  obtain ⟨x, hx, hxc⟩ := hok.get (a := i) (by omega) (by omega)
  (repeat' (first|refine at_seq ?_|refine at_region ?_|refine at_skip ?_|refine ax_then ?_|refine atl_nil ?_|refine n_run ttok rfl rfl ?_|(apply s_bin; refine n_bin ?_)|fail))
  refine atl_guard rfl rfl rfl (fun h2 => ?_) (fun h2 => ?_)
  · have h2' := of_decide_eq_true h2
    obtain ⟨u, hu, huc⟩ := hok.get (a := 2 * (i : Int) + 1 + 1) (by omega) (by omega)
    obtain ⟨v, hv, hvc⟩ := hok.get (a := 2 * (i : Int) + 1) (by omega) (by omega)
    (repeat' (first|refine n_run ttok rfl rfl ?_|refine atl_guard_yes rfl rfl ?_|fail))
    refine n_invokeV 0 [(b, .box cs 3)] [(p, .box [.sc (.slice (some ⟨b, 0, none⟩) l.length cs.length)] 328)] m_less (scI_spec ttok rfl) rfl rfl rfl rfl (List.Perm.swap ..) (less306 (x := u) (y := v) ⟨by omega, by omega⟩ ⟨by omega, by omega⟩ huc hvc) rfl rfl fun c L1 ⟨hc, hL⟩ => ?_
    subst hc; subst hL
    refine atl_turn (turn_perm (List.Perm.swap ..)) ?_
    (repeat' (first|refine ax_then ?_|refine atl_nil ?_|refine n_run ttok rfl rfl ?_|fail))
    refine at_cond rfl (fun h3 => ?_) (fun h3 => ?_)
    · clear h3
      (repeat' (first|refine at_seq ?_|refine at_region ?_|refine ax_then ?_|refine atl_nil ?_|refine n_run ttok rfl rfl ?_|fail))
      obtain ⟨y, hy, hyc⟩ := hok.get (a := (2 * (i : Int) + 1 + 1)) (by omega) (by omega)
      refine n_invokeV 0 [(b, .box cs 3)] [(p, .box [.sc (.slice (some ⟨b, 0, none⟩) l.length cs.length)] 328)] m_less (scI_spec ttok rfl) rfl rfl rfl rfl (List.Perm.swap ..) (less306 (x := y) (y := x) ⟨by omega, by omega⟩ ⟨by omega, by omega⟩ hyc hxc) rfl rfl fun c L1 ⟨hc, hL⟩ => ?_
      subst hc; subst hL
      (repeat' (first|refine ax_then ?_|refine atl_nil ?_|refine n_run ttok rfl rfl ?_|fail))
      refine at_cond rfl (fun h5 => ?_) (fun h5 => ?_)
      · (repeat' (first|refine at_seq ?_|refine at_region ?_|refine at_ret ?_|refine at_exit ?_|refine ax_then ?_|refine ax_then_exit ?_|refine ax_blk_exit ?_|refine ax_blk_other rfl ?_|refine ax_loop_exit ?_|refine atl_nil ?_|refine n_run ttok rfl rfl ?_|fail))
        refine ax_turn (turn_perm (List.Perm.swap ..)) ?_
        exact ax_ret1 rfl rfl ⟨cs, l, rfl, hok, hpm⟩
      (repeat' (first|refine at_seq ?_|refine at_region ?_|refine at_skip ?_|refine ax_then ?_|refine n_run ttok rfl rfl ?_|fail))
      refine atl_turn (turn_perm (List.Perm.swap ..)) ?_
      refine n_invokeV 0 [(b, .box cs 3)] [(p, .box [.sc (.slice (some ⟨b, 0, none⟩) l.length cs.length)] 328)] m_swap (scI_spec ttok rfl) rfl rfl rfl rfl (List.Perm.swap ..) (swap307 (x := x) (y := y) ⟨by omega, by omega⟩ ⟨by omega, by omega⟩ hxc hyc hok.2.1) rfl rfl fun c L1 hL => ?_
      subst hL
      (repeat' (first|refine at_region ?_|refine ax_then ?_|refine ax_blk ?_|refine atl_nil ?_|refine n_run ttok rfl rfl ?_|fail))
      have hs := hok.swap (a := i) (e := (2 * (i : Int) + 1 + 1)) ⟨by omega, by omega⟩ ⟨by omega, by omega⟩ hx hy
      refine ax_roundK (((2 * (i : Int) + 1 + 1)).toNat, (cs.set ((i : Int)).toNat (I64 y)).set ((2 * (i : Int) + 1 + 1)).toNat (I64 x), (l.set ((i : Int)).toNat y).set ((2 * (i : Int) + 1 + 1)).toNat x) rfl ⟨by rw [show ((((2 * (i : Int) + 1 + 1)).toNat : Nat) : Int) = (2 * (i : Int) + 1 + 1) by omega]; rfl, trivial⟩ ⟨by dsimp only; omega, hs.1, hs.2.trans hpm⟩ (by dsimp only; omega) (fun σ w h => ?_)
      have h := h.perm (List.Perm.swap ..)
      simpa [hst, hSl, hRow, List.length_set] using h
    · clear h3
      (repeat' (first|refine at_seq ?_|refine at_region ?_|refine at_skip ?_|refine ax_then ?_|refine n_run ttok rfl rfl ?_|fail))
      obtain ⟨y, hy, hyc⟩ := hok.get (a := (2 * (i : Int) + 1)) (by omega) (by omega)
      refine n_invokeV 0 [(b, .box cs 3)] [(p, .box [.sc (.slice (some ⟨b, 0, none⟩) l.length cs.length)] 328)] m_less (scI_spec ttok rfl) rfl rfl rfl rfl (List.Perm.swap ..) (less306 (x := y) (y := x) ⟨by omega, by omega⟩ ⟨by omega, by omega⟩ hyc hxc) rfl rfl fun c L1 ⟨hc, hL⟩ => ?_
      subst hc; subst hL
      (repeat' (first|refine ax_then ?_|refine atl_nil ?_|refine n_run ttok rfl rfl ?_|fail))
      refine at_cond rfl (fun h5 => ?_) (fun h5 => ?_)
      · (repeat' (first|refine at_seq ?_|refine at_region ?_|refine at_ret ?_|refine at_exit ?_|refine ax_then ?_|refine ax_then_exit ?_|refine ax_blk_exit ?_|refine ax_blk_other rfl ?_|refine ax_loop_exit ?_|refine atl_nil ?_|refine n_run ttok rfl rfl ?_|fail))
        refine ax_turn (turn_perm (List.Perm.swap ..)) ?_
        exact ax_ret1 rfl rfl ⟨cs, l, rfl, hok, hpm⟩
      (repeat' (first|refine at_seq ?_|refine at_region ?_|refine at_skip ?_|refine ax_then ?_|refine n_run ttok rfl rfl ?_|fail))
      refine atl_turn (turn_perm (List.Perm.swap ..)) ?_
      refine n_invokeV 0 [(b, .box cs 3)] [(p, .box [.sc (.slice (some ⟨b, 0, none⟩) l.length cs.length)] 328)] m_swap (scI_spec ttok rfl) rfl rfl rfl rfl (List.Perm.swap ..) (swap307 (x := x) (y := y) ⟨by omega, by omega⟩ ⟨by omega, by omega⟩ hxc hyc hok.2.1) rfl rfl fun c L1 hL => ?_
      subst hL
      (repeat' (first|refine at_region ?_|refine ax_then ?_|refine ax_blk ?_|refine atl_nil ?_|refine n_run ttok rfl rfl ?_|fail))
      have hs := hok.swap (a := i) (e := (2 * (i : Int) + 1)) ⟨by omega, by omega⟩ ⟨by omega, by omega⟩ hx hy
      refine ax_roundK (((2 * (i : Int) + 1)).toNat, (cs.set ((i : Int)).toNat (I64 y)).set ((2 * (i : Int) + 1)).toNat (I64 x), (l.set ((i : Int)).toNat y).set ((2 * (i : Int) + 1)).toNat x) rfl ⟨by rw [show ((((2 * (i : Int) + 1)).toNat : Nat) : Int) = (2 * (i : Int) + 1) by omega]; rfl, trivial⟩ ⟨by dsimp only; omega, hs.1, hs.2.trans hpm⟩ (by dsimp only; omega) (fun σ w h => ?_)
      have h := h.perm (List.Perm.swap ..)
      simpa [hst, hSl, hRow, List.length_set] using h
  · have h2' : ¬ (2 * (i : Int) + 1 + 1 < n) := of_decide_eq_false (by simpa using h2)
    (repeat' (first|refine at_seq ?_|refine at_region ?_|refine at_skip ?_|refine ax_then ?_|refine atl_nil ?_|refine n_run ttok rfl rfl ?_|refine atl_guard_no rfl rfl rfl rfl ?_|refine n_condF rfl ?_|fail))
    obtain ⟨y, hy, hyc⟩ := hok.get (a := (2 * (i : Int) + 1)) (by omega) (by omega)
    refine n_invokeV 0 [(b, .box cs 3)] [(p, .box [.sc (.slice (some ⟨b, 0, none⟩) l.length cs.length)] 328)] m_less (scI_spec ttok rfl) rfl rfl rfl rfl (List.Perm.swap ..) (less306 (x := y) (y := x) ⟨by omega, by omega⟩ ⟨by omega, by omega⟩ hyc hxc) rfl rfl fun c L1 ⟨hc, hL⟩ => ?_
    subst hc; subst hL
    (repeat' (first|refine ax_then ?_|refine atl_nil ?_|refine n_run ttok rfl rfl ?_|fail))
    refine at_cond rfl (fun h5 => ?_) (fun h5 => ?_)
    · (repeat' (first|refine at_seq ?_|refine at_region ?_|refine at_ret ?_|refine at_exit ?_|refine ax_then ?_|refine ax_then_exit ?_|refine ax_blk_exit ?_|refine ax_blk_other rfl ?_|refine ax_loop_exit ?_|refine atl_nil ?_|refine n_run ttok rfl rfl ?_|fail))
      refine ax_turn (turn_perm (List.Perm.swap ..)) ?_
      exact ax_ret1 rfl rfl ⟨cs, l, rfl, hok, hpm⟩
    (repeat' (first|refine at_seq ?_|refine at_region ?_|refine at_skip ?_|refine ax_then ?_|refine n_run ttok rfl rfl ?_|fail))
    refine atl_turn (turn_perm (List.Perm.swap ..)) ?_
    refine n_invokeV 0 [(b, .box cs 3)] [(p, .box [.sc (.slice (some ⟨b, 0, none⟩) l.length cs.length)] 328)] m_swap (scI_spec ttok rfl) rfl rfl rfl rfl (List.Perm.swap ..) (swap307 (x := x) (y := y) ⟨by omega, by omega⟩ ⟨by omega, by omega⟩ hxc hyc hok.2.1) rfl rfl fun c L1 hL => ?_
    subst hL
    (repeat' (first|refine at_region ?_|refine ax_then ?_|refine ax_blk ?_|refine atl_nil ?_|refine n_run ttok rfl rfl ?_|fail))
    have hs := hok.swap (a := i) (e := (2 * (i : Int) + 1)) ⟨by omega, by omega⟩ ⟨by omega, by omega⟩ hx hy
    refine ax_roundK (((2 * (i : Int) + 1)).toNat, (cs.set ((i : Int)).toNat (I64 y)).set ((2 * (i : Int) + 1)).toNat (I64 x), (l.set ((i : Int)).toNat y).set ((2 * (i : Int) + 1)).toNat x) rfl ⟨by rw [show ((((2 * (i : Int) + 1)).toNat : Nat) : Int) = (2 * (i : Int) + 1) by omega]; rfl, trivial⟩ ⟨by dsimp only; omega, hs.1, hs.2.trans hpm⟩ (by dsimp only; omega) (fun σ w h => ?_)
    have h := h.perm (List.Perm.swap ..)
    simpa [hst, hSl, hRow, List.length_set] using h
theorem up_ac (p b : Nat) (cs0 : List AV) (l0 : List Int) (h : HOk (some (b, cs0)) l0) (j0 : Nat) (hj0 : j0 < l0.length) (hl : l0.length ≤ 1000000) : AC Tryz.prog 283 [HI p, I64 j0] (hst p (some (b, cs0)) l0) fun _ L => ∃ cs' l', L = hst p (some (b, cs')) l' ∧ HOk (some (b, cs')) l' ∧ l'.Perm l0 := by
  refine ac_of Tryz.func283 rfl Tryz.ntmps283 rfl fun B => ?_
  (repeat' (first|refine at_block ?_|fail))
  refine at_loopK [0] (α := Nat × List AV × List Int) (fun x => [(1, I64 x.1)]) (fun x => x.1 < l0.length ∧ HOk (some (b, x.2.1)) x.2.2 ∧ x.2.2.Perm l0) (fun x => hst p (some (b, x.2.1)) x.2.2) (fun x => x.1) (j0, cs0, l0) rfl ⟨rfl, trivial⟩ ⟨hj0, h, List.Perm.refl _⟩ (fun _ _ h => h) ?_
  rintro ⟨j, cs, l⟩ ⟨hi, hok, hpm⟩
  dsimp only at hi hok hpm ⊢
  have hll := hpm.length_eq
  unfold hst hRow hSl
  dsimp only
  try dsimp only [List.cons_append, List.nil_append, List.map_cons, List.map_nil]
  (repeat' (first|refine at_seq ?_|refine at_region ?_|refine at_block ?_|refine n_run ttok rfl rfl ?_|(apply s_bin; refine n_bin ?_)|fail))
  refine n_bin ?_ (a_half (n := j) rfl rfl rfl (by omega))
  obtain ⟨x, hx, hxc⟩ := hok.get (a := j) (by omega) (by omega)
  obtain ⟨y, hy, hyc⟩ := hok.get (a := (((j - 1) / 2 : Nat) : Int)) (by omega) (by omega)
  (repeat' (first|refine at_seq ?_|refine at_region ?_|refine ax_then ?_|refine atl_nil ?_|refine n_run ttok rfl rfl ?_|fail))
  refine atl_guard rfl rfl rfl (fun h2 => ?_) (fun h2 => ?_)
  · have h2' := of_decide_eq_false h2
    (repeat' (first|refine n_run ttok rfl rfl ?_|refine atl_guard_yes rfl rfl ?_|fail))
    refine n_invokeV 0 [(b, .box cs 3)] [(p, .box [.sc (.slice (some ⟨b, 0, none⟩) l.length cs.length)] 328)] m_less (scI_spec ttok rfl) rfl rfl rfl rfl (List.Perm.swap ..) (less306 (x := x) (y := y) ⟨by omega, by omega⟩ ⟨by omega, by omega⟩ hxc hyc) rfl rfl fun c L1 ⟨hc, hL⟩ => ?_
    subst hc; subst hL
    refine atl_turn (turn_perm (List.Perm.swap ..)) ?_
    (repeat' (first|refine ax_then ?_|refine atl_nil ?_|refine n_run ttok rfl rfl ?_|refine atl_guard_yes rfl rfl ?_|fail))
    refine at_cond rfl (fun h3 => ?_) (fun h3 => ?_)
    · (repeat' (first|refine at_exit ?_|refine ax_then_exit ?_|refine ax_blk_exit ?_|refine ax_blk_other rfl ?_|refine ax_loop_exit ?_|fail))
      exact ax_end0 rfl ⟨cs, l, rfl, hok, hpm⟩
    (repeat' (first|refine at_seq ?_|refine at_region ?_|refine at_skip ?_|refine ax_then ?_|refine n_run ttok rfl rfl ?_|fail))
    refine n_invokeV 0 [(b, .box cs 3)] [(p, .box [.sc (.slice (some ⟨b, 0, none⟩) l.length cs.length)] 328)] m_swap (scI_spec ttok rfl) rfl rfl rfl rfl (List.Perm.swap ..) (swap307 (x := y) (y := x) ⟨by omega, by omega⟩ ⟨by omega, by omega⟩ hyc hxc hok.2.1) rfl rfl fun c L1 hL => ?_
    subst hL
    (repeat' (first|refine at_region ?_|refine ax_then ?_|refine ax_blk ?_|refine atl_nil ?_|refine n_run ttok rfl rfl ?_|fail))
    have hs := hok.swap (a := (((j - 1) / 2 : Nat) : Int)) (e := j) ⟨by omega, by omega⟩ ⟨by omega, by omega⟩ hy hx
    refine ax_roundK ((j - 1) / 2, (cs.set (((j - 1) / 2 : Nat) : Int).toNat (I64 x)).set (j : Int).toNat (I64 y), (l.set (((j - 1) / 2 : Nat) : Int).toNat x).set (j : Int).toNat y) rfl ⟨rfl, trivial⟩ ⟨by dsimp only; omega, hs.1, hs.2.trans hpm⟩ (by dsimp only; omega) (fun σ w h => ?_)
    have h := h.perm (List.Perm.swap ..)
    simpa [hst, hSl, hRow, List.length_set] using h
  · (repeat' (first|refine at_exit ?_|refine ax_then ?_|refine ax_then_exit ?_|refine ax_blk_exit ?_|refine ax_blk_other rfl ?_|refine ax_loop_exit ?_|refine atl_nil ?_|refine n_run ttok rfl rfl ?_|refine atl_guard_no rfl rfl rfl rfl ?_|refine n_condT rfl ?_|fail))
    exact ax_end0 rfl ⟨cs, l, rfl, hok, hpm⟩
theorem pop308 (p b : Nat) (cs : List AV) (l : List Int) (h : HOk (some (b, cs)) l) (h0 : 0 < l.length) (hl : l.length ≤ 1000000) : AC Tryz.prog 308 [.sc (.pointer (some ⟨p, 0, none⟩))] (hst p (some (b, cs)) l) fun c L => ∃ z l', c = .sc (.iface 3 (.int .i64 z)) ∧ L = hst p (some (b, cs)) l' ∧ HOk (some (b, cs)) l' ∧ l = l' ++ [z] := by
  refine ac_of Tryz.func308 rfl Tryz.ntmps308 rfl fun B => ?_
  unfold hst hRow hSl
  dsimp only
  obtain ⟨z, hz, hzc⟩ := h.get (a := (l.length : Int) - 1) (by omega) (by omega)
  have hcl := h.2.1
  have hc1 := h.2.2
  (repeat' (first|refine at_seq ?_|refine at_region ?_|refine ax_then ?_|refine atl_nil ?_|refine n_run ttok rfl rfl ?_|(apply s_load; first|refine n_load ttok 0 rfl rfl rfl rfl rfl ?_|refine n_load ttok 1 rfl rfl rfl rfl rfl ?_|refine n_load ttok 2 rfl rfl rfl rfl rfl ?_|refine n_load ttok 3 rfl rfl rfl rfl rfl ?_|refine n_loadA ttok 0 rfl rfl rfl rfl rfl ?_|refine n_loadA ttok 1 rfl rfl rfl rfl rfl ?_|refine n_loadA ttok 2 rfl rfl rfl rfl rfl ?_|refine n_load ttok 1 rfl rfl rfl (by assumption) rfl ?_|refine n_load ttok 0 rfl rfl rfl (by assumption) rfl ?_|fail)|(apply s_bin; refine n_bin ?_)|(apply s_index; first|refine n_index ttok ?_|refine n_indexP ttok ?_)|fail))
  refine n_cutB ttok (l.length - 1) rfl rfl rfl (by omega) (by omega) (by omega) rfl ?_
  (repeat' (first|refine at_seq ?_|refine at_region ?_|refine ax_then ?_|refine atl_nil ?_|refine n_run ttok rfl rfl ?_|(apply s_store; first|refine n_store ttok 0 rfl rfl rfl rfl rfl rfl rfl ?_|refine n_store ttok 1 rfl rfl rfl rfl rfl rfl rfl ?_|refine n_store ttok 2 rfl rfl rfl rfl rfl rfl rfl ?_|refine n_store ttok 3 rfl rfl rfl rfl rfl rfl rfl ?_|fail)|fail))
  refine n_iface (by kernel_rfl) rfl rfl ?_
  (repeat' (first|refine at_ret ?_|refine ax_then ?_|refine atl_nil ?_|refine n_run ttok rfl rfl ?_|fail))
  have hlast : l.take (l.length - 1) ++ [z] = l := by
    have h1 : l.take (l.length - 1 + 1) = l := List.take_of_length_le (by omega)
    rw [List.take_add_one, show l[l.length - 1]? = some z by rw [← hz]; congr 1; omega] at h1
    exact h1
  have hlen : (l.take (l.length - 1)).length = l.length - 1 := by rw [List.length_take]; omega
  refine ax_ret1 rfl rfl ⟨z, l.take (l.length - 1), rfl, ?_, ⟨?_, by rw [hlen]; omega, hc1⟩, hlast.symm⟩
  · rw [hlen]
    rfl
  · rw [hlen, List.map_take, ← h.1, List.take_take]
    congr 1
    omega
theorem push309 (p : Nat) (k : Option (Nat × List AV)) (l : List Int) (z : Int) (h : HOk k l) (hl : l.length ≤ 1000000) : AC Tryz.prog 309 [.sc (.pointer (some ⟨p, 0, none⟩)), .sc (.iface 3 (.int .i64 z))] (hst p k l) fun _ L => ∃ b cs, L = hst p (some (b, cs)) (l ++ [z]) ∧ HOk (some (b, cs)) (l ++ [z]) := by
  refine ac_of Tryz.func309 rfl Tryz.ntmps309 rfl fun B => ?_
  unfold hst hRow hSl
  cases k with
  | none =>
    have hl0 : l = [] := h
    subst hl0
    dsimp only
    (repeat' (first|fail))
    refine at_draw 8 [(0, .v), (1, .v), (2, .v), (3, .l), (4, .v), (5, .v), (6, .v), (7, .e)] none ?_ trivial rfl (by kernel_rfl) (by kernel_rfl) (by kernel_rfl) mixed (by kernel_rfl) rfl
    (repeat' (first|refine da_open ?_|refine d_run ttok ?_|refine d_load ttok 0 rfl rfl rfl rfl (by first|trivial|rfl) ?_|fail))
    refine d_assert (by kernel_rfl) rfl trivial ?_
    (repeat' (first|refine da_open ?_|refine d_lit ttok ?_|fail))
    refine d_appendN ttok rfl rfl rfl rfl rfl rfl trivial fun b' cs' h1 h2 => ?_
    (repeat' (first|fail))
    refine da_end [4, 11] rfl rfl ?_
    (repeat' (first|refine atl_nil ?_|refine n_run ttok rfl rfl ?_|(apply s_store; first|refine n_store ttok 0 rfl rfl rfl rfl rfl rfl rfl ?_|refine n_store ttok 1 rfl rfl rfl rfl rfl rfl rfl ?_|refine n_store ttok 2 rfl rfl rfl rfl rfl rfl rfl ?_|refine n_store ttok 3 rfl rfl rfl rfl rfl rfl rfl ?_|fail)|fail))
    exact ax_turn (turn_perm (List.Perm.swap ..)) (ax_end0 rfl ⟨b', cs', rfl, h1, h2, h2⟩)
  | some q =>
    obtain ⟨b, cs⟩ := q
    dsimp only
    (repeat' (first|fail))
    refine at_draw 8 [(0, .v), (1, .v), (2, .v), (3, .l), (4, .v), (5, .v), (6, .v), (7, .e)] none ?_ trivial rfl (by kernel_rfl) (by kernel_rfl) (by kernel_rfl) mixed (by kernel_rfl) rfl
    (repeat' (first|refine da_open ?_|refine d_run ttok ?_|refine d_load ttok 0 rfl rfl rfl rfl (by first|trivial|rfl) ?_|fail))
    refine d_assert (by kernel_rfl) rfl trivial ?_
    (repeat' (first|refine da_open ?_|refine d_lit ttok ?_|fail))
    refine d_appendB ttok 1 rfl rfl rfl rfl rfl rfl rfl h.2.1 (by omega) (by omega) trivial fun b' cs' h1 h2 => ?_
    (repeat' (first|fail))
    refine da_end [4, 11] rfl rfl ?_
    (repeat' (first|refine atl_nil ?_|refine n_run ttok rfl rfl ?_|(apply s_store; first|refine n_store ttok 0 rfl rfl rfl rfl rfl rfl rfl ?_|refine n_store ttok 1 rfl rfl rfl rfl rfl rfl rfl ?_|refine n_store ttok 2 rfl rfl rfl rfl rfl rfl rfl ?_|refine n_store ttok 3 rfl rfl rfl rfl rfl rfl rfl ?_|fail)|fail))
    refine ax_turn (turn_perm (List.Perm.swap ..)) (ax_end0 rfl ⟨b', cs', ?_, ?_, by simpa using h2, by omega⟩)
    · rw [List.length_append]
      rfl
    · rw [List.length_append, List.map_append, ← h.1]
      exact h1
theorem hst_some (p b : Nat) (cs : List AV) (l : List Int) : hst p (some (b, cs)) l = [(p, .box [.sc (.slice (some ⟨b, 0, none⟩) l.length cs.length)] 328), (b, .box cs 3)] := rfl
set_option maxHeartbeats 1000000 in
theorem heapPush (p : Nat) (k : Option (Nat × List AV)) (l : List Int) (z : Int) (h : HOk k l) (hl : l.length < 1000000) : AC Tryz.prog 271 [HI p, .sc (.iface 3 (.int .i64 z))] (hst p k l) fun _ L => ∃ b cs l', L = hst p (some (b, cs)) l' ∧ HOk (some (b, cs)) l' ∧ l'.Perm (l ++ [z]) := by
  refine ac_of Tryz.func271 rfl Tryz.ntmps271 rfl fun B => ?_
  (repeat' (first|refine at_seq ?_|refine at_region ?_|refine n_run ttok rfl rfl ?_|fail))
  refine n_invoke (hst p k l) [] m_push rfl rfl (by rw [List.append_nil]) (push309 p k l z h (by omega)) rfl rfl fun c L1 ⟨b, cs, hL, hok⟩ => ?_
  subst hL
  rw [List.append_nil, hst_some]
  have hll : (l ++ [z]).length = l.length + 1 := by simp
  (repeat' (first|refine at_region ?_|refine ax_then ?_|refine atl_nil ?_|refine n_run ttok rfl rfl ?_|fail))
  refine n_invokeV 0 [] [(p, .box [.sc (.slice (some ⟨b, 0, none⟩) (l ++ [z]).length cs.length)] 328), (b, .box cs 3)] m_len (scI_spec ttok rfl) rfl rfl rfl rfl (List.Perm.refl _) (len305 _ (l ++ [z]).length _ _ rfl) rfl rfl fun c L1 hc => ?_
  have hc : c = I64 (l ++ [z]).length := hc
  subst hc
  refine atl_turn (turn_sub (List.sublist_append_right ..)) ?_
  rw [hll]
  (repeat' (first|(apply s_bin; refine n_bin ?_)|fail))
  have hup := up_ac p b cs (l ++ [z]) hok l.length (by rw [hll]; omega) (by rw [hll]; omega)
  rw [hst_some, hll] at hup
  rw [show (((l.length + 1 : Nat) : Int) - 1) = (l.length : Int) by omega]
  refine n_callA _ [] hup rfl rfl (by rw [List.append_nil]) rfl fun c L1 ⟨cs', l', hL, hok', hpm⟩ => ?_
  subst hL
  rw [List.append_nil]
  (repeat' (first|refine atl_nil ?_|fail))
  exact ax_end0 rfl ⟨b, cs', l', rfl, hok', hpm⟩
set_option maxHeartbeats 1000000 in
theorem heapPop (p b : Nat) (cs : List AV) (l : List Int) (h : HOk (some (b, cs)) l) (h0 : 0 < l.length) (hl : l.length ≤ 1000000) : AC Tryz.prog 270 [HI p] (hst p (some (b, cs)) l) fun c L => ∃ z cs' l', c = .sc (.iface 3 (.int .i64 z)) ∧ L = hst p (some (b, cs')) l' ∧ HOk (some (b, cs')) l' ∧ (l' ++ [z]).Perm l := by
  refine ac_of Tryz.func270 rfl Tryz.ntmps270 rfl fun B => ?_
  rw [hst_some]
  (repeat' (first|refine at_seq ?_|refine at_region ?_|refine ax_then ?_|refine atl_nil ?_|refine n_run ttok rfl rfl ?_|fail))
  refine n_invokeV 0 [] [(p, .box [.sc (.slice (some ⟨b, 0, none⟩) l.length cs.length)] 328), (b, .box cs 3)] m_len (scI_spec ttok rfl) rfl rfl rfl rfl (List.Perm.refl _) (len305 _ l.length _ _ rfl) rfl rfl fun c L1 hc => ?_
  have hc : c = I64 l.length := hc
  subst hc
  refine atl_turn (turn_sub (List.sublist_append_right ..)) ?_
  (repeat' (first|refine at_seq ?_|refine at_region ?_|refine ax_then ?_|refine atl_nil ?_|refine n_run ttok rfl rfl ?_|(apply s_bin; refine n_bin ?_)|fail))
  obtain ⟨x, hx, hxc⟩ := h.get (a := 0) (by omega) (by omega)
  obtain ⟨y, hy, hyc⟩ := h.get (a := (l.length : Int) - 1) (by omega) (by omega)
  refine n_invokeV 0 [(b, .box cs 3)] [(p, .box [.sc (.slice (some ⟨b, 0, none⟩) l.length cs.length)] 328)] m_swap (scI_spec ttok rfl) rfl rfl rfl rfl (List.Perm.swap ..) (swap307 (x := x) (y := y) ⟨by omega, by omega⟩ ⟨by omega, by omega⟩ hxc hyc h.2.1) rfl rfl fun c L1 hL => ?_
  subst hL
  have hs := h.swap (a := 0) (e := (l.length : Int) - 1) ⟨by omega, by omega⟩ ⟨by omega, by omega⟩ hx hy
  have hsl := hs.2.length_eq
  refine atl_turn (turn_perm (List.Perm.swap ..)) ?_
  (repeat' (first|refine at_seq ?_|refine at_region ?_|refine ax_then ?_|refine atl_nil ?_|refine n_run ttok rfl rfl ?_|fail))
  have hdn := down_ac p b _ _ hs.1 0 (l.length - 1) (by rw [hsl]; omega) (by rw [hsl]; omega) (by omega)
  rw [hst_some, hsl, show (((l.length - 1 : Nat)) : Int) = (l.length : Int) - 1 by omega] at hdn
  rw [show cs.length = ((cs.set (0 : Int).toNat (I64 y)).set ((l.length : Int) - 1).toNat (I64 x)).length by simp]
  refine n_callA _ [] hdn rfl rfl (by rw [List.append_nil]) rfl fun c L1 ⟨cs', l', hL, hok', hpm⟩ => ?_
  subst hL
  rw [List.append_nil]
  (repeat' (first|refine at_seq ?_|refine at_region ?_|refine ax_then ?_|refine atl_nil ?_|refine n_run ttok rfl rfl ?_|fail))
  have hl' := hpm.length_eq
  refine n_invoke (hst p (some (b, cs')) l') [] m_pop rfl rfl (by rw [List.append_nil]) (pop308 p b cs' l' hok' (by omega) (by omega)) rfl rfl fun c L1 ⟨z, l2, hc, hL, hok2, he⟩ => ?_
  subst hc; subst hL
  rw [List.append_nil]
  (repeat' (first|refine at_ret ?_|refine ax_then ?_|refine atl_nil ?_|refine n_run ttok rfl rfl ?_|fail))
  refine ax_ret1 rfl rfl ⟨z, cs', l2, rfl, rfl, hok2, ?_⟩
  rw [← he]
  exact hpm.trans hs.2
theorem hSl_is {k : Option (Nat × List AV)} {l : List Int} (h : HOk k l) : ∃ A c, hSl k l.length = .slice A l.length c := by
  cases k with
  | none => rw [show l = [] from h]; exact ⟨_, _, rfl⟩
  | some q => exact ⟨_, _, rfl⟩
section
variable {P : Program} {fr : AFr} {d : Option Tmp} {ty t t' : TypeId} {pos : String} {af : Array Edge} {g : Option (Nat × Bool)} {x y : Operand}
theorem a_half0 {n : Nat} (hx : aev fr x = some (I64 n)) (hy : aev fr y = some (I64 2)) (hn : n ≤ 9223372036854775807) : Av P ⟨d, .binOp .quo t x y t', ty, pos, af, g⟩ fr (I64 ((n / 2 : Nat) : Int)) := by
  have h := a_quo (P := P) (d := d) (ty := ty) (pos := pos) (af := af) (g := g) (t := t) (t' := t') hx hy (by omega)
  have e : IntKind.i64.wrap ((n : Int).tdiv 2) = ((n / 2 : Nat) : Int) := by
    have : (n : Int).tdiv 2 = ((n / 2 : Nat) : Int) := by
      rw [Int.tdiv_eq_ediv_of_nonneg (by omega)]
      simp
    rw [this, fits64 (by omega)]
  rwa [e] at h
end
set_option maxHeartbeats 1000000 in
theorem heapInit (p : Nat) (k : Option (Nat × List AV)) (l : List Int) (h : HOk k l) (hl : l.length ≤ 1000000) : AC Tryz.prog 269 [HI p] (hst p k l) fun _ L => ∃ k' l', L = hst p k' l' ∧ HOk k' l' ∧ l'.Perm l := by
  refine ac_of Tryz.func269 rfl Tryz.ntmps269 rfl fun B => ?_
  obtain ⟨A, cc, hA⟩ := hSl_is h
  (repeat' (first|refine at_seq ?_|refine at_region ?_|refine n_run ttok rfl rfl ?_|fail))
  refine n_invokeV 0 [] (hst p k l) m_len (scI_spec ttok rfl) rfl rfl rfl rfl (List.Perm.refl _) (len305 _ l.length cc A hA) rfl rfl fun c L1 hc => ?_
  have hc : c = I64 l.length := hc
  subst hc
  refine atl_turn (turn_sub (List.sublist_append_right ..)) ?_
  (repeat' (first|refine at_seq ?_|refine at_region ?_|refine ax_then ?_|refine atl_nil ?_|refine n_run ttok rfl rfl ?_|fail))
  refine n_bin ?_ (a_half0 (n := l.length) rfl rfl (by omega))
  (repeat' (first|refine at_block ?_|refine ax_then ?_|refine atl_nil ?_|refine n_run ttok rfl rfl ?_|(apply s_bin; refine n_bin ?_)|fail))
  refine at_loopK [0, 2] (α := Nat × Option (Nat × List AV) × List Int) (fun x => [(3, I64 ((x.1 : Int) - 1))]) (fun x => x.1 ≤ l.length / 2 ∧ HOk x.2.1 x.2.2 ∧ x.2.2.Perm l) (fun x => hst p x.2.1 x.2.2) (fun x => x.1) (l.length / 2, k, l) rfl ⟨rfl, trivial⟩ ⟨Nat.le_refl _, h, List.Perm.refl _⟩ (fun _ _ h => h) ?_
  rintro ⟨m, k, l'⟩ ⟨hm, hok, hpm⟩
  dsimp only at hm hok hpm ⊢
  have hll := hpm.length_eq
  try dsimp only [List.cons_append, List.nil_append, List.map_cons, List.map_nil]
  (repeat' (first|refine at_seq ?_|refine at_region ?_|refine ax_then ?_|refine atl_nil ?_|refine n_run ttok rfl rfl ?_|fail))
  refine at_cond rfl (fun h2 => ?_) (fun h2 => ?_)
  · have h2' := of_decide_eq_true h2
    cases k with
    | none => rw [show l' = [] from hok] at hll; simp at hll; omega
    | some q =>
      obtain ⟨b, cs⟩ := q
      (repeat' (first|refine at_seq ?_|refine at_region ?_|refine at_block ?_|refine at_skip ?_|refine ax_then ?_|refine n_run ttok rfl rfl ?_|fail))
      have hdn := down_ac p b cs l' hok (m - 1) l.length (by omega) (by omega) (by omega)
      rw [show (((m - 1 : Nat)) : Int) = (m : Int) - 1 by omega] at hdn
      refine n_callA _ [] hdn rfl rfl (by rw [List.append_nil]) rfl fun c L1 ⟨cs', l2, hL, hok', hpm'⟩ => ?_
      subst hL
      rw [List.append_nil]
      (repeat' (first|refine at_region ?_|refine ax_then ?_|refine ax_blk ?_|refine atl_nil ?_|refine n_run ttok rfl rfl ?_|(apply s_bin; refine n_bin ?_)|fail))
      exact ax_roundK (m - 1, some (b, cs'), l2) rfl ⟨by rw [show (((m - 1 : Nat)) : Int) = (m : Int) - 1 by omega]; rfl, trivial⟩ ⟨by dsimp only; omega, hok', hpm'.trans hpm⟩ (by dsimp only; omega) (fun _ _ h => h)
  · (repeat' (first|refine at_exit ?_|refine ax_then_exit ?_|refine ax_blk_exit ?_|refine ax_loop_exit ?_|fail))
    exact ax_end0 rfl ⟨k, l', rfl, hok, hpm⟩
end Go.Proofs.YtpbinloeemebkaaGreat
