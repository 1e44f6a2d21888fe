/-
  More steps: make, what is told in another way.
-/
import Derived.Test.YtpbinloeemebkaaGreatM08
import Derived.Test.YtpbinloeemebkaaGreatM07
import Derived.Test.YtpbinloeemebkaaGreatRows
import Derived.WalkKit
import Derived.ProofKit
import Derived.OpenShut
import Derived.ShutString
import Derived.ChangeOld
import Derived.Below
import Derived.Deep.Slices
import Derived.Deep.SlicePairs
import Derived.Lib.SmallJoins
namespace Go.Proofs.YtpbinloeemebkaaGreat
open Go.RowKit
section
variable {P : Program} {tt : TT} {r : Option Nat} {ops : Array Oper} {Q : Exit → Act → World → Prop} {nt : Nat} {D : List Deferred} {fr : AFr} {B : Bs} {L : AL} {rest : List Oper} {d : Nat} {ty t : TypeId} {pos : String} {af : Array Edge} {x y z : Operand} {u : AV}
theorem n_make (ok : TOk P tt) (n : Nat) {e sz by_ : Nat} {k k' : IntKind} {a b : Int} {zs : List Value} (ht : slI tt t = some (e, sz, by_)) (hz : zI tt e = some zs) (h1 : zs.all (·.oneCell') = true) (hx : aev fr x = some (.sc (.int k a))) (hy : aev fr y = some (.sc (.int k' b))) (ha : a = (n : Int)) (hb : b = (n : Int)) (hby : by_ * n ≤ 281474976710656) (h63 : n ≤ 9223372036854775807) (hd : Nat.ble nt d = false)
    (h : ∀ b, ATL P r ops Q nt D rest ((d, .sc (.slice (some ⟨b, 0, none⟩) n n)) :: fr) B ((b, .box ((List.replicate n (zs.map .sc)).flatten) e) :: L)) : ATL P r ops Q nt D (⟨some d, .makeSlice t x y, ty, pos, af, none⟩ :: rest) fr B L :=
  atl_op hd rfl (ao_make (slI_spec ok ht).1 (zI_spec ok hz) h1 (slI_spec ok ht).2 hx hy ha hb hby h63) fun c L' ⟨b, h1, h2⟩ => by subst h1; subst h2; exact h b
/-- a call by its contract -/
theorem n_callA {f : FuncId} {args : Array Operand} {ts : Array TypeId} {cs ds : List AV} {Post : AV → AL → Prop} [CFn P f] (Lc Lf : AL) (hc : AC P f ds Lc Post) (hv : aevs fr args.toList = some cs) (hi : imsF cs = some ds) (hL : L.Perm (Lc ++ Lf)) (hd : Nat.ble nt d = false) (h : ∀ c L1, Post c L1 → ATL P r ops Q nt D rest ((d, c) :: fr) B (L1 ++ Lf)) :
    ATL P r ops Q nt D (⟨some d, .call ⟨.value (.func f), args, ts⟩, ty, pos, af, none⟩ :: rest) fr B L := by
  have hc' := hc
  rw [← imsF_eq hi] at hc'
  refine atl_op hd rfl (ao_call Lc Lf hv (fun σ vs h => h.im) hL hc') fun c L' hh => ?_
  obtain ⟨L1, h1, h2⟩ := hh
  subst h2
  exact h c L1 h1
theorem n_yield {σ0 : Mem} {l : Nat} {args : Array Operand} {ts : Array TypeId} {cs ds : List AV} {Post : AV → AL → Prop} (Lc Lf : AL) (hB : σ0.le B.σ) (hc : AY P σ0 l ds Lc Post) (hz : aev fr z = some (.sc (.func (.yield l) #[] #[]))) (hv : aevs fr args.toList = some cs) (hi : imsF cs = some ds) (hL : L.Perm (Lc ++ Lf)) (hn : Oper.noDefer ⟨some d, .call ⟨.value z, args, ts⟩, ty, pos, af, none⟩ = true) (hd : Nat.ble nt d = false) (h : ∀ c L1, Post c L1 → ATL P r ops Q nt D rest ((d, c) :: fr) B (L1 ++ Lf)) :
    ATL P r ops Q nt D (⟨some d, .call ⟨.value z, args, ts⟩, ty, pos, af, none⟩ :: rest) fr B L := by
  have hc' := hc
  rw [← imsF_eq hi] at hc'
  refine atl_op hd hn (ao_yield hB Lc Lf hz hv (fun σ vs h => h.im) hL hc') fun c L' hh => ?_
  obtain ⟨L1, h1, h2⟩ := hh
  subst h2
  exact h c L1 h1
theorem ax_drop {e : Exit} {L' : AL} (hs : L'.Sublist L) (h : AX P e Q nt D fr B L') : AX P e Q nt D fr B L := fun σ a w ha hw => h σ a w ha (hw.sublist hs)
end
theorem vr_agg {σ : Mem} {cs cs' : List AV} {v : Value} (hl : cs.length = cs'.length) (h : ∀ (i : Nat) c c', cs[i]? = some c → cs'[i]? = some c' → ∀ v, VR σ c v → VR σ c' v) (hv : VR σ (.agg cs) v) : VR σ (.agg cs') v := by
  obtain ⟨vs, rfl, hs, h1⟩ := hv.agg_inv
  refine .agg _ _ (hl.symm.trans hs.1) (fun i c' u hc hu => ?_) h1
  have hi : i < cs.length := by rw [hl]; exact (List.getElem?_eq_some_iff.1 hc).1
  exact h i _ c' (List.getElem?_eq_getElem hi) hc _ (hs.2 i _ u (List.getElem?_eq_getElem hi) hu)
theorem vrs_map {σ : Mem} {cs cs' : List AV} {vs : List Value} (hl : cs.length = cs'.length) (h : ∀ (i : Nat) c c', cs[i]? = some c → cs'[i]? = some c' → ∀ v, VR σ c v → VR σ c' v) (hv : VRs σ cs vs) : VRs σ cs' vs := by
  refine ⟨hl.symm.trans hv.1, fun i c' u hc hu => ?_⟩
  have hi : i < cs.length := by rw [hl]; exact (List.getElem?_eq_some_iff.1 hc).1
  exact h i _ c' (List.getElem?_eq_getElem hi) hc _ (hv.2 i _ u (List.getElem?_eq_getElem hi) hu)
/-- a box's cells, told in another way -/
theorem turn_cells {nt : Nat} {D : List Deferred} {B : Bs} {fr : AFr} {L : AL} (i : Nat) {b : Nat} {cs cs' : List AV} {e : TypeId} (hL : L[i]? = some (b, .box cs e)) (h : ∀ σ vs, VRs σ cs vs → VRs σ cs' vs) : Turn nt D B fr L fr (aput L i (.box cs' e)) := by
  intro σ a w ha hw0
  have hw := hw0.perm (aperm_get hL)
  obtain ⟨o, ho, vs, rfl, hvs, h1⟩ := hw.here _ (List.mem_cons_self ..)
  refine ⟨σ, ha, ASt.perm (L := (b, .box cs' e) :: L.eraseIdx i) ?_ (aperm_put _ hL)⟩
  refine ⟨hw.os, hw.tape, hw.output, hw.size, hw.old, fun p hp => ?_, fun p hp => ?_, by simpa using hw.apart, hw.froz, fun p hp off hm => ?_, hw.grow, hw.same⟩
  · rcases List.mem_cons.1 hp with rfl | hp'
    · exact ⟨_, ho, vs, rfl, h σ vs hvs, h1⟩
    · exact hw.here p (List.mem_cons_of_mem _ hp')
  · rcases List.mem_cons.1 hp with rfl | hp'
    · exact hw.mine (b, .box cs e) (List.mem_cons_self ..)
    · exact hw.mine p (List.mem_cons_of_mem _ hp')
  · rcases List.mem_cons.1 hp with rfl | hp'
    · exact hw.free (b, .box cs e) (List.mem_cons_self ..) off trivial
    · exact hw.free p (List.mem_cons_of_mem _ hp') off hm
theorem putA_one {cs : List AV} {k : Nat} {c : AV} : putA cs k [c] = cs.set k c := rfl
end Go.Proofs.YtpbinloeemebkaaGreat

namespace Go.Proofs.YtpbinloeemebkaaGreat
open Go.RowKit
attribute [local irreducible] AT ATL AX AO Av Kt ALoopK OkA DA DA1
def setsGo (n : Nat) : List (List Int) → Nat
  | [] => n
  | q :: r => if n ≤ 2000 then setsGo (n + 1 + q.length) r else n
def allGo (n : Nat) : List (List (List Int)) → Nat
  | [] => n
  | s :: r => allGo (setsGo n s) r
def ruleGo (n : Nat) (r : FRule) : Nat := allGo (n + r.Out.length + r.Calls.length) [r.Back, r.In, r.Ahead]
def rulesGo (n : Nat) : List FRule → Nat
  | [] => n
  | r :: rs => if n ≤ 2000 then rulesGo (ruleGo n r) rs else n
def maxRow : Nat := 140737488355328
structure RuleFits (r : FRule) : Prop where
  out : r.Out.length ≤ maxRow
  calls : r.Calls.length ≤ maxRow
  sets : ∀ s ∈ [r.Back, r.In, r.Ahead], s.length ≤ maxRow ∧ ∀ q ∈ s, q.length ≤ maxRow
theorem setsGo_drop {s : List (List Int)} {j n : Nat} {q : List Int} (h : s[j]? = some q) (hn : n ≤ 2000) : setsGo n (s.drop j) = setsGo (n + 1 + q.length) (s.drop (j + 1)) := by
  have hj := (List.getElem?_eq_some_iff.1 h)
  rw [List.drop_eq_getElem_cons hj.1, hj.2]
  show (if n ≤ 2000 then _ else _) = _
  rw [if_pos hn]
theorem setsGo_big {s : List (List Int)} {n : Nat} (hn : ¬ n ≤ 2000) : setsGo n s = n := by
  cases s with
  | nil => rfl
  | cons q s => show (if n ≤ 2000 then _ else _) = _; rw [if_neg hn]
theorem rulesGo_drop {s : List FRule} {j n : Nat} {q : FRule} (h : s[j]? = some q) (hn : n ≤ 2000) : rulesGo n (s.drop j) = rulesGo (ruleGo n q) (s.drop (j + 1)) := by
  have hj := (List.getElem?_eq_some_iff.1 h)
  rw [List.drop_eq_getElem_cons hj.1, hj.2]
  show (if n ≤ 2000 then _ else _) = _
  rw [if_pos hn]
theorem rulesGo_big {s : List FRule} {n : Nat} (hn : ¬ n ≤ 2000) : rulesGo n s = n := by
  cases s with
  | nil => rfl
  | cons q s => show (if n ≤ 2000 then _ else _) = _; rw [if_neg hn]
theorem setsGo_le {s : List (List Int)} {n m : Nat} (hm : 2000 + 1 + maxRow ≤ m) (hn : n ≤ m) (hs : ∀ q ∈ s, q.length ≤ maxRow) : setsGo n s ≤ m := by
  induction s generalizing n with
  | nil => exact hn
  | cons q s ih =>
    show (if n ≤ 2000 then _ else _) ≤ m
    split
    · exact ih (by have := hs q (List.mem_cons_self ..); omega) fun q' h => hs q' (List.mem_cons_of_mem _ h)
    · exact hn
set_option maxHeartbeats 2000000 in
theorem rulesOf_det (l : List FRule) (hl : l.length ≤ maxRow) (hf : ∀ r ∈ l, RuleFits r) : ADet Tryz.prog 23 [.imm 6 (l.map cRule)] (I64 (rulesGo l.length l)) := by
  refine ac_of Tryz.func23 rfl Tryz.ntmps23 rfl fun B => ?_
  unfold maxRow at hl
  (repeat' (first|refine at_seq ?_|refine at_region ?_|refine at_block ?_|refine ax_then ?_|refine atl_nil ?_|refine n_run ttok rfl rfl ?_|fail))
  rw [List.length_map]
  refine at_loopK [0] (α := Nat × Nat) (fun x => [(3, I64 x.1), (4, I64 x.2)]) (fun x => x.2 ≤ l.length ∧ x.1 ≤ 3 * 140737488355328 ∧ rulesGo x.1 (l.drop x.2) = rulesGo l.length l) (fun _ => []) (fun x => l.length - x.2) (l.length, 0) rfl ⟨rfl, rfl, trivial⟩ ⟨Nat.zero_le _, by dsimp only; omega, rfl⟩ (fun _ _ h => h) ?_
  rintro ⟨n, i⟩ ⟨hi, hn, hg⟩
  dsimp only at hi hn hg ⊢
  try dsimp only [List.cons_append, List.nil_append, List.map_cons, List.map_nil]
  (repeat' (first|refine at_seq ?_|refine at_region ?_|refine n_run ttok rfl rfl ?_|fail))
  refine atl_if [0, 3, 4] (i < l.length ∧ n ≤ 2000) rfl (fun Q' K => ?_) (fun hC => ?_) (fun hC => ?_)
  · (repeat' (first|refine atl_nil ?_|refine n_run ttok rfl rfl ?_|refine atl_guard_yes rfl rfl ?_|refine atl_guard_no rfl rfl rfl rfl ?_|refine atl_guard rfl rfl rfl (fun _ => ?_) (fun _ => ?_)|fail))
    all_goals exact K _ _ rfl rfl (by simp_all <;> omega)
  · obtain ⟨hil, hn2⟩ := hC
    obtain ⟨r, hr⟩ : ∃ r, l[i]? = some r := ⟨_, List.getElem?_eq_getElem hil⟩
    have hrg := map_get (c := cRule) hr
    have hrf := hf r (List.mem_of_getElem? hr)
    have ho := hrf.out
    have hc := hrf.calls
    unfold maxRow at ho hc
    have ho' : (ints r.Out).length ≤ 140737488355328 := by rw [ints_len]; exact ho
    have hc' : (r.Calls.map cCall).length ≤ 140737488355328 := by rw [List.length_map]; exact hc
    (repeat' (first|refine at_seq ?_|refine at_region ?_|refine at_block ?_|refine at_skip ?_|refine ax_then ?_|refine atl_nil ?_|refine n_run ttok rfl rfl ?_|(apply s_bin; refine n_bin ?_)|(apply s_index; first|refine n_index ttok ?_|refine n_indexP ttok ?_)|(apply s_store; first|refine n_storeF 5 ttok 0 rfl rfl rfl rfl rfl rfl rfl rfl ?_|refine n_storeF 5 ttok 1 rfl rfl rfl rfl rfl rfl rfl rfl ?_|refine n_storeF 5 ttok 2 rfl rfl rfl rfl rfl rfl rfl rfl ?_|refine n_store ttok 0 rfl rfl rfl rfl rfl rfl rfl ?_|refine n_store ttok 1 rfl rfl rfl rfl rfl rfl rfl ?_|refine n_store ttok 2 rfl rfl rfl rfl rfl rfl rfl ?_|refine n_store ttok 3 rfl rfl rfl rfl rfl rfl rfl ?_|fail)|refine n_alloc ttok fun _=>?_|refine n_litI ttok ?_|fail))
    obtain ⟨m, hm⟩ : ∃ m, m = n + r.Out.length + r.Calls.length := ⟨_, rfl⟩
    have hmi : (n : Int) + ((ints r.Out).length : Int) + ((r.Calls.map cCall).length : Int) = (m : Int) := by rw [ints_len, List.length_map, hm]; omega
    rw [hmi]
    obtain ⟨ss, hss⟩ : ∃ ss, ss = [r.Back, r.In, r.Ahead] := ⟨_, rfl⟩
    have hrows : [[AV.imm 1 (rowsI r.Back)], [AV.imm 1 (rowsI r.In)], [AV.imm 1 (rowsI r.Ahead)]] = ss.map fun q => [AV.imm 1 (rowsI q)] := by rw [hss]; rfl
    have hssl : ss.length = 3 := by rw [hss]; rfl
    have hsf : ∀ s ∈ ss, s.length ≤ 140737488355328 ∧ ∀ q ∈ s, q.length ≤ 140737488355328 := by rw [hss]; exact hrf.sets
    have hgo : ruleGo n r = allGo m ss := by unfold ruleGo; rw [hss, hm]
    have hm3 : m ≤ 3 * 140737488355328 := by omega
    refine at_turn (turn_val (t := 6) (c' := .imm 1 (ss.map fun q => [AV.imm 1 (rowsI q)])) rfl (fun _ _ h => by rw [← hrows]; exact h)) ?_
    refine at_loopK [0, 4, 6] (α := Nat × Nat) (fun x => [(3, I64 x.1), (7, I64 x.2)]) (fun x => x.2 ≤ 3 ∧ x.1 ≤ 3 * 140737488355328 ∧ allGo x.1 (ss.drop x.2) = allGo m ss) (fun _ => []) (fun x => 3 - x.2) (m, 0) rfl ⟨rfl, rfl, trivial⟩ ⟨Nat.zero_le _, hm3, rfl⟩ (fun _ _ h => h) ?_
    rintro ⟨m1, k⟩ ⟨hk, hm1, hg1⟩
    dsimp only at hk hm1 hg1 ⊢
    try dsimp only [List.cons_append, List.nil_append, List.map_cons, List.map_nil]
    (repeat' (first|refine at_seq ?_|refine at_region ?_|refine ax_then ?_|refine atl_nil ?_|refine n_run ttok rfl rfl ?_|fail))
    refine at_cond rfl (fun h => ?_) (fun h => ?_)
    · have hk3 : k < 3 := by have := of_decide_eq_true h; omega
      obtain ⟨s, hsk⟩ : ∃ s, ss[k]? = some s := ⟨_, List.getElem?_eq_getElem (by omega)⟩
      have hskg := map_get (c := fun q => [AV.imm 1 (rowsI q)]) hsk
      have hsl := hsf s (List.mem_of_getElem? hsk)
      have hdr : allGo m1 (ss.drop k) = allGo (setsGo m1 s) (ss.drop (k + 1)) := by
        have hj := (List.getElem?_eq_some_iff.1 hsk)
        rw [List.drop_eq_getElem_cons hj.1, hj.2]
        rfl
      clear h
      (repeat' (first|refine at_seq ?_|refine at_region ?_|refine at_block ?_|refine at_skip ?_|refine ax_then ?_|refine atl_nil ?_|refine n_run ttok rfl rfl ?_|fail))
      refine at_loopK [0, 4, 6, 7] (α := Nat × Nat) (fun x => [(3, I64 x.1), (8, I64 x.2)]) (fun x => x.2 ≤ s.length ∧ x.1 ≤ 3 * 140737488355328 ∧ setsGo x.1 (s.drop x.2) = setsGo m1 s) (fun _ => []) (fun x => s.length - x.2) (m1, 0) rfl ⟨rfl, rfl, trivial⟩ ⟨Nat.zero_le _, hm1, rfl⟩ (fun _ _ h => h) ?_
      rintro ⟨m2, j⟩ ⟨hj, hm2, hg2⟩
      dsimp only at hj hm2 hg2 ⊢
      try dsimp only [List.cons_append, List.nil_append, List.map_cons, List.map_nil]
      (repeat' (first|refine at_seq ?_|refine at_region ?_|refine n_run ttok rfl rfl ?_|(apply s_index; first|refine n_index ttok ?_|refine n_indexP ttok ?_)|fail))
      refine atl_if [0, 3, 4, 6, 7, 8] (j < s.length ∧ m2 ≤ 2000) rfl (fun Q' K => ?_) (fun hC => ?_) (fun hC => ?_)
      · clear hf hg hrf hsf hrows hss hgo hg1 hdr hskg hsk hrg hr hg2
        (repeat' (first|refine atl_nil ?_|refine n_run ttok rfl rfl ?_|refine atl_guard_yes rfl rfl ?_|refine atl_guard_no rfl rfl rfl rfl ?_|refine atl_guard rfl rfl rfl (fun _ => ?_) (fun _ => ?_)|fail))
        all_goals exact K _ _ rfl rfl (by simp_all [rowsI_len] <;> omega)
      · obtain ⟨hjl, hm2k⟩ := hC
        obtain ⟨q, hq⟩ : ∃ q, s[j]? = some q := ⟨_, List.getElem?_eq_getElem hjl⟩
        have hqg := rowsI_get hq
        have hql := hsl.2 q (List.mem_of_getElem? hq)
        have hql' : (ints q).length ≤ 140737488355328 := by rw [ints_len]; exact hql
        (repeat' (first|refine at_seq ?_|refine at_region ?_|refine at_block ?_|refine at_skip ?_|refine ax_then ?_|refine ax_blk ?_|refine atl_nil ?_|refine n_run ttok rfl rfl ?_|(apply s_bin; refine n_bin ?_)|(apply s_index; first|refine n_index ttok ?_|refine n_indexP ttok ?_)|fail))
        refine ax_roundK (m2 + 1 + q.length, j + 1) rfl ⟨by rw [ints_len]; push_cast; rfl, by rw [Int.natCast_add]; rfl, trivial⟩ ⟨by dsimp only; omega, by dsimp only; omega, by dsimp only; rw [← setsGo_drop hq hm2k]; exact hg2⟩ (by dsimp only; omega) (fun _ _ h => h)
      · have hfin2 : setsGo m2 (s.drop j) = m2 := by
          by_cases h2 : m2 ≤ 2000
          · have : j = s.length := by
              have : ¬ j < s.length := fun h => hC ⟨h, h2⟩
              omega
            subst this
            rw [List.drop_length]
            rfl
          · exact setsGo_big h2
        (repeat' (first|refine at_region ?_|refine at_exit ?_|refine ax_then ?_|refine ax_then_exit ?_|refine ax_blk ?_|refine ax_blk_exit ?_|refine ax_loop_exit ?_|refine atl_nil ?_|refine n_run ttok rfl rfl ?_|(apply s_bin; refine n_bin ?_)|fail))
        refine ax_roundK (m2, k + 1) rfl ⟨rfl, by rw [Int.natCast_add]; rfl, trivial⟩ ⟨by dsimp only; omega, by dsimp only; omega, by dsimp only; rw [← hg1, hdr, ← hg2, hfin2]⟩ (by dsimp only; omega) (fun _ _ h => h)
    · have hk3 : k = 3 := by have := of_decide_eq_false h; omega
      subst hk3
      rw [List.drop_eq_nil_of_le (by omega)] at hg1
      (repeat' (first|refine at_region ?_|refine at_exit ?_|refine ax_then ?_|refine ax_then_exit ?_|refine ax_blk ?_|refine ax_blk_exit ?_|refine ax_loop_exit ?_|refine atl_nil ?_|refine n_run ttok rfl rfl ?_|(apply s_bin; refine n_bin ?_)|fail))
      refine ax_roundK (m1, i + 1) rfl ⟨rfl, by rw [Int.natCast_add]; rfl, trivial⟩ ⟨by dsimp only; omega, by dsimp only; omega, by dsimp only; rw [← hg, rulesGo_drop hr hn2, hgo, ← hg1]; rfl⟩ (by dsimp only; omega) (fun _ _ h => h)
  · have hfin : rulesGo n (l.drop i) = n := by
      by_cases h2 : n ≤ 2000
      · have : i = l.length := by
          have : ¬ i < l.length := fun h => hC ⟨h, h2⟩
          omega
        subst this
        rw [List.drop_length]
        rfl
      · exact rulesGo_big h2
    (repeat' (first|refine at_seq ?_|refine at_region ?_|refine at_ret ?_|refine at_exit ?_|refine ax_then ?_|refine ax_then_exit ?_|refine ax_blk_exit ?_|refine ax_loop_exit ?_|refine atl_nil ?_|refine n_run ttok rfl rfl ?_|fail))
    refine ax_ret1 rfl rfl ?_
    rw [← hg, hfin]
end Go.Proofs.YtpbinloeemebkaaGreat

namespace Go.Proofs.YtpbinloeemebkaaGreat
open Go.RowKit
attribute [local irreducible] AT ATL AX AO Av Kt ALoopK OkA DA DA1
/-- a sum that stops behind 2000 -/
def Good (g n t : Nat) : Prop := (n + t ≤ 2000 → g = n + t) ∧ (2000 < n + t → 2000 < g)
theorem Good.trans {g g' n t t' : Nat} (h : Good g n t) (h' : Good g' g t') : Good g' n (t + t') := by
  unfold Good at *
  omega
theorem Good.refl (n : Nat) : Good n n 0 := by unfold Good; omega
theorem Good.stop {n t : Nat} (h : ¬ n ≤ 2000) : Good n n t := by unfold Good; omega
theorem Good.add (n t : Nat) : Good (n + t) n t := by unfold Good; omega
theorem Good.iff {g n t : Nat} (h : Good g n t) : 2000 < g ↔ 2000 < n + t := by unfold Good at h; omega
theorem setsGo_good (n : Nat) (s : List (List Int)) : Good (setsGo n s) n (setsN s) := by
  induction s generalizing n with
  | nil => exact Good.refl n
  | cons q s ih =>
    show Good (if n ≤ 2000 then _ else _) n _
    split
    · have := (Good.add n (1 + q.length)).trans (by rw [← Nat.add_assoc]; exact ih (n + 1 + q.length))
      exact this
    · rename_i h
      exact Good.stop h
theorem ruleGo_good (n : Nat) (r : FRule) : Good (ruleGo n r) n (ruleN r) := by
  unfold ruleGo ruleN
  have h1 := Good.add n (r.Out.length + r.Calls.length)
  rw [← Nat.add_assoc] at h1
  have h2 := ((setsGo_good (n + r.Out.length + r.Calls.length) r.Back).trans (setsGo_good _ r.In)).trans (setsGo_good _ r.Ahead)
  exact h1.trans h2
theorem rulesGo_good (n : Nat) (l : List FRule) : Good (rulesGo n l) n (l.map ruleN).sum := by
  induction l generalizing n with
  | nil => exact Good.refl n
  | cons r l ih =>
    show Good (if n ≤ 2000 then _ else _) n _
    rw [List.map_cons, List.sum_cons]
    split
    · exact (ruleGo_good n r).trans (ih _)
    · rename_i h
      exact Good.stop h
/-- a loop that adds up till 2000 -/
def sumGo {α : Type} (g : α → Nat) (n : Nat) : List α → Nat
  | [] => n
  | a :: l => if n ≤ 2000 then sumGo g (n + g a) l else n
theorem sumGo_drop {α : Type} {g : α → Nat} {l : List α} {j n : Nat} {a : α} (h : l[j]? = some a) (hn : n ≤ 2000) : sumGo g n (l.drop j) = sumGo g (n + g a) (l.drop (j + 1)) := by
  have hj := (List.getElem?_eq_some_iff.1 h)
  rw [List.drop_eq_getElem_cons hj.1, hj.2]
  show (if n ≤ 2000 then _ else _) = _
  rw [if_pos hn]
theorem sumGo_big {α : Type} {g : α → Nat} {l : List α} {n : Nat} (hn : ¬ n ≤ 2000) : sumGo g n l = n := by
  cases l with
  | nil => rfl
  | cons q s => show (if n ≤ 2000 then _ else _) = _; rw [if_neg hn]
theorem sumGo_end {α : Type} {g : α → Nat} {l : List α} {i n : Nat} (hi : i ≤ l.length) (h : ¬ (i < l.length ∧ n ≤ 2000)) : sumGo g n (l.drop i) = n := by
  by_cases h2 : n ≤ 2000
  · have : i = l.length := by
      have : ¬ i < l.length := fun h' => h ⟨h', h2⟩
      omega
    subst this
    rw [List.drop_length]
    rfl
  · exact sumGo_big h2
/-- .. whose parts are sums that stop early, too -/
theorem sumGo_good {α : Type} {g k : α → Nat} (hg : ∀ a, Good (g a) 0 (k a)) (n : Nat) (l : List α) : Good (sumGo g n l) n (l.map k).sum := by
  induction l generalizing n with
  | nil => exact Good.refl n
  | cons a l ih =>
    show Good (if n ≤ 2000 then _ else _) n _
    rw [List.map_cons, List.sum_cons]
    split
    · have h1 : Good (n + g a) n (k a) := by have := hg a; unfold Good at *; omega
      exact h1.trans (ih _)
    · rename_i h
      exact Good.stop h
end Go.Proofs.YtpbinloeemebkaaGreat

namespace Go.Proofs.YtpbinloeemebkaaGreat
open Go.RowKit
attribute [local irreducible] AT ATL AX AO Av Kt ALoopK OkA DA DA1
theorem tdiv_nat (n m : Nat) : ((n : Int).tdiv (m : Int)) = ((n / m : Nat) : Int) := by
  rw [Int.ofNat_tdiv]
theorem wrap_nat {n : Nat} (h : n ≤ 9223372036854775807) : IntKind.i64.wrap (n : Int) = n := fits64 (by omega)
section
variable {P : Program} {fr : AFr} {d : Option Tmp} {ty t t' : TypeId} {pos : String} {af : Array Edge} {g : Option (Nat × Bool)} {x y : Operand}
theorem a_quoN {n m : Nat} (hx : aev fr x = some (I64 n)) (hy : aev fr y = some (I64 m)) (hm : m ≠ 0) (hn : n ≤ 9223372036854775807) : Av P ⟨d, .binOp .quo t x y t', ty, pos, af, g⟩ fr (I64 ((n / m : Nat) : Int)) := by
  have h := a_quo (P := P) (d := d) (ty := ty) (pos := pos) (af := af) (g := g) (t := t) (t' := t') hx hy (by omega)
  rw [tdiv_nat, wrap_nat (Nat.le_trans (Nat.div_le_self _ _) hn)] at h
  exact h
end
/-- no row of a font is longer than may be -/
structure FontFits (f : FFont) : Prop where
  top : f.Glyphs.length ≤ 140737488355328 ∧ f.Chars.length ≤ 140737488355328 ∧ f.Lookups.length ≤ 140737488355328 ∧ f.Features.length ≤ 140737488355328 ∧ f.Axes.length ≤ 140737488355328 ∧ f.Regions.length ≤ 140737488355328 ∧ f.Funcs.length ≤ 140737488355328 ∧ f.Cvt.length ≤ 140737488355328
  glyph : ∀ g ∈ f.Glyphs, g.Points.length ≤ 140737488355328 ∧ g.Parts.length ≤ 140737488355328 ∧ g.Anchors.length ≤ 140737488355328 ∧ g.Deltas.length ≤ 140737488355328 ∧ g.Hint.length ≤ 140737488355328 ∧ g.Name.size ≤ 140737488355328
  rules : ∀ l ∈ f.Lookups, l.Rules.length ≤ 140737488355328 ∧ ∀ r ∈ l.Rules, RuleFits r
  funcs : ∀ c ∈ f.Funcs, c.length ≤ 140737488355328
  feats : ∀ t ∈ f.Features, t.Lookups.length ≤ 140737488355328 ∧ t.Name.size ≤ 140737488355328
  regions : ∀ r ∈ f.Regions, r.length ≤ 140737488355328
theorem rulesGo_le {l : List FRule} {n : Nat} (hn : n ≤ 3 * 140737488355328) (hf : ∀ r ∈ l, RuleFits r) : rulesGo n l ≤ 3 * 140737488355328 := by
  induction l generalizing n with
  | nil => exact hn
  | cons r l ih =>
    show (if n ≤ 2000 then _ else _) ≤ _
    split
    · rename_i h2
      refine ih ?_ fun r' h' => hf r' (List.mem_cons_of_mem _ h')
      have hr := hf r (List.mem_cons_self ..)
      have h1 := hr.out
      have h3 := hr.calls
      unfold maxRow at h1 h3
      have hm : 2000 + 1 + maxRow ≤ 3 * 140737488355328 := by unfold maxRow; omega
      exact setsGo_le hm (setsGo_le hm (setsGo_le hm (by omega) (hr.sets _ (by simp)).2) (hr.sets _ (by simp)).2) (hr.sets _ (by simp)).2
    · exact hn
def rulesV (l : FLookup) : Nat := rulesGo l.Rules.length l.Rules
def topN (f : FFont) : Nat := f.Glyphs.length + f.Chars.length + f.Lookups.length + f.Features.length + f.Axes.length + f.Regions.length + f.Funcs.length + f.Cvt.length
set_option maxHeartbeats 2000000 in
theorem big_det (f : FFont) (hf : FontFits f) : ADet Tryz.prog 10 [aFont f] (Bol (decide (2000 < fontN f))) := by
  refine ac_of Tryz.func10 rfl Tryz.ntmps10 rfl fun B => ?_
  obtain ⟨t1, t2, t3, t4, t5, t6, t7, t8⟩ := hf.top
  have t1' : (f.Glyphs.map cGlyph).length ≤ 140737488355328 := by rw [List.length_map]; exact t1
  have t2' : (f.Chars.map cChar).length ≤ 140737488355328 := by rw [List.length_map]; exact t2
  have t3' : (f.Lookups.map cLookup).length ≤ 140737488355328 := by rw [List.length_map]; exact t3
  have t4' : (f.Features.map cFeature).length ≤ 140737488355328 := by rw [List.length_map]; exact t4
  have t5' : (f.Axes.map cAxis).length ≤ 140737488355328 := by rw [List.length_map]; exact t5
  have t6' : (f.Regions.map cRegion).length ≤ 140737488355328 := by rw [List.length_map]; exact t6
  have t7' : (f.Funcs.map cCode).length ≤ 140737488355328 := by rw [List.length_map]; exact t7
  have t8' : (ints f.Cvt).length ≤ 140737488355328 := by rw [ints_len]; exact t8
  (repeat' (first|refine at_seq ?_|refine at_region ?_|refine at_block ?_|refine ax_then ?_|refine atl_nil ?_|refine n_run ttok rfl rfl ?_|(apply s_bin; refine n_bin ?_)|refine n_boxI ?_|fail))
  have htop : ((f.Glyphs.map cGlyph).length : Int) + ((f.Chars.map cChar).length : Int) + ((f.Lookups.map cLookup).length : Int) + ((f.Features.map cFeature).length : Int) + ((f.Axes.map cAxis).length : Int) + ((f.Regions.map cRegion).length : Int) + ((f.Funcs.map cCode).length : Int) + ((ints f.Cvt).length : Int) = ((topN f : Nat) : Int) := by
    unfold topN
    simp only [List.length_map, ints_len]
    omega
  rw [htop]
  have htl : topN f ≤ 8 * 140737488355328 := by unfold topN; omega
  refine at_loopK [1] (α := Nat × Nat) (fun x => [(3, I64 x.1), (4, I64 x.2)]) (fun x => x.2 ≤ f.Glyphs.length ∧ x.1 ≤ 8 * 140737488355328 ∧ sumGo glyphN x.1 (f.Glyphs.drop x.2) = sumGo glyphN (topN f) f.Glyphs) (fun _ => []) (fun x => f.Glyphs.length - x.2) (topN f, 0) rfl ⟨rfl, rfl, trivial⟩ ⟨Nat.zero_le _, htl, rfl⟩ (fun _ _ h => h) ?_
  rintro ⟨n, i⟩ ⟨hi, hn, hg⟩
  dsimp only at hi hn hg ⊢
  try dsimp only [List.cons_append, List.nil_append, List.map_cons, List.map_nil]
  (repeat' (first|refine at_seq ?_|refine at_region ?_|refine n_run ttok rfl rfl ?_|fail))
  refine atl_if [1, 3, 4] (i < f.Glyphs.length ∧ n ≤ 2000) rfl (fun Q' K => ?_) (fun hC => ?_) (fun hC => ?_)
  · (repeat' (first|refine atl_nil ?_|refine n_run ttok rfl rfl ?_|refine atl_guard_yes rfl rfl ?_|refine atl_guard_no rfl rfl rfl rfl ?_|refine atl_guard rfl rfl rfl (fun _ => ?_) (fun _ => ?_)|fail))
    all_goals exact K _ _ rfl rfl (by simp_all <;> omega)
  · obtain ⟨hil, hn2⟩ := hC
    obtain ⟨g, hgi⟩ : ∃ g, f.Glyphs[i]? = some g := ⟨_, List.getElem?_eq_getElem hil⟩
    have hgg := map_get (c := cGlyph) hgi
    obtain ⟨g1, g2, g3, g4, g5, g6⟩ := hf.glyph g (List.mem_of_getElem? hgi)
    have g1' : (g.Points.map cPoint).length ≤ 140737488355328 := by rw [List.length_map]; exact g1
    have g2' : (g.Parts.map cPart).length ≤ 140737488355328 := by rw [List.length_map]; exact g2
    have g3' : (g.Anchors.map cAnchor).length ≤ 140737488355328 := by rw [List.length_map]; exact g3
    have g4' : (g.Deltas.map cDelta).length ≤ 140737488355328 := by rw [List.length_map]; exact g4
    have g5' : (g.Hint.map cIns).length ≤ 140737488355328 := by rw [List.length_map]; exact g5
    (repeat' (first|refine at_seq ?_|refine at_region ?_|refine at_block ?_|refine at_skip ?_|refine ax_then ?_|refine atl_nil ?_|refine n_run ttok rfl rfl ?_|(apply s_bin; refine n_bin ?_)|(apply s_index; first|refine n_index ttok ?_|refine n_indexP ttok ?_)|(apply s_store; first|refine n_storeF 5 ttok 0 rfl rfl rfl rfl rfl rfl rfl rfl ?_|refine n_storeF 5 ttok 1 rfl rfl rfl rfl rfl rfl rfl rfl ?_|refine n_storeF 5 ttok 2 rfl rfl rfl rfl rfl rfl rfl rfl ?_|refine n_store ttok 0 rfl rfl rfl rfl rfl rfl rfl ?_|refine n_store ttok 1 rfl rfl rfl rfl rfl rfl rfl ?_|refine n_store ttok 2 rfl rfl rfl rfl rfl rfl rfl ?_|refine n_store ttok 3 rfl rfl rfl rfl rfl rfl rfl ?_|fail)|refine n_alloc ttok fun _=>?_|fail))
    refine n_bin ?_ (a_quoN (n := g.Name.size) (m := 100) rfl rfl (by omega) (by omega))
    (repeat' (first|refine at_region ?_|refine ax_then ?_|refine ax_blk ?_|refine atl_nil ?_|refine n_run ttok rfl rfl ?_|(apply s_bin; refine n_bin ?_)|fail))
    refine ax_roundK (n + glyphN g, i + 1) rfl ⟨?_, by rw [Int.natCast_add]; rfl, trivial⟩ ⟨by dsimp only; omega, by dsimp only; unfold glyphN; omega, by dsimp only; rw [← sumGo_drop hgi hn2]; exact hg⟩ (by dsimp only; omega) (fun _ _ h => h)
    show some (I64 _) = some (I64 _)
    unfold glyphN
    simp only [List.length_map]
    congr 2
    omega
  · have hfin := sumGo_end (g := glyphN) hi hC
    rw [hfin] at hg
    (repeat' (first|refine at_seq ?_|refine at_region ?_|refine at_block ?_|refine at_exit ?_|refine ax_then ?_|refine ax_then_exit ?_|refine ax_blk_exit ?_|refine ax_loop_exit ?_|refine atl_nil ?_|refine n_run ttok rfl rfl ?_|fail))
    refine at_loopK [1] (α := Nat × Nat) (fun x => [(3, I64 x.1), (6, I64 x.2)]) (fun x => x.2 ≤ f.Lookups.length ∧ x.1 ≤ 8 * 140737488355328 ∧ sumGo rulesV x.1 (f.Lookups.drop x.2) = sumGo rulesV n f.Lookups) (fun _ => []) (fun x => f.Lookups.length - x.2) (n, 0) rfl ⟨rfl, rfl, trivial⟩ ⟨Nat.zero_le _, hn, rfl⟩ (fun _ _ h => h) ?_
    clear hi hC hfin
    rintro ⟨n2, i2⟩ ⟨hi2, hn2, hg2⟩
    dsimp only at hi2 hn2 hg2 ⊢
    try dsimp only [List.cons_append, List.nil_append, List.map_cons, List.map_nil]
    (repeat' (first|refine at_seq ?_|refine at_region ?_|refine n_run ttok rfl rfl ?_|fail))
    refine atl_if [1, 3, 6] (i2 < f.Lookups.length ∧ n2 ≤ 2000) rfl (fun Q' K => ?_) (fun hC => ?_) (fun hC => ?_)
    · clear hg
      (repeat' (first|refine atl_nil ?_|refine n_run ttok rfl rfl ?_|refine atl_guard_yes rfl rfl ?_|refine atl_guard_no rfl rfl rfl rfl ?_|refine atl_guard rfl rfl rfl (fun _ => ?_) (fun _ => ?_)|fail))
      all_goals exact K _ _ rfl rfl (by simp_all <;> omega)
    · obtain ⟨hil, hn3⟩ := hC
      obtain ⟨l, hl⟩ : ∃ g, f.Lookups[i2]? = some g := ⟨_, List.getElem?_eq_getElem hil⟩
      have hlg := map_get (c := cLookup) hl
      obtain ⟨r1, r2⟩ := hf.rules l (List.mem_of_getElem? hl)
      have hro := AD.mk (P := Tryz.prog) (rulesOf_det l.Rules r1 r2)
      have hle : rulesGo l.Rules.length l.Rules ≤ 3 * 140737488355328 := rulesGo_le (by omega) r2
      (repeat' (first|refine at_seq ?_|refine at_region ?_|refine at_block ?_|refine at_skip ?_|refine ax_then ?_|refine ax_blk ?_|refine atl_nil ?_|refine n_run ttok rfl rfl ?_|(apply s_bin; refine n_bin ?_)|(apply s_index; first|refine n_index ttok ?_|refine n_indexP ttok ?_)|(apply s_call;refine n_call ?_)|fail))
      refine ax_roundK (n2 + rulesV l, i2 + 1) rfl ⟨by rw [Int.natCast_add]; rfl, by rw [Int.natCast_add]; rfl, trivial⟩ ⟨by dsimp only; omega, by dsimp only; unfold rulesV; omega, by dsimp only; rw [← sumGo_drop hl hn3]; exact hg2⟩ (by dsimp only; omega) (fun _ _ h => h)
    · have hfin := sumGo_end (g := rulesV) hi2 hC
      rw [hfin] at hg2
      (repeat' (first|refine at_seq ?_|refine at_region ?_|refine at_block ?_|refine at_exit ?_|refine ax_then ?_|refine ax_then_exit ?_|refine ax_blk_exit ?_|refine ax_loop_exit ?_|refine atl_nil ?_|refine n_run ttok rfl rfl ?_|fail))
      refine at_loopK [1] (α := Nat × Nat) (fun x => [(3, I64 x.1), (7, I64 x.2)]) (fun x => x.2 ≤ f.Funcs.length ∧ x.1 ≤ 8 * 140737488355328 ∧ sumGo (·.length) x.1 (f.Funcs.drop x.2) = sumGo (·.length) n2 f.Funcs) (fun _ => []) (fun x => f.Funcs.length - x.2) (n2, 0) rfl ⟨rfl, rfl, trivial⟩ ⟨Nat.zero_le _, hn2, rfl⟩ (fun _ _ h => h) ?_
      clear hi2 hC hfin
      rintro ⟨n3, i3⟩ ⟨hi3, hn3, hg3⟩
      dsimp only at hi3 hn3 hg3 ⊢
      try dsimp only [List.cons_append, List.nil_append, List.map_cons, List.map_nil]
      (repeat' (first|refine at_seq ?_|refine at_region ?_|refine n_run ttok rfl rfl ?_|fail))
      refine atl_if [1, 3, 7] (i3 < f.Funcs.length ∧ n3 ≤ 2000) rfl (fun Q' K => ?_) (fun hC => ?_) (fun hC => ?_)
      · clear hg hg2
        (repeat' (first|refine atl_nil ?_|refine n_run ttok rfl rfl ?_|refine atl_guard_yes rfl rfl ?_|refine atl_guard_no rfl rfl rfl rfl ?_|refine atl_guard rfl rfl rfl (fun _ => ?_) (fun _ => ?_)|fail))
        all_goals exact K _ _ rfl rfl (by simp_all <;> omega)
      · obtain ⟨hil, hn4⟩ := hC
        obtain ⟨l, hl⟩ : ∃ g, f.Funcs[i3]? = some g := ⟨_, List.getElem?_eq_getElem hil⟩
        have hlg := map_get (c := cCode) hl
        have r1 := hf.funcs l (List.mem_of_getElem? hl)
        have r1' : (l.map cIns).length ≤ 140737488355328 := by rw [List.length_map]; exact r1
        (repeat' (first|refine at_seq ?_|refine at_region ?_|refine at_block ?_|refine at_skip ?_|refine ax_then ?_|refine ax_blk ?_|refine atl_nil ?_|refine n_run ttok rfl rfl ?_|(apply s_bin; refine n_bin ?_)|(apply s_index; first|refine n_index ttok ?_|refine n_indexP ttok ?_)|fail))
        refine ax_roundK (n3 + l.length, i3 + 1) rfl ⟨by rw [Int.natCast_add, List.length_map]; rfl, by rw [Int.natCast_add]; rfl, trivial⟩ ⟨by dsimp only; omega, by dsimp only; omega, by dsimp only; rw [← sumGo_drop (g := (·.length)) hl hn4]; exact hg3⟩ (by dsimp only; omega) (fun _ _ h => h)
      · have hfin := sumGo_end (g := (·.length)) hi3 hC
        rw [hfin] at hg3
        (repeat' (first|refine at_seq ?_|refine at_region ?_|refine at_block ?_|refine at_exit ?_|refine ax_then ?_|refine ax_then_exit ?_|refine ax_blk_exit ?_|refine ax_loop_exit ?_|refine atl_nil ?_|refine n_run ttok rfl rfl ?_|fail))
        refine at_loopK [1] (α := Nat × Nat) (fun x => [(3, I64 x.1), (8, I64 x.2)]) (fun x => x.2 ≤ f.Features.length ∧ x.1 ≤ 8 * 140737488355328 ∧ sumGo featN x.1 (f.Features.drop x.2) = sumGo featN n3 f.Features) (fun _ => []) (fun x => f.Features.length - x.2) (n3, 0) rfl ⟨rfl, rfl, trivial⟩ ⟨Nat.zero_le _, hn3, rfl⟩ (fun _ _ h => h) ?_
        clear hi3 hC hfin
        rintro ⟨n4, i4⟩ ⟨hi4, hn4, hg4⟩
        dsimp only at hi4 hn4 hg4 ⊢
        try dsimp only [List.cons_append, List.nil_append, List.map_cons, List.map_nil]
        (repeat' (first|refine at_seq ?_|refine at_region ?_|refine n_run ttok rfl rfl ?_|fail))
        refine atl_if [1, 3, 8] (i4 < f.Features.length ∧ n4 ≤ 2000) rfl (fun Q' K => ?_) (fun hC => ?_) (fun hC => ?_)
        · clear hg hg2 hg3
          (repeat' (first|refine atl_nil ?_|refine n_run ttok rfl rfl ?_|refine atl_guard_yes rfl rfl ?_|refine atl_guard_no rfl rfl rfl rfl ?_|refine atl_guard rfl rfl rfl (fun _ => ?_) (fun _ => ?_)|fail))
          all_goals exact K _ _ rfl rfl (by simp_all <;> omega)
        · obtain ⟨hil, hn5⟩ := hC
          obtain ⟨l, hl⟩ : ∃ g, f.Features[i4]? = some g := ⟨_, List.getElem?_eq_getElem hil⟩
          have hlg := map_get (c := cFeature) hl
          obtain ⟨r1, r2⟩ := hf.feats l (List.mem_of_getElem? hl)
          have r1' : (ints l.Lookups).length ≤ 140737488355328 := by rw [ints_len]; exact r1
          (repeat' (first|refine at_seq ?_|refine at_block ?_|refine at_skip ?_|refine ax_then ?_|fail))
          refine at_draw 18 [(0, .v), (1, .v), (2, .v), (3, .v), (4, .v), (5, .v), (6, .v), (7, .v), (8, .v), (9, .v), (10, .v), (11, .v), (12, .v), (13, .v), (14, .v), (15, .v), (16, .v), (17, .v)] none ?_ trivial rfl (by kernel_rfl) (by kernel_rfl) (by kernel_rfl) mixed (by kernel_rfl) rfl
          (repeat' (first|refine da_open ?_|refine d_run ttok ?_|(apply ds_bin;refine d_bin ?_)|(apply ds_index;refine d_index ttok ?_)|fail))
          refine d_bin ?_ (a_quoN (n := l.Name.size) (m := 100) rfl rfl (by omega) (by omega))
          (repeat' (first|refine da_open ?_|(apply ds_bin;refine d_bin ?_)|fail))
          refine da_end [1, 8, 151] rfl rfl ?_
          (repeat' (first|refine at_region ?_|refine ax_then ?_|refine ax_blk ?_|refine atl_nil ?_|refine n_run ttok rfl rfl ?_|(apply s_bin; refine n_bin ?_)|fail))
          refine ax_roundK (n4 + featN l, i4 + 1) rfl ⟨?_, by rw [Int.natCast_add]; rfl, trivial⟩ ⟨by dsimp only; omega, by dsimp only; unfold featN; omega, by dsimp only; rw [← sumGo_drop hl hn5]; exact hg4⟩ (by dsimp only; omega) (fun _ _ h => h)
          show some (I64 _) = some (I64 _)
          unfold featN
          simp only [ints_len]
          congr 2
          omega
        · have hfin := sumGo_end (g := featN) hi4 hC
          rw [hfin] at hg4
          (repeat' (first|refine at_seq ?_|refine at_region ?_|refine at_block ?_|refine at_exit ?_|refine ax_then ?_|refine ax_then_exit ?_|refine ax_blk_exit ?_|refine ax_loop_exit ?_|refine atl_nil ?_|refine n_run ttok rfl rfl ?_|fail))
          refine at_loopK [1] (α := Nat × Nat) (fun x => [(3, I64 x.1), (9, I64 x.2)]) (fun x => x.2 ≤ f.Regions.length ∧ x.1 ≤ 8 * 140737488355328 ∧ sumGo (·.length) x.1 (f.Regions.drop x.2) = sumGo (·.length) n4 f.Regions) (fun _ => []) (fun x => f.Regions.length - x.2) (n4, 0) rfl ⟨rfl, rfl, trivial⟩ ⟨Nat.zero_le _, hn4, rfl⟩ (fun _ _ h => h) ?_
          clear hi4 hC hfin
          rintro ⟨n5, i5⟩ ⟨hi5, hn5, hg5⟩
          dsimp only at hi5 hn5 hg5 ⊢
          try dsimp only [List.cons_append, List.nil_append, List.map_cons, List.map_nil]
          (repeat' (first|refine at_seq ?_|refine at_region ?_|refine n_run ttok rfl rfl ?_|fail))
          refine atl_if [1, 3, 9] (i5 < f.Regions.length ∧ n5 ≤ 2000) rfl (fun Q' K => ?_) (fun hC => ?_) (fun hC => ?_)
          · clear hg hg2 hg3 hg4
            (repeat' (first|refine atl_nil ?_|refine n_run ttok rfl rfl ?_|refine atl_guard_yes rfl rfl ?_|refine atl_guard_no rfl rfl rfl rfl ?_|refine atl_guard rfl rfl rfl (fun _ => ?_) (fun _ => ?_)|fail))
            all_goals exact K _ _ rfl rfl (by simp_all <;> omega)
          · obtain ⟨hil, hn6⟩ := hC
            obtain ⟨l, hl⟩ : ∃ g, f.Regions[i5]? = some g := ⟨_, List.getElem?_eq_getElem hil⟩
            have hlg := map_get (c := cRegion) hl
            have r1 := hf.regions l (List.mem_of_getElem? hl)
            have r1' : (l.map cTent).length ≤ 140737488355328 := by rw [List.length_map]; exact r1
            (repeat' (first|refine at_seq ?_|refine at_region ?_|refine at_block ?_|refine at_skip ?_|refine ax_then ?_|refine ax_blk ?_|refine atl_nil ?_|refine n_run ttok rfl rfl ?_|(apply s_bin; refine n_bin ?_)|(apply s_index; first|refine n_index ttok ?_|refine n_indexP ttok ?_)|fail))
            refine ax_roundK (n5 + l.length, i5 + 1) rfl ⟨by rw [Int.natCast_add, List.length_map]; rfl, by rw [Int.natCast_add]; rfl, trivial⟩ ⟨by dsimp only; omega, by dsimp only; omega, by dsimp only; rw [← sumGo_drop (g := (·.length)) hl hn6]; exact hg5⟩ (by dsimp only; omega) (fun _ _ h => h)
          · have hfin := sumGo_end (g := (·.length)) hi5 hC
            rw [hfin] at hg5
            (repeat' (first|refine at_seq ?_|refine at_region ?_|refine at_ret ?_|refine at_exit ?_|refine ax_then ?_|refine ax_then_exit ?_|refine ax_blk_exit ?_|refine ax_loop_exit ?_|refine atl_nil ?_|refine n_run ttok rfl rfl ?_|fail))
            refine ax_ret1 rfl rfl ?_
            have g0 : ∀ {β : Type} (a : List β), Good a.length 0 a.length := fun a => by unfold Good; omega
            have e1 := sumGo_good (g := glyphN) (k := glyphN) (fun a => by unfold Good; omega) (topN f) f.Glyphs
            have e2 := sumGo_good (g := rulesV) (k := fun l => rulesN l.Rules) (fun a => by have := rulesGo_good a.Rules.length a.Rules; unfold rulesV rulesN; unfold Good at *; omega) n f.Lookups
            have e3 := sumGo_good (g := fun c : List FIns => c.length) (k := (·.length)) g0 n2 f.Funcs
            have e4 := sumGo_good (g := featN) (k := featN) (fun a => by unfold Good; omega) n3 f.Features
            have e5 := sumGo_good (g := fun c : List FTent => c.length) (k := (·.length)) g0 n4 f.Regions
            rw [← hg] at e1
            rw [← hg2] at e2
            rw [← hg3] at e3
            rw [← hg4] at e4
            rw [← hg5] at e5
            have e := ((((e1.trans e2).trans e3).trans e4).trans e5).iff
            have ef : topN f + ((((f.Glyphs.map glyphN).sum + (f.Lookups.map fun l => rulesN l.Rules).sum) + (f.Funcs.map (·.length)).sum) + (f.Features.map featN).sum + (f.Regions.map (·.length)).sum) = fontN f := by unfold fontN topN; omega
            rw [ef] at e
            refine congrArg Bol ?_
            rw [decide_eq_decide]
            omega
end Go.Proofs.YtpbinloeemebkaaGreat

namespace Go.Proofs.YtpbinloeemebkaaGreat
open Go.ChangeShapes Go.WideShapes Go.ChangeAt Go.RowKit Go.Deep Go.Joins
/-- what came in: its memory -/
def memOf (W : World) : Mem := fun b off => W.cell? ⟨b, off, none⟩
theorem memOf_st (W : World) : ASt ⟨W, memOf W, []⟩ (memOf W) [] W := ⟨rfl, rfl, rfl, Nat.le_refl _, fun _ _ _ => rfl, by simp, by simp, by simp, fun _ _ _ h => h, by simp, Mem.le_refl _, fun _ _ _ _ => rfl⟩
theorem VRs.app {σ : Mem} : ∀ {a b : List AV} {u v : List Value}, VRs σ a u → VRs σ b v → VRs σ (a ++ b) (u ++ v)
  | [], b, u, v, h, k => by
    have : u = [] := List.eq_nil_of_length_eq_zero h.1.symm
    subst this
    exact k
  | c :: a, b, u, v, h, k => by
    obtain ⟨x, u', rfl, h1, h2⟩ := h.inv
    exact VRs.cons h1 (h2.app k)
section
variable {H : Type} {enc : TypeId × Value → H} {P : Program} {W : World}
def Light (P : Program) (t : TypeId) (d : DataW H) : Prop := ∀ n ∈ d.weights P t, n ≤ reachBytes
def Opn (enc : TypeId × Value → H) (P : Program) (W : World) (t : TypeId) {α : Type} (c : α → List AV) (fits : α → Prop) : Prop :=
  ∀ fuel cs x, DataW.trod enc P W 0 (fun _ => true) true fuel t cs = some x → Light P t x.1 → ∃ a, VRs (memOf W) (c a) cs ∧ (∀ u ∈ cs, u.oneCell' = true) ∧ fits a
theorem Opn.map {t : TypeId} {α β : Type} {c : α → List AV} {c' : β → List AV} {fits : α → Prop} {fits' : β → Prop} (h : Opn enc P W t c fits) (g : α → β) (hc : ∀ a, c a = c' (g a)) (hf : ∀ a, fits a → fits' (g a)) : Opn enc P W t c' fits' := fun fuel cs x h1 h2 => by
  obtain ⟨a, k1, k2, k3⟩ := h fuel cs x h1 h2
  exact ⟨g a, by rw [← hc]; exact k1, k2, hf a k3⟩
theorem opn_int {t : TypeId} (ht : P.underlying t = some (.int .i64)) : Opn enc P W t (fun z : Int => [I64 z]) (fun _ => True) := fun fuel cs x h _ => by
  obtain ⟨z, rfl, -, -⟩ := DataW.trod_int ht h
  exact ⟨z, VRs.cons (.sc _) VRs.nil, by intro u hu; rw [List.mem_singleton.1 hu]; rfl, trivial⟩
theorem opn_bool {t : TypeId} (ht : P.underlying t = some .bool) : Opn enc P W t (fun z : Bool => [Bol z]) (fun _ => True) := fun fuel cs x h _ => by
  obtain ⟨z, rfl, -⟩ := DataW.trod_bool ht h
  exact ⟨z, VRs.cons (.sc _) VRs.nil, by intro u hu; rw [List.mem_singleton.1 hu]; rfl, trivial⟩
theorem opn_str {t : TypeId} (ht : P.underlying t = some .string) : Opn enc P W t (fun z : ByteArray => [Str z]) (fun z => z.size ≤ reachBytes) := fun fuel cs x h hl => by
  obtain ⟨z, rfl, rfl, -⟩ := DataW.trod_string ht h
  refine ⟨z, VRs.cons (.sc _) VRs.nil, by intro u hu; rw [List.mem_singleton.1 hu]; rfl, ?_⟩
  have := hl z.data.toList.length (by simp [DataW.weights])
  simpa using this
theorem mem_weightsAll {e : TypeId} {l : List (DataW H)} {d : DataW H} (hd : d ∈ l) {n : Nat} (hn : n ∈ d.weights P e) : n ∈ DataW.weightsAll P e l := by
  induction l with
  | nil => cases hd
  | cons y l ih =>
    rw [DataW.weightsAll, List.mem_append]
    rcases List.mem_cons.1 hd with rfl | h
    · exact .inl hn
    · exact .inr (ih h)
theorem opn_slice {t e : TypeId} {sz : Nat} {α : Type} [Inhabited α] {c : α → List AV} {fits : α → Prop} (ht : P.underlying t = some (.slice e)) (hb : 0 < P.bytesOf e) (hs : P.cellsOf e = sz) (h0 : 0 < sz) (he : Opn enc P W e c fits) (hc : ∀ a, (c a).length = sz) :
    Opn enc P W t (fun l : List α => [.imm sz (l.map c)]) (fun l => l.length ≤ reachBytes ∧ ∀ a ∈ l, fits a) := fun fuel cs x h hl => by
  rcases open_slice ht h with ⟨rfl, rfl⟩ | ⟨a, len, cap, m, n, D, Pl, rfl, _, hlc, hm, hmm, rfl, hx⟩
  · exact ⟨[], VRs.cons (vr_nilI sz (.sc _)) VRs.nil, by intro u hu; rw [List.mem_singleton.1 hu]; rfl, Nat.zero_le _, by simp⟩
  have hmle : len ≤ m := by rw [hmm]; split <;> omega
  have hw : ∀ n ∈ (len + (m - len)) * P.bytesOf e :: (DataW.weightsAll P e ((List.range len).map D) ++ DataW.weightsAll P e ((List.range (m - len)).map fun j => D (len + j))), n ≤ reachBytes := by
    intro n hn
    refine hl n ?_
    show n ∈ DataW.weights P t (.slice _ _)
    rw [DataW.weights, ht]
    simpa using hn
  have hlen : len ≤ reachBytes := by
    have h1 := hw _ (List.mem_cons_self ..)
    have h2 : len ≤ (len + (m - len)) * P.bytesOf e := Nat.le_trans (Nat.le_add_right _ _) (Nat.le_mul_of_pos_right _ hb)
    omega
  have each : ∀ i, i < len → ∃ q : α × List Value, W.cells? 0 (a.add (i * sz)) sz = some q.2 ∧ VRs (memOf W) (c q.1) q.2 ∧ (∀ u ∈ q.2, u.oneCell' = true) ∧ fits q.1 := by
    intro i hi
    obtain ⟨cs', h1, h2⟩ := hx i (by omega)
    rw [hs] at h1
    obtain ⟨a', k1, k2, k3⟩ := he n cs' _ h2 (fun n hn => hw n (List.mem_cons_of_mem _ (List.mem_append_left _ (mem_weightsAll (List.mem_map.2 ⟨i, List.mem_range.2 hi, rfl⟩) hn))))
    exact ⟨(a', cs'), h1, k1, k2, k3⟩
  obtain ⟨f, hf⟩ := choose_lt each
  refine ⟨(List.range len).map fun i => (f i).1, VRs.cons ?_ VRs.nil, by intro u hu; rw [List.mem_singleton.1 hu]; rfl, by simpa using hlen, ?_⟩
  · have hll : (((List.range len).map fun i => (f i).1).map c).length = len := by simp
    have hcell : ∀ i, i < len → ∀ j, j < sz → W.cell? (a.add (i * sz + j)) = (f i).2[j]? := by
      intro i hi j hj
      have := (World.cells?_some (hf i hi).1).2.2 j hj
      rw [add_add] at this
      exact this
    have hcl : ∀ i, i < len → (f i).2.length = sz := fun i hi => (World.cells?_some (hf i hi).1).2.1
    have hnone : 0 < len → ∃ b off, a = ⟨b, off, none⟩ := by
      intro hp
      have h1 := hcell 0 hp 0 h0
      rw [Nat.zero_mul, Nat.zero_add, List.getElem?_eq_getElem (by rw [hcl 0 hp]; exact h0)] at h1
      obtain ⟨b, off, sp⟩ := a
      have e : (⟨b, off, sp⟩ : Addr).add 0 = ⟨b, off, sp⟩ := by simp [Addr.add]
      rw [e] at h1
      cases sp with
      | some s =>
        simp only [World.cell?] at h1
        split at h1
        · simp at h1
        · cases h1
      | none => exact ⟨b, off, rfl⟩
    have hmem : ∀ b off, a = ⟨b, off, none⟩ → ∀ i, i < len → ∀ j, j < sz → memOf W b (off + i * sz + j) = (f i).2[j]? := by
      intro b off ha i hi j hj
      have := hcell i hi j hj
      rw [ha] at this
      show W.cell? ⟨b, off + i * sz + j, none⟩ = _
      rw [← this]
      have e : (⟨b, off, none⟩ : Addr).add (i * sz + j) = ⟨b, off + (i * sz + j), none⟩ := by
        unfold Addr.add
        by_cases h : i * sz + j = 0
        · rw [if_pos h, h, Nat.add_zero]
        · rw [if_neg h]
      rw [e, Nat.add_assoc]
    have hgo := VR.imm (σ := memOf W) sz (((List.range len).map fun i => (f i).1).map c) (some a) cap (by rw [hll]; exact hlc) hm (fun e he => by
        obtain ⟨y, _, rfl⟩ := List.mem_map.1 he
        exact hc y) (fun hne => by
        have : 0 < len := by
          rcases Nat.eq_zero_or_pos len with h | h
          · subst h; exact absurd rfl hne
          · exact h
        obtain ⟨b, off, rfl⟩ := hnone this
        exact ⟨b, off, rfl⟩) (fun i b off j hA hi hj => by
        rw [hll] at hi
        injection hA with hA
        have h1 := hmem b off hA i hi j hj
        have h2 : j < (f i).2.length := by rw [hcl i hi]; exact hj
        rw [List.getElem?_eq_getElem h2] at h1
        exact ⟨_, h1, (hf i hi).2.2.1 _ (List.getElem_mem h2)⟩) (fun i e b off j c' u hi hA hj hu => by
        injection hA with hA
        have hil : i < len := by have := (List.getElem?_eq_some_iff.1 hi).1; simpa using this
        rw [List.getElem?_map, List.getElem?_map, List.getElem?_range hil] at hi
        simp only [Option.map_some, Option.some.injEq] at hi
        subst hi
        have hjs : j < sz := by rw [← hc (f i).1]; exact (List.getElem?_eq_some_iff.1 hj).1
        rw [hmem b off hA i hil j hjs] at hu
        exact (hf i hil).2.1.2 j c' u hj hu)
    rw [hll] at hgo
    exact hgo
  · intro y hy
    obtain ⟨i, hi, rfl⟩ := List.mem_map.1 hy
    exact (hf i (List.mem_range.1 hi)).2.2.2
/-- fields, from a cell on -/
def OpnR (enc : TypeId × Value → H) (P : Program) (W : World) (N o : Nat) (fs : List Field) {β : Type} (c : β → List AV) (fits : β → Prop) : Prop :=
  ∀ (n : Nat) (cs : List Value) (xs : List (DataW H × List MemPlace)), cs.length = N → xs.length = fs.length → (∀ (i : Nat) (f : Field), fs[i]? = some f → DataW.trod enc P W 0 (fun _ => true) true n f.type ((cs.drop f.offset).take (P.cellsOf f.type)) = xs[i]?) →
    (∀ k ∈ DataW.weightsEach P (fs.map (·.type)) (xs.map (·.1)), k ≤ reachBytes) → ∃ b, VRs (memOf W) (c b) (cs.drop o) ∧ (∀ u ∈ cs.drop o, u.oneCell' = true) ∧ fits b
theorem opnR_nil {N : Nat} : OpnR enc P W N N [] (fun _ : Unit => []) (fun _ => True) := fun n cs xs hN _ _ _ => by
  have : cs.drop N = [] := List.drop_eq_nil_of_le (by omega)
  rw [this]
  exact ⟨(), VRs.nil, by simp, trivial⟩
theorem opnR_cons {N o s : Nat} {f : Field} {fs : List Field} {α β : Type} {c : α → List AV} {d : β → List AV} {fits : α → Prop} {fits' : β → Prop} (ho : f.offset = o) (hs : P.cellsOf f.type = s) (h : Opn enc P W f.type c fits) (hr : OpnR enc P W N (o + s) fs d fits') : OpnR enc P W N o (f :: fs) (fun p : α × β => c p.1 ++ d p.2) (fun p => fits p.1 ∧ fits' p.2) := fun n cs xs hN hl hx hw => by
  match xs, hl with
  | x :: xs, hl =>
    have h0 := hx 0 f rfl
    rw [ho, hs] at h0
    obtain ⟨a, k1, k2, k3⟩ := h n _ x h0 (fun k hk => hw k (by
      simp only [List.map_cons, DataW.weightsEach, List.mem_append]
      exact .inl hk))
    obtain ⟨b, m1, m2, m3⟩ := hr n cs xs hN (by simpa using hl) (fun i g hg => hx (i + 1) g hg) (fun k hk => hw k (by
      simp only [List.map_cons, DataW.weightsEach, List.mem_append]
      exact .inr hk))
    have e : cs.drop o = (cs.drop o).take s ++ cs.drop (o + s) := by
      rw [← List.drop_drop, List.take_append_drop]
    refine ⟨(a, b), by rw [e]; exact k1.app m1, fun u hu => ?_, k3, m3⟩
    rw [e] at hu
    rcases List.mem_append.1 hu with h | h
    · exact k2 u h
    · exact m2 u h
theorem opn_struct {t : TypeId} {fs : Array Field} {N : Nat} {β : Type} {c : β → List AV} {fits : β → Prop} (ht : P.underlying t = some (.struct fs)) (hN : P.cellsOf t = N) (h : OpnR enc P W N 0 fs.toList c fits) : Opn enc P W t c fits := fun fuel cs x hx hl => by
  obtain ⟨xs, n, _, rfl, h1, h2, h3⟩ := DataW.trod_struct ht hx
  have := h n cs xs (h1.trans hN) (by simpa using h2) (fun i f hf => h3 i f (by simpa using hf)) (fun k hk => hl k (by
    show k ∈ DataW.weights P t (.agg _)
    rw [DataW.weights, ht]
    exact hk))
  simpa using this
end
end Go.Proofs.YtpbinloeemebkaaGreat
