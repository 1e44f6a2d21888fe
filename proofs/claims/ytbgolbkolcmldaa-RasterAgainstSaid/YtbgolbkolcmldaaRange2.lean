/-
  A range over a function whose rounds, and whose function, both make memory.
-/
import Derived.Test.YtbgolbkolcmldaaOwn
namespace Go.Proofs.Ytbgolbkolcmldaa
open Go.RowKit

/-- the same below B, and at some blocks -/
structure Agr (B : Nat) (ids : List Nat) (w w' : World) : Prop where
  os : w'.os = w.os
  tape : w'.tape = w.tape
  output : w'.output = w.output
  size : w.heap.size ≤ w'.heap.size
  low : ∀ k, k < B → w'.heap[k]? = w.heap[k]?
  ids : ∀ k ∈ ids, w'.heap[k]? = w.heap[k]?
/-- what a round leaves alone: what lies at B or above and is not its own -/
structure Back (B : Nat) (ids ids' : List Nat) (w w' : World) : Prop where
  os : w'.os = w.os
  tape : w'.tape = w.tape
  output : w'.output = w.output
  size : w.heap.size ≤ w'.heap.size
  own : ∀ k, B ≤ k → k < w.heap.size → k ∉ ids → w'.heap[k]? = w.heap[k]?
  new : ∀ k ∈ ids', k ∈ ids ∨ w.heap.size ≤ k

def Iter2 {α : Type} (P : Program) (gf : FuncId) (cap : List Value) (Enc : Nat → List Nat → World → α → List Value → Prop) (xs : List α) (Data : World → Prop) : Prop :=
  ∀ (l B : Nat) (J : List α → List Nat → World → Prop) (W : World), W.heap.size = B → (∀ pre ids w w', J pre ids w → Agr B ids w w' → J pre ids w') → (∀ pre ids w, J pre ids w → (∀ k ∈ ids, B ≤ k ∧ k < w.heap.size) ∧ B ≤ w.heap.size ∧ Data w) →
    (∀ pre ids x W1 vs, (pre ++ [x]) <+: xs → J pre ids W1 → Enc B ids W1 x vs → Yields P l vs W1 fun W' => ∃ ids', J (pre ++ [x]) ids' W' ∧ Back B ids ids' W1 W') → J [] [] W →
    Calls P gf (.func (.yield l) #[] #[] :: cap).toArray W fun e W' => (∃ v, e = .returned v) ∧ ∃ ids, J xs ids W'

variable {P : Program} {r : Option Nat} {Q : Exit → Act → World → Prop} {nt : Nat} {D : List Deferred} {fr : Fr} {I : World → Prop}
variable {w0 : World} {X : List Nat} {L : HL}

/-- at the body's end -/
def Qround2 (W : World) (X : List Nat) (l : Nat) (rec : Loop) (LL : HL → Prop) : Exit → Act → World → Prop
  | .normal, _, w => ∃ L', LL L' ∧ St W X (L' ++ [(l, recO rec .busy)]) w
  | _, _, _ => False
theorem xt_roundEnd2 {W : World} {l : Nat} {rec : Loop} {LL : HL → Prop} (L' : HL) (hL : LL L') (h : ∀ w, St W X L w → St W X (L' ++ [(l, recO rec .busy)]) w) : Xt P .normal (Qround2 W X l rec LL) nt D fr (St W X L) := fun _ w _ hw => ⟨L', hL, h w hw⟩

theorem range_core2 {α : Type} {gf : FuncId} {cap : List Value} {Enc : Nat → List Nat → World → α → List Value → Prop} {xs : List α} {Data : World → Prop} (hit : Iter2 P gf cap Enc xs Data) (LL : List α → HL → Prop)
    (hdata : ∀ pre L w, LL pre L → St w0 X L w → Data w) {rec : Loop} {ps : List Nat} {assign body : Code} (hrp : rec.params = ps.toArray) (hra : rec.assign = assign) (hrb : rec.body = body) (hps : ∀ B ids w x vs, Enc B ids w x vs → vs.length = ps.length) (hpn : ∀ p ∈ ps, p < nt) (ha : Ag nt [] fr ⟨rec.tmps, []⟩) {l : Nat} {W1 : World} {L0 : HL}
    (hL0 : LL [] L0) (hW : St w0 X (L0 ++ [(l, recO rec .ready)]) W1)
    (hround : ∀ pre x L W vs B ids, (pre ++ [x]) <+: xs → LL pre L → St w0 X L W → Enc B ids W x vs → (∀ k ∈ l :: L.map (·.1), k < B ∨ k ∈ ids) → T P (some l) assign (Qbegin P l body (Qround2 W (l :: L.map (·.1)) l rec (LL (pre ++ [x])))) nt [] (fset ps vs fr) (St W (l :: L.map (·.1)) (L ++ [(l, recO rec .ready)]))) :
    Calls P gf (.func (.yield l) #[] #[] :: cap).toArray W1 fun e W' => (∃ v, e = .returned v) ∧ ∃ L, LL xs L ∧ St w0 X (L ++ [(l, recO rec .ready)]) W' := by
  have hlB : l < W1.heap.size := hW.lt (p := (l, recO rec .ready)) (by simp)
  have hfil : L0.map (·.1) = L0.map (·.1) := rfl
  have h0 : (L0.map (·.1)).filter (fun k => decide (W1.heap.size ≤ k)) = [] := by
    rw [List.filter_eq_nil_iff]
    intro k hk
    obtain ⟨p, hp, rfl⟩ := List.mem_map.1 hk
    have := hW.lt (p := p) (by simp [hp])
    simp; omega
  have main := hit l W1.heap.size (fun pre ids w => ∃ L, LL pre L ∧ St w0 X (L ++ [(l, recO rec .ready)]) w ∧ ids = (L.map (·.1)).filter (fun k => decide (W1.heap.size ≤ k)) ∧ W1.heap.size ≤ w.heap.size) W1 rfl ?_ ?_ ?_ ⟨L0, hL0, hW, h0.symm, Nat.le_refl _⟩
  · refine main.mono ?_
    rintro e W' ⟨he, ids, L, h1, h2, _⟩
    exact ⟨he, L, h1, h2⟩
  · rintro pre ids w w' ⟨L, h1, h, hids, hsz⟩ hs
    refine ⟨L, h1, ?_, hids, Nat.le_trans hsz hs.size⟩
    refine ⟨hs.os.trans h.os, hs.tape.trans h.tape, hs.output.trans h.output, Nat.le_trans h.size hs.size, fun k hk hx => (hs.low k (Nat.lt_of_lt_of_le hk hW.size)).trans (h.old k hk hx), ?_, h.mine, h.apart⟩
    intro p hp
    obtain ⟨o, ho, hq⟩ := h.here p hp
    refine ⟨o, ?_, hq⟩
    by_cases hlt : p.1 < W1.heap.size
    · exact (hs.low p.1 hlt).trans ho
    · refine (hs.ids p.1 ?_).trans ho
      rw [hids, List.mem_filter]
      rcases List.mem_append.1 hp with hp | hp
      · exact ⟨List.mem_map.2 ⟨p, hp, rfl⟩, by simp; omega⟩
      · simp at hp
        subst hp
        exact absurd hlB hlt
  · rintro pre ids w ⟨L, h1, h, hids, hsz⟩
    refine ⟨fun k hk => ?_, hsz, hdata pre L w h1 (h.sublist (List.sublist_append_left ..))⟩
    rw [hids, List.mem_filter] at hk
    obtain ⟨p, hp, rfl⟩ := List.mem_map.1 hk.1
    exact ⟨by simpa using hk.2, h.lt (p := p) (by simp [hp])⟩
  · rintro pre ids x Wy vs hpre ⟨L, hLL, hJ, hids, hsz⟩ hE
    obtain ⟨o, ho, hro⟩ := hJ.here (l, recO rec .ready) (by simp)
    rw [hro] at ho
    have hvs := hps _ _ _ _ _ hE
    have hy := run_yield (P := P) (args := vs.toArray) ho (by simp [hrp, hvs])
    refine ⟨_, _, _, _, hy, ?_⟩
    simp only [hra, hrb]
    refine roundIn_of_wpIn (F := Fence.wide) trivial ?_
    have hag : Ag nt [] (fset ps vs fr) ⟨(ps.zip vs).foldl (fun t q => t.setIfInBounds q.1 q.2) rec.tmps, []⟩ := Ag.fset ps vs fr rec.tmps hvs.symm hpn ha
    have htm : (rec.params.zip vs.toArray).foldl (fun tmps (q : Nat × Value) => tmps.setIfInBounds q.1 q.2) rec.tmps = (ps.zip vs).foldl (fun t q => t.setIfInBounds q.1 q.2) rec.tmps := by
      rw [hrp]
      simp
    have hst : St Wy (l :: L.map (·.1)) (L ++ [(l, recO rec .ready)]) Wy := ⟨rfl, rfl, rfl, Nat.le_refl _, fun _ _ _ => rfl, hJ.here, fun p hp => .inr (by
      rcases List.mem_append.1 hp with hp | hp
      · exact List.mem_cons_of_mem _ (List.mem_map.2 ⟨p, hp, rfl⟩)
      · simp at hp; subst hp; simp), hJ.apart⟩
    have hkB : ∀ k ∈ l :: L.map (·.1), k < W1.heap.size ∨ k ∈ ids := fun k hk => by
      by_cases hlt : k < W1.heap.size
      · exact .inl hlt
      · right
        rw [hids, List.mem_filter]
        rcases List.mem_cons.1 hk with rfl | hk
        · exact absurd hlB hlt
        · exact ⟨hk, by simp; omega⟩
    have hwp := hround pre x L Wy vs _ _ hpre hLL (hJ.sublist (List.sublist_append_left ..)) hE hkB _ Wy hag hst
    have := wpIn_mono (Q' := Exit.then (fun a₁ w₁ => ∃ w₂, (Instr.beginRound l).run P w₁ = .ok () w₂ ∧ body.wpIn (Fence.wide.inRound l) 0 P (roundPost P l fun e w' => e = .returned (.bool true) ∧ ∃ ids', (∃ L', LL (pre ++ [x]) L' ∧ St w0 X (L' ++ [(l, recO rec .ready)]) w' ∧ ids' = (L'.map (·.1)).filter (fun k => decide (W1.heap.size ≤ k)) ∧ W1.heap.size ≤ w'.heap.size) ∧ Back W1.heap.size ids ids' Wy w') a₁ w₂) (fun _ _ _ => False)) hwp ?_
    · rw [← htm] at this
      exact this
    · intro e a2 w2 hq
      cases e with
      | normal =>
        obtain ⟨w3, hb, hbody⟩ := hq
        refine ⟨w3, hb, wpIn_mono hbody ?_⟩
        intro e a4 w4 h4
        cases e with
        | normal =>
          obtain ⟨L', hL', h4⟩ : ∃ L', LL (pre ++ [x]) L' ∧ St Wy (l :: L.map (·.1)) (L' ++ [(l, recO rec .busy)]) w4 := h4
          obtain ⟨o4, ho4, hr4⟩ := h4.here (l, recO rec .busy) (by simp)
          rw [hr4] at ho4
          have h5 := h4.turn (o := .loop { rec with state := .ready, pending := none }) (q' := recO rec .ready) rfl
          have hmine : ∀ i ∈ l :: L.map (·.1), w0.heap.size ≤ i ∨ i ∈ X := fun i hi => by
            rcases List.mem_cons.1 hi with rfl | hi
            · exact hJ.mine (i, recO rec .ready) (by simp)
            · obtain ⟨p, hp, rfl⟩ := List.mem_map.1 hi
              exact hJ.mine p (by simp [hp])
          refine ⟨_, _, run_endRound none ho4, rfl, _, ⟨L', hL', ?_, rfl, Nat.le_trans hsz h5.size⟩, ?_⟩
          · refine ⟨h5.os.trans hJ.os, h5.tape.trans hJ.tape, h5.output.trans hJ.output, Nat.le_trans hJ.size h5.size, ?_, h5.here, ?_, h5.apart⟩
            · intro k hk hx
              refine (h5.old k (Nat.lt_of_lt_of_le hk hJ.size) ?_).trans (hJ.old k hk hx)
              intro hm
              rcases hmine k hm with h | h
              · omega
              · exact hx h
            · intro p hp
              rcases h5.mine p hp with h | h
              · exact .inl (Nat.le_trans hJ.size h)
              · exact hmine p.1 h
          · refine ⟨h5.os, h5.tape, h5.output, h5.size, fun k hB hlt hni => h5.old k hlt ?_, fun k hk => ?_⟩
            · intro hm
              rcases hkB k hm with h | h
              · omega
              · exact hni h
            · rw [List.mem_filter] at hk
              obtain ⟨p, hp, rfl⟩ := List.mem_map.1 hk.1
              have hge : W1.heap.size ≤ p.1 := by simpa using hk.2
              rcases h5.mine p (by simp [hp]) with h | h
              · exact .inr h
              · rcases hkB p.1 h with h | h
                · omega
                · exact .inl h
        | _ => exact h4.elim
      | _ => exact hq.elim

/-- the statement, outside every round -/
theorem t_range2 {α : Type} {gf : FuncId} {cap : List Value} {Enc : Nat → List Nat → World → α → List Value → Prop} {xs : List α} {Data : World → Prop} (hit : Iter2 P gf cap Enc xs Data) [hf : CFn P gf] {g : Operand} {ps : List Nat} {assign body : Code} (hg : fev fr g = some (.func (.func gf) #[] cap.toArray))
    (LL : List α → HL → Prop) {L0 : HL} (hL0 : LL [] L0) (hL : ∀ w, St w0 X L w → St w0 X L0 w) (hdata : ∀ pre L w, LL pre L → St w0 X L w → Data w) (hps : ∀ B ids w x vs, Enc B ids w x vs → vs.length = ps.length) (hpn : ps.all (fun p => Nat.blt p nt) = true)
    (hround : ∀ l db rec pre x L W vs B ids, (pre ++ [x]) <+: xs → LL pre L → St w0 X (L ++ [(db, defO)]) W → Enc B ids W x vs → (∀ k ∈ l :: (L ++ [(db, defO)]).map (·.1), k < B ∨ k ∈ ids) → T P (some l) assign (Qbegin P l body (Qround2 W (l :: (L ++ [(db, defO)]).map (·.1)) l rec (fun L' => ∃ L1, L' = L1 ++ [(db, defO)] ∧ LL (pre ++ [x]) L1))) nt [] (fset ps vs fr) (St W (l :: (L ++ [(db, defO)]).map (·.1)) ((L ++ [(db, defO)]) ++ [(l, recO rec .ready)])))
    (hdone : ∀ db L, LL xs L → Xt P .normal Q nt ({ target := .collected db, args := #[] } :: D) fr (St w0 X (L ++ [(db, defO)]))) : T P none (.rangeFunc g ps.toArray assign body) Q nt D fr (St w0 X L) := by
  intro a w ha hw
  refine wpIn_rangeFunc ?_
  intro fn hfn
  have hw1 := hL w hw
  obtain ⟨rec, hrec⟩ : ∃ rec : Loop, rec = { state := .ready, pending := none, fn, tmps := a.tmps, params := ps.toArray, assign, body, defers := w.heap.size } := ⟨_, rfl⟩
  have h1 := (hw1.alloc (.deferred (some [])) (q := defO) rfl).perm (List.perm_append_comm (l₁ := [(w.heap.size, defO)]))
  have h2 := (h1.alloc (.loop rec) (q := recO rec .ready) (by rw [hrec]; rfl)).perm (List.perm_append_comm (l₁ := [((w.alloc (.deferred (some []))).heap.size, recO rec .ready)]))
  simp only [World.size_alloc] at h2
  refine ⟨w.heap.size + 1, [{ target := .collected w.heap.size, args := #[] }], (w.alloc (.deferred (some []))).alloc (.loop rec), { target := .fn (.func gf) cap.toArray, args := #[.func (.yield (w.heap.size + 1)) #[] #[]] }, (w.alloc (.deferred (some []))).alloc (.loop rec), gf,
    #[.func (.yield (w.heap.size + 1)) #[] #[]] ++ cap.toArray, (w.alloc (.deferred (some []))).alloc (.loop rec), ?_, ?_, fun _ _ => trivial, ?_, fun h => by simp [Fence.wide] at h, ?_⟩
  · rw [hrec]; exact run_enterLoop_outer _ _ _ _ _
  · simp only [resolve, rangeCall, ha.eval hg]
    simp [Deferred.ofValue, Act.eval]
  · simp [invoke, hf.enters]
  · have hc := range_core2 (nt := nt) (fr := fr) (P := P) hit (fun pre L' => ∃ L1, L' = L1 ++ [(w.heap.size, defO)] ∧ LL pre L1) (fun pre L' w ⟨L1, e, hl⟩ h => hdata pre L1 w hl (by rw [e] at h; exact h.sublist (List.sublist_append_left ..))) (rec := rec) (ps := ps) (assign := assign) (body := body)
      (by rw [hrec]) (by rw [hrec]) (by rw [hrec]) hps (fun p hp => by have := List.all_eq_true.1 hpn p hp; simpa [Nat.blt_eq] using this) (by rw [hrec]; exact ⟨ha.size, rfl, ha.look⟩) (l := w.heap.size + 1) ⟨L0, rfl, hL0⟩ h2 (fun pre x L' W vs B ids hp ⟨L1, e, hl⟩ hs hE hk => by subst e; exact hround _ _ rec pre x L1 W vs B ids hp hl hs hE hk)
    have hc' : Calls P gf (#[.func (.yield (w.heap.size + 1)) #[] #[]] ++ cap.toArray) ((w.alloc (.deferred (some []))).alloc (.loop rec)) fun e W' => (∃ v, e = .returned v) ∧ ∃ L', (∃ L1, L' = L1 ++ [(w.heap.size, defO)] ∧ LL xs L1) ∧ St w0 X (L' ++ [(w.heap.size + 1, recO rec .ready)]) W' := by simpa using hc
    refine callsIn_any (hc'.mono ?_)
    rintro e W' ⟨⟨v, rfl⟩, L', ⟨L1, rfl, hl⟩, hst⟩
    obtain ⟨o, ho, hr⟩ := hst.here (w.heap.size + 1, recO rec .ready) (by simp)
    rw [hr] at ho
    refine ⟨none, _, run_endLoop ho (by simp), ?_⟩
    refine hdone w.heap.size L1 hl _ _ ⟨ha.size, by simp [ha.defers], ha.look⟩ ?_
    exact (hst.turn (q' := fun _ => True) trivial).sublist (List.sublist_append_left ..)

/-- the statement within a round of another loop -/
theorem t_rangeIn2 {α : Type} {gf : FuncId} {cap : List Value} {Enc : Nat → List Nat → World → α → List Value → Prop} {xs : List α} {Data : World → Prop} (hit : Iter2 P gf cap Enc xs Data) [hf : CFn P gf] {g : Operand} {ps : List Nat} {assign body : Code} {l₀ : Nat} {rec₀ : Loop} {st₀ : LoopState} (hl₀ : (l₀, recO rec₀ st₀) ∈ L) (hg : fev fr g = some (.func (.func gf) #[] cap.toArray))
    (LL : List α → HL → Prop) {L0 : HL} (hL0 : LL [] L0) (hL : ∀ w, St w0 X L w → St w0 X L0 w) (hdata : ∀ pre L w, LL pre L → St w0 X L w → Data w) (hps : ∀ B ids w x vs, Enc B ids w x vs → vs.length = ps.length) (hpn : ps.all (fun p => Nat.blt p nt) = true)
    (hround : ∀ l rec pre x L W vs B ids, (pre ++ [x]) <+: xs → LL pre L → St w0 X L W → Enc B ids W x vs → (∀ k ∈ l :: L.map (·.1), k < B ∨ k ∈ ids) → T P (some l) assign (Qbegin P l body (Qround2 W (l :: L.map (·.1)) l rec (LL (pre ++ [x])))) nt [] (fset ps vs fr) (St W (l :: L.map (·.1)) (L ++ [(l, recO rec .ready)])))
    (hdone : ∀ L, LL xs L → Xt P .normal Q nt D fr (St w0 X L)) : T P (some l₀) (.rangeFunc g ps.toArray assign body) Q nt D fr (St w0 X L) := by
  intro a w ha hw
  refine wpIn_rangeFunc ?_
  intro fn hfn
  have hw1 := hL w hw
  obtain ⟨o₀, ho₀, hr₀⟩ := hw.here _ hl₀
  rw [hr₀] at ho₀
  obtain ⟨rec, hrec⟩ : ∃ rec : Loop, rec = { state := .ready, pending := none, fn, tmps := a.tmps, params := ps.toArray, assign, body, defers := rec₀.defers } := ⟨_, rfl⟩
  have h2 := (hw1.alloc (.loop rec) (q := recO rec .ready) (by rw [hrec]; rfl)).perm (List.perm_append_comm (l₁ := [(w.heap.size, recO rec .ready)]))
  refine ⟨w.heap.size, [], w.alloc (.loop rec), { target := .fn (.func gf) cap.toArray, args := #[.func (.yield w.heap.size) #[] #[]] }, w.alloc (.loop rec), gf, #[.func (.yield w.heap.size) #[] #[]] ++ cap.toArray, w.alloc (.loop rec), ?_, ?_, fun _ _ => trivial, ?_, fun h => by simp [Fence.wide] at h, ?_⟩
  · rw [hrec]; exact run_enterLoop_inner ho₀ _ _ _ _ _
  · simp only [resolve, rangeCall, ha.eval hg]
    simp [Deferred.ofValue, Act.eval]
  · simp [invoke, hf.enters]
  · have hc := range_core2 (nt := nt) (fr := fr) (P := P) hit LL hdata (rec := rec) (ps := ps) (assign := assign) (body := body)
      (by rw [hrec]) (by rw [hrec]) (by rw [hrec]) hps (fun p hp => by have := List.all_eq_true.1 hpn p hp; simpa [Nat.blt_eq] using this) (by rw [hrec]; exact ⟨ha.size, rfl, ha.look⟩) (l := w.heap.size) hL0 h2 (fun pre x L W vs B ids hp hl hs hE hk => hround _ rec pre x L W vs B ids hp hl hs hE hk)
    have hc' : Calls P gf (#[.func (.yield w.heap.size) #[] #[]] ++ cap.toArray) (w.alloc (.loop rec)) fun e W' => (∃ v, e = .returned v) ∧ ∃ L', LL xs L' ∧ St w0 X (L' ++ [(w.heap.size, recO rec .ready)]) W' := by simpa using hc
    refine callsIn_any (hc'.mono ?_)
    rintro e W' ⟨⟨v, rfl⟩, L', hl, hst⟩
    obtain ⟨o, ho, hr⟩ := hst.here (w.heap.size, recO rec .ready) (by simp)
    rw [hr] at ho
    refine ⟨none, _, run_endLoop ho (by simp), ?_⟩
    refine hdone L' hl _ _ ⟨ha.size, by simp [ha.defers], ha.look⟩ ?_
    exact (hst.turn (q' := fun _ => True) trivial).sublist (List.sublist_append_left ..)


/-! ### the function's side -/
variable {ops : Array Oper} {rest : List Oper} {d : Nat} {ty t : TypeId} {pos : String} {af : Array Edge} {z : Operand} {dd : Option Tmp} {g : Option (Nat × Bool)} {x : Operand}

/-- what is known after a round: the function's own blocks are as they were, in a new world -/
theorem tl_yield2 {α : Type} {B l : Nat} {J : List α → List Nat → World → Prop} {Enc : Nat → List Nat → World → α → List Value → Prop} {xs : List α} {args : Array Operand} {ts : Array TypeId}
    (hloc : ∀ pre ids w w', J pre ids w → Agr B ids w w' → J pre ids w') (hfp : ∀ pre ids w, J pre ids w → ∀ k ∈ ids, k < w.heap.size) (hY : ∀ pre ids x W1 vs, (pre ++ [x]) <+: xs → J pre ids W1 → Enc B ids W1 x vs → Yields P l vs W1 fun W' => ∃ ids', J (pre ++ [x]) ids' W' ∧ Back B ids ids' W1 W')
    {pre : List α} {y : α} {ids : List Nat} {vs : List Value} (hpre : (pre ++ [y]) <+: xs) (hJ : J pre ids w0) (hX : ∀ k ∈ X, B ≤ k ∧ k ∉ ids) (hB : B ≤ w0.heap.size) (hz : fev fr z = some (.func (.yield l) #[] #[])) (hv : fevs fr args.toList = some vs) (hE : ∀ w, St w0 X L w → Enc B ids w y vs) (hd : Nat.ble nt d = false)
    (h : ∀ w1 ids', J (pre ++ [y]) ids' w1 → B ≤ w1.heap.size → (∀ k ∈ L.map (·.1), B ≤ k ∧ k ∉ ids') → TL P r ops Q nt D rest ((d, .bool true) :: fr) (St w1 (L.map (·.1)) L)) : TL P r ops Q nt D (⟨some d, .call ⟨.value z, args, ts⟩, ty, pos, af, none⟩ :: rest) fr (St w0 X L) := by
  refine tl_op hd rfl (R := fun v w => v = .bool true ∧ ∃ w1 ids', J (pre ++ [y]) ids' w1 ∧ B ≤ w1.heap.size ∧ (∀ k ∈ L.map (·.1), B ≤ k ∧ k ∉ ids') ∧ St w1 (L.map (·.1)) L w) (o_yield vs hz hv fun w hw => ?_) ?_
  · have hag : Agr B ids w0 w := ⟨hw.os, hw.tape, hw.output, hw.size, fun k hk => hw.old k (by omega) (fun hx => by have := (hX k hx).1; omega), fun k hk => hw.old k (hfp _ _ _ hJ k hk) (fun hx => (hX k hx).2 hk)⟩
    refine (hY pre ids y w vs hpre (hloc _ _ _ _ hJ hag) (hE w hw)).mono ?_
    rintro w' ⟨ids', hJ', hb⟩
    have hown : ∀ p ∈ L, p.1 ∉ ids := fun p hp hi => by
      rcases hw.mine p hp with h | h
      · have := hfp _ _ _ hJ p.1 hi; omega
      · exact (hX p.1 h).2 hi
    have hBp : ∀ p ∈ L, B ≤ p.1 := fun p hp => by
      rcases hw.mine p hp with h | h
      · omega
      · exact (hX p.1 h).1
    refine ⟨w', ids', hJ', Nat.le_trans (Nat.le_trans hB hw.size) hb.size, fun k hk => ?_, rfl, rfl, rfl, Nat.le_refl _, fun _ _ _ => rfl, fun p hp => ?_, fun p hp => .inr (List.mem_map.2 ⟨p, hp, rfl⟩), hw.apart⟩
    · obtain ⟨p, hp, rfl⟩ := List.mem_map.1 hk
      refine ⟨hBp p hp, fun hi => ?_⟩
      rcases hb.new p.1 hi with h | h
      · exact hown p hp h
      · have := hw.lt hp; omega
    · obtain ⟨o, ho, hq⟩ := hw.here p hp
      exact ⟨o, (hb.own p.1 (hBp p hp) (hw.lt hp) (hown p hp)).trans ho, hq⟩
  · rintro v a w ha ⟨rfl, w1, ids', h1, h2, h3, h4⟩
    exact h w1 ids' h1 h2 h3 a w ha h4

/-- a load out of memory that was there, and is not the function's own -/
theorem o_loadX {b k : Nat} {v : Value} [CSc P t] (hx : fev fr x = some (.pointer (some ⟨b, k, none⟩))) (hb : b < w0.heap.size) (hn : b ∉ X) (hc : w0.cell? ⟨b, k, none⟩ = some v) : Pv P ⟨dd, .load t x, ty, pos, af, g⟩ fr (St w0 X L) v :=
  o_load hx fun w hw => by rw [hw.oldCell (a := ⟨b, k, none⟩) hb hn]; exact hc
theorem o_loadXA {b k n : Nat} {cs : List Value} [CAg P t n] (hx : fev fr x = some (.pointer (some ⟨b, k, none⟩))) (hl : cs.length = n) (hb : b < w0.heap.size) (hn : b ∉ X) (hc : ∀ j v, cs[j]? = some v → w0.cell? ⟨b, k + j, none⟩ = some v) : Pv P ⟨dd, .load t x, ty, pos, af, g⟩ fr (St w0 X L) (.agg cs.toArray) :=
  o_loadA hx hl fun w hw j v hj => by rw [hw.oldCell (a := ⟨b, k + j, none⟩) hb hn]; exact hc j v hj
/-- the function's own blocks, seen anew -/
theorem St.rebase {w : World} (h : St w0 X L w) : St w (L.map (·.1)) L w := ⟨rfl, rfl, rfl, Nat.le_refl _, fun _ _ _ => rfl, h.here, fun p hp => .inr (List.mem_map.2 ⟨p, hp, rfl⟩), h.apart⟩

/-- at a loop's head, in a function that yields: the consumer's word, and the function's own blocks -/
def Hd (B : Nat) (Jp : List Nat → World → Prop) (L : HL) (w : World) : Prop := ∃ ids, Jp ids w ∧ B ≤ w.heap.size ∧ St w (L.map (·.1)) L w ∧ ∀ k ∈ L.map (·.1), B ≤ k ∧ k ∉ ids
theorem t_hd {cd : Code} {B : Nat} {Jp : List Nat → World → Prop} (h : ∀ w1 ids, Jp ids w1 → B ≤ w1.heap.size → (∀ k ∈ L.map (·.1), B ≤ k ∧ k ∉ ids) → T P r cd Q nt D fr (St w1 (L.map (·.1)) L)) : T P r cd Q nt D fr (Hd B Jp L) := fun a w ha ⟨ids, h1, h2, h3, h4⟩ => h w ids h1 h2 h4 a w ha h3
theorem St.hd {w : World} {B : Nat} {Jp : List Nat → World → Prop} {ids : List Nat} (h : St w0 X L w) (hJ : Jp ids w0) (hloc : ∀ ids w w', Jp ids w → Agr B ids w w' → Jp ids w') (hX : ∀ k ∈ X, B ≤ k ∧ k ∉ ids) (hB : B ≤ w0.heap.size) (hfp : ∀ k ∈ ids, k < w0.heap.size) : Hd B Jp L w := by
  refine ⟨ids, hloc _ _ _ hJ ⟨h.os, h.tape, h.output, h.size, fun k hk => h.old k (by omega) (fun hx => by have := (hX k hx).1; omega), fun k hk => h.old k (hfp k hk) (fun hx => (hX k hx).2 hk)⟩, Nat.le_trans hB h.size, h.rebase, fun k hk => ?_⟩
  obtain ⟨p, hp, rfl⟩ := List.mem_map.1 hk
  rcases h.mine p hp with h' | h'
  · exact ⟨by omega, fun hi => by have := hfp p.1 hi; omega⟩
  · exact hX p.1 h'

def LoopJ {α : Type} (nt : Nat) (D : List Deferred) (st : α → Fr) (fr0 : Fr) (C : α → Prop) (J : α → World → Prop) (μ : α → Nat) (x : α) (Q : Exit → Act → World → Prop) : Exit → Act → World → Prop := Exit.then (fun a w => ∃ x', Ag nt D (st x' ++ fr0) a ∧ (C x' ∧ J x' w) ∧ μ x' < μ x) Q
theorem t_loopJ {α : Type} {cd : Code} (ks : List Nat) {fr0 : Fr} (st : α → Fr) (C : α → Prop) (J : α → World → Prop) (μ : α → Nat) (x0 : α) (hk : keep fr ks = some fr0) (hf : fle (st x0) fr) (hC : C x0) (hJ : ∀ w, I w → J x0 w)
    (hb : ∀ x, C x → T P r cd (LoopJ nt D st fr0 C J μ x Q) nt D (st x ++ fr0) (J x)) : T P r (.loop cd) Q nt D fr I :=
  t_loopC (fun x => st x ++ fr0) C J μ x0 hC (fle_append _ _ _ hf (keep_fle ks _ hk)) hJ hb
theorem xt_roundJ {α : Type} {fr0 : Fr} {st : α → Fr} {C : α → Prop} {J : α → World → Prop} {μ : α → Nat} {x : α} (x' : α) (hk : keep fr (fr0.map (·.1)) = some fr0) (hf : fle (st x') fr) (hC : C x') (hm : μ x' < μ x) (hJ : ∀ w, I w → J x' w) :
    Xt P .normal (LoopJ nt D st fr0 C J μ x Q) nt D fr I :=
  xt_roundC x' (fle_append _ _ _ hf (keep_fle _ _ hk)) hC hJ hm
theorem xt_loopJ_exit {α : Type} {fr0 : Fr} {st : α → Fr} {C : α → Prop} {J : α → World → Prop} {μ : α → Nat} {x : α} {id : Nat} (h : Xt P (.exit id) Q nt D fr I) : Xt P (.exit id) (LoopJ nt D st fr0 C J μ x Q) nt D fr I := fun a w ha hw => h a w ha hw
theorem xt_loopJ_ret {α : Type} {fr0 : Fr} {st : α → Fr} {C : α → Prop} {J : α → World → Prop} {μ : α → Nat} {x : α} (h : Xt P .ret Q nt D fr I) : Xt P .ret (LoopJ nt D st fr0 C J μ x Q) nt D fr I := fun a w ha hw => h a w ha hw

/-! ### short names of the steps -/
abbrev Za := @t_seq
abbrev Zb := @t_region
abbrev Zc := @xt_then
abbrev Zd := @tl_nil
abbrev Ze := @t_block
abbrev Zf := @t_skip
abbrev Zg := @t_ret
abbrev Zh := @t_exit
abbrev Zi := @xt_blk
abbrev Zj := @xt_blk_exit
abbrev Zk := @xt_then_ret
abbrev Zl := @xt_then_exit
abbrev Zm := @xt_blk_ret
abbrev Zn := @xt_blk_other
abbrev Zo := @xt_round_exit
abbrev Zp := @xt_round_ret
abbrev Zq := @xt_loop_exit
abbrev Zr := @xt_loop_ret
abbrev Zs := @xt_loopJ_exit
abbrev Zt := @xt_loopJ_ret
abbrev Zu := @tl_run
abbrev Zv := @tl_guard_yes
abbrev Zw := @tl_guard_no
abbrev Zx := @tl_guard_undef
abbrev Zy := @s_load
abbrev Zz := @g_load
abbrev Ya := @s_pick
abbrev Yb := @g_pick
abbrev Yc := @s_bin
abbrev Yd := @g_bin
abbrev Ye := @s_store
abbrev Yf := @g_store
abbrev Yg := @s_box
abbrev Yh := @g_box
abbrev Yi := @tl_box
abbrev Yj := @o_box
abbrev Yk := @tl_alloc
abbrev Yl := @s_build
abbrev Ym := @g_build
abbrev Yn := @s_index
abbrev Yo := @g_index
abbrev Yp := @s_unop
abbrev Yq := @g_unop
abbrev Yr := @s_conv
abbrev Ys := @g_conv
abbrev Yt := @s_call
abbrev Yu := @g_call
abbrev Yv := @s_lit
abbrev Yw := @g_lit
abbrev Yx := @t_condT
abbrev Yy := @t_condF
abbrev Yz := @dw_open
abbrev Va := @sw_g
abbrev Vb := @w_no
abbrev Vc := @w_un
abbrev Vd := @w_p
abbrev Ve := @dw_alo
abbrev Vf := @sw_load
abbrev Vg := @w_load
abbrev Vh := @sw_pick
abbrev Vi := @w_pick
abbrev Vj := @sw_bin
abbrev Vk := @w_bin
abbrev Vl := @sw_index
abbrev Vm := @w_index
abbrev Vn := @sw_build
abbrev Vo := @w_build
abbrev Vp := @sw_call
abbrev Vq := @w_call
abbrev Vr := @sw_put
abbrev Vs := @w_put
abbrev Vt := @sw_store
abbrev Vu := @w_store
abbrev Vv := @sw_unop
abbrev Vw := @w_unop
abbrev Vx := @sw_conv
abbrev Vy := @w_conv
abbrev Vz := @sw_lit
abbrev Ua := @w_lit

end Go.Proofs.Ytbgolbkolcmldaa
