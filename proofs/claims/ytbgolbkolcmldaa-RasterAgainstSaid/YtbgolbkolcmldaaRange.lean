/-
  A range over a function whose body never leaves: the iterator has a contract, the body is walked once.
-/
import Derived.Test.YtbgolbkolcmldaaRun
namespace Go.Proofs.Ytbgolbkolcmldaa
open Go.RowKit

/-- the same below B -/
structure Same (B : Nat) (w w' : World) : Prop where
  os : w'.os = w.os
  tape : w'.tape = w.tape
  output : w'.output = w.output
  size : B ≤ w.heap.size
  size' : B ≤ w'.heap.size
  block : ∀ k, k < B → w'.heap[k]? = w.heap[k]?

/-- what is at B or above stays as it is -/
structure OnlyLow (B : Nat) (w w' : World) : Prop where
  os : w'.os = w.os
  tape : w'.tape = w.tape
  output : w'.output = w.output
  size : w.heap.size ≤ w'.heap.size
  block : ∀ k, B ≤ k → k < w.heap.size → w'.heap[k]? = w.heap[k]?

def Yields (P : Program) (l : Nat) (args : List Value) (W : World) (R : World → Prop) : Prop :=
  ∃ f tmps assign body, (Instr.yield l args.toArray).run P W = .ok (.round l f tmps assign body) W ∧ RoundIn Fence.wide 0 P l f tmps assign body W fun e w' => e = .returned (.bool true) ∧ R w'

def Iter {α : Type} (P : Program) (gf : FuncId) (cap : List Value) (encs : α → List Value) (xs : List α) (Data : World → Prop) : Prop :=
  ∀ (l B : Nat) (J : List α → World → Prop) (W : World), W.heap.size = B → (∀ pre w w', J pre w → Same B w w' → J pre w') → (∀ pre w, J pre w → Data w) →
    (∀ pre x W1, (pre ++ [x]) <+: xs → J pre W1 → B ≤ W1.heap.size → Yields P l (encs x) W1 fun W' => J (pre ++ [x]) W' ∧ OnlyLow B W1 W') → J [] W →
    Calls P gf (.func (.yield l) #[] #[] :: cap).toArray W fun e W' => (∃ v, e = .returned v) ∧ J xs W'

variable {P : Program} {r : Option Nat} {Q : Exit → Act → World → Prop} {nt : Nat} {D : List Deferred} {fr : Fr} {I : World → Prop}
variable {w0 : World} {X : List Nat} {L : HL}

theorem o_yield {l : Nat} {z : Operand} {args : Array Operand} {ts : Array TypeId} {d : Option Tmp} {ty : TypeId} {pos : String} {af : Array Edge} {g : Option (Nat × Bool)} (vs : List Value) {R : World → Prop} (hz : fev fr z = some (.func (.yield l) #[] #[])) (hv : fevs fr args.toList = some vs)
    (h : ∀ w, I w → Yields P l vs w R) : O P ⟨d, .call ⟨.value z, args, ts⟩, ty, pos, af, g⟩ fr I (fun v w => v = .bool true ∧ R w) := by
  intro ρ w hρ hw
  have e : args.map ρ = vs.toArray := by
    apply Array.toList_inj.1
    simp [fevs_map hρ _ _ hv]
  have hfv : ρ z = .func (.yield l) #[] #[] := hρ _ _ hz
  obtain ⟨f, tmps, assign, body, hy, hr⟩ := h w hw
  unfold Op1
  have : (execOp ρ ⟨d, .call ⟨.value z, args, ts⟩, ty, pos, af, g⟩).run P w = .ok (.round l f tmps assign body) w := by
    simp [execOp, resolve, hfv, Deferred.ofValue, e, invoke, hy]
  rw [this]
  exact hr.mono fun e' w' ⟨he, hR⟩ => ⟨_, he, rfl, hR⟩

def fset : List Nat → List Value → Fr → Fr
  | p :: ps, v :: vs, fr => fset ps vs ((p, v) :: fr)
  | _, _, fr => fr

theorem Ag.fset {D' : List Deferred} : ∀ (ps : List Nat) (vs : List Value) (fr : Fr) (t : Array Value), ps.length = vs.length → (∀ p ∈ ps, p < nt) → Ag nt D' fr ⟨t, D'⟩ → Ag nt D' (fset ps vs fr) ⟨(ps.zip vs).foldl (fun t q => t.setIfInBounds q.1 q.2) t, D'⟩
  | [], _, fr, t, _, _, h => by simpa [Go.Proofs.Ytbgolbkolcmldaa.fset] using h
  | p :: ps, [], fr, t, hl, _, h => by simp at hl
  | p :: ps, v :: vs, fr, t, hl, hp, h => by
    simp only [Go.Proofs.Ytbgolbkolcmldaa.fset, List.zip_cons_cons, List.foldl_cons]
    refine Ag.fset ps vs _ _ (by simpa using hl) (fun q hq => hp q (List.mem_cons_of_mem _ hq)) ?_
    have := h.put (hp p (List.mem_cons_self ..)) v
    simpa [Act.put] using this

def recO (rec : Loop) (st : LoopState) : Obj → Prop := fun o => o = .loop { rec with state := st, pending := none }
def defO : Obj → Prop := fun o => o = .deferred (some [])

/-- behind the assignment of the loop's variables -/
def Qbegin (P : Program) (l : Nat) (body : Code) (Qb : Exit → Act → World → Prop) : Exit → Act → World → Prop
  | .normal, a, w => ∃ w2, (Instr.beginRound l).run P w = .ok () w2 ∧ body.wpIn (Wd (some l)) 0 P Qb a w2
  | _, _, _ => False
/-- at the body's end -/
def Qround (W : World) (X : List Nat) (L : HL) : Exit → Act → World → Prop
  | .normal, _, w => St W X L w
  | _, _, _ => False

theorem grownBy_putObj (w : World) (l : Nat) (o : Obj) : w.grownBy (w.putObj l o) (some l) :=
  ⟨rfl, rfl, rfl, by simp [World.putObj], fun k _ hk => World.putObj_heap_other (fun e => hk (by rw [e]))⟩

theorem St.turn {l : Nat} {q q' : Obj → Prop} {w : World} {o : Obj} (h : St w0 X (L ++ [(l, q)]) w) (hq : q' o) : St w0 X (L ++ [(l, q')]) (w.putObj l o) := by
  have h1 : St w0 X ((l, q) :: L) w := h.perm List.perm_append_comm
  have hlt := h1.lt (List.mem_cons_self ..)
  exact (h1.put (grownBy_putObj w l o) (World.putObj_heap_same hlt) hq).perm (List.perm_append_comm (l₁ := [(l, q')]))

theorem xt_begin {l : Nat} {body : Code} {Qb : Exit → Act → World → Prop} {rec : Loop} {L' : HL} (h : T P (some l) body Qb nt D fr (St w0 X (L' ++ [(l, recO rec .busy)]))) : Xt P .normal (Qbegin P l body Qb) nt D fr (St w0 X (L' ++ [(l, recO rec .ready)])) := by
  intro a w ha hw
  obtain ⟨o, ho, hr⟩ := hw.here (l, recO rec .ready) (by simp)
  rw [hr] at ho
  refine ⟨_, run_beginRound ho rfl, h a _ ha (hw.turn (q' := recO rec .busy) rfl)⟩

theorem xt_roundEnd {W : World} {X : List Nat} {L L' : HL} (h : ∀ w, St W X L w → St W X L' w) : Xt P .normal (Qround W X L') nt D fr (St W X L) := fun _ w _ hw => h w hw

theorem range_core {α : Type} {gf : FuncId} {cap : List Value} {encs : α → List Value} {xs : List α} {Data : World → Prop} (hit : Iter P gf cap encs xs Data) (Lp : List α → HL) (ids : List Nat) (hids : ∀ pre, (Lp pre).map (·.1) = ids)
    (hdata : ∀ pre w, St w0 X (Lp pre) w → Data w) {rec : Loop} {ps : List Nat} {assign body : Code} (hrp : rec.params = ps.toArray) (hra : rec.assign = assign) (hrb : rec.body = body) (hps : ∀ x, (encs x).length = ps.length) (hpn : ∀ p ∈ ps, p < nt) (ha : Ag nt [] fr ⟨rec.tmps, []⟩) {l : Nat} {W1 : World}
    (hW : St w0 X (Lp [] ++ [(l, recO rec .ready)]) W1)
    (hround : ∀ pre x W, (pre ++ [x]) <+: xs → St w0 X (Lp pre) W → T P (some l) assign (Qbegin P l body (Qround W (l :: ids) (Lp (pre ++ [x]) ++ [(l, recO rec .busy)]))) nt [] (fset ps (encs x) fr) (St W (l :: ids) (Lp pre ++ [(l, recO rec .ready)]))) :
    Calls P gf (.func (.yield l) #[] #[] :: cap).toArray W1 fun e W' => (∃ v, e = .returned v) ∧ St w0 X (Lp xs ++ [(l, recO rec .ready)]) W' := by
  have hl0 : ∀ pre, ((Lp pre ++ [(l, recO rec .ready)]).map (·.1)) = ids ++ [l] := fun pre => by simp [hids pre]
  have hltB : ∀ i ∈ ids ++ [l], i < W1.heap.size := fun i hi => by
    rw [← hl0 []] at hi
    obtain ⟨p, hp, rfl⟩ := List.mem_map.1 hi
    exact hW.lt hp
  refine hit l W1.heap.size (fun pre w => St w0 X (Lp pre ++ [(l, recO rec .ready)]) w) W1 rfl ?_ ?_ ?_ hW
  · intro pre w w' h hs
    have hlt : ∀ p ∈ Lp pre ++ [(l, recO rec .ready)], p.1 < W1.heap.size := fun p hp => hltB _ (by rw [← hl0 pre]; exact List.mem_map.2 ⟨p, hp, rfl⟩)
    refine ⟨hs.os.trans h.os, hs.tape.trans h.tape, hs.output.trans h.output, Nat.le_trans hW.size hs.size', fun k hk hx => (hs.block k (Nat.lt_of_lt_of_le hk hW.size)).trans (h.old k hk hx), ?_, h.mine, h.apart⟩
    intro p hp
    obtain ⟨o, ho, hq⟩ := h.here p hp
    exact ⟨o, (hs.block p.1 (hlt p hp)).trans ho, hq⟩
  · intro pre w h
    exact hdata pre w (h.sublist (List.sublist_append_left ..))
  · intro pre x Wy hpre hJ hB
    obtain ⟨o, ho, hro⟩ := hJ.here (l, recO rec .ready) (by simp)
    rw [hro] at ho
    have hlids : l ∉ ids := by
      have := hJ.apart
      rw [hl0 pre, List.nodup_append] at this
      intro hm
      exact this.2.2 l hm l (by simp) rfl
    have hy := run_yield (P := P) (args := (encs x).toArray) ho (by simp [hrp, hps x])
    refine ⟨_, _, _, _, hy, ?_⟩
    simp only [hra, hrb]
    refine roundIn_of_wpIn (F := Fence.wide) trivial ?_
    have hag : Ag nt [] (fset ps (encs x) fr) ⟨(ps.zip (encs x)).foldl (fun t q => t.setIfInBounds q.1 q.2) rec.tmps, []⟩ := Ag.fset ps (encs x) fr rec.tmps (hps x).symm hpn ha
    have htm : (rec.params.zip (encs x).toArray).foldl (fun tmps (q : Nat × Value) => tmps.setIfInBounds q.1 q.2) rec.tmps = (ps.zip (encs x)).foldl (fun t q => t.setIfInBounds q.1 q.2) rec.tmps := by
      rw [hrp]
      simp
    have hst : St Wy (l :: ids) (Lp pre ++ [(l, recO rec .ready)]) Wy := ⟨rfl, rfl, rfl, Nat.le_refl _, fun _ _ _ => rfl, hJ.here, fun p hp => .inr (by
      have : p.1 ∈ ids ++ [l] := by rw [← hl0 pre]; exact List.mem_map.2 ⟨p, hp, rfl⟩
      simp at this ⊢
      rcases this with h | h
      · exact .inr h
      · exact .inl h), hJ.apart⟩
    have hwp := hround pre x Wy hpre (hJ.sublist (List.sublist_append_left ..)) _ Wy hag hst
    have := wpIn_mono (Q' := Exit.then (fun a₁ w₁ => ∃ w₂, (Instr.beginRound l).run P w₁ = .ok () w₂ ∧ body.wpIn (Fence.wide.inRound l) 0 P (roundPost P l fun e w' => e = .returned (.bool true) ∧ (St w0 X (Lp (pre ++ [x]) ++ [(l, recO rec .ready)]) w' ∧ OnlyLow W1.heap.size Wy w')) a₁ w₂) (fun _ _ _ => False)) hwp ?_
    · rw [← htm] at this
      exact this
    · intro e a2 w2 hq
      cases e with
      | normal =>
        obtain ⟨w3, hb, hbody⟩ := hq
        refine ⟨w3, hb, wpIn_mono hbody ?_⟩
        intro e a4 w4 h4
        cases e with
        | normal =>
          have h4 : St Wy (l :: ids) (Lp (pre ++ [x]) ++ [(l, recO rec .busy)]) w4 := h4
          obtain ⟨o4, ho4, hr4⟩ := h4.here (l, recO rec .busy) (by simp)
          rw [hr4] at ho4
          refine ⟨_, _, run_endRound none ho4, rfl, ?_, ?_⟩
          · have h5 := h4.turn (o := .loop { rec with state := .ready, pending := none }) (q' := recO rec .ready) rfl
            have hmine : ∀ i ∈ ids ++ [l], w0.heap.size ≤ i ∨ i ∈ X := fun i hi => by
              rw [← hl0 pre] at hi
              obtain ⟨p, hp, rfl⟩ := List.mem_map.1 hi
              exact hJ.mine p hp
            refine ⟨h5.os.trans hJ.os, h5.tape.trans hJ.tape, h5.output.trans hJ.output, Nat.le_trans hJ.size h5.size, ?_, h5.here, ?_, h5.apart⟩
            · intro k hk hx
              refine (h5.old k (Nat.lt_of_lt_of_le hk hJ.size) ?_).trans (hJ.old k hk hx)
              intro hm
              have : k ∈ ids ++ [l] := by simp at hm ⊢; rcases hm with h | h <;> simp [h]
              rcases hmine k this with h | h
              · omega
              · exact hx h
            · intro p hp
              exact hmine p.1 (by rw [← hl0 (pre ++ [x])]; exact List.mem_map.2 ⟨p, hp, rfl⟩)
          · have h5 := h4.turn (o := .loop { rec with state := .ready, pending := none }) (q' := recO rec .ready) rfl
            refine ⟨h5.os, h5.tape, h5.output, h5.size, fun k hk hlt => h5.old k hlt ?_⟩
            intro hm
            have : k ∈ ids ++ [l] := by simp at hm ⊢; rcases hm with h | h <;> simp [h]
            have := hltB k this
            omega
        | _ => exact h4.elim
      | _ => exact hq.elim

/-- the statement, outside every round -/
theorem t_range {α : Type} {gf : FuncId} {cap : List Value} {encs : α → List Value} {xs : List α} {Data : World → Prop} (hit : Iter P gf cap encs xs Data) [hf : CFn P gf] {g : Operand} {ps : List Nat} {assign body : Code} (hg : fev fr g = some (.func (.func gf) #[] cap.toArray))
    (Lp : List α → HL) (ids : List Nat) (hids : ∀ pre, (Lp pre).map (·.1) = ids) (hL : ∀ w, St w0 X L w → St w0 X (Lp []) w) (hdata : ∀ pre w, St w0 X (Lp pre) w → Data w) (hps : ∀ x, (encs x).length = ps.length) (hpn : ps.all (fun p => Nat.blt p nt) = true)
    (hround : ∀ l db rec pre x W, (pre ++ [x]) <+: xs → St w0 X (Lp pre ++ [(db, defO)]) W → T P (some l) assign (Qbegin P l body (Qround W (l :: (ids ++ [db])) ((Lp (pre ++ [x]) ++ [(db, defO)]) ++ [(l, recO rec .busy)]))) nt [] (fset ps (encs x) fr) (St W (l :: (ids ++ [db])) ((Lp pre ++ [(db, defO)]) ++ [(l, recO rec .ready)])))
    (hdone : ∀ db, Xt P .normal Q nt ({ target := .collected db, args := #[] } :: D) fr (St w0 X (Lp xs ++ [(db, defO)]))) : T P none (.rangeFunc g ps.toArray assign body) Q nt D fr (St w0 X L) := by
  intro a w ha hw
  refine wpIn_rangeFunc ?_
  intro fn hfn
  have hw1 := hL w hw
  obtain ⟨rec, hrec⟩ : ∃ rec : Loop, rec = { state := .ready, pending := none, fn, tmps := a.tmps, params := ps.toArray, assign, body, defers := w.heap.size } := ⟨_, rfl⟩
  have h1 := (hw1.alloc (.deferred (some [])) (q := defO) rfl).perm (List.perm_append_comm (l₁ := [(w.heap.size, defO)]))
  have h2 := (h1.alloc (.loop rec) (q := recO rec .ready) (by rw [hrec]; rfl)).perm (List.perm_append_comm (l₁ := [((w.alloc (.deferred (some []))).heap.size, recO rec .ready)]))
  simp only [World.size_alloc] at h2
  refine ⟨w.heap.size + 1, [{ target := .collected w.heap.size, args := #[] }], (w.alloc (.deferred (some []))).alloc (.loop rec), { target := .fn (.func gf) cap.toArray, args := #[.func (.yield (w.heap.size + 1)) #[] #[]] }, (w.alloc (.deferred (some []))).alloc (.loop rec), gf,
    #[.func (.yield (w.heap.size + 1)) #[] #[]] ++ cap.toArray, (w.alloc (.deferred (some []))).alloc (.loop rec), ?_, ?_, fun _ _ => trivial, ?_, fun h => by simp [Fence.wide] at h, ?_⟩
  · rw [hrec]; exact run_enterLoop_outer _ _ _ _ _
  · simp only [resolve, rangeCall, ha.eval hg]
    simp [Deferred.ofValue, Act.eval]
  · simp [invoke, hf.enters]
  · have hc := range_core (nt := nt) (fr := fr) (P := P) hit (fun pre => Lp pre ++ [(w.heap.size, defO)]) (ids ++ [w.heap.size]) (fun pre => by simp [hids pre]) (fun pre w h => hdata pre w (h.sublist (List.sublist_append_left ..))) (rec := rec) (ps := ps) (assign := assign) (body := body)
      (by rw [hrec]) (by rw [hrec]) (by rw [hrec]) hps (fun p hp => by have := List.all_eq_true.1 hpn p hp; simpa [Nat.blt_eq] using this) (by rw [hrec]; exact ⟨ha.size, rfl, ha.look⟩) (l := w.heap.size + 1) h2 (fun pre x W hp hs => hround _ _ rec pre x W hp hs)
    have hc' : Calls P gf (#[.func (.yield (w.heap.size + 1)) #[] #[]] ++ cap.toArray) ((w.alloc (.deferred (some []))).alloc (.loop rec)) fun e W' => (∃ v, e = .returned v) ∧ St w0 X ((Lp xs ++ [(w.heap.size, defO)]) ++ [(w.heap.size + 1, recO rec .ready)]) W' := by simpa using hc
    refine callsIn_any (hc'.mono ?_)
    rintro e W' ⟨⟨v, rfl⟩, hst⟩
    obtain ⟨o, ho, hr⟩ := hst.here (w.heap.size + 1, recO rec .ready) (by simp)
    rw [hr] at ho
    refine ⟨none, _, run_endLoop ho (by simp), ?_⟩
    refine hdone w.heap.size _ _ ⟨ha.size, by simp [ha.defers], ha.look⟩ ?_
    exact (hst.turn (q' := fun _ => True) trivial).sublist (List.sublist_append_left ..)

/-- the statement within a round of another loop -/
theorem t_rangeIn {α : Type} {gf : FuncId} {cap : List Value} {encs : α → List Value} {xs : List α} {Data : World → Prop} (hit : Iter P gf cap encs xs Data) [hf : CFn P gf] {g : Operand} {ps : List Nat} {assign body : Code} {l₀ : Nat} {rec₀ : Loop} {st₀ : LoopState} (hl₀ : (l₀, recO rec₀ st₀) ∈ L) (hg : fev fr g = some (.func (.func gf) #[] cap.toArray))
    (Lp : List α → HL) (ids : List Nat) (hids : ∀ pre, (Lp pre).map (·.1) = ids) (hL : ∀ w, St w0 X L w → St w0 X (Lp []) w) (hdata : ∀ pre w, St w0 X (Lp pre) w → Data w) (hps : ∀ x, (encs x).length = ps.length) (hpn : ps.all (fun p => Nat.blt p nt) = true)
    (hround : ∀ l rec pre x W, (pre ++ [x]) <+: xs → St w0 X (Lp pre) W → T P (some l) assign (Qbegin P l body (Qround W (l :: ids) (Lp (pre ++ [x]) ++ [(l, recO rec .busy)]))) nt [] (fset ps (encs x) fr) (St W (l :: ids) (Lp pre ++ [(l, recO rec .ready)])))
    (hdone : Xt P .normal Q nt D fr (St w0 X (Lp xs))) : T P (some l₀) (.rangeFunc g ps.toArray assign body) Q nt D fr (St w0 X L) := by
  intro a w ha hw
  refine wpIn_rangeFunc ?_
  intro fn hfn
  have hw1 := hL w hw
  obtain ⟨o₀, ho₀, hr₀⟩ := hw.here _ hl₀
  rw [hr₀] at ho₀
  obtain ⟨rec, hrec⟩ : ∃ rec : Loop, rec = { state := .ready, pending := none, fn, tmps := a.tmps, params := ps.toArray, assign, body, defers := rec₀.defers } := ⟨_, rfl⟩
  have h2 := (hw1.alloc (.loop rec) (q := recO rec .ready) (by rw [hrec]; rfl)).perm (List.perm_append_comm (l₁ := [(w.heap.size, recO rec .ready)]))
  refine ⟨w.heap.size, [], w.alloc (.loop rec), { target := .fn (.func gf) cap.toArray, args := #[.func (.yield w.heap.size) #[] #[]] }, w.alloc (.loop rec), gf, #[.func (.yield w.heap.size) #[] #[]] ++ cap.toArray, w.alloc (.loop rec), ?_, ?_, fun _ _ => trivial, ?_, fun h => by simp [Fence.wide] at h, ?_⟩
  · rw [hrec]; exact run_enterLoop_inner ho₀ _ _ _ _ _
  · simp only [resolve, rangeCall, ha.eval hg]
    simp [Deferred.ofValue, Act.eval]
  · simp [invoke, hf.enters]
  · have hc := range_core (nt := nt) (fr := fr) (P := P) hit Lp ids hids hdata (rec := rec) (ps := ps) (assign := assign) (body := body)
      (by rw [hrec]) (by rw [hrec]) (by rw [hrec]) hps (fun p hp => by have := List.all_eq_true.1 hpn p hp; simpa [Nat.blt_eq] using this) (by rw [hrec]; exact ⟨ha.size, rfl, ha.look⟩) (l := w.heap.size) h2 (fun pre x W hp hs => hround _ rec pre x W hp hs)
    have hc' : Calls P gf (#[.func (.yield w.heap.size) #[] #[]] ++ cap.toArray) (w.alloc (.loop rec)) fun e W' => (∃ v, e = .returned v) ∧ St w0 X (Lp xs ++ [(w.heap.size, recO rec .ready)]) W' := by simpa using hc
    refine callsIn_any (hc'.mono ?_)
    rintro e W' ⟨⟨v, rfl⟩, hst⟩
    obtain ⟨o, ho, hr⟩ := hst.here (w.heap.size, recO rec .ready) (by simp)
    rw [hr] at ho
    refine ⟨none, _, run_endLoop ho (by simp), ?_⟩
    refine hdone _ _ ⟨ha.size, by simp [ha.defers], ha.look⟩ ?_
    exact (hst.turn (q' := fun _ => True) trivial).sublist (List.sublist_append_left ..)

/-! ### a function whose body holds such a range: its end -/
theorem calls_M {f : FuncId} {fn : Func} {c : Code} {vs : List Value} {w : World} {R : Ending → World → Prop} (hf : P.funcs[f]? = some fn) (hb : fn.body = some c) (hn : fn.ntmps = nt) (hs : Nat.ble vs.length nt = true)
    (h : T P none c (bodyPostM Fence.wide 0 P fn R) nt [] (fargs 0 vs) (St w [] [])) : Calls P f vs.toArray w R := by
  have hs' : vs.length ≤ nt := by simpa [Nat.ble_eq] using hs
  refine (callsIn_wide (n := 0)).1 (callsIn_of_wp_marks hf hb trivial (h _ w ⟨?_, rfl, ?_⟩ (St.init _ _)))
  · simp [hn]; omega
  · intro t v hl
    obtain ⟨_, h2⟩ := fargs_look vs 0 t v hl
    simp only [Nat.sub_zero] at h2
    simp only [Array.getD_eq_getD_getElem?]
    have hlt : t < vs.length := (List.getElem?_eq_some_iff.1 h2).1
    rw [Array.getElem?_append_left (by simpa using hlt)]
    simp [h2]

theorem xt_retM1 {fn : Func} {w : World} {Post : Value → World → Prop} {t : Tmp} {v : Value} {db : Nat} (hr : fn.results = #[.tmp t]) (hv : flook fr t = some v) (h : ∀ w', St w [] L w' → Post v w') :
    Xt P .ret (bodyPostM Fence.wide 0 P fn (Ret w Post)) nt [{ target := .collected db, args := #[] }] fr (St w [] (L ++ [(db, defO)])) := by
  intro a w' ha hw
  obtain ⟨o, ho, hq⟩ := hw.here (db, defO) (by simp)
  rw [hq] at ho
  have hL : St w [] L (w'.putObj db (.deferred none)) := (hw.turn (q' := fun _ => True) trivial).sublist (List.sublist_append_left ..)
  show LeavesInM _ _ _ _ _ _ a.defers _ _
  rw [ha.defers]
  refine ⟨by simp, .inl ⟨_, _, rfl, run_takeDeferred ho, ?_⟩⟩
  exact ⟨_, results_tmp hr _ _ _, v, by rw [ha.look t v hv], hL.toExt, h _ hL⟩

/-! ### for an iterator's walk: the world as the last round left it, cut at B -/
def trunc (B : Nat) (w : World) : World := { w with heap := w.heap.extract 0 B }
theorem trunc_size {B : Nat} {w : World} (h : B ≤ w.heap.size) : (trunc B w).heap.size = B := by simp [trunc, h]
theorem trunc_get {B k : Nat} {w : World} (h : k < B) : (trunc B w).heap[k]? = w.heap[k]? := by
  simp only [trunc]
  rw [Array.getElem?_extract]
  simp
  omega
theorem trunc_same {B : Nat} {w : World} (h : B ≤ w.heap.size) : Same B w (trunc B w) := ⟨rfl, rfl, rfl, h, by rw [trunc_size h]; exact Nat.le_refl _, fun k hk => trunc_get hk⟩
theorem St.same {w1 w : World} (h : St w1 [] L w) : Same w1.heap.size w1 w := ⟨h.os, h.tape, h.output, Nat.le_refl _, h.size, fun k hk => h.old k hk (by simp)⟩
theorem St.retrunc {w1 W1 W' : World} (h : St w1 [] L W1) (ho : OnlyLow w1.heap.size W1 W') : St (trunc w1.heap.size W') [] L W' := by
  have hB : w1.heap.size ≤ W'.heap.size := Nat.le_trans h.size ho.size
  refine ⟨rfl, rfl, rfl, by rw [trunc_size hB]; exact hB, fun k hk _ => by rw [trunc_size hB] at hk; exact (trunc_get hk).symm, ?_, ?_, h.apart⟩
  · intro p hp
    obtain ⟨o, h1, h2⟩ := h.here p hp
    have hm := h.mine p hp
    simp at hm
    exact ⟨o, (ho.block p.1 hm (Array.getElem?_eq_some_iff.1 h1).1).trans h1, h2⟩
  · intro p hp
    have hm := h.mine p hp
    simp at hm
    exact .inl (by rw [trunc_size hB]; exact hm)

/-! ### reading what came in -/
section
variable {d : Option Tmp} {ty t : TypeId} {pos : String} {af : Array Edge} {g : Option (Nat × Bool)} {x : Operand}
theorem o_loadO {a : Addr} {v : Value} [CSc P t] (hx : fev fr x = some (.pointer (some a))) (hb : a.block < w0.heap.size) (hc : w0.cell? a = some v) : Pv P ⟨d, .load t x, ty, pos, af, g⟩ fr (St w0 [] L) v :=
  o_load hx fun w hw => by rw [hw.oldCell hb (by simp)]; exact hc
theorem o_loadOA {b o k : Nat} {cs : List Value} [CAg P t k] (hx : fev fr x = some (.pointer (some ⟨b, o, none⟩))) (hl : cs.length = k) (hb : b < w0.heap.size) (hc : ∀ j v, cs[j]? = some v → w0.cell? ⟨b, o + j, none⟩ = some v) : Pv P ⟨d, .load t x, ty, pos, af, g⟩ fr (St w0 [] L) (.agg cs.toArray) :=
  o_loadA hx hl fun w hw j v hj => by rw [hw.oldCell (a := ⟨b, o + j, none⟩) hb (by simp)]; exact hc j v hj
theorem tl_indexAddr {ops : Array Oper} {rest : List Oper} {d : Nat} {y : Operand} {u : Value} {I' : World → Prop} (ho : O P ⟨some d, .indexAddr t x y, ty, pos, af, none⟩ fr I (fun v w => v = u ∧ I' w)) (hd : Nat.ble nt d = false) (h : TL P r ops Q nt D rest ((d, u) :: fr) I') : TL P r ops Q nt D (⟨some d, .indexAddr t x y, ty, pos, af, none⟩ :: rest) fr I := tl_val ho hd rfl h
end

theorem xt_roundW {α : Type} {Inv : α → Fr} {C : α → Prop} {J : α → World → Prop} {μ : α → Nat} {x : α} (h : ∀ w, I w → ∃ x', fle (Inv x') fr ∧ (C x' ∧ J x' w) ∧ μ x' < μ x) :
    Xt P .normal (Exit.then (fun a w => ∃ x', Ag nt D (Inv x') a ∧ (C x' ∧ J x' w) ∧ μ x' < μ x) Q) nt D fr I :=
  fun a w ha hw => by
    obtain ⟨x', hf, hc, hm⟩ := h w hw
    exact ⟨x', ha.weak hf, hc, hm⟩
theorem Yields.mono {l : Nat} {args : List Value} {W : World} {R R' : World → Prop} (h : Yields P l args W R) (hr : ∀ w, R w → R' w) : Yields P l args W R' := by
  obtain ⟨f, tmps, assign, body, hy, hR⟩ := h
  exact ⟨f, tmps, assign, body, hy, hR.mono fun e w' ⟨he, hw⟩ => ⟨he, hr w' hw⟩⟩

/-- a block that a callee has made -/
theorem St.addNew {w w' : World} {b : Nat} {o : Obj} {q : Obj → Prop} (h : St w0 X L w) (e : Ext w w') (hb : w.heap.size ≤ b) (ho : w'.heap[b]? = some o) (hq : q o) : St w0 X ((b, q) :: L) w' := by
  have h' := h.ext e
  refine ⟨h'.os, h'.tape, h'.output, h'.size, h'.old, ?_, ?_, ?_⟩
  · intro p hp
    rcases List.mem_cons.1 hp with rfl | hp
    · exact ⟨o, ho, hq⟩
    · exact h'.here p hp
  · intro p hp
    rcases List.mem_cons.1 hp with rfl | hp
    · exact .inl (Nat.le_trans h.size hb)
    · exact h'.mine p hp
  · simp only [List.map_cons, List.nodup_cons]
    refine ⟨fun hm => ?_, h.apart⟩
    obtain ⟨p, hp, he⟩ := List.mem_map.1 hm
    have := h.lt hp
    omega

theorem tl_ret {β : Type} {ops : Array Oper} {rest : List Oper} {d : Nat} {f : FuncId} {args : Array Operand} {ts : Array TypeId} {ty : TypeId} {pos : String} {af : Array Edge} {vs : List Value} {Post : World → Value → World → Prop} [CFn P f] (V : β → Value) (Ln : β → HL) (hc : ∀ w, St w0 X L w → Calls P f vs.toArray w (Ret w (Post w))) (hv : fevs fr args.toList = some vs)
    (hp : ∀ w v w', St w0 X L w → Ext w w' → Post w v w' → ∃ x, v = V x ∧ St w0 X (Ln x ++ L) w') (hd : Nat.ble nt d = false) (h : ∀ x, TL P r ops Q nt D rest ((d, V x) :: fr) (St w0 X (Ln x ++ L))) : TL P r ops Q nt D (⟨some d, .call ⟨.value (.func f), args, ts⟩, ty, pos, af, none⟩ :: rest) fr (St w0 X L) :=
  tl_op hd rfl (o_ret hv hc) fun v a w' ha hw => by
    obtain ⟨w, hw, he, hpost⟩ := hw
    obtain ⟨x, rfl, hs⟩ := hp w v w' hw he hpost
    exact h x a w' ha hs

end Go.Proofs.Ytbgolbkolcmldaa
