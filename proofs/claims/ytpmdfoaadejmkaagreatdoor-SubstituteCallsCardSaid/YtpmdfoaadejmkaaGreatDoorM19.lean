/-
  An engine's passes over a run.
-/
import Derived.Test.YtpmdfoaadejmkaaGreatDoorM18
import Derived.Test.YtpmdfoaadejmkaaGreatDoorM15
import Derived.Test.YtpmdfoaadejmkaaGreatDoorM14
import Derived.Test.YtpmdfoaadejmkaaGreatDoorM17
namespace Go.Proofs.YtpmdfoaadejmkaaGreatDoor
open Go.RowKit
attribute [local irreducible] AT bf AX AO Av Kt aZ df DA cA
theorem w7 (run : List aF) (hr : run.length ≤ 1000000) : AC Tryz.prog 36 [.imm 6 (run.map bM)] [] fun c L => ∃ q, cR q run ∧ c = dq q run ∧ L = l9 q run := by
 refine aB Tryz.func36 rfl Tryz.ntmps36 rfl fun B => ?_
 have hml : (run.map bM).length = run.length := Du ..
 repeat' (first|refine a8 ?_|refine a0 ?_|refine a5 ?_|refine a6 ?_|refine a7 a4 rfl rfl ?_)
 refine pk a4 rfl rfl rfl rfl rfl fun b hb => ?_
 repeat' (first|refine a5 ?_|refine a6 ?_)
 cases b with
 | true =>
  have hn : run = [] := by simpa using hb rfl
  subst hn
  repeat' (first|refine a8 ?_|refine a0 ?_|refine ae ?_|refine a5 ?_|refine am ?_|refine a6 ?_|refine a7 a4 rfl rfl ?_|refine br rfl ?_)
  refine bA (bR (t := 2) (c' := .imm 6 []) rfl fun σ v h => j4 6 h) ?_
  exact ak rfl rfl ⟨none, ⟨fun _ => rfl, fun m h => by cases h⟩, rfl, rfl⟩
 | false =>
  repeat' (first|refine a8 ?_|refine a0 ?_|refine ah ?_|refine a5 ?_|refine a7 a4 rfl rfl ?_|refine B2 (d := 5) a4 rfl rfl fun _=>?_|refine bB rfl ?_)
  rename_i b5
  refine iX a4 0 rfl rfl rfl rfl (r7 rfl rfl) rfl (Nat.zero_le _) (Nat.le_refl _) (Nat.zero_le _) (by rw [hml]; unfold maxLen; omega) (by rw [hml]; omega) rfl fun b' cs' cap' e1 e2 e3 e4 e5 => ?_
  repeat' (first|refine ae ?_|refine a5 ?_|refine a6 ?_|refine a7 a4 rfl rfl ?_)
  have hcs : cs' = bo run ++ cs'.drop (run.length * 6) := by
   conv => lhs; rw [← List.take_append_drop (run.length * 6) cs']
   rw [Nat.zero_add, hml] at e2
   rw [e2]
   rfl
  refine ak rfl rfl ⟨some ⟨b', cap', cs'.drop (run.length * 6)⟩, ⟨fun h => (by cases h), fun m hm => ?_⟩, ?_, ?_⟩
  ·cases hm
   dsimp only
   rw [← hcs]
   exact ⟨by omega, e4, e1⟩
  ·unfold dq
   dsimp only
   rw [Nat.zero_add, hml]
  ·unfold l9
   dsimp only
   rw [← hcs]
   rfl
theorem mF {R : List aF} : ∀ {l : List Nat}, R.length ≤ (dK l R).length + l.length
 | [] => by simp [dK]
 | z :: l => by
  have := mF (R := R) (l := l)
  have h2 : (dK l R).length ≤ ((dK l R).eraseIdx z).length + 1 := by rw [List.length_eraseIdx]; split <;> omega
  rw [dK, List.length_cons]
  omega
theorem tE {run : List aF} {p : Nat} {q : List Nat} (h : oQ run (p :: q)) : p + q.length ≤ (p :: q).getLastD p ∧ (p :: q).getLastD p < run.length ∧ (q ≠ [] ↔ p < (p :: q).getLastD p) := by
  have key : ∀ (q : List Nat) (p : Nat), (p :: q).Pairwise (· < ·) → p + q.length ≤ (p :: q).getLast (by simp) := by
    intro q
    induction q with
    | nil => intro p _; simp
    | cons a q ih =>
      intro p hp
      obtain ⟨h1, h2⟩ := List.pairwise_cons.1 hp
      have := ih a h2
      have := h1 a (by simp)
      rw [List.getLast_cons (by simp), List.length_cons]
      omega
  have hk := key q p h.inc
  have he : (p :: q).getLastD p = (p :: q).getLast (by simp) := by rw [List.getLastD_eq_getLast?, List.getLast?_eq_some_getLast (by simp)]; rfl
  rw [he]
  refine ⟨hk, h.lt _ (List.getLast_mem _), fun hq => ?_, fun hq e => ?_⟩
  · have : 0 < q.length := List.length_pos_iff.2 hq
    omega
  · subst e
    simp at hq
theorem np {l : aQ} {r : aT} {run : List aF} {p : Nat} {q : List Nat} (h : oQ run (p :: q)) : run.length - 1 - (p :: q).getLastD p ≤ (eJ l r (p :: q) run).length := by
 obtain ⟨h1, h2, _⟩ := tE h
 unfold eJ
 split
 ·unfold ey; split <;> (try split) <;> (try split) <;> (try rw [List.length_set]) <;> omega
 split
 ·unfold fF
  split
  ·omega
  ·split
   ·omega
   ·simp only [List.length_append, List.length_take, List.length_drop, Du, List.headD_cons]
    omega
 split
 ·unfold k6
  split
  ·rename_i heq _
   cases heq
   split
   ·rename_i x hx
    have key : ∀ y : aF, run.length - 1 - (p :: q).getLastD p ≤ (dK q (run.set p y)).length := fun y => by
     have := mF (R := run.set p y) (l := q)
     rw [List.length_set] at this
     omega
    exact key _
   ·omega
  ·omega
 split
 ·unfold ow; split <;> (try rw [List.length_set]) <;> omega
 ·omega
theorem wg {ms : List Bool} {ls : List aQ} {k : Nat} {l : aQ} (hk : l.Kind ≠ 4) {r : aT} {run : List aF} {p : Nat} {q : List Nat} (h : oQ run (p :: q)) : run.length - 1 - (p :: q).getLastD p ≤ (gw ms ls k l r (p :: q) run).length := by
 cases k with
 | zero => rw [gw]; exact np h
 | succ k => rw [gw]; dsimp only; rw [if_neg hk]; exact np h
theorem sr {p : Nat} {q : List Nat} : (cD (p :: q))[(((p :: q).length : Int) - 1).toNat]? = some [az ((p :: q).getLastD p : Nat)] := by
 have he : (p :: q).getLastD p = (p :: q).getLast (by simp) := by rw [List.getLastD_eq_getLast?, List.getLast?_eq_some_getLast (by simp)]; rfl
 have hi : (((p :: q).length : Int) - 1).toNat = (p :: q).length - 1 := by omega
 rw [hi, he]
 unfold cD
 refine bI ?_
 rw [List.getElem?_map, ← List.getLast?_eq_getElem?, List.getLast?_eq_some_getLast (by simp)]
 rfl
section
variable {E : lZ} (hE : lh E) (wb : Nat)
include hE
set_option maxHeartbeats 8000000 in
theorem C0 (e : lY) (he : e ∈ E.lks) (h1 : 1 ≤ e.l.Kind) (h6 : e.l.Kind ≤ 6) (forms : List Int) (q0 : Option ei) (run0 : List aF) (hq0 : cR q0 run0) (hr0 : run0.length ≤ 1000000) :
  AC Tryz.prog 37 [eh wb, .iptr (dL e), .imm 1 (aU forms)] (g7 wb E q0 run0) (eL wb E (tA E.ms E.ls e.l forms run0.length 0 run0)) := by
 refine aB Tryz.func37 rfl Tryz.ntmps37 rfl fun B => ?_
 have hau := hE.auto e he h1 h6
 repeat' (first|refine a8 ?_|refine a0 ?_|refine aj ?_|refine a5 ?_|refine a6 ?_|refine a7 a4 rfl rfl ?_)
 refine aK [0, 1, 2] (α := Nat × Nat × Option ei × List aF) (fun s => [(6, az s.1)]) (fun s => cR s.2.2.1 s.2.2.2 ∧ s.2.2.2.length ≤ 1000000 ∧ s.1 ≤ 1000001 ∧ s.2.2.2.length - s.1 ≤ s.2.1 ∧ tA E.ms E.ls e.l forms s.2.1 s.1 s.2.2.2 = tA E.ms E.ls e.l forms run0.length 0 run0) (fun s => g7 wb E s.2.2.1 s.2.2.2) (fun s => s.2.1) (0, run0.length, q0, run0) rfl ⟨rfl, trivial⟩ ⟨hq0, hr0, by dsimp only; omega, by dsimp only; omega, rfl⟩ (fun _ _ h => h) ?_
 rintro ⟨i, k, q, run⟩ ⟨hq, hr, hi1, hk, hv⟩
 dsimp only at hq hr hi1 hk hv ⊢
 try dsimp only [Ds, Dr, Dq, Dn]
 repeat' (first|refine a8 ?_|refine a0 ?_|refine a7 a4 rfl rfl ?_|(apply bD; first|refine ai a4 0 rfl rfl rfl rfl rfl ?_|refine ai a4 1 rfl rfl rfl rfl rfl ?_|refine ai a4 2 rfl rfl rfl rfl rfl ?_|refine ai a4 3 rfl rfl rfl rfl rfl ?_|refine ax a4 0 rfl rfl rfl rfl rfl ?_|refine ax a4 1 rfl rfl rfl rfl rfl ?_|refine ax a4 2 rfl rfl rfl rfl rfl ?_|refine ai a4 1 rfl rfl rfl (by assumption) rfl ?_|refine ai a4 0 rfl rfl rfl (by assumption) rfl ?_|fail)|fail)
 refine jv a4 rfl hq rfl rfl ?_
 repeat' (first|refine a5 ?_|refine a6 ?_|refine a7 a4 rfl rfl ?_)
 refine aq rfl (fun h => ?_) (fun h => ?_)
 ·have hi : i < run.length := by have := Dz h; omega
  obtain ⟨k, rfl⟩ : ∃ j, k = j + 1 := ⟨k - 1, by omega⟩
  rw [tA, if_pos hi] at hv
  have hma := mY E e hau wb q run hq hr i (by omega) forms
  clear h
  repeat' (first|refine a8 ?_|refine a0 ?_|refine aj ?_|refine ah ?_|refine a5 ?_|refine a7 a4 rfl rfl ?_)
  refine aN (g7 wb E q run) [] hma rfl rfl (by rw [List.append_nil]; exact Do _) rfl fun c L1 ⟨hc, hL⟩ => ?_
  subst hc; subst hL
  unfold iA
  cases hmv : dp E.ms e.l run i forms with
  | none =>
   rw [hmv] at hv
   dsimp only at hv ⊢
   repeat' (first|refine a8 ?_|refine a0 ?_|refine a5 ?_|refine a6 ?_|refine a7 a4 rfl rfl ?_)
   refine n3 Tryz.underlying190 rfl rfl rfl rfl ?_
   repeat' (first|refine a8 ?_|refine a0 ?_|refine aL ?_|refine a5 ?_|refine ar ?_|refine av ?_|refine a6 ?_|refine a7 a4 rfl rfl ?_|(apply aS; refine aR ?_)|refine br rfl ?_)
   exact ay (i + 1, k, q, run) rfl ⟨by rw [Dv]; rfl, trivial⟩ ⟨hq, hr, by dsimp only; omega, by dsimp only; omega, hv⟩ (by dsimp only; omega) (fun _ _ h => by rw [List.append_nil] at h; exact h)
  | some r =>
   rw [hmv] at hv
   dsimp only at hv ⊢
   obtain ⟨hps, hrm, hin, _, hhd⟩ := Bb hmv
   have hro := hE.rule e he r hrm hin
   have hdo := wh hE wb 4 0 rfl e r (cM E.ms e.l run i r) q run he h1 h6 hro hps hq hr
   generalize cM E.ms e.l run i r = ps at *
   obtain ⟨p, ps', rfl⟩ := List.exists_cons_of_ne_nil hps.some_
   simp only [List.head?_cons, Option.some.injEq] at hhd
   subst hhd
   obtain ⟨l1, l2, l3⟩ := tE hps
   have hlg := sr (p := p) (q := ps')
   have hnl := iY (p :: ps')
   have hlen := iQ (ms := E.ms) (ls := E.ls) 4 e.l r (p :: ps') run
   have hr2 := hlen.big hr
   have hleft : e.l.Kind ≠ 4 → run.length - 1 - (p :: ps').getLastD p ≤ (gw E.ms E.ls 4 e.l r (p :: ps') run).length := fun h4 => wg h4 hps
   have hpl1 : (p :: ps').length = ps'.length + 1 := rfl
   have hlen1 : (1 < ((cD (p :: ps')).length : Int)) ↔ p < (p :: ps').getLastD p := by
    rw [hnl, hpl1, ← l3, ← List.length_pos_iff]
    omega
   have hpair : e.l.Kind = 6 → (gw E.ms E.ls 4 e.l r (p :: ps') run).length = run.length := fun h6 => by
    rw [gw]
    dsimp only
    rw [if_neg (by omega)]
    unfold eJ
    rw [if_neg (by omega), if_neg (by omega), if_neg (by omega), if_pos h6]
    unfold ow
    split
    ·rw [List.length_set]
    ·rfl
   generalize gw E.ms E.ls 4 e.l r (p :: ps') run = run2 at *
   generalize (p :: ps').getLastD p = last at *
   repeat' (first|refine a8 ?_|refine a0 ?_|refine a5 ?_|refine a6 ?_|refine a7 a4 rfl rfl ?_)
   refine n3 Tryz.underlying190 rfl rfl rfl rfl ?_
   repeat' (first|refine a8 ?_|refine a0 ?_|refine ah ?_|refine a5 ?_|refine a6 ?_|refine a7 a4 rfl rfl ?_|(apply aS; refine aR ?_)|refine bB rfl ?_)
   refine aD a4 ?_ (hl := by rw [hnl]; exact hlg) (h0 := by rw [hnl, hpl1]; omega)
   repeat' (first|refine a8 ?_|refine a0 ?_|refine a5 ?_|refine a6 ?_|refine a7 a4 rfl rfl ?_|(apply bD; first|refine ai a4 0 rfl rfl rfl rfl rfl ?_|refine ai a4 1 rfl rfl rfl rfl rfl ?_|refine ai a4 2 rfl rfl rfl rfl rfl ?_|refine ai a4 3 rfl rfl rfl rfl rfl ?_|refine ax a4 0 rfl rfl rfl rfl rfl ?_|refine ax a4 1 rfl rfl rfl rfl rfl ?_|refine ax a4 2 rfl rfl rfl rfl rfl ?_|refine ai a4 1 rfl rfl rfl (by assumption) rfl ?_|refine ai a4 0 rfl rfl rfl (by assumption) rfl ?_|fail)|fail)
   refine jv a4 rfl hq rfl rfl ?_
   repeat' (first|refine a8 ?_|refine a0 ?_|refine a5 ?_|refine a6 ?_|refine a7 a4 rfl rfl ?_|(apply aS; refine aR ?_)|fail)
   refine aN (g7 wb E q run) [] hdo rfl rfl (by rw [List.append_nil]) rfl fun c L1 ⟨q', g1, g2⟩ => ?_
   subst g2
   repeat' (first|refine a8 ?_|refine a0 ?_|refine a5 ?_|refine a6 ?_|refine a7 a4 rfl rfl ?_|(apply bD; first|refine ai a4 0 rfl rfl rfl rfl rfl ?_|refine ai a4 1 rfl rfl rfl rfl rfl ?_|refine ai a4 2 rfl rfl rfl rfl rfl ?_|refine ai a4 3 rfl rfl rfl rfl rfl ?_|refine ax a4 0 rfl rfl rfl rfl rfl ?_|refine ax a4 1 rfl rfl rfl rfl rfl ?_|refine ax a4 2 rfl rfl rfl rfl rfl ?_|refine ai a4 1 rfl rfl rfl (by assumption) rfl ?_|refine ai a4 0 rfl rfl rfl (by assumption) rfl ?_|fail)|fail)
   refine jv a4 rfl g1 rfl rfl ?_
   repeat' (first|refine a8 ?_|refine a0 ?_|refine aj ?_|refine a5 ?_|refine a6 ?_|refine a7 a4 rfl rfl ?_|(apply aS; refine aR ?_)|fail)
   refine aq rfl (fun h4 => ?_) (fun h4 => ?_)
   ·have hk4 : e.l.Kind = 4 := Dz h4
    unfold tx at hv
    rw [if_pos hk4] at hv
    repeat' (first|refine a0 ?_|refine a5 ?_|refine aH ?_|refine a6 ?_|refine a7 a4 rfl rfl ?_|(apply aS; refine aR ?_)|fail)
    refine ay (max (run2.length - (run.length - 1 - last)) (p + 1), k, q', run2) rfl ⟨?_, trivial⟩ ⟨g1, hr2, by dsimp only; omega, by dsimp only; omega, hv⟩ (by dsimp only; omega) (fun _ _ h => by rw [List.append_nil] at h; exact h)
    show some (AV.sc (.int .i64 (max ((run2.length : Int) - ((run.length : Int) - 1 - last)) ((p : Int) + 1)))) = some (az ((max (run2.length - (run.length - 1 - last)) (p + 1) : Nat) : Int))
    rw [show max ((run2.length : Int) - ((run.length : Int) - 1 - last)) ((p : Int) + 1) = ((max (run2.length - (run.length - 1 - last)) (p + 1) : Nat) : Int) by omega]
   ·have hk4 : e.l.Kind ≠ 4 := Dy h4
    have hlf := hleft hk4
    repeat' (first|refine a8 ?_|refine a0 ?_|refine a7 a4 rfl rfl ?_)
    refine bG [0, 1, 2, 9, 11] (e.l.Kind = 6 ∧ p < last) rfl (fun Q' K => ?_) (fun hC => ?_) (fun hC => ?_)
    ·repeat' (first|refine a6 ?_|refine a7 a4 rfl rfl ?_|refine an rfl rfl ?_|refine aw rfl rfl rfl rfl ?_|refine aG rfl rfl rfl (fun _ => ?_) (fun _ => ?_))
     all_goals exact K _ _ rfl rfl (by rw [← hlen1]; simp_all)
    ·unfold tx at hv
     rw [if_neg hk4, if_pos hC] at hv
     repeat' (first|refine a0 ?_|refine a5 ?_|refine aH ?_|refine a6 ?_|refine a7 a4 rfl rfl ?_)
     refine ay (last, k, q', run2) rfl ⟨rfl, trivial⟩ ⟨g1, hr2, by dsimp only; omega, by have := hpair hC.1; dsimp only; omega, hv⟩ (by dsimp only; omega) (fun _ _ h => by rw [List.append_nil] at h; exact h)
    ·unfold tx at hv
     rw [if_neg hk4, if_neg hC] at hv
     repeat' (first|refine a0 ?_|refine ah ?_|refine a5 ?_|refine aH ?_|refine a6 ?_|refine a7 a4 rfl rfl ?_)
     refine ay (run2.length - (run.length - 1 - last), k, q', run2) rfl ⟨?_, trivial⟩ ⟨g1, hr2, by dsimp only; omega, by dsimp only; omega, hv⟩ (by dsimp only; omega) (fun _ _ h => by rw [List.append_nil] at h; exact h)
     show some (AV.sc (.int .i64 ((run2.length : Int) - ((run.length : Int) - 1 - last)))) = some (az ((run2.length - (run.length - 1 - last) : Nat) : Int))
     rw [show (run2.length : Int) - ((run.length : Int) - 1 - last) = ((run2.length - (run.length - 1 - last) : Nat) : Int) by omega]
 ·have hi : run.length ≤ i := by have := Dy h; omega
  have hrun : run = tA E.ms E.ls e.l forms run0.length 0 run0 := by
   rw [← hv]
   cases k with
   | zero => rw [tA]
   | succ k => rw [tA, if_neg (by omega)]
  repeat' (first|refine aL ?_|refine ar ?_|refine av ?_|refine au ?_)
  exact c8 rfl ⟨q, by rw [← hrun]; exact hq, by rw [← hrun]; rfl⟩
set_option maxHeartbeats 8000000 in
theorem wi (e : lY) (he : e ∈ E.lks) (h1 : 1 ≤ e.l.Kind) (h6 : e.l.Kind ≤ 6) (forms : List Int) (q0 : Option ei) (run0 : List aF) (hq0 : cR q0 run0) (hr0 : run0.length ≤ 1000000) :
  AC Tryz.prog 38 [eh wb, .iptr (dL e), .imm 1 (aU forms)] (g7 wb E q0 run0) (eL wb E (gZ E.ms E.ls e.l forms run0.length run0)) := by
 refine aB Tryz.func38 rfl Tryz.ntmps38 rfl fun B => ?_
 have hau := hE.auto e he h1 h6
 repeat' (first|refine a8 ?_|refine a0 ?_|refine a7 a4 rfl rfl ?_|(apply bD; first|refine ai a4 0 rfl rfl rfl rfl rfl ?_|refine ai a4 1 rfl rfl rfl rfl rfl ?_|refine ai a4 2 rfl rfl rfl rfl rfl ?_|refine ai a4 3 rfl rfl rfl rfl rfl ?_|refine ax a4 0 rfl rfl rfl rfl rfl ?_|refine ax a4 1 rfl rfl rfl rfl rfl ?_|refine ax a4 2 rfl rfl rfl rfl rfl ?_|refine ai a4 1 rfl rfl rfl (by assumption) rfl ?_|refine ai a4 0 rfl rfl rfl (by assumption) rfl ?_|fail)|fail)
 refine jv a4 rfl hq0 rfl rfl ?_
 repeat' (first|refine aj ?_|refine a5 ?_|refine a6 ?_|refine a7 a4 rfl rfl ?_|(apply aS; refine aR ?_)|fail)
 refine aK [0, 1, 2] (α := Nat × Option ei × List aF) (fun s => [(6, az ((s.1 : Int) - 1))]) (fun s => cR s.2.1 s.2.2 ∧ s.2.2.length ≤ 1000000 ∧ s.1 ≤ 1000000 ∧ gZ E.ms E.ls e.l forms s.1 s.2.2 = gZ E.ms E.ls e.l forms run0.length run0) (fun s => g7 wb E s.2.1 s.2.2) (fun s => s.1) (run0.length, q0, run0) rfl ⟨rfl, trivial⟩ ⟨hq0, hr0, hr0, rfl⟩ (fun _ _ h => h) ?_
 rintro ⟨n, q, run⟩ ⟨hq, hr, hn1, hv⟩
 dsimp only at hq hr hn1 hv ⊢
 try dsimp only [Ds, Dr, Dq, Dn]
 repeat' (first|refine a8 ?_|refine a0 ?_|refine a5 ?_|refine a6 ?_|refine a7 a4 rfl rfl ?_)
 refine aq rfl (fun h => ?_) (fun h => ?_)
 ·have hn0 : 0 < n := by have := Dz h; omega
  obtain ⟨i, rfl⟩ : ∃ j, n = j + 1 := ⟨n - 1, by omega⟩
  rw [gZ] at hv
  have hi0 : ((i + 1 : Nat) : Int) - 1 = (i : Int) := by omega
  have hma := mY E e hau wb q run hq hr i (by omega) forms
  clear h
  rw [hi0]
  repeat' (first|refine a8 ?_|refine a0 ?_|refine aj ?_|refine ah ?_|refine a5 ?_|refine a7 a4 rfl rfl ?_)
  refine aN (g7 wb E q run) [] hma rfl rfl (by rw [List.append_nil]; exact Do _) rfl fun c L1 ⟨hc, hL⟩ => ?_
  subst hc; subst hL
  unfold iA
  cases hmv : dp E.ms e.l run i forms with
  | none =>
   rw [hmv] at hv
   dsimp only at hv ⊢
   repeat' (first|refine a8 ?_|refine a0 ?_|refine a5 ?_|refine a6 ?_|refine a7 a4 rfl rfl ?_)
   refine po Tryz.underlying190 rfl rfl rfl rfl ?_
   repeat' (first|refine a0 ?_|refine ah ?_|refine a5 ?_|refine aH ?_|refine a6 ?_|refine a7 a4 rfl rfl ?_|(apply aS; refine aR ?_)|refine bB rfl ?_)
   exact ay (i, q, run) rfl ⟨rfl, trivial⟩ ⟨hq, hr, by dsimp only; omega, hv⟩ (by dsimp only; omega) (fun _ _ h => by rw [List.append_nil] at h; exact h)
  | some r =>
   rw [hmv] at hv
   dsimp only at hv ⊢
   obtain ⟨hps, hrm, hin, _, hhd⟩ := Bb hmv
   have hro := hE.rule e he r hrm hin
   have hdo := wh hE wb 4 0 rfl e r (cM E.ms e.l run i r) q run he h1 h6 hro hps hq hr
   have hr2 := (iQ (ms := E.ms) (ls := E.ls) 4 e.l r (cM E.ms e.l run i r) run).big hr
   repeat' (first|refine a8 ?_|refine a0 ?_|refine a5 ?_|refine a6 ?_|refine a7 a4 rfl rfl ?_)
   refine po Tryz.underlying190 rfl rfl rfl rfl ?_
   repeat' (first|refine a0 ?_|refine a5 ?_|refine a6 ?_|refine a7 a4 rfl rfl ?_|refine br rfl ?_)
   refine aN (g7 wb E q run) [] hdo rfl rfl (by rw [List.append_nil]) rfl fun c L1 ⟨q', g1, g2⟩ => ?_
   subst g2
   repeat' (first|refine a0 ?_|refine a5 ?_|refine aH ?_|refine a6 ?_|refine a7 a4 rfl rfl ?_|(apply aS; refine aR ?_)|fail)
   exact ay (i, q', _) rfl ⟨rfl, trivial⟩ ⟨g1, hr2, by dsimp only; omega, hv⟩ (by dsimp only; omega) (fun _ _ h => by rw [List.append_nil] at h; exact h)
 ·have hn0 : n = 0 := by have := Dy h; omega
  subst hn0
  have hrun : run = gZ E.ms E.ls e.l forms run0.length run0 := by rw [← hv, gZ]
  repeat' (first|refine aL ?_|refine ar ?_|refine av ?_|refine au ?_)
  exact c8 rfl ⟨q, by rw [← hrun]; exact hq, by rw [← hrun]; rfl⟩
end
end Go.Proofs.YtpmdfoaadejmkaaGreatDoor
namespace Go.Proofs.YtpmdfoaadejmkaaGreatDoor
open Go.RowKit
attribute [local irreducible] AT bf AX AO Av Kt aZ df DA cA
theorem qb (k : Int) : bk Tryz.prog 34 [az k] (dx (decide (1 ≤ k ∧ k ≤ 6))) := by
 refine aB Tryz.func34 rfl Tryz.ntmps34 rfl fun B => ?_
 repeat' (first|refine a8 ?_|refine a0 ?_|refine ae ?_|refine a5 ?_|refine a6 ?_|refine a7 a4 rfl rfl ?_|refine an rfl rfl ?_|refine aw rfl rfl rfl rfl ?_|refine aG rfl rfl rfl (fun _ => ?_) (fun _ => ?_))
 all_goals exact ak rfl rfl (by simp_all <;> omega)
instance (k : Int) : AD Tryz.prog 34 [az k] (dx (decide (1 ≤ k ∧ k ≤ 6))) := ⟨qb k⟩
section
variable {nt : Nat} {fr : bw} {B : Bs} {D : List Deferred}
theorem oL {t : Nat} {q : Option ei} {run : List aF} {Lf : AL} (hq : cR q run) (hl : bE fr t = some (dq q run)) : jF nt D B fr (l9 q run ++ Lf) ((t, .imm 6 (run.map bM)) :: fr) Lf := by
 cases q with
 | none =>
  have he := hq.emp rfl
  subst he
  exact bR hl fun σ v h => h
 | some m =>
  obtain ⟨h1, h2, h3⟩ := hq.fit m rfl
  have hfl := cw run
  have hcl : run.length * 6 ≤ (bo run ++ m.junk).length := by rw [List.length_append]; omega
  have htk : (bo run ++ m.junk).take (run.length * 6) = (run.map bM).flatten := by
   have := kU run m.junk (Nat.le_refl _)
   rw [List.take_length] at this
   exact this
  exact gt (sz := 6) (n := run.length) (cap := m.cap) (l := run.map bM) 0 hl rfl htk hcl (fun e he => by obtain ⟨z, _, rfl⟩ := List.mem_map.1 he; rfl) (Du ..) h1 h2
theorem kx {t wb : Nat} {eng : AV} {q : Option ei} {run : List aF} {Lf : AL} (hq : cR q run) (hl : bE fr t = some (dq q run)) : jF nt D B fr ((wb, .box [eng, dq q run] 102) :: (l9 q run ++ Lf)) ((t, .imm 6 (run.map bM)) :: fr) Lf := fun σ a w ha hw =>
 oL hq hl σ a w ha (hw.sublist (List.sublist_cons_self ..))
end
section
variable {E : lZ} (hE : lh E)
include hE
set_option maxHeartbeats 8000000 in
theorem vJ (n : Int) (run : List aF) (hr : run.length ≤ 1000000) (forms : List Int) : AC Tryz.prog 18 [.iptr (d9 E), az n, .imm 6 (run.map bM), .imm 1 (aU forms)] [cz] fun c L => c = .imm 6 ((cT E.ms E.ls n run forms).map bM) ∧ L = [cz] := by
 refine aB Tryz.func18 rfl Tryz.ntmps18 rfl fun B => ?_
 have hll := nW E
 have hcl := w7 run hr
 repeat' (first|refine a8 ?_|refine a0 ?_|refine a5 ?_|refine a6 ?_|refine a7 a4 rfl rfl ?_)
 refine aN [] [cz] hcl rfl rfl (Do _) rfl fun c L1 ⟨q, hq, hc, hL⟩ => ?_
 subst hc; subst hL
 repeat' (first|fail)
 refine bT (u := .agg [.iptr (d9 E), dq q run]) (jz a4 (by cases q <;> rfl)) rfl rfl ?_
 repeat' (first|refine a8 ?_|refine a0 ?_|refine a5 ?_|refine a6 ?_|refine a7 a4 rfl rfl ?_|refine wS (d := 15) fun _=>?_|fail)
 refine n3 Tryz.underlying34 rfl rfl rfl rfl ?_
 by_cases hin : 0 ≤ n ∧ n < E.lks.length
 ·obtain ⟨e, he⟩ : ∃ e, E.lks[n.toNat]? = some e := ⟨_, Bj (by omega)⟩
  have heg : (E.lks.map dL)[n.toNat]? = some (dL e) := by simp [he]
  have hem := Dw he
  refine bG [0, 1, 3, 9] (¬ (1 ≤ e.l.Kind ∧ e.l.Kind ≤ 6)) rfl (fun Q' K => ?_) (fun hC => ?_) (fun hC => ?_)
  ·repeat' (first|refine a6 ?_|refine a7 a4 rfl rfl ?_|refine an rfl rfl ?_|refine aw rfl rfl rfl rfl ?_|(apply aE; first|refine aD a4 ?_|refine aA a4 ?_)|(apply bb;refine b4 ?_)|refine aG rfl rfl rfl (fun _ => ?_) (fun _ => ?_))
   all_goals exact K _ _ rfl rfl (by simp_all <;> omega)
  ·have hv : cT E.ms E.ls n run forms = run := by
    unfold cT
    rw [if_neg (by omega), List.getElem?_map, he]
    show (if e.l.Kind < 1 ∨ 6 < e.l.Kind then run else _) = run
    rw [if_pos (by omega)]
   rw [hv]
   repeat' (first|refine a8 ?_|refine a0 ?_|refine ae ?_|refine a5 ?_|refine am ?_|refine a6 ?_|refine a7 a4 rfl rfl ?_|(apply bD; first|refine ai a4 0 rfl rfl rfl rfl rfl ?_|refine ai a4 1 rfl rfl rfl rfl rfl ?_|refine ai a4 2 rfl rfl rfl rfl rfl ?_|refine ai a4 3 rfl rfl rfl rfl rfl ?_|refine ax a4 0 rfl rfl rfl rfl rfl ?_|refine ax a4 1 rfl rfl rfl rfl rfl ?_|refine ax a4 2 rfl rfl rfl rfl rfl ?_|refine ai a4 1 rfl rfl rfl (by assumption) rfl ?_|refine ai a4 0 rfl rfl rfl (by assumption) rfl ?_|fail)|fail)
   refine bA (kx (t := 8) hq rfl) ?_
   exact ak rfl rfl ⟨rfl, rfl⟩
  ·have hC : 1 ≤ e.l.Kind ∧ e.l.Kind ≤ 6 := Classical.not_not.1 hC
   have hv : cT E.ms E.ls n run forms = if e.l.Kind = 5 then gZ E.ms E.ls e.l forms run.length run else tA E.ms E.ls e.l forms run.length 0 run := by
    unfold cT
    rw [if_neg (by omega), List.getElem?_map, he]
    show (if e.l.Kind < 1 ∨ 6 < e.l.Kind then run else _) = _
    rw [if_neg (by omega)]
   rw [hv]
   rename_i wb _
   have hdn := wi hE wb e hem hC.1 hC.2 forms q run hq hr
   have hon := C0 hE wb e hem hC.1 hC.2 forms q run hq hr
   repeat' (first|refine a8 ?_|refine a0 ?_|refine ah ?_|refine a5 ?_|refine a6 ?_|refine a7 a4 rfl rfl ?_|(apply aE; first|refine aD a4 ?_|refine aA a4 ?_)|fail)
   refine aq rfl (fun h5 => ?_) (fun h5 => ?_)
   ·rw [if_pos (Dz h5)]
    repeat' (first|refine a8 ?_|refine a0 ?_|refine a5 ?_|refine a6 ?_|refine a7 a4 rfl rfl ?_|(apply aE; first|refine aD a4 ?_|refine aA a4 ?_)|fail)
    refine fS (g7 wb E q run) [] (gz.fnB (f := 38) (fs := [eh wb]) (caps := []) hdn) rfl rfl (by rw [List.append_nil]; exact Do _) rfl rfl fun c L1 ⟨q', g1, g2⟩ => ?_
    subst g2
    repeat' (first|refine a8 ?_|refine a0 ?_|refine ae ?_|refine a5 ?_|refine a6 ?_|refine a7 a4 rfl rfl ?_|(apply bD; first|refine ai a4 0 rfl rfl rfl rfl rfl ?_|refine ai a4 1 rfl rfl rfl rfl rfl ?_|refine ai a4 2 rfl rfl rfl rfl rfl ?_|refine ai a4 3 rfl rfl rfl rfl rfl ?_|refine ax a4 0 rfl rfl rfl rfl rfl ?_|refine ax a4 1 rfl rfl rfl rfl rfl ?_|refine ax a4 2 rfl rfl rfl rfl rfl ?_|refine ai a4 1 rfl rfl rfl (by assumption) rfl ?_|refine ai a4 0 rfl rfl rfl (by assumption) rfl ?_|fail)|fail)
    refine bA (aV (List.Perm.of_eq (List.append_nil _))) ?_
    refine bA (kx (t := 8) g1 rfl) ?_
    exact ak rfl rfl ⟨rfl, rfl⟩
   ·rw [if_neg (Dy h5)]
    repeat' (first|refine a8 ?_|refine a0 ?_|refine ah ?_|refine a5 ?_|refine a7 a4 rfl rfl ?_|(apply aE; first|refine aD a4 ?_|refine aA a4 ?_)|fail)
    refine fS (g7 wb E q run) [] (gz.fnB (f := 37) (fs := [eh wb]) (caps := []) hon) rfl rfl (by rw [List.append_nil]; exact Do _) rfl rfl fun c L1 ⟨q', g1, g2⟩ => ?_
    subst g2
    repeat' (first|refine a8 ?_|refine a0 ?_|refine ae ?_|refine a5 ?_|refine a6 ?_|refine a7 a4 rfl rfl ?_|(apply bD; first|refine ai a4 0 rfl rfl rfl rfl rfl ?_|refine ai a4 1 rfl rfl rfl rfl rfl ?_|refine ai a4 2 rfl rfl rfl rfl rfl ?_|refine ai a4 3 rfl rfl rfl rfl rfl ?_|refine ax a4 0 rfl rfl rfl rfl rfl ?_|refine ax a4 1 rfl rfl rfl rfl rfl ?_|refine ax a4 2 rfl rfl rfl rfl rfl ?_|refine ai a4 1 rfl rfl rfl (by assumption) rfl ?_|refine ai a4 0 rfl rfl rfl (by assumption) rfl ?_|fail)|fail)
    refine bA (aV (List.Perm.of_eq (List.append_nil _))) ?_
    refine bA (kx (t := 8) g1 rfl) ?_
    exact ak rfl rfl ⟨rfl, rfl⟩
 ·have hv : cT E.ms E.ls n run forms = run := by
   unfold cT
   by_cases h0 : n < 0
   ·rw [if_pos h0]
   ·rw [if_neg h0, List.getElem?_eq_none (by rw [Du]; omega)]
  rw [hv]
  refine bG [0, 1, 3, 9] True rfl (fun Q' K => ?_) (fun hC => ?_) (fun hC => absurd trivial hC)
  ·repeat' (first|refine a6 ?_|refine a7 a4 rfl rfl ?_|refine an rfl rfl ?_|refine aw rfl rfl rfl rfl ?_|refine aG rfl rfl rfl (fun _ => ?_) (fun _ => ?_))
   all_goals first | exact K _ _ rfl rfl (by simp_all <;> omega) | (exfalso; simp_all <;> omega)
  ·repeat' (first|refine a8 ?_|refine a0 ?_|refine ae ?_|refine a5 ?_|refine am ?_|refine a6 ?_|refine a7 a4 rfl rfl ?_|(apply bD; first|refine ai a4 0 rfl rfl rfl rfl rfl ?_|refine ai a4 1 rfl rfl rfl rfl rfl ?_|refine ai a4 2 rfl rfl rfl rfl rfl ?_|refine ai a4 3 rfl rfl rfl rfl rfl ?_|refine ax a4 0 rfl rfl rfl rfl rfl ?_|refine ax a4 1 rfl rfl rfl rfl rfl ?_|refine ax a4 2 rfl rfl rfl rfl rfl ?_|refine ai a4 1 rfl rfl rfl (by assumption) rfl ?_|refine ai a4 0 rfl rfl rfl (by assumption) rfl ?_|fail)|fail)
   refine bA (kx (t := 8) hq rfl) ?_
   exact ak rfl rfl ⟨rfl, rfl⟩
end
def sC (ap : Int → List aF → List Int → List aF) : List Int → List (List Int) → List aF → List aF
 | [], _, run => run
 | n :: ns, fs, run => sC ap ns (fs.drop 1) (ap n run (fs.headD []))
structure zU (u : AV) (ap : Int → List aF → List Int → List aF) : Prop where
 ac : ∀ (n : Int) (run : List aF) (forms : List Int), run.length ≤ 1000000 → AC Tryz.prog 18 [u, az n, .imm 6 (run.map bM), .imm 1 (aU forms)] [cz] fun c L => c = .imm 6 ((ap n run forms).map bM) ∧ L = [cz]
 len : ∀ (n : Int) (run : List aF) (forms : List Int), run.length ≤ 1000000 → (ap n run forms).length ≤ 1000000
theorem pv {ms : List Bool} {ls : List aQ} {l : aQ} {forms : List Int} : ∀ (k i : Nat) (run : List aF), er run.length (tA ms ls l forms k i run).length
 | 0, _, _ => by unfold er; rw [tA]; omega
 | k + 1, i, run => by
  rw [tA]
  split
  ·split
   ·exact pv k (i + 1) run
   ·exact (iQ 4 l _ _ run).trans (pv k _ _)
  ·unfold er; omega
theorem kP {ms : List Bool} {ls : List aQ} {l : aQ} {forms : List Int} : ∀ (k : Nat) (run : List aF), er run.length (gZ ms ls l forms k run).length
 | 0, _ => by unfold er; rw [gZ]; omega
 | i + 1, run => by
  rw [gZ]
  split
  ·exact kP i run
  ·exact (iQ 4 l _ _ run).trans (kP i _)
theorem rG {ms : List Bool} {ls : List aQ} {n : Int} {run : List aF} {forms : List Int} : er run.length (cT ms ls n run forms).length := by
 have hs : er run.length run.length := by unfold er; omega
 unfold cT
 split
 ·exact hs
 ·split
  ·exact hs
  ·split
   ·exact hs
   ·split
    ·exact kP _ _
    ·exact pv _ _ _
theorem Cp {E : lZ} (hE : lh E) : zU (.iptr (d9 E)) (cT E.ms E.ls) := ⟨fun n run forms hr => vJ hE n run hr forms, fun _ _ _ hr => rG.big hr⟩
def Ct : AV → Bool
 | .iptr _ => true
 | .sc (.pointer none) => true
 | _ => false
set_option maxHeartbeats 4000000 in
theorem z2 (cs : List AV) {ap : Int → List aF → List Int → List aF} (h : zU (.iptr cs) ap) (ns : List Int) (fs : List (List Int)) (run : List aF) (hr : run.length ≤ 1000000) : AC Tryz.prog 22 [.iptr cs, .imm 1 (aU ns), .imm 1 (b7 fs), .imm 6 (run.map bM)] [cz] fun c L => c = .imm 6 ((sC ap ns fs run).map bM) ∧ L = [cz] := by
 refine aB Tryz.func22 rfl Tryz.ntmps22 rfl fun B => ?_
 refine cf 1 rfl rfl fun hlen => ?_
 have hcl := w7 run hr
 have hnl := b6 ns
 rw [hnl] at hlen
 have hfl := bQ fs
 repeat' (first|refine a8 ?_|refine a0 ?_|refine a5 ?_|refine a6 ?_|refine a7 a4 rfl rfl ?_)
 refine aN [] [cz] hcl rfl rfl (Do _) rfl fun c L1 ⟨q, hq, hc, hL⟩ => ?_
 subst hc; subst hL
 repeat' (first|refine a8 ?_|refine a0 ?_|refine aj ?_|refine a5 ?_|refine a6 ?_|refine a7 a4 rfl rfl ?_)
 refine cX (oL (t := 3) hq rfl) ?_
 refine aK [2, 9, 17, 18] (α := Nat × List aF) (fun s => [(19, az s.1), (3, .imm 6 (s.2.map bM))]) (fun s => s.1 ≤ ns.length ∧ s.2.length ≤ 1000000 ∧ sC ap (ns.drop s.1) (fs.drop s.1) s.2 = sC ap ns fs run) (fun _ => [cz]) (fun s => ns.length - s.1) (0, run) rfl ⟨rfl, rfl, trivial⟩ ⟨Nat.zero_le _, hr, rfl⟩ (fun _ _ h => h) ?_
 rintro ⟨k, run1⟩ ⟨hk, hr1, hv⟩
 dsimp only at hk hr1 hv ⊢
 try dsimp only [Ds, Dr, Dq, Dn]
 repeat' (first|refine a8 ?_|refine a0 ?_|refine a5 ?_|refine a6 ?_|refine a7 a4 rfl rfl ?_)
 refine aq rfl (fun h0 => ?_) (fun h0 => ?_)
 ·have hk2 : k < ns.length := by have := Dz h0; omega
  obtain ⟨n, hn⟩ : ∃ n, ns[k]? = some n := ⟨_, Bj hk2⟩
  have hng := bI hn
  rw [List.drop_eq_getElem_cons hk2, (Dp hn).2, sC, List.drop_drop] at hv
  clear h0
  repeat' (first|refine a8 ?_|refine a0 ?_|refine aj ?_|refine ah ?_|refine a5 ?_|refine a6 ?_|refine a7 a4 rfl rfl ?_|(apply aE; first|refine aD a4 ?_|refine aA a4 ?_)|fail)
  refine aq rfl (fun h1 => ?_) (fun h1 => ?_)
  ·have hf : k < fs.length := by have := Dz h1; omega
   obtain ⟨f, hfg⟩ : ∃ f, fs[k]? = some f := ⟨_, Bj hf⟩
   have hfgg := fm hfg
   have hh : (fs.drop k).headD [] = f := by rw [List.drop_eq_getElem_cons hf, (Dp hfg).2]; rfl
   rw [hh] at hv
   have hap := h.ac n run1 f hr1
   clear h1
   repeat' (first|refine a0 ?_|refine a5 ?_|refine a6 ?_|refine a7 a4 rfl rfl ?_|(apply aE; first|refine aD a4 ?_|refine aA a4 ?_)|fail)
   refine fS [cz] [] (gz.fnB (f := 18) (fs := [.iptr cs]) (caps := []) hap) rfl rfl (Do _) rfl rfl fun c L1 ⟨hc, hL⟩ => ?_
   subst hc; subst hL
   repeat' (first|refine a0 ?_|refine a5 ?_|refine aH ?_|refine a6 ?_|refine a7 a4 rfl rfl ?_|(apply aS; refine aR ?_)|fail)
   exact ay (k + 1, _) rfl ⟨by rw [Dv]; rfl, rfl, trivial⟩ ⟨hk2, h.len _ _ _ hr1, hv⟩ (by dsimp only; omega) (fun _ _ h => h)
  ·have hf : fs.length ≤ k := by have := Dy h1; omega
   have hh : (fs.drop k).headD [] = [] := by rw [List.drop_eq_nil_of_le hf]; rfl
   rw [hh] at hv
   have hap := AC.args (a := [.iptr cs, az n, .imm 6 (run1.map bM), .sc (.slice none 0 0)]) (h.ac n run1 [] hr1) ⟨dG.refl _, dG.refl _, dG.refl _, dG.nil 1, trivial⟩
   clear h1
   repeat' (first|refine a0 ?_|refine ah ?_|refine a5 ?_|refine a7 a4 rfl rfl ?_)
   refine fS [cz] [] (gz.fnB (f := 18) (fs := [.iptr cs]) (caps := []) hap) rfl rfl (Do _) rfl rfl fun c L1 ⟨hc, hL⟩ => ?_
   subst hc; subst hL
   repeat' (first|refine a0 ?_|refine a5 ?_|refine aH ?_|refine a6 ?_|refine a7 a4 rfl rfl ?_|(apply aS; refine aR ?_)|fail)
   exact ay (k + 1, _) rfl ⟨by rw [Dv]; rfl, rfl, trivial⟩ ⟨hk2, h.len _ _ _ hr1, hv⟩ (by dsimp only; omega) (fun _ _ h => h)
 ·have hk2 : k = ns.length := by have := Dy h0; omega
  subst hk2
  rw [List.drop_length] at hv
  have hv2 : run1 = sC ap ns fs run := hv
  repeat' (first|refine a8 ?_|refine a0 ?_|refine ae ?_|refine aL ?_|refine a5 ?_|refine ar ?_|refine av ?_|refine au ?_|refine a6 ?_|refine a7 a4 rfl rfl ?_)
  exact ak rfl rfl ⟨by rw [← hv2], rfl⟩
end Go.Proofs.YtpmdfoaadejmkaaGreatDoor
namespace Go.Proofs.YtpmdfoaadejmkaaGreatDoor
open Go.RowKit
attribute [local irreducible] AT bf AX AO Av Kt aZ df DA cA
theorem fA {α : Type} {g : α → Nat} {k : Nat} : ∀ {l : List α} {m : Nat}, m ≤ k → (∀ x ∈ l, g x ≤ k) → l.foldl (fun m x => max m (g x)) m ≤ k
 | [], _, h, _ => h
 | a :: l, m, h, hl => by
  rw [List.foldl_cons]
  exact fA (by have := hl a (by simp); omega) fun x hx => hl x (by simp [hx])
theorem uw (rs : List aT) : gM lB rs = od rs := by
 funext n
 unfold gM od lB
 rfl
theorem rJ (rs : List aT) (gl : List Int) : bF (dm (rs.map aT.Back) (gM mt rs) gl) (rs.map aT.Back).length = bF (dm (rs.map aT.Back) (fun _ => true) gl) (rs.map aT.Back).length := by
 refine eW fun i => ?_
 rw [bC, bC]
 by_cases hi : i < (rs.map aT.Back).length
 ·rw [Du] at hi
  congr 1
  unfold dm gM
  rw [List.getElem?_map, Bj hi]
  rfl
 ·rw [decide_eq_false hi, Bool.false_and, Bool.false_and]
def yj (l : aQ) (a : i3) : lY := ⟨l, a.cls, a.fore, a.back, a.foreE, a.backE⟩
theorem rf {cls : List Int} {rows : List (List (List Int))} {hv : Nat → Bool} {C : Nat} {tab : List (List Int)} {ends : List Nat} (h : nQ cls rows hv C tab ends) (hr : rows.length ≤ 6) : ∀ z ∈ ends, z < 2 ^ 64 := by
 intro z hz
 obtain ⟨met, h0, h1, h2, h3, h4⟩ := h.met
 obtain ⟨i, hi⟩ := List.mem_iff_getElem?.1 hz
 have hil := (Dp hi).1
 obtain ⟨p, hp⟩ : ∃ p, met[i]? = some p := ⟨_, Bj (by omega)⟩
 have := h3 i p hp
 rw [hi] at this
 cases this
 unfold gc
 split
 ·exact Nat.pow_pos (by omega)
 ·refine Nat.lt_of_le_of_lt Nat.and_le_right ?_
  exact kL (by omega)
theorem y5 {N : Nat} {l : aQ} (h : sO N l) {a : i3} (hb : sP N l.Rules a) : i4 (yj l a) := by
 have hcs : ∀ z ∈ a.cls, z.toNat < (eI a.cls).toNat := fun z hz => by
  have h1 := hb.cls.dom z hz
  omega
 have hf : ∀ r ∈ l.Rules, (cL r).length ≤ 200 ∧ r.Back.length ≤ 200 := fun r hr => by
  have := (h.rule r hr).long
  have := iv r
  omega
 refine ⟨h.few, ⟨rf hb.fore (by rw [Du]; exact h.few), rf hb.back (by rw [Du]; exact h.few)⟩, fun gl => ?_, fun gl => ?_, ?_, ?_⟩
 ·have := lM hb.cls (rows := l.Rules.map cL) (fun dl hrow s hs => ?_) hb.fore hcs gl
  ·rw [uw] at this
   exact this
  ·obtain ⟨r, hr, rfl⟩ := List.mem_map.1 hrow
   have hbr := h.rule r hr
   refine ⟨List.mem_flatMap.2 ⟨r, hr, ?_⟩, ?_⟩
   ·rw [List.mem_append, List.mem_append]
    rcases iw hs with hs | hs
    ·exact .inl (.inr hs)
    ·exact .inr hs
   ·rcases iw hs with hs | hs
    ·exact (hbr.in_ s hs).2
    ·exact (hbr.ahead s hs).2
 ·have := lM hb.cls (rows := l.Rules.map aT.Back) (fun dl hrow s hs => ?_) hb.back hcs gl
  ·rw [rJ] at this
   exact this
  ·obtain ⟨r, hr, rfl⟩ := List.mem_map.1 hrow
   exact ⟨List.mem_flatMap.2 ⟨r, hr, by rw [List.mem_append, List.mem_append]; exact .inl (.inl hs)⟩, ((h.rule r hr).back s hs).2⟩
 ·exact fA (by omega) fun r hr => by have := (h.rule r hr).long; show r.In.length + r.Ahead.length ≤ _; omega
 ·exact fA (by omega) fun r hr => by have := (h.rule r hr).long; show r.Back.length ≤ _; omega
theorem w6 (l : List Int) (hl : l.length ≤ 1000000) : bk Tryz.prog 96 [.imm 1 (aU l)] (.imm 1 (aU l)) := by
 refine aB Tryz.func96 rfl Tryz.ntmps96 rfl fun B => ?_
 have hml := b6 l
 repeat' (first|refine a8 ?_|refine a0 ?_|refine a5 ?_|refine a6 ?_|refine a7 a4 rfl rfl ?_)
 refine pk a4 rfl rfl rfl rfl rfl fun b hb => ?_
 repeat' (first|refine a5 ?_|refine a6 ?_)
 cases b with
 | true =>
  rw [hb rfl]
  repeat' (first|refine a8 ?_|refine a0 ?_|refine ae ?_|refine a5 ?_|refine am ?_|refine a6 ?_|refine a7 a4 rfl rfl ?_|refine br rfl ?_)
  refine bA (bR (t := 2) (c' := .imm 1 []) rfl fun σ v h => j4 1 h) ?_
  exact ak rfl rfl rfl
 | false =>
  repeat' (first|refine a8 ?_|refine a0 ?_|refine ah ?_|refine a5 ?_|refine a7 a4 rfl rfl ?_|refine qN (d := 5) a4 fun _=>?_|refine bB rfl ?_)
  refine cu a4 [] rfl rfl rfl rfl (Do _) (by rw [hml]; simp; omega) (by rw [hml]; simp; omega) rfl fun k' => ?_
  repeat' (first|refine ae ?_|refine a5 ?_|refine a6 ?_|refine a7 a4 rfl rfl ?_)
  refine bA (bR (t := 2) (c' := .imm 1 (aU l)) rfl fun σ v h => VR.im h) ?_
  refine du (List.nil_sublist _) ?_
  exact ak rfl rfl rfl
theorem Az (l : List i6) (hl : l.length ≤ 1000000) : bk Tryz.prog 97 [.imm 2 (l.map f7)] (.imm 2 (l.map f7)) := by
 refine aB Tryz.func97 rfl Tryz.ntmps97 rfl fun B => ?_
 have hml : (l.map f7).length = l.length := Du ..
 repeat' (first|refine a8 ?_|refine a0 ?_|refine a5 ?_|refine a6 ?_|refine a7 a4 rfl rfl ?_)
 refine pk a4 rfl rfl rfl rfl rfl fun b hb => ?_
 repeat' (first|refine a5 ?_|refine a6 ?_)
 cases b with
 | true =>
  rw [hb rfl]
  repeat' (first|refine a8 ?_|refine a0 ?_|refine ae ?_|refine a5 ?_|refine am ?_|refine a6 ?_|refine a7 a4 rfl rfl ?_|refine br rfl ?_)
  refine bA (bR (t := 2) (c' := .imm 2 []) rfl fun σ v h => j4 2 h) ?_
  exact ak rfl rfl rfl
 | false =>
  repeat' (first|refine a8 ?_|refine a0 ?_|refine ah ?_|refine a5 ?_|refine a7 a4 rfl rfl ?_|refine qN (d := 5) a4 fun _=>?_|refine bB rfl ?_)
  refine cu a4 [] rfl rfl rfl rfl (Do _) (by rw [hml]; simp; omega) (by rw [hml]; simp; omega) rfl fun k' => ?_
  repeat' (first|refine ae ?_|refine a5 ?_|refine a6 ?_|refine a7 a4 rfl rfl ?_)
  refine bA (bR (t := 2) (c' := .imm 2 (l.map f7)) rfl fun σ v h => VR.im h) ?_
  refine du (List.nil_sublist _) ?_
  exact ak rfl rfl rfl
abbrev de : AV := .sc (.slice none 0 0)
def eo {α : Type} (w : α → List AV) (z : List AV) (l : List α) (i : Nat) : List (List AV) := (l.take i).map w ++ List.replicate (l.length - i) z
theorem mJ {α : Type} {w : α → List AV} {z : List AV} {l : List α} : eo w z l 0 = List.replicate l.length z := by simp [eo]
theorem o5 {α : Type} {w : α → List AV} {z : List AV} {l : List α} : eo w z l l.length = l.map w := by simp [eo]
theorem o7 {α : Type} {w : α → List AV} {z : List AV} {l : List α} {i : Nat} {x : α} (h : l[i]? = some x) : (eo w z l i).set i (w x) = eo w z l (i + 1) := by
 have hi := (Dp h).1
 unfold eo
 rw [List.set_append, if_neg (by rw [Du, List.length_take]; omega), Du, List.length_take, Nat.min_eq_left (by omega), Nat.sub_self, show l.length - i = (l.length - (i + 1)) + 1 by omega, List.replicate_succ, List.set_cons_zero, List.take_add_one, h]
 simp
theorem o6 {α : Type} {w : α → List AV} {z : List AV} {l : List α} {i : Nat} (hi : i ≤ l.length) : (eo w z l i).length = l.length := by
 unfold eo
 rw [List.length_append, Du, List.length_take, List.length_replicate]
 omega
theorem kT {sz : Nat} : ∀ {l : List (List AV)} {i : Nat} {e : List AV}, (∀ q ∈ l, q.length = sz) → e.length = sz → i < l.length → eE l.flatten (i * sz) e = (l.set i e).flatten
 | [], _, _, _, _, h => by simp at h
 | q :: l, 0, e, hs, he, _ => by
  have hq := hs q (by simp)
  rw [List.set_cons_zero, List.flatten_cons, List.flatten_cons, Nat.zero_mul]
  apply List.ext_getElem?
  intro j
  rw [eu _ _ _ _ (by rw [List.length_append]; omega)]
  by_cases hj : j < e.length
  ·rw [if_pos (by omega), Nat.sub_zero, List.getElem?_append_left hj]
  ·rw [if_neg (by omega), List.getElem?_append_right (by omega), List.getElem?_append_right (by omega), hq, he]
 | q :: l, i + 1, e, hs, he, h => by
  have hq := hs q (by simp)
  have ih := kT (l := l) (i := i) (e := e) (fun x hx => hs x (by simp [hx])) he (by simpa using h)
  have hlen : i * sz + e.length ≤ l.flatten.length := by
   have hl : l.flatten.length = l.length * sz := dC l fun x hx => hs x (by simp [hx])
   rw [hl, he]
   have : (i + 1) * sz ≤ l.length * sz := Nat.mul_le_mul_right _ (by simp at h; omega)
   rw [Nat.add_mul, Nat.one_mul] at this
   exact this
  rw [List.set_cons_succ, List.flatten_cons, List.flatten_cons, ← ih]
  apply List.ext_getElem?
  intro j
  have e1 : (i + 1) * sz = i * sz + sz := by rw [Nat.add_mul, Nat.one_mul]
  rw [eu _ _ _ _ (by rw [List.length_append]; omega), e1]
  by_cases hj : j < sz
  ·rw [if_neg (by omega), List.getElem?_append_left (by omega), List.getElem?_append_left (by omega)]
  ·rw [List.getElem?_append_right (by omega), List.getElem?_append_right (by omega), eu _ _ _ _ hlen, hq]
   by_cases h2 : i * sz ≤ j - sz ∧ j - sz < i * sz + e.length
   ·rw [if_pos h2, if_pos (by omega)]
    congr 1
    omega
   ·rw [if_neg h2, if_neg (by omega)]
set_option maxHeartbeats 4000000 in
theorem nE (l : List (List Int)) (hl : l.length ≤ 1000000) (hs : ∀ s ∈ l, s.length ≤ 1000000) : bk Tryz.prog 95 [.imm 1 (b7 l)] (.imm 1 (b7 l)) := by
 refine aB Tryz.func95 rfl Tryz.ntmps95 rfl fun B => ?_
 have hil := bQ l
 repeat' (first|refine a8 ?_|refine a0 ?_|refine a5 ?_|refine a6 ?_|refine a7 a4 rfl rfl ?_)
 refine gP a4 l.length rfl rfl rfl rfl rfl (by rw [hil]) (by rw [hil]) (by omega) (by omega) rfl fun rb => ?_
 repeat' (first|refine a8 ?_|refine a0 ?_|refine aj ?_|refine a5 ?_|refine a6 ?_|refine a7 a4 rfl rfl ?_)
 refine aK [3, 9, 10] (α := Nat) (fun i => [(11, az i)]) (fun i => i ≤ l.length) (fun i => [(rb, .box (eo (fun s => [AV.imm 1 (aU s)]) [de] l i).flatten 22)]) (fun i => l.length - i) 0 rfl ⟨rfl, trivial⟩ (Nat.zero_le _) (fun _ _ hh => by rw [mJ]; exact hh) fun i hi => ?_
 try dsimp only [Ds, Dr, Dq, Dn]
 repeat' (first|refine a8 ?_|refine a0 ?_|refine a5 ?_|refine a6 ?_|refine a7 a4 rfl rfl ?_)
 refine aq rfl (fun h1 => ?_) (fun h1 => ?_)
 ·have hi2 : i < l.length := by have := Dz h1; omega
  obtain ⟨s, hsi⟩ : ∃ z, l[i]? = some z := ⟨_, Bj hi2⟩
  have hsg := fm hsi
  haveI := AD.mk (w6 s (hs s (Dw hsi)))
  have hsz : ∀ q ∈ eo (fun s => [AV.imm 1 (aU s)]) [de] l i, q.length = 1 := by
   intro q hq
   unfold eo at hq
   rw [List.mem_append] at hq
   rcases hq with hq | hq
   ·obtain ⟨_, _, rfl⟩ := List.mem_map.1 hq; rfl
   ·rw [(List.mem_replicate.1 hq).2]; rfl
  have hfl := o6 (w := fun s => [AV.imm 1 (aU s)]) (z := [de]) (l := l) (i := i) hi
  have hput := kT (sz := 1) (l := eo (fun s => [AV.imm 1 (aU s)]) [de] l i) (i := i) (e := [AV.imm 1 (aU s)]) hsz rfl (by omega)
  rw [o7 hsi] at hput
  have hfll : (eo (fun s => [AV.imm 1 (aU s)]) [de] l i).flatten.length = l.length * 1 := by rw [dC _ hsz, hfl]
  clear h1
  repeat' (first|refine a8 ?_|refine a0 ?_|refine aj ?_|refine ah ?_|refine a5 ?_|refine a6 ?_|refine a7 a4 rfl rfl ?_|(apply aE; first|refine aD a4 ?_|refine aA a4 ?_)|(apply bb;refine b4 ?_)|fail)
  refine aa a4 0 rfl rfl rfl rfl rfl rfl (Nat.ble_eq_true_of_le (by rw [hfll, Int.toNat_natCast]; show 0 + i * 1 + 1 ≤ _; omega)) ?_
  repeat' (first|refine a0 ?_|refine a5 ?_|refine aH ?_|refine a6 ?_|refine a7 a4 rfl rfl ?_|(apply aS; refine aR ?_)|fail)
  refine ay (i + 1) rfl ⟨by rw [Dv]; rfl, trivial⟩ hi2 (by omega) (fun _ _ hh => ?_)
  rw [← hput]
  rw [Int.toNat_natCast, Nat.zero_add] at hh
  exact hh
 ·have hi2 : i = l.length := by have := Dy h1; omega
  subst hi2
  rw [o5]
  clear h1
  repeat' (first|refine a8 ?_|refine a0 ?_|refine ae ?_|refine aL ?_|refine a5 ?_|refine ar ?_|refine av ?_|refine au ?_|refine a6 ?_|refine a7 a4 rfl rfl ?_)
  have hml : (l.map fun s => [AV.imm 1 (aU s)]).flatten.length = l.length * 1 := by rw [dC _ (sz := 1) (fun q hq => by obtain ⟨_, _, rfl⟩ := List.mem_map.1 hq; rfl), Du]
  refine bA (gt (t := 2) (sz := 1) (n := l.length) (cap := l.length) (l := b7 l) 0 rfl rfl (by rw [List.take_of_length_le (by omega)]; rfl) (by omega) (fun e he => by unfold b7 at he; obtain ⟨_, _, rfl⟩ := List.mem_map.1 he; rfl) hil (Nat.le_refl _) (by unfold maxLen; omega)) ?_
  exact ak rfl rfl rfl
def fV (r : aT) : List AV := [de, .imm 1 (b7 r.In), de, .imm 1 (aU r.Out), .imm 2 (r.Calls.map f7), az r.X]
theorem xF (r : aT) : nR (fV r) (bH (dr r)) := ⟨dG.nil 1, dG.refl _, dG.nil 1, dG.refl _, dG.refl _, dG.refl _, trivial⟩
theorem tO {α : Type} {a b : α → List AV} (h : ∀ x, nR (a x) (b x)) : ∀ (l : List α), A4 (l.map a) (l.map b)
 | [] => trivial
 | x :: l => ⟨h x, tO h l⟩
structure zw (r : aT) : Prop where
 in_ : r.In.length ≤ 1000000 ∧ ∀ s ∈ r.In, s.length ≤ 1000000
 out : r.Out.length ≤ 1000000
 calls : r.Calls.length ≤ 1000000
set_option maxHeartbeats 8000000 in
theorem qk (l : aQ) (hl : l.Rules.length ≤ 1000000) (hr : ∀ r ∈ l.Rules, zw r) : bk Tryz.prog 33 [.agg (bn l)] (.agg (bn (fZ l))) := by
 refine aB Tryz.func33 rfl Tryz.ntmps33 rfl fun B => ?_
 have hml : (l.Rules.map bH).length = l.Rules.length := Du ..
 repeat' (first|refine a8 ?_|refine a0 ?_|refine a5 ?_|refine a6 ?_|refine a7 a4 rfl rfl ?_|refine aX ?_|refine aY a4 fun _=>?_|fail)
 refine gP a4 l.Rules.length rfl rfl rfl rfl rfl (by rw [hml]) (by rw [hml]) (by omega) (by omega) rfl fun rb => ?_
 repeat' (first|refine a8 ?_|refine a0 ?_|refine aj ?_|refine a5 ?_|refine a6 ?_|refine a7 a4 rfl rfl ?_)
 rename_i r2
 refine aK [1, 2, 3, 11, 12] (α := Nat) (fun i => [(13, az i)]) (fun i => i ≤ l.Rules.length) (fun i => [(rb, .box (eo fV [de, de, de, de, de, az 0] l.Rules i).flatten 79), (r2, .box [az 0, dx false, de] 59)]) (fun i => l.Rules.length - i) 0 rfl ⟨rfl, trivial⟩ (Nat.zero_le _) (fun _ _ hh => by rw [mJ]; exact hh) fun i hi => ?_
 try dsimp only [Ds, Dr, Dq, Dn]
 repeat' (first|refine a8 ?_|refine a0 ?_|refine a5 ?_|refine a6 ?_|refine a7 a4 rfl rfl ?_)
 refine aq rfl (fun h1 => ?_) (fun h1 => ?_)
 ·have hi2 : i < l.Rules.length := by have := Dz h1; omega
  obtain ⟨r, hri⟩ : ∃ z, l.Rules[i]? = some z := ⟨_, Bj hi2⟩
  have hrg : (l.Rules.map bH)[i]? = some (bH r) := by simp [hri]
  have hcr := hr r (Dw hri)
  haveI := AD.mk (nE r.In hcr.in_.1 hcr.in_.2)
  haveI := AD.mk (w6 r.Out hcr.out)
  haveI := AD.mk (Az r.Calls hcr.calls)
  have hsz : ∀ q ∈ eo fV [de, de, de, de, de, az 0] l.Rules i, q.length = 6 := by
   intro q hq
   unfold eo at hq
   rw [List.mem_append] at hq
   rcases hq with hq | hq
   ·obtain ⟨_, _, rfl⟩ := List.mem_map.1 hq; rfl
   ·rw [(List.mem_replicate.1 hq).2]; rfl
  have hfl := o6 (w := fV) (z := [de, de, de, de, de, az 0]) (l := l.Rules) (i := i) hi
  have hput := kT (sz := 6) (l := eo fV [de, de, de, de, de, az 0] l.Rules i) (i := i) (e := fV r) hsz rfl (by omega)
  rw [o7 hri] at hput
  have hfll : (eo fV [de, de, de, de, de, az 0] l.Rules i).flatten.length = l.Rules.length * 6 := by rw [dC _ hsz, hfl]
  clear h1
  repeat' (first|refine a8 ?_|refine a0 ?_|refine aj ?_|refine ah ?_|refine a5 ?_|refine a6 ?_|refine a7 a4 rfl rfl ?_|(apply aE; first|refine aD a4 ?_|refine aA a4 ?_)|(apply aO; first|refine a9 5 a4 0 rfl rfl rfl rfl rfl rfl rfl rfl ?_|refine a9 5 a4 1 rfl rfl rfl rfl rfl rfl rfl rfl ?_|refine a9 5 a4 2 rfl rfl rfl rfl rfl rfl rfl rfl ?_|refine aa a4 0 rfl rfl rfl rfl rfl rfl rfl ?_|refine aa a4 1 rfl rfl rfl rfl rfl rfl rfl ?_|refine aa a4 2 rfl rfl rfl rfl rfl rfl rfl ?_|refine aa a4 3 rfl rfl rfl rfl rfl rfl rfl ?_|fail)|refine aY a4 fun _=>?_|fail)
  refine bj 14 [(0, .v), (1, .v), (2, .v), (3, .v), (4, .v), (5, .v), (6, .v), (7, .v), (8, .v), (9, .v), (10, .v), (11, .v), (12, .v), (13, .v)] none ?_ trivial rfl (by kernel_rfl) (by kernel_rfl) (by kernel_rfl) c9 (by kernel_rfl) rfl
  repeat' (first|refine aC ?_|refine bh a4 ?_|(apply cK;refine da ?_)|fail)
  refine bv [1, 2, 3, 11, 12, 13, 18, 19, 31] rfl rfl ?_
  repeat' (first|(apply aE; first|refine aD a4 ?_|refine aA a4 ?_)|fail)
  refine aa a4 0 rfl rfl rfl rfl rfl rfl (Nat.ble_eq_true_of_le (by rw [hfll, Int.toNat_natCast]; show 0 + i * 6 + 6 ≤ _; omega)) ?_
  repeat' (first|refine a0 ?_|refine a5 ?_|refine aH ?_|refine a6 ?_|refine a7 a4 rfl rfl ?_|(apply aS; refine aR ?_)|fail)
  refine ay (i + 1) rfl ⟨by rw [Dv]; rfl, trivial⟩ hi2 (by omega) (fun _ _ hh => ?_)
  rw [← hput]
  rw [Int.toNat_natCast, Nat.zero_add] at hh
  exact hh
 ·have hi2 : i = l.Rules.length := by have := Dy h1; omega
  subst hi2
  rw [o5]
  clear h1
  have hsz : ∀ q ∈ l.Rules.map fV, q.length = 6 := fun q hq => by obtain ⟨_, _, rfl⟩ := List.mem_map.1 hq; rfl
  have hml2 : (l.Rules.map fV).flatten.length = l.Rules.length * 6 := by rw [dC _ hsz, Du]
  refine cX (gt (t := 3) (sz := 6) (n := l.Rules.length) (cap := l.Rules.length) (l := l.Rules.map fV) 0 rfl rfl (by rw [List.take_of_length_le (by omega)]) (by omega) hsz (Du ..) (Nat.le_refl _) (by unfold maxLen; omega)) ?_
  refine cX (bR (t := 3) (c' := .imm 6 ((fZ l).Rules.map bH)) rfl fun σ v h => ?_) ?_
  ·have e : (fZ l).Rules.map bH = l.Rules.map fun r => bH (dr r) := by unfold fZ; rw [List.map_map]; rfl
   rw [e]
   exact dG.imm (tO xF l.Rules) σ v h
  repeat' (first|refine a8 ?_|refine a0 ?_|refine ae ?_|refine aL ?_|refine a5 ?_|refine ar ?_|refine av ?_|refine au ?_|refine a6 ?_|refine a7 a4 rfl rfl ?_|(apply aO; first|refine a9 5 a4 0 rfl rfl rfl rfl rfl rfl rfl rfl ?_|refine a9 5 a4 1 rfl rfl rfl rfl rfl rfl rfl rfl ?_|refine a9 5 a4 2 rfl rfl rfl rfl rfl rfl rfl rfl ?_|refine aa a4 0 rfl rfl rfl rfl rfl rfl rfl ?_|refine aa a4 1 rfl rfl rfl rfl rfl rfl rfl ?_|refine aa a4 2 rfl rfl rfl rfl rfl rfl rfl ?_|refine aa a4 3 rfl rfl rfl rfl rfl rfl rfl ?_|fail))
  exact fc (cs := [.agg (bn (fZ l))]) [] ⟨⟨_, 0, _, _, rfl, rfl, .inr ⟨dB a4 rfl, rfl⟩⟩, trivial⟩ (List.nil_sublist _) rfl
end Go.Proofs.YtpmdfoaadejmkaaGreatDoor
