/-
  An engine's passes over a run.
-/
import Derived.Test.YtpmdfoaadejmkaaGreatDoorM18
import Derived.Test.YtpmdfoaadejmkaaGreatDoorM15
import Derived.Test.YtpmdfoaadejmkaaGreatDoorM14
import Derived.Test.YtpmdfoaadejmkaaGreatDoorM17
namespace Go.Proofs.YtpmdfoaadejmkaaGreatDoor
open Go.RowKit
attribute [local irreducible] AT bh AX AO Av Kt b6 dh DA cE
theorem w7 (run : List aF) (hr : run.length ≤ 1000000) : AC Tryz.prog 36 [.imm 6 (run.map bM)] [] fun c L => ∃ q, cU q run ∧ c = du q run ∧ L = lj q run := by
 refine aB Tryz.func36 rfl Tryz.ntmps36 rfl fun B => ?_
 have hml : (run.map bM).length = run.length := Du ..
 repeat' (first|refine a8 ?_|refine a0 ?_|refine a5 ?_|refine a6 ?_|refine a7 a4 rfl rfl ?_)
 refine pu a4 rfl rfl rfl rfl rfl fun b hb => ?_
 repeat' (first|refine a5 ?_|refine a6 ?_)
 cases b with
 | true =>
  have hn : run = [] := by simpa using hb rfl
  subst hn
  repeat' (first|refine a8 ?_|refine a0 ?_|refine ae ?_|refine a5 ?_|refine an ?_|refine a6 ?_|refine a7 a4 rfl rfl ?_|refine br rfl ?_)
  refine bA (bR (t := 2) (c' := .imm 6 []) rfl fun σ v h => j9 6 h) ?_
  exact am rfl rfl ⟨none, ⟨fun _ => rfl, fun m h => by cases h⟩, rfl, rfl⟩
 | false =>
  repeat' (first|refine a8 ?_|refine a0 ?_|refine ah ?_|refine a5 ?_|refine a7 a4 rfl rfl ?_|refine AW (d := 5) a4 rfl rfl fun _=>?_|refine bB rfl ?_)
  rename_i b5
  refine j3 a4 0 rfl rfl rfl rfl (rc rfl rfl) rfl (Nat.zero_le _) (Nat.le_refl _) (Nat.zero_le _) (by rw [hml]; unfold maxLen; omega) (by rw [hml]; omega) rfl fun b' cs' cap' e1 e2 e3 e4 e5 => ?_
  repeat' (first|refine ae ?_|refine a5 ?_|refine a6 ?_|refine a7 a4 rfl rfl ?_)
  have hcs : cs' = bo run ++ cs'.drop (run.length * 6) := by
   conv => lhs; rw [← List.take_append_drop (run.length * 6) cs']
   rw [Nat.zero_add, hml] at e2
   rw [e2]
   rfl
  refine am rfl rfl ⟨some ⟨b', cap', cs'.drop (run.length * 6)⟩, ⟨fun h => (by cases h), fun m hm => ?_⟩, ?_, ?_⟩
  ·cases hm
   dsimp only
   rw [← hcs]
   exact ⟨by omega, e4, e1⟩
  ·unfold du
   dsimp only
   rw [Nat.zero_add, hml]
  ·unfold lj
   dsimp only
   rw [← hcs]
   rfl
theorem mR {R : List aF} : ∀ {l : List Nat}, R.length ≤ (dO l R).length + l.length
 | [] => by simp [dO]
 | z :: l => by
  have := mR (R := R) (l := l)
  have h2 : (dO l R).length ≤ ((dO l R).eraseIdx z).length + 1 := by rw [List.length_eraseIdx]; split <;> omega
  rw [dO, List.length_cons]
  omega
theorem tG {run : List aF} {p : Nat} {q : List Nat} (h : oX run (p :: q)) : p + q.length ≤ (p :: q).getLastD p ∧ (p :: q).getLastD p < run.length ∧ (q ≠ [] ↔ p < (p :: q).getLastD p) := by
  have key : ∀ (q : List Nat) (p : Nat), (p :: q).Pairwise (· < ·) → p + q.length ≤ (p :: q).getLast (by simp) := by
    intro q
    induction q with
    | nil => intro p _; simp
    | cons a q ih =>
      intro p hp
      obtain ⟨h1, h2⟩ := List.pairwise_cons.1 hp
      have := ih a h2
      have := h1 a (by simp)
      rw [List.getLast_cons (by simp), List.length_cons]
      omega
  have hk := key q p h.inc
  have he : (p :: q).getLastD p = (p :: q).getLast (by simp) := by rw [List.getLastD_eq_getLast?, List.getLast?_eq_some_getLast (by simp)]; rfl
  rw [he]
  refine ⟨hk, h.lt _ (List.getLast_mem _), fun hq => ?_, fun hq e => ?_⟩
  · have : 0 < q.length := List.length_pos_iff.2 hq
    omega
  · subst e
    simp at hq
theorem nB {l : aQ} {r : aU} {run : List aF} {p : Nat} {q : List Nat} (h : oX run (p :: q)) : run.length - 1 - (p :: q).getLastD p ≤ (eO l r (p :: q) run).length := by
 obtain ⟨h1, h2, _⟩ := tG h
 unfold eO
 split
 ·unfold eD; split <;> (try split) <;> (try split) <;> (try rw [List.length_set]) <;> omega
 split
 ·unfold fK
  split
  ·omega
  ·split
   ·omega
   ·simp only [List.length_append, List.length_take, List.length_drop, Du, List.headD_cons]
    omega
 split
 ·unfold kg
  split
  ·rename_i heq _
   cases heq
   split
   ·rename_i x hx
    have key : ∀ y : aF, run.length - 1 - (p :: q).getLastD p ≤ (dO q (run.set p y)).length := fun y => by
     have := mR (R := run.set p y) (l := q)
     rw [List.length_set] at this
     omega
    exact key _
   ·omega
  ·omega
 split
 ·unfold oD; split <;> (try rw [List.length_set]) <;> omega
 ·omega
theorem wg {ms : List Bool} {ls : List aQ} {k : Nat} {l : aQ} (hk : l.Kind ≠ 4) {r : aU} {run : List aF} {p : Nat} {q : List Nat} (h : oX run (p :: q)) : run.length - 1 - (p :: q).getLastD p ≤ (gz ms ls k l r (p :: q) run).length := by
 cases k with
 | zero => rw [gz]; exact nB h
 | succ k => rw [gz]; dsimp only; rw [if_neg hk]; exact nB h
theorem su {p : Nat} {q : List Nat} : (cD (p :: q))[(((p :: q).length : Int) - 1).toNat]? = some [az ((p :: q).getLastD p : Nat)] := by
 have he : (p :: q).getLastD p = (p :: q).getLast (by simp) := by rw [List.getLastD_eq_getLast?, List.getLast?_eq_some_getLast (by simp)]; rfl
 have hi : (((p :: q).length : Int) - 1).toNat = (p :: q).length - 1 := by omega
 rw [hi, he]
 unfold cD
 refine bI ?_
 rw [List.getElem?_map, ← List.getLast?_eq_getElem?, List.getLast?_eq_some_getLast (by simp)]
 rfl
section
variable {E : mg} (hE : lx E) (wb : Nat)
include hE
set_option maxHeartbeats 8000000 in
theorem BZ (e : mf) (he : e ∈ E.lks) (h1 : 1 ≤ e.l.Kind) (h6 : e.l.Kind ≤ 6) (forms : List Int) (q0 : Option er) (run0 : List aF) (hq0 : cU q0 run0) (hr0 : run0.length ≤ 1000000) :
  AC Tryz.prog 37 [ep wb, .iptr (dP e), .imm 1 (aR forms)] (gb wb E q0 run0) (eQ wb E (tC E.ms E.ls e.l forms run0.length 0 run0)) := by
 refine aB Tryz.func37 rfl Tryz.ntmps37 rfl fun B => ?_
 have hau := hE.auto e he h1 h6
 repeat' (first|refine a8 ?_|refine a0 ?_|refine aj ?_|refine a5 ?_|refine a6 ?_|refine a7 a4 rfl rfl ?_)
 refine aK [0, 1, 2] (α := Nat × Nat × Option er × List aF) (fun s => [(6, az s.1)]) (fun s => cU s.2.2.1 s.2.2.2 ∧ s.2.2.2.length ≤ 1000000 ∧ s.1 ≤ 1000001 ∧ s.2.2.2.length - s.1 ≤ s.2.1 ∧ tC E.ms E.ls e.l forms s.2.1 s.1 s.2.2.2 = tC E.ms E.ls e.l forms run0.length 0 run0) (fun s => gb wb E s.2.2.1 s.2.2.2) (fun s => s.2.1) (0, run0.length, q0, run0) rfl ⟨rfl, trivial⟩ ⟨hq0, hr0, by dsimp only; omega, by dsimp only; omega, rfl⟩ (fun _ _ h => h) ?_
 rintro ⟨i, k, q, run⟩ ⟨hq, hr, hi1, hk, hv⟩
 dsimp only at hq hr hi1 hk hv ⊢
 try dsimp only [Ds, Dr, Dq, Dn]
 repeat' (first|refine a8 ?_|refine a0 ?_|refine a7 a4 rfl rfl ?_|(apply bD; first|refine ai a4 0 rfl rfl rfl rfl rfl ?_|refine ai a4 1 rfl rfl rfl rfl rfl ?_|refine ai a4 2 rfl rfl rfl rfl rfl ?_|refine ai a4 3 rfl rfl rfl rfl rfl ?_|refine ax a4 0 rfl rfl rfl rfl rfl ?_|refine ax a4 1 rfl rfl rfl rfl rfl ?_|refine ax a4 2 rfl rfl rfl rfl rfl ?_|refine ai a4 1 rfl rfl rfl (by assumption) rfl ?_|refine ai a4 0 rfl rfl rfl (by assumption) rfl ?_|fail)|fail)
 refine jD a4 rfl hq rfl rfl ?_
 repeat' (first|refine a5 ?_|refine a6 ?_|refine a7 a4 rfl rfl ?_)
 refine aq rfl (fun h => ?_) (fun h => ?_)
 ·have hi : i < run.length := by have := Dz h; omega
  obtain ⟨k, rfl⟩ : ∃ j, k = j + 1 := ⟨k - 1, by omega⟩
  rw [tC, if_pos hi] at hv
  have hma := n9 E e hau wb q run hq hr i (by omega) forms
  clear h
  repeat' (first|refine a8 ?_|refine a0 ?_|refine aj ?_|refine ah ?_|refine a5 ?_|refine a7 a4 rfl rfl ?_)
  refine aL (gb wb E q run) [] hma rfl rfl (by rw [List.append_nil]; exact Do _) rfl fun c L1 ⟨hc, hL⟩ => ?_
  subst hc; subst hL
  unfold iD
  cases hmv : dt E.ms e.l run i forms with
  | none =>
   rw [hmv] at hv
   dsimp only at hv ⊢
   repeat' (first|refine a8 ?_|refine a0 ?_|refine a5 ?_|refine a6 ?_|refine a7 a4 rfl rfl ?_)
   refine nd Tryz.underlying190 rfl rfl rfl rfl ?_
   repeat' (first|refine a8 ?_|refine a0 ?_|refine aM ?_|refine a5 ?_|refine ar ?_|refine aw ?_|refine a6 ?_|refine a7 a4 rfl rfl ?_|(apply aT; refine aS ?_)|refine br rfl ?_)
   exact ay (i + 1, k, q, run) rfl ⟨by rw [Dv]; rfl, trivial⟩ ⟨hq, hr, by dsimp only; omega, by dsimp only; omega, hv⟩ (by dsimp only; omega) (fun _ _ h => by rw [List.append_nil] at h; exact h)
  | some r =>
   rw [hmv] at hv
   dsimp only at hv ⊢
   obtain ⟨hps, hrm, hin, _, hhd⟩ := B8 hmv
   have hro := hE.rule e he r hrm hin
   have hdo := wh hE wb 4 0 rfl e r (cN E.ms e.l run i r) q run he h1 h6 hro hps hq hr
   generalize cN E.ms e.l run i r = ps at *
   obtain ⟨p, ps', rfl⟩ := List.exists_cons_of_ne_nil hps.some_
   simp only [List.head?_cons, Option.some.injEq] at hhd
   subst hhd
   obtain ⟨l1, l2, l3⟩ := tG hps
   have hlg := su (p := p) (q := ps')
   have hnl := j4 (p :: ps')
   have hlen := iV (ms := E.ms) (ls := E.ls) 4 e.l r (p :: ps') run
   have hr2 := hlen.big hr
   have hleft : e.l.Kind ≠ 4 → run.length - 1 - (p :: ps').getLastD p ≤ (gz E.ms E.ls 4 e.l r (p :: ps') run).length := fun h4 => wg h4 hps
   have hpl1 : (p :: ps').length = ps'.length + 1 := rfl
   have hlen1 : (1 < ((cD (p :: ps')).length : Int)) ↔ p < (p :: ps').getLastD p := by
    rw [hnl, hpl1, ← l3, ← List.length_pos_iff]
    omega
   have hpair : e.l.Kind = 6 → (gz E.ms E.ls 4 e.l r (p :: ps') run).length = run.length := fun h6 => by
    rw [gz]
    dsimp only
    rw [if_neg (by omega)]
    unfold eO
    rw [if_neg (by omega), if_neg (by omega), if_neg (by omega), if_pos h6]
    unfold oD
    split
    ·rw [List.length_set]
    ·rfl
   generalize gz E.ms E.ls 4 e.l r (p :: ps') run = run2 at *
   generalize (p :: ps').getLastD p = last at *
   repeat' (first|refine a8 ?_|refine a0 ?_|refine a5 ?_|refine a6 ?_|refine a7 a4 rfl rfl ?_)
   refine nd Tryz.underlying190 rfl rfl rfl rfl ?_
   repeat' (first|refine a8 ?_|refine a0 ?_|refine ah ?_|refine a5 ?_|refine a6 ?_|refine a7 a4 rfl rfl ?_|(apply aT; refine aS ?_)|refine bB rfl ?_)
   refine aD a4 ?_ (hl := by rw [hnl]; exact hlg) (h0 := by rw [hnl, hpl1]; omega)
   repeat' (first|refine a8 ?_|refine a0 ?_|refine a5 ?_|refine a6 ?_|refine a7 a4 rfl rfl ?_|(apply bD; first|refine ai a4 0 rfl rfl rfl rfl rfl ?_|refine ai a4 1 rfl rfl rfl rfl rfl ?_|refine ai a4 2 rfl rfl rfl rfl rfl ?_|refine ai a4 3 rfl rfl rfl rfl rfl ?_|refine ax a4 0 rfl rfl rfl rfl rfl ?_|refine ax a4 1 rfl rfl rfl rfl rfl ?_|refine ax a4 2 rfl rfl rfl rfl rfl ?_|refine ai a4 1 rfl rfl rfl (by assumption) rfl ?_|refine ai a4 0 rfl rfl rfl (by assumption) rfl ?_|fail)|fail)
   refine jD a4 rfl hq rfl rfl ?_
   repeat' (first|refine a8 ?_|refine a0 ?_|refine a5 ?_|refine a6 ?_|refine a7 a4 rfl rfl ?_|(apply aT; refine aS ?_)|fail)
   refine aL (gb wb E q run) [] hdo rfl rfl (by rw [List.append_nil]) rfl fun c L1 ⟨q', g1, g2⟩ => ?_
   subst g2
   repeat' (first|refine a8 ?_|refine a0 ?_|refine a5 ?_|refine a6 ?_|refine a7 a4 rfl rfl ?_|(apply bD; first|refine ai a4 0 rfl rfl rfl rfl rfl ?_|refine ai a4 1 rfl rfl rfl rfl rfl ?_|refine ai a4 2 rfl rfl rfl rfl rfl ?_|refine ai a4 3 rfl rfl rfl rfl rfl ?_|refine ax a4 0 rfl rfl rfl rfl rfl ?_|refine ax a4 1 rfl rfl rfl rfl rfl ?_|refine ax a4 2 rfl rfl rfl rfl rfl ?_|refine ai a4 1 rfl rfl rfl (by assumption) rfl ?_|refine ai a4 0 rfl rfl rfl (by assumption) rfl ?_|fail)|fail)
   refine jD a4 rfl g1 rfl rfl ?_
   repeat' (first|refine a8 ?_|refine a0 ?_|refine aj ?_|refine a5 ?_|refine a6 ?_|refine a7 a4 rfl rfl ?_|(apply aT; refine aS ?_)|fail)
   refine aq rfl (fun h4 => ?_) (fun h4 => ?_)
   ·have hk4 : e.l.Kind = 4 := Dz h4
    unfold tA at hv
    rw [if_pos hk4] at hv
    repeat' (first|refine a0 ?_|refine a5 ?_|refine aG ?_|refine a6 ?_|refine a7 a4 rfl rfl ?_|(apply aT; refine aS ?_)|fail)
    refine ay (max (run2.length - (run.length - 1 - last)) (p + 1), k, q', run2) rfl ⟨?_, trivial⟩ ⟨g1, hr2, by dsimp only; omega, by dsimp only; omega, hv⟩ (by dsimp only; omega) (fun _ _ h => by rw [List.append_nil] at h; exact h)
    show some (AV.sc (.int .i64 (max ((run2.length : Int) - ((run.length : Int) - 1 - last)) ((p : Int) + 1)))) = some (az ((max (run2.length - (run.length - 1 - last)) (p + 1) : Nat) : Int))
    rw [show max ((run2.length : Int) - ((run.length : Int) - 1 - last)) ((p : Int) + 1) = ((max (run2.length - (run.length - 1 - last)) (p + 1) : Nat) : Int) by omega]
   ·have hk4 : e.l.Kind ≠ 4 := Dy h4
    have hlf := hleft hk4
    repeat' (first|refine a8 ?_|refine a0 ?_|refine a7 a4 rfl rfl ?_)
    refine bG [0, 1, 2, 9, 11] (e.l.Kind = 6 ∧ p < last) rfl (fun Q' K => ?_) (fun hC => ?_) (fun hC => ?_)
    ·repeat' (first|refine a6 ?_|refine a7 a4 rfl rfl ?_|refine ak rfl rfl ?_|refine av rfl rfl rfl rfl ?_|refine aH rfl rfl rfl (fun _ => ?_) (fun _ => ?_))
     all_goals exact K _ _ rfl rfl (by rw [← hlen1]; simp_all)
    ·unfold tA at hv
     rw [if_neg hk4, if_pos hC] at hv
     repeat' (first|refine a0 ?_|refine a5 ?_|refine aG ?_|refine a6 ?_|refine a7 a4 rfl rfl ?_)
     refine ay (last, k, q', run2) rfl ⟨rfl, trivial⟩ ⟨g1, hr2, by dsimp only; omega, by have := hpair hC.1; dsimp only; omega, hv⟩ (by dsimp only; omega) (fun _ _ h => by rw [List.append_nil] at h; exact h)
    ·unfold tA at hv
     rw [if_neg hk4, if_neg hC] at hv
     repeat' (first|refine a0 ?_|refine ah ?_|refine a5 ?_|refine aG ?_|refine a6 ?_|refine a7 a4 rfl rfl ?_)
     refine ay (run2.length - (run.length - 1 - last), k, q', run2) rfl ⟨?_, trivial⟩ ⟨g1, hr2, by dsimp only; omega, by dsimp only; omega, hv⟩ (by dsimp only; omega) (fun _ _ h => by rw [List.append_nil] at h; exact h)
     show some (AV.sc (.int .i64 ((run2.length : Int) - ((run.length : Int) - 1 - last)))) = some (az ((run2.length - (run.length - 1 - last) : Nat) : Int))
     rw [show (run2.length : Int) - ((run.length : Int) - 1 - last) = ((run2.length - (run.length - 1 - last) : Nat) : Int) by omega]
 ·have hi : run.length ≤ i := by have := Dy h; omega
  have hrun : run = tC E.ms E.ls e.l forms run0.length 0 run0 := by
   rw [← hv]
   cases k with
   | zero => rw [tC]
   | succ k => rw [tC, if_neg (by omega)]
  repeat' (first|refine aM ?_|refine ar ?_|refine aw ?_|refine au ?_)
  exact ca rfl ⟨q, by rw [← hrun]; exact hq, by rw [← hrun]; rfl⟩
set_option maxHeartbeats 8000000 in
theorem wi (e : mf) (he : e ∈ E.lks) (h1 : 1 ≤ e.l.Kind) (h6 : e.l.Kind ≤ 6) (forms : List Int) (q0 : Option er) (run0 : List aF) (hq0 : cU q0 run0) (hr0 : run0.length ≤ 1000000) :
  AC Tryz.prog 38 [ep wb, .iptr (dP e), .imm 1 (aR forms)] (gb wb E q0 run0) (eQ wb E (hZ E.ms E.ls e.l forms run0.length run0)) := by
 refine aB Tryz.func38 rfl Tryz.ntmps38 rfl fun B => ?_
 have hau := hE.auto e he h1 h6
 repeat' (first|refine a8 ?_|refine a0 ?_|refine a7 a4 rfl rfl ?_|(apply bD; first|refine ai a4 0 rfl rfl rfl rfl rfl ?_|refine ai a4 1 rfl rfl rfl rfl rfl ?_|refine ai a4 2 rfl rfl rfl rfl rfl ?_|refine ai a4 3 rfl rfl rfl rfl rfl ?_|refine ax a4 0 rfl rfl rfl rfl rfl ?_|refine ax a4 1 rfl rfl rfl rfl rfl ?_|refine ax a4 2 rfl rfl rfl rfl rfl ?_|refine ai a4 1 rfl rfl rfl (by assumption) rfl ?_|refine ai a4 0 rfl rfl rfl (by assumption) rfl ?_|fail)|fail)
 refine jD a4 rfl hq0 rfl rfl ?_
 repeat' (first|refine aj ?_|refine a5 ?_|refine a6 ?_|refine a7 a4 rfl rfl ?_|(apply aT; refine aS ?_)|fail)
 refine aK [0, 1, 2] (α := Nat × Option er × List aF) (fun s => [(6, az ((s.1 : Int) - 1))]) (fun s => cU s.2.1 s.2.2 ∧ s.2.2.length ≤ 1000000 ∧ s.1 ≤ 1000000 ∧ hZ E.ms E.ls e.l forms s.1 s.2.2 = hZ E.ms E.ls e.l forms run0.length run0) (fun s => gb wb E s.2.1 s.2.2) (fun s => s.1) (run0.length, q0, run0) rfl ⟨rfl, trivial⟩ ⟨hq0, hr0, hr0, rfl⟩ (fun _ _ h => h) ?_
 rintro ⟨n, q, run⟩ ⟨hq, hr, hn1, hv⟩
 dsimp only at hq hr hn1 hv ⊢
 try dsimp only [Ds, Dr, Dq, Dn]
 repeat' (first|refine a8 ?_|refine a0 ?_|refine a5 ?_|refine a6 ?_|refine a7 a4 rfl rfl ?_)
 refine aq rfl (fun h => ?_) (fun h => ?_)
 ·have hn0 : 0 < n := by have := Dz h; omega
  obtain ⟨i, rfl⟩ : ∃ j, n = j + 1 := ⟨n - 1, by omega⟩
  rw [hZ] at hv
  have hi0 : ((i + 1 : Nat) : Int) - 1 = (i : Int) := by omega
  have hma := n9 E e hau wb q run hq hr i (by omega) forms
  clear h
  rw [hi0]
  repeat' (first|refine a8 ?_|refine a0 ?_|refine aj ?_|refine ah ?_|refine a5 ?_|refine a7 a4 rfl rfl ?_)
  refine aL (gb wb E q run) [] hma rfl rfl (by rw [List.append_nil]; exact Do _) rfl fun c L1 ⟨hc, hL⟩ => ?_
  subst hc; subst hL
  unfold iD
  cases hmv : dt E.ms e.l run i forms with
  | none =>
   rw [hmv] at hv
   dsimp only at hv ⊢
   repeat' (first|refine a8 ?_|refine a0 ?_|refine a5 ?_|refine a6 ?_|refine a7 a4 rfl rfl ?_)
   refine pw Tryz.underlying190 rfl rfl rfl rfl ?_
   repeat' (first|refine a0 ?_|refine ah ?_|refine a5 ?_|refine aG ?_|refine a6 ?_|refine a7 a4 rfl rfl ?_|(apply aT; refine aS ?_)|refine bB rfl ?_)
   exact ay (i, q, run) rfl ⟨rfl, trivial⟩ ⟨hq, hr, by dsimp only; omega, hv⟩ (by dsimp only; omega) (fun _ _ h => by rw [List.append_nil] at h; exact h)
  | some r =>
   rw [hmv] at hv
   dsimp only at hv ⊢
   obtain ⟨hps, hrm, hin, _, hhd⟩ := B8 hmv
   have hro := hE.rule e he r hrm hin
   have hdo := wh hE wb 4 0 rfl e r (cN E.ms e.l run i r) q run he h1 h6 hro hps hq hr
   have hr2 := (iV (ms := E.ms) (ls := E.ls) 4 e.l r (cN E.ms e.l run i r) run).big hr
   repeat' (first|refine a8 ?_|refine a0 ?_|refine a5 ?_|refine a6 ?_|refine a7 a4 rfl rfl ?_)
   refine pw Tryz.underlying190 rfl rfl rfl rfl ?_
   repeat' (first|refine a0 ?_|refine a5 ?_|refine a6 ?_|refine a7 a4 rfl rfl ?_|refine br rfl ?_)
   refine aL (gb wb E q run) [] hdo rfl rfl (by rw [List.append_nil]) rfl fun c L1 ⟨q', g1, g2⟩ => ?_
   subst g2
   repeat' (first|refine a0 ?_|refine a5 ?_|refine aG ?_|refine a6 ?_|refine a7 a4 rfl rfl ?_|(apply aT; refine aS ?_)|fail)
   exact ay (i, q', _) rfl ⟨rfl, trivial⟩ ⟨g1, hr2, by dsimp only; omega, hv⟩ (by dsimp only; omega) (fun _ _ h => by rw [List.append_nil] at h; exact h)
 ·have hn0 : n = 0 := by have := Dy h; omega
  subst hn0
  have hrun : run = hZ E.ms E.ls e.l forms run0.length run0 := by rw [← hv, hZ]
  repeat' (first|refine aM ?_|refine ar ?_|refine aw ?_|refine au ?_)
  exact ca rfl ⟨q, by rw [← hrun]; exact hq, by rw [← hrun]; rfl⟩
end
end Go.Proofs.YtpmdfoaadejmkaaGreatDoor
namespace Go.Proofs.YtpmdfoaadejmkaaGreatDoor
open Go.RowKit
attribute [local irreducible] AT bh AX AO Av Kt b6 dh DA cE
theorem qh (k : Int) : bk Tryz.prog 34 [az k] (dB (decide (1 ≤ k ∧ k ≤ 6))) := by
 refine aB Tryz.func34 rfl Tryz.ntmps34 rfl fun B => ?_
 repeat' (first|refine a8 ?_|refine a0 ?_|refine ae ?_|refine a5 ?_|refine a6 ?_|refine a7 a4 rfl rfl ?_|refine ak rfl rfl ?_|refine av rfl rfl rfl rfl ?_|refine aH rfl rfl rfl (fun _ => ?_) (fun _ => ?_))
 all_goals exact am rfl rfl (by simp_all <;> omega)
instance (k : Int) : AD Tryz.prog 34 [az k] (dB (decide (1 ≤ k ∧ k ≤ 6))) := ⟨qh k⟩
section
variable {nt : Nat} {fr : bw} {B : Bs} {D : List Deferred}
theorem oS {t : Nat} {q : Option er} {run : List aF} {Lf : AL} (hq : cU q run) (hl : bE fr t = some (du q run)) : jN nt D B fr (lj q run ++ Lf) ((t, .imm 6 (run.map bM)) :: fr) Lf := by
 cases q with
 | none =>
  have he := hq.emp rfl
  subst he
  exact bR hl fun σ v h => h
 | some m =>
  obtain ⟨h1, h2, h3⟩ := hq.fit m rfl
  have hfl := cz run
  have hcl : run.length * 6 ≤ (bo run ++ m.junk).length := by rw [List.length_append]; omega
  have htk : (bo run ++ m.junk).take (run.length * 6) = (run.map bM).flatten := by
   have := l7 run m.junk (Nat.le_refl _)
   rw [List.take_length] at this
   exact this
  exact iL (sz := 6) (n := run.length) (cap := m.cap) (l := run.map bM) 0 hl rfl htk hcl (fun e he => by obtain ⟨z, _, rfl⟩ := List.mem_map.1 he; rfl) (Du ..) h1 h2
theorem kF {t wb : Nat} {eng : AV} {q : Option er} {run : List aF} {Lf : AL} (hq : cU q run) (hl : bE fr t = some (du q run)) : jN nt D B fr ((wb, .box [eng, du q run] 102) :: (lj q run ++ Lf)) ((t, .imm 6 (run.map bM)) :: fr) Lf := fun σ a w ha hw =>
 oS hq hl σ a w ha (hw.sublist (List.sublist_cons_self ..))
end
section
variable {E : mg} (hE : lx E)
include hE
set_option maxHeartbeats 8000000 in
theorem vL (n : Int) (run : List aF) (hr : run.length ≤ 1000000) (forms : List Int) : AC Tryz.prog 18 [.iptr (d9 E), az n, .imm 6 (run.map bM), .imm 1 (aR forms)] [ct] fun c L => c = .imm 6 ((dq E.ms E.ls n run forms).map bM) ∧ L = [ct] := by
 refine aB Tryz.func18 rfl Tryz.ntmps18 rfl fun B => ?_
 have hll := o8 E
 have hcl := w7 run hr
 repeat' (first|refine a8 ?_|refine a0 ?_|refine a5 ?_|refine a6 ?_|refine a7 a4 rfl rfl ?_)
 refine aL [] [ct] hcl rfl rfl (Do _) rfl fun c L1 ⟨q, hq, hc, hL⟩ => ?_
 subst hc; subst hL
 repeat' (first|fail)
 refine bV (u := .agg [.iptr (d9 E), du q run]) (jH a4 (by cases q <;> rfl)) rfl rfl ?_
 repeat' (first|refine a8 ?_|refine a0 ?_|refine a5 ?_|refine a6 ?_|refine a7 a4 rfl rfl ?_|refine wS (d := 15) fun _=>?_|fail)
 refine nd Tryz.underlying34 rfl rfl rfl rfl ?_
 by_cases hin : 0 ≤ n ∧ n < E.lks.length
 ·obtain ⟨e, he⟩ : ∃ e, E.lks[n.toNat]? = some e := ⟨_, Bg (by omega)⟩
  have heg : (E.lks.map dP)[n.toNat]? = some (dP e) := by simp [he]
  have hem := Dw he
  refine bG [0, 1, 3, 9] (¬ (1 ≤ e.l.Kind ∧ e.l.Kind ≤ 6)) rfl (fun Q' K => ?_) (fun hC => ?_) (fun hC => ?_)
  ·repeat' (first|refine a6 ?_|refine a7 a4 rfl rfl ?_|refine ak rfl rfl ?_|refine av rfl rfl rfl rfl ?_|(apply aE; first|refine aD a4 ?_|refine aA a4 ?_)|(apply bb;refine b4 ?_)|refine aH rfl rfl rfl (fun _ => ?_) (fun _ => ?_))
   all_goals exact K _ _ rfl rfl (by simp_all <;> omega)
  ·have hv : dq E.ms E.ls n run forms = run := by
    unfold dq
    rw [if_neg (by omega), List.getElem?_map, he]
    show (if e.l.Kind < 1 ∨ 6 < e.l.Kind then run else _) = run
    rw [if_pos (by omega)]
   rw [hv]
   repeat' (first|refine a8 ?_|refine a0 ?_|refine ae ?_|refine a5 ?_|refine an ?_|refine a6 ?_|refine a7 a4 rfl rfl ?_|(apply bD; first|refine ai a4 0 rfl rfl rfl rfl rfl ?_|refine ai a4 1 rfl rfl rfl rfl rfl ?_|refine ai a4 2 rfl rfl rfl rfl rfl ?_|refine ai a4 3 rfl rfl rfl rfl rfl ?_|refine ax a4 0 rfl rfl rfl rfl rfl ?_|refine ax a4 1 rfl rfl rfl rfl rfl ?_|refine ax a4 2 rfl rfl rfl rfl rfl ?_|refine ai a4 1 rfl rfl rfl (by assumption) rfl ?_|refine ai a4 0 rfl rfl rfl (by assumption) rfl ?_|fail)|fail)
   refine bA (kF (t := 8) hq rfl) ?_
   exact am rfl rfl ⟨rfl, rfl⟩
  ·have hC : 1 ≤ e.l.Kind ∧ e.l.Kind ≤ 6 := Classical.not_not.1 hC
   have hv : dq E.ms E.ls n run forms = if e.l.Kind = 5 then hZ E.ms E.ls e.l forms run.length run else tC E.ms E.ls e.l forms run.length 0 run := by
    unfold dq
    rw [if_neg (by omega), List.getElem?_map, he]
    show (if e.l.Kind < 1 ∨ 6 < e.l.Kind then run else _) = _
    rw [if_neg (by omega)]
   rw [hv]
   rename_i wb _
   have hdn := wi hE wb e hem hC.1 hC.2 forms q run hq hr
   have hon := BZ hE wb e hem hC.1 hC.2 forms q run hq hr
   repeat' (first|refine a8 ?_|refine a0 ?_|refine ah ?_|refine a5 ?_|refine a6 ?_|refine a7 a4 rfl rfl ?_|(apply aE; first|refine aD a4 ?_|refine aA a4 ?_)|fail)
   refine aq rfl (fun h5 => ?_) (fun h5 => ?_)
   ·rw [if_pos (Dz h5)]
    repeat' (first|refine a8 ?_|refine a0 ?_|refine a5 ?_|refine a6 ?_|refine a7 a4 rfl rfl ?_|(apply aE; first|refine aD a4 ?_|refine aA a4 ?_)|fail)
    refine fW (gb wb E q run) [] (gC.fnB (f := 38) (fs := [ep wb]) (caps := []) hdn) rfl rfl (by rw [List.append_nil]; exact Do _) rfl rfl fun c L1 ⟨q', g1, g2⟩ => ?_
    subst g2
    repeat' (first|refine a8 ?_|refine a0 ?_|refine ae ?_|refine a5 ?_|refine a6 ?_|refine a7 a4 rfl rfl ?_|(apply bD; first|refine ai a4 0 rfl rfl rfl rfl rfl ?_|refine ai a4 1 rfl rfl rfl rfl rfl ?_|refine ai a4 2 rfl rfl rfl rfl rfl ?_|refine ai a4 3 rfl rfl rfl rfl rfl ?_|refine ax a4 0 rfl rfl rfl rfl rfl ?_|refine ax a4 1 rfl rfl rfl rfl rfl ?_|refine ax a4 2 rfl rfl rfl rfl rfl ?_|refine ai a4 1 rfl rfl rfl (by assumption) rfl ?_|refine ai a4 0 rfl rfl rfl (by assumption) rfl ?_|fail)|fail)
    refine bA (aV (List.Perm.of_eq (List.append_nil _))) ?_
    refine bA (kF (t := 8) g1 rfl) ?_
    exact am rfl rfl ⟨rfl, rfl⟩
   ·rw [if_neg (Dy h5)]
    repeat' (first|refine a8 ?_|refine a0 ?_|refine ah ?_|refine a5 ?_|refine a7 a4 rfl rfl ?_|(apply aE; first|refine aD a4 ?_|refine aA a4 ?_)|fail)
    refine fW (gb wb E q run) [] (gC.fnB (f := 37) (fs := [ep wb]) (caps := []) hon) rfl rfl (by rw [List.append_nil]; exact Do _) rfl rfl fun c L1 ⟨q', g1, g2⟩ => ?_
    subst g2
    repeat' (first|refine a8 ?_|refine a0 ?_|refine ae ?_|refine a5 ?_|refine a6 ?_|refine a7 a4 rfl rfl ?_|(apply bD; first|refine ai a4 0 rfl rfl rfl rfl rfl ?_|refine ai a4 1 rfl rfl rfl rfl rfl ?_|refine ai a4 2 rfl rfl rfl rfl rfl ?_|refine ai a4 3 rfl rfl rfl rfl rfl ?_|refine ax a4 0 rfl rfl rfl rfl rfl ?_|refine ax a4 1 rfl rfl rfl rfl rfl ?_|refine ax a4 2 rfl rfl rfl rfl rfl ?_|refine ai a4 1 rfl rfl rfl (by assumption) rfl ?_|refine ai a4 0 rfl rfl rfl (by assumption) rfl ?_|fail)|fail)
    refine bA (aV (List.Perm.of_eq (List.append_nil _))) ?_
    refine bA (kF (t := 8) g1 rfl) ?_
    exact am rfl rfl ⟨rfl, rfl⟩
 ·have hv : dq E.ms E.ls n run forms = run := by
   unfold dq
   by_cases h0 : n < 0
   ·rw [if_pos h0]
   ·rw [if_neg h0, List.getElem?_eq_none (by rw [Du]; omega)]
  rw [hv]
  refine bG [0, 1, 3, 9] True rfl (fun Q' K => ?_) (fun hC => ?_) (fun hC => absurd trivial hC)
  ·repeat' (first|refine a6 ?_|refine a7 a4 rfl rfl ?_|refine ak rfl rfl ?_|refine av rfl rfl rfl rfl ?_|refine aH rfl rfl rfl (fun _ => ?_) (fun _ => ?_))
   all_goals first | exact K _ _ rfl rfl (by simp_all <;> omega) | (exfalso; simp_all <;> omega)
  ·repeat' (first|refine a8 ?_|refine a0 ?_|refine ae ?_|refine a5 ?_|refine an ?_|refine a6 ?_|refine a7 a4 rfl rfl ?_|(apply bD; first|refine ai a4 0 rfl rfl rfl rfl rfl ?_|refine ai a4 1 rfl rfl rfl rfl rfl ?_|refine ai a4 2 rfl rfl rfl rfl rfl ?_|refine ai a4 3 rfl rfl rfl rfl rfl ?_|refine ax a4 0 rfl rfl rfl rfl rfl ?_|refine ax a4 1 rfl rfl rfl rfl rfl ?_|refine ax a4 2 rfl rfl rfl rfl rfl ?_|refine ai a4 1 rfl rfl rfl (by assumption) rfl ?_|refine ai a4 0 rfl rfl rfl (by assumption) rfl ?_|fail)|fail)
   refine bA (kF (t := 8) hq rfl) ?_
   exact am rfl rfl ⟨rfl, rfl⟩
end
def sD (ap : Int → List aF → List Int → List aF) : List Int → List (List Int) → List aF → List aF
 | [], _, run => run
 | n :: ns, fs, run => sD ap ns (fs.drop 1) (ap n run (fs.headD []))
structure zR (u : AV) (ap : Int → List aF → List Int → List aF) : Prop where
 ac : ∀ (n : Int) (run : List aF) (forms : List Int), run.length ≤ 1000000 → AC Tryz.prog 18 [u, az n, .imm 6 (run.map bM), .imm 1 (aR forms)] [ct] fun c L => c = .imm 6 ((ap n run forms).map bM) ∧ L = [ct]
 len : ∀ (n : Int) (run : List aF) (forms : List Int), run.length ≤ 1000000 → (ap n run forms).length ≤ 1000000
theorem pB {ms : List Bool} {ls : List aQ} {l : aQ} {forms : List Int} : ∀ (k i : Nat) (run : List aF), ez run.length (tC ms ls l forms k i run).length
 | 0, _, _ => by unfold ez; rw [tC]; omega
 | k + 1, i, run => by
  rw [tC]
  split
  ·split
   ·exact pB k (i + 1) run
   ·exact (iV 4 l _ _ run).trans (pB k _ _)
  ·unfold ez; omega
theorem kX {ms : List Bool} {ls : List aQ} {l : aQ} {forms : List Int} : ∀ (k : Nat) (run : List aF), ez run.length (hZ ms ls l forms k run).length
 | 0, _ => by unfold ez; rw [hZ]; omega
 | i + 1, run => by
  rw [hZ]
  split
  ·exact kX i run
  ·exact (iV 4 l _ _ run).trans (kX i _)
theorem rH {ms : List Bool} {ls : List aQ} {n : Int} {run : List aF} {forms : List Int} : ez run.length (dq ms ls n run forms).length := by
 have hs : ez run.length run.length := by unfold ez; omega
 unfold dq
 split
 ·exact hs
 ·split
  ·exact hs
  ·split
   ·exact hs
   ·split
    ·exact kX _ _
    ·exact pB _ _ _
theorem Co {E : mg} (hE : lx E) : zR (.iptr (d9 E)) (dq E.ms E.ls) := ⟨fun n run forms hr => vL hE n run hr forms, fun _ _ _ hr => rH.big hr⟩
def Cs : AV → Bool
 | .iptr _ => true
 | .sc (.pointer none) => true
 | _ => false
set_option maxHeartbeats 4000000 in
theorem z2 (cs : List AV) {ap : Int → List aF → List Int → List aF} (h : zR (.iptr cs) ap) (ns : List Int) (fs : List (List Int)) (run : List aF) (hr : run.length ≤ 1000000) : AC Tryz.prog 22 [.iptr cs, .imm 1 (aR ns), .imm 1 (b7 fs), .imm 6 (run.map bM)] [ct] fun c L => c = .imm 6 ((sD ap ns fs run).map bM) ∧ L = [ct] := by
 refine aB Tryz.func22 rfl Tryz.ntmps22 rfl fun B => ?_
 refine ci 1 rfl rfl fun hlen => ?_
 have hcl := w7 run hr
 have hnl := aX ns
 rw [hnl] at hlen
 have hfl := bQ fs
 repeat' (first|refine a8 ?_|refine a0 ?_|refine a5 ?_|refine a6 ?_|refine a7 a4 rfl rfl ?_)
 refine aL [] [ct] hcl rfl rfl (Do _) rfl fun c L1 ⟨q, hq, hc, hL⟩ => ?_
 subst hc; subst hL
 repeat' (first|refine a8 ?_|refine a0 ?_|refine aj ?_|refine a5 ?_|refine a6 ?_|refine a7 a4 rfl rfl ?_)
 refine cZ (oS (t := 3) hq rfl) ?_
 refine aK [2, 9, 17, 18] (α := Nat × List aF) (fun s => [(19, az s.1), (3, .imm 6 (s.2.map bM))]) (fun s => s.1 ≤ ns.length ∧ s.2.length ≤ 1000000 ∧ sD ap (ns.drop s.1) (fs.drop s.1) s.2 = sD ap ns fs run) (fun _ => [ct]) (fun s => ns.length - s.1) (0, run) rfl ⟨rfl, rfl, trivial⟩ ⟨Nat.zero_le _, hr, rfl⟩ (fun _ _ h => h) ?_
 rintro ⟨k, run1⟩ ⟨hk, hr1, hv⟩
 dsimp only at hk hr1 hv ⊢
 try dsimp only [Ds, Dr, Dq, Dn]
 repeat' (first|refine a8 ?_|refine a0 ?_|refine a5 ?_|refine a6 ?_|refine a7 a4 rfl rfl ?_)
 refine aq rfl (fun h0 => ?_) (fun h0 => ?_)
 ·have hk2 : k < ns.length := by have := Dz h0; omega
  obtain ⟨n, hn⟩ : ∃ n, ns[k]? = some n := ⟨_, Bg hk2⟩
  have hng := bI hn
  rw [List.drop_eq_getElem_cons hk2, (Dp hn).2, sD, List.drop_drop] at hv
  clear h0
  repeat' (first|refine a8 ?_|refine a0 ?_|refine aj ?_|refine ah ?_|refine a5 ?_|refine a6 ?_|refine a7 a4 rfl rfl ?_|(apply aE; first|refine aD a4 ?_|refine aA a4 ?_)|fail)
  refine aq rfl (fun h1 => ?_) (fun h1 => ?_)
  ·have hf : k < fs.length := by have := Dz h1; omega
   obtain ⟨f, hfg⟩ : ∃ f, fs[k]? = some f := ⟨_, Bg hf⟩
   have hfgg := fv hfg
   have hh : (fs.drop k).headD [] = f := by rw [List.drop_eq_getElem_cons hf, (Dp hfg).2]; rfl
   rw [hh] at hv
   have hap := h.ac n run1 f hr1
   clear h1
   repeat' (first|refine a0 ?_|refine a5 ?_|refine a6 ?_|refine a7 a4 rfl rfl ?_|(apply aE; first|refine aD a4 ?_|refine aA a4 ?_)|fail)
   refine fW [ct] [] (gC.fnB (f := 18) (fs := [.iptr cs]) (caps := []) hap) rfl rfl (Do _) rfl rfl fun c L1 ⟨hc, hL⟩ => ?_
   subst hc; subst hL
   repeat' (first|refine a0 ?_|refine a5 ?_|refine aG ?_|refine a6 ?_|refine a7 a4 rfl rfl ?_|(apply aT; refine aS ?_)|fail)
   exact ay (k + 1, _) rfl ⟨by rw [Dv]; rfl, rfl, trivial⟩ ⟨hk2, h.len _ _ _ hr1, hv⟩ (by dsimp only; omega) (fun _ _ h => h)
  ·have hf : fs.length ≤ k := by have := Dy h1; omega
   have hh : (fs.drop k).headD [] = [] := by rw [List.drop_eq_nil_of_le hf]; rfl
   rw [hh] at hv
   have hap := AC.args (a := [.iptr cs, az n, .imm 6 (run1.map bM), .sc (.slice none 0 0)]) (h.ac n run1 [] hr1) ⟨dx.refl _, dx.refl _, dx.refl _, dx.nil 1, trivial⟩
   clear h1
   repeat' (first|refine a0 ?_|refine ah ?_|refine a5 ?_|refine a7 a4 rfl rfl ?_)
   refine fW [ct] [] (gC.fnB (f := 18) (fs := [.iptr cs]) (caps := []) hap) rfl rfl (Do _) rfl rfl fun c L1 ⟨hc, hL⟩ => ?_
   subst hc; subst hL
   repeat' (first|refine a0 ?_|refine a5 ?_|refine aG ?_|refine a6 ?_|refine a7 a4 rfl rfl ?_|(apply aT; refine aS ?_)|fail)
   exact ay (k + 1, _) rfl ⟨by rw [Dv]; rfl, rfl, trivial⟩ ⟨hk2, h.len _ _ _ hr1, hv⟩ (by dsimp only; omega) (fun _ _ h => h)
 ·have hk2 : k = ns.length := by have := Dy h0; omega
  subst hk2
  rw [List.drop_length] at hv
  have hv2 : run1 = sD ap ns fs run := hv
  repeat' (first|refine a8 ?_|refine a0 ?_|refine ae ?_|refine aM ?_|refine a5 ?_|refine ar ?_|refine aw ?_|refine au ?_|refine a6 ?_|refine a7 a4 rfl rfl ?_)
  exact am rfl rfl ⟨by rw [← hv2], rfl⟩
end Go.Proofs.YtpmdfoaadejmkaaGreatDoor
namespace Go.Proofs.YtpmdfoaadejmkaaGreatDoor
open Go.RowKit
attribute [local irreducible] AT bh AX AO Av Kt b6 dh DA cE
theorem fF {α : Type} {g : α → Nat} {k : Nat} : ∀ {l : List α} {m : Nat}, m ≤ k → (∀ x ∈ l, g x ≤ k) → l.foldl (fun m x => max m (g x)) m ≤ k
 | [], _, h, _ => h
 | a :: l, m, h, hl => by
  rw [List.foldl_cons]
  exact fF (by have := hl a (by simp); omega) fun x hx => hl x (by simp [hx])
theorem ux (rs : List aU) : gP lO rs = oq rs := by
 funext n
 unfold gP oq lO
 rfl
theorem rK (rs : List aU) (gl : List Int) : bF (dr (rs.map aU.Back) (gP mH rs) gl) (rs.map aU.Back).length = bF (dr (rs.map aU.Back) (fun _ => true) gl) (rs.map aU.Back).length := by
 refine f0 fun i => ?_
 rw [bC, bC]
 by_cases hi : i < (rs.map aU.Back).length
 ·rw [Du] at hi
  congr 1
  unfold dr gP
  rw [List.getElem?_map, Bg hi]
  rfl
 ·rw [decide_eq_false hi, Bool.false_and, Bool.false_and]
def yk (l : aQ) (a : i8) : mf := ⟨l, a.cls, a.fore, a.back, a.foreE, a.backE⟩
theorem rg {cls : List Int} {rows : List (List (List Int))} {hv : Nat → Bool} {C : Nat} {tab : List (List Int)} {ends : List Nat} (h : nZ cls rows hv C tab ends) (hr : rows.length ≤ 6) : ∀ z ∈ ends, z < 2 ^ 64 := by
 intro z hz
 obtain ⟨met, h0, h1, h2, h3, h4⟩ := h.met
 obtain ⟨i, hi⟩ := List.mem_iff_getElem?.1 hz
 have hil := (Dp hi).1
 obtain ⟨p, hp⟩ : ∃ p, met[i]? = some p := ⟨_, Bg (by omega)⟩
 have := h3 i p hp
 rw [hi] at this
 cases this
 unfold gi
 split
 ·exact Nat.pow_pos (by omega)
 ·refine Nat.lt_of_le_of_lt Nat.and_le_right ?_
  exact kT (by omega)
theorem y6 {N : Nat} {l : aQ} (h : sP N l) {a : i8} (hb : sQ N l.Rules a) : i9 (yk l a) := by
 have hcs : ∀ z ∈ a.cls, z.toNat < (eN a.cls).toNat := fun z hz => by
  have h1 := hb.cls.dom z hz
  omega
 have hf : ∀ r ∈ l.Rules, (cM r).length ≤ 200 ∧ r.Back.length ≤ 200 := fun r hr => by
  have := (h.rule r hr).long
  have := iy r
  omega
 refine ⟨h.few, ⟨rg hb.fore (by rw [Du]; exact h.few), rg hb.back (by rw [Du]; exact h.few)⟩, fun gl => ?_, fun gl => ?_, ?_, ?_⟩
 ·have := lZ hb.cls (rows := l.Rules.map cM) (fun dp hrow s hs => ?_) hb.fore hcs gl
  ·rw [ux] at this
   exact this
  ·obtain ⟨r, hr, rfl⟩ := List.mem_map.1 hrow
   have hbr := h.rule r hr
   refine ⟨List.mem_flatMap.2 ⟨r, hr, ?_⟩, ?_⟩
   ·rw [List.mem_append, List.mem_append]
    rcases iz hs with hs | hs
    ·exact .inl (.inr hs)
    ·exact .inr hs
   ·rcases iz hs with hs | hs
    ·exact (hbr.in_ s hs).2
    ·exact (hbr.ahead s hs).2
 ·have := lZ hb.cls (rows := l.Rules.map aU.Back) (fun dp hrow s hs => ?_) hb.back hcs gl
  ·rw [rK] at this
   exact this
  ·obtain ⟨r, hr, rfl⟩ := List.mem_map.1 hrow
   exact ⟨List.mem_flatMap.2 ⟨r, hr, by rw [List.mem_append, List.mem_append]; exact .inl (.inl hs)⟩, ((h.rule r hr).back s hs).2⟩
 ·exact fF (by omega) fun r hr => by have := (h.rule r hr).long; show r.In.length + r.Ahead.length ≤ _; omega
 ·exact fF (by omega) fun r hr => by have := (h.rule r hr).long; show r.Back.length ≤ _; omega
theorem w6 (l : List Int) (hl : l.length ≤ 1000000) : bk Tryz.prog 96 [.imm 1 (aR l)] (.imm 1 (aR l)) := by
 refine aB Tryz.func96 rfl Tryz.ntmps96 rfl fun B => ?_
 have hml := aX l
 repeat' (first|refine a8 ?_|refine a0 ?_|refine a5 ?_|refine a6 ?_|refine a7 a4 rfl rfl ?_)
 refine pu a4 rfl rfl rfl rfl rfl fun b hb => ?_
 repeat' (first|refine a5 ?_|refine a6 ?_)
 cases b with
 | true =>
  rw [hb rfl]
  repeat' (first|refine a8 ?_|refine a0 ?_|refine ae ?_|refine a5 ?_|refine an ?_|refine a6 ?_|refine a7 a4 rfl rfl ?_|refine br rfl ?_)
  refine bA (bR (t := 2) (c' := .imm 1 []) rfl fun σ v h => j9 1 h) ?_
  exact am rfl rfl rfl
 | false =>
  repeat' (first|refine a8 ?_|refine a0 ?_|refine ah ?_|refine a5 ?_|refine a7 a4 rfl rfl ?_|refine tw (d := 5) a4 fun _=>?_|refine bB rfl ?_)
  refine c5 a4 [] rfl rfl rfl rfl (Do _) (by rw [hml]; simp; omega) (by rw [hml]; simp; omega) rfl fun k' => ?_
  repeat' (first|refine ae ?_|refine a5 ?_|refine a6 ?_|refine a7 a4 rfl rfl ?_)
  refine bA (bR (t := 2) (c' := .imm 1 (aR l)) rfl fun σ v h => VR.im h) ?_
  refine dK (List.nil_sublist _) ?_
  exact am rfl rfl rfl
theorem Aw (l : List ic) (hl : l.length ≤ 1000000) : bk Tryz.prog 97 [.imm 2 (l.map fb)] (.imm 2 (l.map fb)) := by
 refine aB Tryz.func97 rfl Tryz.ntmps97 rfl fun B => ?_
 have hml : (l.map fb).length = l.length := Du ..
 repeat' (first|refine a8 ?_|refine a0 ?_|refine a5 ?_|refine a6 ?_|refine a7 a4 rfl rfl ?_)
 refine pu a4 rfl rfl rfl rfl rfl fun b hb => ?_
 repeat' (first|refine a5 ?_|refine a6 ?_)
 cases b with
 | true =>
  rw [hb rfl]
  repeat' (first|refine a8 ?_|refine a0 ?_|refine ae ?_|refine a5 ?_|refine an ?_|refine a6 ?_|refine a7 a4 rfl rfl ?_|refine br rfl ?_)
  refine bA (bR (t := 2) (c' := .imm 2 []) rfl fun σ v h => j9 2 h) ?_
  exact am rfl rfl rfl
 | false =>
  repeat' (first|refine a8 ?_|refine a0 ?_|refine ah ?_|refine a5 ?_|refine a7 a4 rfl rfl ?_|refine tw (d := 5) a4 fun _=>?_|refine bB rfl ?_)
  refine c5 a4 [] rfl rfl rfl rfl (Do _) (by rw [hml]; simp; omega) (by rw [hml]; simp; omega) rfl fun k' => ?_
  repeat' (first|refine ae ?_|refine a5 ?_|refine a6 ?_|refine a7 a4 rfl rfl ?_)
  refine bA (bR (t := 2) (c' := .imm 2 (l.map fb)) rfl fun σ v h => VR.im h) ?_
  refine dK (List.nil_sublist _) ?_
  exact am rfl rfl rfl
abbrev dg : AV := .sc (.slice none 0 0)
def ew {α : Type} (w : α → List AV) (z : List AV) (l : List α) (i : Nat) : List (List AV) := (l.take i).map w ++ List.replicate (l.length - i) z
theorem mV {α : Type} {w : α → List AV} {z : List AV} {l : List α} : ew w z l 0 = List.replicate l.length z := by simp [ew]
theorem of {α : Type} {w : α → List AV} {z : List AV} {l : List α} : ew w z l l.length = l.map w := by simp [ew]
theorem oh {α : Type} {w : α → List AV} {z : List AV} {l : List α} {i : Nat} {x : α} (h : l[i]? = some x) : (ew w z l i).set i (w x) = ew w z l (i + 1) := by
 have hi := (Dp h).1
 unfold ew
 rw [List.set_append, if_neg (by rw [Du, List.length_take]; omega), Du, List.length_take, Nat.min_eq_left (by omega), Nat.sub_self, show l.length - i = (l.length - (i + 1)) + 1 by omega, List.replicate_succ, List.set_cons_zero, List.take_add_one, h]
 simp
theorem og {α : Type} {w : α → List AV} {z : List AV} {l : List α} {i : Nat} (hi : i ≤ l.length) : (ew w z l i).length = l.length := by
 unfold ew
 rw [List.length_append, Du, List.length_take, List.length_replicate]
 omega
theorem l6 {sz : Nat} : ∀ {l : List (List AV)} {i : Nat} {e : List AV}, (∀ q ∈ l, q.length = sz) → e.length = sz → i < l.length → eJ l.flatten (i * sz) e = (l.set i e).flatten
 | [], _, _, _, _, h => by simp at h
 | q :: l, 0, e, hs, he, _ => by
  have hq := hs q (by simp)
  rw [List.set_cons_zero, List.flatten_cons, List.flatten_cons, Nat.zero_mul]
  apply List.ext_getElem?
  intro j
  rw [eA _ _ _ _ (by rw [List.length_append]; omega)]
  by_cases hj : j < e.length
  ·rw [if_pos (by omega), Nat.sub_zero, List.getElem?_append_left hj]
  ·rw [if_neg (by omega), List.getElem?_append_right (by omega), List.getElem?_append_right (by omega), hq, he]
 | q :: l, i + 1, e, hs, he, h => by
  have hq := hs q (by simp)
  have ih := l6 (l := l) (i := i) (e := e) (fun x hx => hs x (by simp [hx])) he (by simpa using h)
  have hlen : i * sz + e.length ≤ l.flatten.length := by
   have hl : l.flatten.length = l.length * sz := dH l fun x hx => hs x (by simp [hx])
   rw [hl, he]
   have : (i + 1) * sz ≤ l.length * sz := Nat.mul_le_mul_right _ (by simp at h; omega)
   rw [Nat.add_mul, Nat.one_mul] at this
   exact this
  rw [List.set_cons_succ, List.flatten_cons, List.flatten_cons, ← ih]
  apply List.ext_getElem?
  intro j
  have e1 : (i + 1) * sz = i * sz + sz := by rw [Nat.add_mul, Nat.one_mul]
  rw [eA _ _ _ _ (by rw [List.length_append]; omega), e1]
  by_cases hj : j < sz
  ·rw [if_neg (by omega), List.getElem?_append_left (by omega), List.getElem?_append_left (by omega)]
  ·rw [List.getElem?_append_right (by omega), List.getElem?_append_right (by omega), eA _ _ _ _ hlen, hq]
   by_cases h2 : i * sz ≤ j - sz ∧ j - sz < i * sz + e.length
   ·rw [if_pos h2, if_pos (by omega)]
    congr 1
    omega
   ·rw [if_neg h2, if_neg (by omega)]
set_option maxHeartbeats 4000000 in
theorem nM (l : List (List Int)) (hl : l.length ≤ 1000000) (hs : ∀ s ∈ l, s.length ≤ 1000000) : bk Tryz.prog 95 [.imm 1 (b7 l)] (.imm 1 (b7 l)) := by
 refine aB Tryz.func95 rfl Tryz.ntmps95 rfl fun B => ?_
 have hil := bQ l
 repeat' (first|refine a8 ?_|refine a0 ?_|refine a5 ?_|refine a6 ?_|refine a7 a4 rfl rfl ?_)
 refine iE a4 l.length rfl rfl rfl rfl rfl (by rw [hil]) (by rw [hil]) (by omega) (by omega) rfl fun rb => ?_
 repeat' (first|refine a8 ?_|refine a0 ?_|refine aj ?_|refine a5 ?_|refine a6 ?_|refine a7 a4 rfl rfl ?_)
 refine aK [3, 9, 10] (α := Nat) (fun i => [(11, az i)]) (fun i => i ≤ l.length) (fun i => [(rb, .box (ew (fun s => [AV.imm 1 (aR s)]) [dg] l i).flatten 22)]) (fun i => l.length - i) 0 rfl ⟨rfl, trivial⟩ (Nat.zero_le _) (fun _ _ hh => by rw [mV]; exact hh) fun i hi => ?_
 try dsimp only [Ds, Dr, Dq, Dn]
 repeat' (first|refine a8 ?_|refine a0 ?_|refine a5 ?_|refine a6 ?_|refine a7 a4 rfl rfl ?_)
 refine aq rfl (fun h1 => ?_) (fun h1 => ?_)
 ·have hi2 : i < l.length := by have := Dz h1; omega
  obtain ⟨s, hsi⟩ : ∃ z, l[i]? = some z := ⟨_, Bg hi2⟩
  have hsg := fv hsi
  haveI := AD.mk (w6 s (hs s (Dw hsi)))
  have hsz : ∀ q ∈ ew (fun s => [AV.imm 1 (aR s)]) [dg] l i, q.length = 1 := by
   intro q hq
   unfold ew at hq
   rw [List.mem_append] at hq
   rcases hq with hq | hq
   ·obtain ⟨_, _, rfl⟩ := List.mem_map.1 hq; rfl
   ·rw [(List.mem_replicate.1 hq).2]; rfl
  have hfl := og (w := fun s => [AV.imm 1 (aR s)]) (z := [dg]) (l := l) (i := i) hi
  have hput := l6 (sz := 1) (l := ew (fun s => [AV.imm 1 (aR s)]) [dg] l i) (i := i) (e := [AV.imm 1 (aR s)]) hsz rfl (by omega)
  rw [oh hsi] at hput
  have hfll : (ew (fun s => [AV.imm 1 (aR s)]) [dg] l i).flatten.length = l.length * 1 := by rw [dH _ hsz, hfl]
  clear h1
  repeat' (first|refine a8 ?_|refine a0 ?_|refine aj ?_|refine ah ?_|refine a5 ?_|refine a6 ?_|refine a7 a4 rfl rfl ?_|(apply aE; first|refine aD a4 ?_|refine aA a4 ?_)|(apply bb;refine b4 ?_)|fail)
  refine aa a4 0 rfl rfl rfl rfl rfl rfl (Nat.ble_eq_true_of_le (by rw [hfll, Int.toNat_natCast]; show 0 + i * 1 + 1 ≤ _; omega)) ?_
  repeat' (first|refine a0 ?_|refine a5 ?_|refine aG ?_|refine a6 ?_|refine a7 a4 rfl rfl ?_|(apply aT; refine aS ?_)|fail)
  refine ay (i + 1) rfl ⟨by rw [Dv]; rfl, trivial⟩ hi2 (by omega) (fun _ _ hh => ?_)
  rw [← hput]
  rw [Int.toNat_natCast, Nat.zero_add] at hh
  exact hh
 ·have hi2 : i = l.length := by have := Dy h1; omega
  subst hi2
  rw [of]
  clear h1
  repeat' (first|refine a8 ?_|refine a0 ?_|refine ae ?_|refine aM ?_|refine a5 ?_|refine ar ?_|refine aw ?_|refine au ?_|refine a6 ?_|refine a7 a4 rfl rfl ?_)
  have hml : (l.map fun s => [AV.imm 1 (aR s)]).flatten.length = l.length * 1 := by rw [dH _ (sz := 1) (fun q hq => by obtain ⟨_, _, rfl⟩ := List.mem_map.1 hq; rfl), Du]
  refine bA (iL (t := 2) (sz := 1) (n := l.length) (cap := l.length) (l := b7 l) 0 rfl rfl (by rw [List.take_of_length_le (by omega)]; rfl) (by omega) (fun e he => by unfold b7 at he; obtain ⟨_, _, rfl⟩ := List.mem_map.1 he; rfl) hil (Nat.le_refl _) (by unfold maxLen; omega)) ?_
  exact am rfl rfl rfl
def fZ (r : aU) : List AV := [dg, .imm 1 (b7 r.In), dg, .imm 1 (aR r.Out), .imm 2 (r.Calls.map fb), az r.X]
theorem xG (r : aU) : o0 (fZ r) (bH (dv r)) := ⟨dx.nil 1, dx.refl _, dx.nil 1, dx.refl _, dx.refl _, dx.refl _, trivial⟩
theorem tQ {α : Type} {a b : α → List AV} (h : ∀ x, o0 (a x) (b x)) : ∀ (l : List α), zY (l.map a) (l.map b)
 | [] => trivial
 | x :: l => ⟨h x, tQ h l⟩
structure zw (r : aU) : Prop where
 in_ : r.In.length ≤ 1000000 ∧ ∀ s ∈ r.In, s.length ≤ 1000000
 out : r.Out.length ≤ 1000000
 calls : r.Calls.length ≤ 1000000
set_option maxHeartbeats 8000000 in
theorem qp (l : aQ) (hl : l.Rules.length ≤ 1000000) (hr : ∀ r ∈ l.Rules, zw r) : bk Tryz.prog 33 [.agg (bn l)] (.agg (bn (ga l))) := by
 refine aB Tryz.func33 rfl Tryz.ntmps33 rfl fun B => ?_
 have hml : (l.Rules.map bH).length = l.Rules.length := Du ..
 repeat' (first|refine a8 ?_|refine a0 ?_|refine a5 ?_|refine a6 ?_|refine a7 a4 rfl rfl ?_|refine aY ?_|refine aZ a4 fun _=>?_|fail)
 refine iE a4 l.Rules.length rfl rfl rfl rfl rfl (by rw [hml]) (by rw [hml]) (by omega) (by omega) rfl fun rb => ?_
 repeat' (first|refine a8 ?_|refine a0 ?_|refine aj ?_|refine a5 ?_|refine a6 ?_|refine a7 a4 rfl rfl ?_)
 rename_i r2
 refine aK [1, 2, 3, 11, 12] (α := Nat) (fun i => [(13, az i)]) (fun i => i ≤ l.Rules.length) (fun i => [(rb, .box (ew fZ [dg, dg, dg, dg, dg, az 0] l.Rules i).flatten 79), (r2, .box [az 0, dB false, dg] 59)]) (fun i => l.Rules.length - i) 0 rfl ⟨rfl, trivial⟩ (Nat.zero_le _) (fun _ _ hh => by rw [mV]; exact hh) fun i hi => ?_
 try dsimp only [Ds, Dr, Dq, Dn]
 repeat' (first|refine a8 ?_|refine a0 ?_|refine a5 ?_|refine a6 ?_|refine a7 a4 rfl rfl ?_)
 refine aq rfl (fun h1 => ?_) (fun h1 => ?_)
 ·have hi2 : i < l.Rules.length := by have := Dz h1; omega
  obtain ⟨r, hri⟩ : ∃ z, l.Rules[i]? = some z := ⟨_, Bg hi2⟩
  have hrg : (l.Rules.map bH)[i]? = some (bH r) := by simp [hri]
  have hcr := hr r (Dw hri)
  haveI := AD.mk (nM r.In hcr.in_.1 hcr.in_.2)
  haveI := AD.mk (w6 r.Out hcr.out)
  haveI := AD.mk (Aw r.Calls hcr.calls)
  have hsz : ∀ q ∈ ew fZ [dg, dg, dg, dg, dg, az 0] l.Rules i, q.length = 6 := by
   intro q hq
   unfold ew at hq
   rw [List.mem_append] at hq
   rcases hq with hq | hq
   ·obtain ⟨_, _, rfl⟩ := List.mem_map.1 hq; rfl
   ·rw [(List.mem_replicate.1 hq).2]; rfl
  have hfl := og (w := fZ) (z := [dg, dg, dg, dg, dg, az 0]) (l := l.Rules) (i := i) hi
  have hput := l6 (sz := 6) (l := ew fZ [dg, dg, dg, dg, dg, az 0] l.Rules i) (i := i) (e := fZ r) hsz rfl (by omega)
  rw [oh hri] at hput
  have hfll : (ew fZ [dg, dg, dg, dg, dg, az 0] l.Rules i).flatten.length = l.Rules.length * 6 := by rw [dH _ hsz, hfl]
  clear h1
  repeat' (first|refine a8 ?_|refine a0 ?_|refine aj ?_|refine ah ?_|refine a5 ?_|refine a6 ?_|refine a7 a4 rfl rfl ?_|(apply aE; first|refine aD a4 ?_|refine aA a4 ?_)|(apply aO; first|refine a9 5 a4 0 rfl rfl rfl rfl rfl rfl rfl rfl ?_|refine a9 5 a4 1 rfl rfl rfl rfl rfl rfl rfl rfl ?_|refine a9 5 a4 2 rfl rfl rfl rfl rfl rfl rfl rfl ?_|refine aa a4 0 rfl rfl rfl rfl rfl rfl rfl ?_|refine aa a4 1 rfl rfl rfl rfl rfl rfl rfl ?_|refine aa a4 2 rfl rfl rfl rfl rfl rfl rfl ?_|refine aa a4 3 rfl rfl rfl rfl rfl rfl rfl ?_|fail)|refine aZ a4 fun _=>?_|fail)
  refine bj 14 [(0, .v), (1, .v), (2, .v), (3, .v), (4, .v), (5, .v), (6, .v), (7, .v), (8, .v), (9, .v), (10, .v), (11, .v), (12, .v), (13, .v)] none ?_ trivial rfl (by kernel_rfl) (by kernel_rfl) (by kernel_rfl) ce (by kernel_rfl) rfl
  repeat' (first|refine aC ?_|refine bf a4 ?_|(apply cL;refine de ?_)|fail)
  refine bv [1, 2, 3, 11, 12, 13, 18, 19, 31] rfl rfl ?_
  repeat' (first|(apply aE; first|refine aD a4 ?_|refine aA a4 ?_)|fail)
  refine aa a4 0 rfl rfl rfl rfl rfl rfl (Nat.ble_eq_true_of_le (by rw [hfll, Int.toNat_natCast]; show 0 + i * 6 + 6 ≤ _; omega)) ?_
  repeat' (first|refine a0 ?_|refine a5 ?_|refine aG ?_|refine a6 ?_|refine a7 a4 rfl rfl ?_|(apply aT; refine aS ?_)|fail)
  refine ay (i + 1) rfl ⟨by rw [Dv]; rfl, trivial⟩ hi2 (by omega) (fun _ _ hh => ?_)
  rw [← hput]
  rw [Int.toNat_natCast, Nat.zero_add] at hh
  exact hh
 ·have hi2 : i = l.Rules.length := by have := Dy h1; omega
  subst hi2
  rw [of]
  clear h1
  have hsz : ∀ q ∈ l.Rules.map fZ, q.length = 6 := fun q hq => by obtain ⟨_, _, rfl⟩ := List.mem_map.1 hq; rfl
  have hml2 : (l.Rules.map fZ).flatten.length = l.Rules.length * 6 := by rw [dH _ hsz, Du]
  refine cZ (iL (t := 3) (sz := 6) (n := l.Rules.length) (cap := l.Rules.length) (l := l.Rules.map fZ) 0 rfl rfl (by rw [List.take_of_length_le (by omega)]) (by omega) hsz (Du ..) (Nat.le_refl _) (by unfold maxLen; omega)) ?_
  refine cZ (bR (t := 3) (c' := .imm 6 ((ga l).Rules.map bH)) rfl fun σ v h => ?_) ?_
  ·have e : (ga l).Rules.map bH = l.Rules.map fun r => bH (dv r) := by unfold ga; rw [List.map_map]; rfl
   rw [e]
   exact dx.imm (tQ xG l.Rules) σ v h
  repeat' (first|refine a8 ?_|refine a0 ?_|refine ae ?_|refine aM ?_|refine a5 ?_|refine ar ?_|refine aw ?_|refine au ?_|refine a6 ?_|refine a7 a4 rfl rfl ?_|(apply aO; first|refine a9 5 a4 0 rfl rfl rfl rfl rfl rfl rfl rfl ?_|refine a9 5 a4 1 rfl rfl rfl rfl rfl rfl rfl rfl ?_|refine a9 5 a4 2 rfl rfl rfl rfl rfl rfl rfl rfl ?_|refine aa a4 0 rfl rfl rfl rfl rfl rfl rfl ?_|refine aa a4 1 rfl rfl rfl rfl rfl rfl rfl ?_|refine aa a4 2 rfl rfl rfl rfl rfl rfl rfl ?_|refine aa a4 3 rfl rfl rfl rfl rfl rfl rfl ?_|fail))
  exact fj (cs := [.agg (bn (ga l))]) [] ⟨⟨_, 0, _, _, rfl, rfl, .inr ⟨dG a4 rfl, rfl⟩⟩, trivial⟩ (List.nil_sublist _) rfl
end Go.Proofs.YtpmdfoaadejmkaaGreatDoor
