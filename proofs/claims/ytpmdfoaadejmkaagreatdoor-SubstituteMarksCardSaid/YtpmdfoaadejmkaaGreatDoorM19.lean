/-
  An engine's passes over a run.
-/
import Derived.Test.YtpmdfoaadejmkaaGreatDoorM18
import Derived.Test.YtpmdfoaadejmkaaGreatDoorM15
import Derived.Test.YtpmdfoaadejmkaaGreatDoorM14
import Derived.Test.YtpmdfoaadejmkaaGreatDoorM17
namespace Go.Proofs.YtpmdfoaadejmkaaGreatDoor
open Go.RowKit
attribute [local irreducible] AT bh AX AO Av Kt b6 di DA cC
theorem wh (run : List aG) (hr : run.length ≤ 1000000) : AC Tryz.prog 36 [.imm 6 (run.map bN)] [] fun c L => ∃ q, cT q run ∧ c = dv q run ∧ L = lf q run := by
 refine aC Tryz.func36 rfl Tryz.ntmps36 rfl fun B => ?_
 have hml : (run.map bN).length = run.length := Du ..
 repeat' (first|refine a9 ?_|refine a4 ?_|refine a6 ?_|refine a7 ?_|refine a8 a5 rfl rfl ?_)
 refine po a5 rfl rfl rfl rfl rfl fun b hb => ?_
 repeat' (first|refine a6 ?_|refine a7 ?_)
 cases b with
 | true =>
  have hn : run = [] := by simpa using hb rfl
  subst hn
  repeat' (first|refine a9 ?_|refine a4 ?_|refine ah ?_|refine a6 ?_|refine aq ?_|refine a7 ?_|refine a8 a5 rfl rfl ?_|refine bv rfl ?_)
  refine bB (bT (t := 2) (c' := .imm 6 []) rfl fun σ v h => ja 6 h) ?_
  exact an rfl rfl ⟨none, ⟨fun _ => rfl, fun m h => by cases h⟩, rfl, rfl⟩
 | false =>
  repeat' (first|refine a9 ?_|refine a4 ?_|refine ai ?_|refine a6 ?_|refine a8 a5 rfl rfl ?_|refine B6 (d := 5) a5 rfl rfl fun _=>?_|refine bC rfl ?_)
  rename_i b5
  refine j4 a5 0 rfl rfl rfl rfl (r7 rfl rfl) rfl (Nat.zero_le _) (Nat.le_refl _) (Nat.zero_le _) (by rw [hml]; unfold maxLen; omega) (by rw [hml]; omega) rfl fun b' cs' cap' e1 e2 e3 e4 e5 => ?_
  repeat' (first|refine ah ?_|refine a6 ?_|refine a7 ?_|refine a8 a5 rfl rfl ?_)
  have hcs : cs' = bq run ++ cs'.drop (run.length * 6) := by
   conv => lhs; rw [← List.take_append_drop (run.length * 6) cs']
   rw [Nat.zero_add, hml] at e2
   rw [e2]
   rfl
  refine an rfl rfl ⟨some ⟨b', cap', cs'.drop (run.length * 6)⟩, ⟨fun h => (by cases h), fun m hm => ?_⟩, ?_, ?_⟩
  ·cases hm
   dsimp only
   rw [← hcs]
   exact ⟨by omega, e4, e1⟩
  ·unfold dv
   dsimp only
   rw [Nat.zero_add, hml]
  ·unfold lf
   dsimp only
   rw [← hcs]
   rfl
theorem mL {R : List aG} : ∀ {l : List Nat}, R.length ≤ (dN l R).length + l.length
 | [] => by simp [dN]
 | z :: l => by
  have := mL (R := R) (l := l)
  have h2 : (dN l R).length ≤ ((dN l R).eraseIdx z).length + 1 := by rw [List.length_eraseIdx]; split <;> omega
  rw [dN, List.length_cons]
  omega
theorem tK {run : List aG} {p : Nat} {q : List Nat} (h : oS run (p :: q)) : p + q.length ≤ (p :: q).getLastD p ∧ (p :: q).getLastD p < run.length ∧ (q ≠ [] ↔ p < (p :: q).getLastD p) := by
  have key : ∀ (q : List Nat) (p : Nat), (p :: q).Pairwise (· < ·) → p + q.length ≤ (p :: q).getLast (by simp) := by
    intro q
    induction q with
    | nil => intro p _; simp
    | cons a q ih =>
      intro p hp
      obtain ⟨h1, h2⟩ := List.pairwise_cons.1 hp
      have := ih a h2
      have := h1 a (by simp)
      rw [List.getLast_cons (by simp), List.length_cons]
      omega
  have hk := key q p h.inc
  have he : (p :: q).getLastD p = (p :: q).getLast (by simp) := by rw [List.getLastD_eq_getLast?, List.getLast?_eq_some_getLast (by simp)]; rfl
  rw [he]
  refine ⟨hk, h.lt _ (List.getLast_mem _), fun hq => ?_, fun hq e => ?_⟩
  · have : 0 < q.length := List.length_pos_iff.2 hq
    omega
  · subst e
    simp at hq
theorem nv {l : aQ} {r : aV} {run : List aG} {p : Nat} {q : List Nat} (h : oS run (p :: q)) : run.length - 1 - (p :: q).getLastD p ≤ (eN l r (p :: q) run).length := by
 obtain ⟨h1, h2, _⟩ := tK h
 unfold eN
 split
 ·unfold eC; split <;> (try split) <;> (try split) <;> (try rw [List.length_set]) <;> omega
 split
 ·unfold fJ
  split
  ·omega
  ·split
   ·omega
   ·simp only [List.length_append, List.length_take, List.length_drop, Du, List.headD_cons]
    omega
 split
 ·unfold ke
  split
  ·rename_i heq _
   cases heq
   split
   ·rename_i x hx
    have key : ∀ y : aG, run.length - 1 - (p :: q).getLastD p ≤ (dN q (run.set p y)).length := fun y => by
     have := mL (R := run.set p y) (l := q)
     rw [List.length_set] at this
     omega
    exact key _
   ·omega
  ·omega
 split
 ·unfold oz; split <;> (try rw [List.length_set]) <;> omega
 ·omega
theorem wo {ms : List Bool} {ls : List aQ} {k : Nat} {l : aQ} (hk : l.Kind ≠ 4) {r : aV} {run : List aG} {p : Nat} {q : List Nat} (h : oS run (p :: q)) : run.length - 1 - (p :: q).getLastD p ≤ (gA ms ls k l r (p :: q) run).length := by
 cases k with
 | zero => rw [gA]; exact nv h
 | succ k => rw [gA]; dsimp only; rw [if_neg hk]; exact nv h
theorem su {p : Nat} {q : List Nat} : (cF (p :: q))[(((p :: q).length : Int) - 1).toNat]? = some [aA ((p :: q).getLastD p : Nat)] := by
 have he : (p :: q).getLastD p = (p :: q).getLast (by simp) := by rw [List.getLastD_eq_getLast?, List.getLast?_eq_some_getLast (by simp)]; rfl
 have hi : (((p :: q).length : Int) - 1).toNat = (p :: q).length - 1 := by omega
 rw [hi, he]
 unfold cF
 refine bJ ?_
 rw [List.getElem?_map, ← List.getLast?_eq_getElem?, List.getLast?_eq_some_getLast (by simp)]
 rfl
section
variable {E : ma} (hE : ln E) (wb : Nat)
include hE
set_option maxHeartbeats 8000000 in
theorem C6 (e : m9) (he : e ∈ E.lks) (h1 : 1 ≤ e.l.Kind) (h6 : e.l.Kind ≤ 6) (forms : List Int) (q0 : Option eo) (run0 : List aG) (hq0 : cT q0 run0) (hr0 : run0.length ≤ 1000000) :
  AC Tryz.prog 37 [ek wb, .iptr (dO e), .imm 1 (aT forms)] (gb wb E q0 run0) (eP wb E (tG E.ms E.ls e.l forms run0.length 0 run0)) := by
 refine aC Tryz.func37 rfl Tryz.ntmps37 rfl fun B => ?_
 have hau := hE.auto e he h1 h6
 repeat' (first|refine a9 ?_|refine a4 ?_|refine ak ?_|refine a6 ?_|refine a7 ?_|refine a8 a5 rfl rfl ?_)
 refine aL [0, 1, 2] (α := Nat × Nat × Option eo × List aG) (fun s => [(6, aA s.1)]) (fun s => cT s.2.2.1 s.2.2.2 ∧ s.2.2.2.length ≤ 1000000 ∧ s.1 ≤ 1000001 ∧ s.2.2.2.length - s.1 ≤ s.2.1 ∧ tG E.ms E.ls e.l forms s.2.1 s.1 s.2.2.2 = tG E.ms E.ls e.l forms run0.length 0 run0) (fun s => gb wb E s.2.2.1 s.2.2.2) (fun s => s.2.1) (0, run0.length, q0, run0) rfl ⟨rfl, trivial⟩ ⟨hq0, hr0, by dsimp only; omega, by dsimp only; omega, rfl⟩ (fun _ _ h => h) ?_
 rintro ⟨i, k, q, run⟩ ⟨hq, hr, hi1, hk, hv⟩
 dsimp only at hq hr hi1 hk hv ⊢
 try dsimp only [Ds, Dr, Dq, Dn]
 repeat' (first|refine a9 ?_|refine a4 ?_|refine a8 a5 rfl rfl ?_|(apply bE; first|refine aj a5 0 rfl rfl rfl rfl rfl ?_|refine aj a5 1 rfl rfl rfl rfl rfl ?_|refine aj a5 2 rfl rfl rfl rfl rfl ?_|refine aj a5 3 rfl rfl rfl rfl rfl ?_|refine ay a5 0 rfl rfl rfl rfl rfl ?_|refine ay a5 1 rfl rfl rfl rfl rfl ?_|refine ay a5 2 rfl rfl rfl rfl rfl ?_|refine aj a5 1 rfl rfl rfl (by assumption) rfl ?_|refine aj a5 0 rfl rfl rfl (by assumption) rfl ?_|fail)|fail)
 refine jB a5 rfl hq rfl rfl ?_
 repeat' (first|refine a6 ?_|refine a7 ?_|refine a8 a5 rfl rfl ?_)
 refine ar rfl (fun h => ?_) (fun h => ?_)
 ·have hi : i < run.length := by have := Dz h; omega
  obtain ⟨k, rfl⟩ : ∃ j, k = j + 1 := ⟨k - 1, by omega⟩
  rw [tG, if_pos hi] at hv
  have hma := n4 E e hau wb q run hq hr i (by omega) forms
  clear h
  repeat' (first|refine a9 ?_|refine a4 ?_|refine ak ?_|refine ai ?_|refine a6 ?_|refine a8 a5 rfl rfl ?_)
  refine aO (gb wb E q run) [] hma rfl rfl (by rw [List.append_nil]; exact Do _) rfl fun c L1 ⟨hc, hL⟩ => ?_
  subst hc; subst hL
  unfold iD
  cases hmv : du E.ms e.l run i forms with
  | none =>
   rw [hmv] at hv
   dsimp only at hv ⊢
   repeat' (first|refine a9 ?_|refine a4 ?_|refine a6 ?_|refine a7 ?_|refine a8 a5 rfl rfl ?_)
   refine n7 Tryz.underlying190 rfl rfl rfl rfl ?_
   repeat' (first|refine a9 ?_|refine a4 ?_|refine aM ?_|refine a6 ?_|refine au ?_|refine aw ?_|refine a7 ?_|refine a8 a5 rfl rfl ?_|(apply aU; refine aS ?_)|refine bv rfl ?_)
   exact az (i + 1, k, q, run) rfl ⟨by rw [Dv]; rfl, trivial⟩ ⟨hq, hr, by dsimp only; omega, by dsimp only; omega, hv⟩ (by dsimp only; omega) (fun _ _ h => by rw [List.append_nil] at h; exact h)
  | some r =>
   rw [hmv] at hv
   dsimp only at hv ⊢
   obtain ⟨hps, hrm, hin, _, hhd⟩ := Bg hmv
   have hro := hE.rule e he r hrm hin
   have hdo := wp hE wb 4 0 rfl e r (cO E.ms e.l run i r) q run he h1 h6 hro hps hq hr
   generalize cO E.ms e.l run i r = ps at *
   obtain ⟨p, ps', rfl⟩ := List.exists_cons_of_ne_nil hps.some_
   simp only [List.head?_cons, Option.some.injEq] at hhd
   subst hhd
   obtain ⟨l1, l2, l3⟩ := tK hps
   have hlg := su (p := p) (q := ps')
   have hnl := j5 (p :: ps')
   have hlen := iV (ms := E.ms) (ls := E.ls) 4 e.l r (p :: ps') run
   have hr2 := hlen.big hr
   have hleft : e.l.Kind ≠ 4 → run.length - 1 - (p :: ps').getLastD p ≤ (gA E.ms E.ls 4 e.l r (p :: ps') run).length := fun h4 => wo h4 hps
   have hpl1 : (p :: ps').length = ps'.length + 1 := rfl
   have hlen1 : (1 < ((cF (p :: ps')).length : Int)) ↔ p < (p :: ps').getLastD p := by
    rw [hnl, hpl1, ← l3, ← List.length_pos_iff]
    omega
   have hpair : e.l.Kind = 6 → (gA E.ms E.ls 4 e.l r (p :: ps') run).length = run.length := fun h6 => by
    rw [gA]
    dsimp only
    rw [if_neg (by omega)]
    unfold eN
    rw [if_neg (by omega), if_neg (by omega), if_neg (by omega), if_pos h6]
    unfold oz
    split
    ·rw [List.length_set]
    ·rfl
   generalize gA E.ms E.ls 4 e.l r (p :: ps') run = run2 at *
   generalize (p :: ps').getLastD p = last at *
   repeat' (first|refine a9 ?_|refine a4 ?_|refine a6 ?_|refine a7 ?_|refine a8 a5 rfl rfl ?_)
   refine n7 Tryz.underlying190 rfl rfl rfl rfl ?_
   repeat' (first|refine a9 ?_|refine a4 ?_|refine ai ?_|refine a6 ?_|refine a7 ?_|refine a8 a5 rfl rfl ?_|(apply aU; refine aS ?_)|refine bC rfl ?_)
   refine aE a5 ?_ (hl := by rw [hnl]; exact hlg) (h0 := by rw [hnl, hpl1]; omega)
   repeat' (first|refine a9 ?_|refine a4 ?_|refine a6 ?_|refine a7 ?_|refine a8 a5 rfl rfl ?_|(apply bE; first|refine aj a5 0 rfl rfl rfl rfl rfl ?_|refine aj a5 1 rfl rfl rfl rfl rfl ?_|refine aj a5 2 rfl rfl rfl rfl rfl ?_|refine aj a5 3 rfl rfl rfl rfl rfl ?_|refine ay a5 0 rfl rfl rfl rfl rfl ?_|refine ay a5 1 rfl rfl rfl rfl rfl ?_|refine ay a5 2 rfl rfl rfl rfl rfl ?_|refine aj a5 1 rfl rfl rfl (by assumption) rfl ?_|refine aj a5 0 rfl rfl rfl (by assumption) rfl ?_|fail)|fail)
   refine jB a5 rfl hq rfl rfl ?_
   repeat' (first|refine a9 ?_|refine a4 ?_|refine a6 ?_|refine a7 ?_|refine a8 a5 rfl rfl ?_|(apply aU; refine aS ?_)|fail)
   refine aO (gb wb E q run) [] hdo rfl rfl (by rw [List.append_nil]) rfl fun c L1 ⟨q', g1, g2⟩ => ?_
   subst g2
   repeat' (first|refine a9 ?_|refine a4 ?_|refine a6 ?_|refine a7 ?_|refine a8 a5 rfl rfl ?_|(apply bE; first|refine aj a5 0 rfl rfl rfl rfl rfl ?_|refine aj a5 1 rfl rfl rfl rfl rfl ?_|refine aj a5 2 rfl rfl rfl rfl rfl ?_|refine aj a5 3 rfl rfl rfl rfl rfl ?_|refine ay a5 0 rfl rfl rfl rfl rfl ?_|refine ay a5 1 rfl rfl rfl rfl rfl ?_|refine ay a5 2 rfl rfl rfl rfl rfl ?_|refine aj a5 1 rfl rfl rfl (by assumption) rfl ?_|refine aj a5 0 rfl rfl rfl (by assumption) rfl ?_|fail)|fail)
   refine jB a5 rfl g1 rfl rfl ?_
   repeat' (first|refine a9 ?_|refine a4 ?_|refine ak ?_|refine a6 ?_|refine a7 ?_|refine a8 a5 rfl rfl ?_|(apply aU; refine aS ?_)|fail)
   refine ar rfl (fun h4 => ?_) (fun h4 => ?_)
   ·have hk4 : e.l.Kind = 4 := Dz h4
    unfold tE at hv
    rw [if_pos hk4] at hv
    repeat' (first|refine a4 ?_|refine a6 ?_|refine aH ?_|refine a7 ?_|refine a8 a5 rfl rfl ?_|(apply aU; refine aS ?_)|fail)
    refine az (max (run2.length - (run.length - 1 - last)) (p + 1), k, q', run2) rfl ⟨?_, trivial⟩ ⟨g1, hr2, by dsimp only; omega, by dsimp only; omega, hv⟩ (by dsimp only; omega) (fun _ _ h => by rw [List.append_nil] at h; exact h)
    show some (AV.sc (.int .i64 (max ((run2.length : Int) - ((run.length : Int) - 1 - last)) ((p : Int) + 1)))) = some (aA ((max (run2.length - (run.length - 1 - last)) (p + 1) : Nat) : Int))
    rw [show max ((run2.length : Int) - ((run.length : Int) - 1 - last)) ((p : Int) + 1) = ((max (run2.length - (run.length - 1 - last)) (p + 1) : Nat) : Int) by omega]
   ·have hk4 : e.l.Kind ≠ 4 := Dy h4
    have hlf := hleft hk4
    repeat' (first|refine a9 ?_|refine a4 ?_|refine a8 a5 rfl rfl ?_)
    refine bH [0, 1, 2, 9, 11] (e.l.Kind = 6 ∧ p < last) rfl (fun Q' K => ?_) (fun hC => ?_) (fun hC => ?_)
    ·repeat' (first|refine a7 ?_|refine a8 a5 rfl rfl ?_|refine am rfl rfl ?_|refine ax rfl rfl rfl rfl ?_|refine aI rfl rfl rfl (fun _ => ?_) (fun _ => ?_))
     all_goals exact K _ _ rfl rfl (by rw [← hlen1]; simp_all)
    ·unfold tE at hv
     rw [if_neg hk4, if_pos hC] at hv
     repeat' (first|refine a4 ?_|refine a6 ?_|refine aH ?_|refine a7 ?_|refine a8 a5 rfl rfl ?_)
     refine az (last, k, q', run2) rfl ⟨rfl, trivial⟩ ⟨g1, hr2, by dsimp only; omega, by have := hpair hC.1; dsimp only; omega, hv⟩ (by dsimp only; omega) (fun _ _ h => by rw [List.append_nil] at h; exact h)
    ·unfold tE at hv
     rw [if_neg hk4, if_neg hC] at hv
     repeat' (first|refine a4 ?_|refine ai ?_|refine a6 ?_|refine aH ?_|refine a7 ?_|refine a8 a5 rfl rfl ?_)
     refine az (run2.length - (run.length - 1 - last), k, q', run2) rfl ⟨?_, trivial⟩ ⟨g1, hr2, by dsimp only; omega, by dsimp only; omega, hv⟩ (by dsimp only; omega) (fun _ _ h => by rw [List.append_nil] at h; exact h)
     show some (AV.sc (.int .i64 ((run2.length : Int) - ((run.length : Int) - 1 - last)))) = some (aA ((run2.length - (run.length - 1 - last) : Nat) : Int))
     rw [show (run2.length : Int) - ((run.length : Int) - 1 - last) = ((run2.length - (run.length - 1 - last) : Nat) : Int) by omega]
 ·have hi : run.length ≤ i := by have := Dy h; omega
  have hrun : run = tG E.ms E.ls e.l forms run0.length 0 run0 := by
   rw [← hv]
   cases k with
   | zero => rw [tG]
   | succ k => rw [tG, if_neg (by omega)]
  repeat' (first|refine aM ?_|refine au ?_|refine aw ?_|refine av ?_)
  exact c8 rfl ⟨q, by rw [← hrun]; exact hq, by rw [← hrun]; rfl⟩
set_option maxHeartbeats 8000000 in
theorem wq (e : m9) (he : e ∈ E.lks) (h1 : 1 ≤ e.l.Kind) (h6 : e.l.Kind ≤ 6) (forms : List Int) (q0 : Option eo) (run0 : List aG) (hq0 : cT q0 run0) (hr0 : run0.length ≤ 1000000) :
  AC Tryz.prog 38 [ek wb, .iptr (dO e), .imm 1 (aT forms)] (gb wb E q0 run0) (eP wb E (hZ E.ms E.ls e.l forms run0.length run0)) := by
 refine aC Tryz.func38 rfl Tryz.ntmps38 rfl fun B => ?_
 have hau := hE.auto e he h1 h6
 repeat' (first|refine a9 ?_|refine a4 ?_|refine a8 a5 rfl rfl ?_|(apply bE; first|refine aj a5 0 rfl rfl rfl rfl rfl ?_|refine aj a5 1 rfl rfl rfl rfl rfl ?_|refine aj a5 2 rfl rfl rfl rfl rfl ?_|refine aj a5 3 rfl rfl rfl rfl rfl ?_|refine ay a5 0 rfl rfl rfl rfl rfl ?_|refine ay a5 1 rfl rfl rfl rfl rfl ?_|refine ay a5 2 rfl rfl rfl rfl rfl ?_|refine aj a5 1 rfl rfl rfl (by assumption) rfl ?_|refine aj a5 0 rfl rfl rfl (by assumption) rfl ?_|fail)|fail)
 refine jB a5 rfl hq0 rfl rfl ?_
 repeat' (first|refine ak ?_|refine a6 ?_|refine a7 ?_|refine a8 a5 rfl rfl ?_|(apply aU; refine aS ?_)|fail)
 refine aL [0, 1, 2] (α := Nat × Option eo × List aG) (fun s => [(6, aA ((s.1 : Int) - 1))]) (fun s => cT s.2.1 s.2.2 ∧ s.2.2.length ≤ 1000000 ∧ s.1 ≤ 1000000 ∧ hZ E.ms E.ls e.l forms s.1 s.2.2 = hZ E.ms E.ls e.l forms run0.length run0) (fun s => gb wb E s.2.1 s.2.2) (fun s => s.1) (run0.length, q0, run0) rfl ⟨rfl, trivial⟩ ⟨hq0, hr0, hr0, rfl⟩ (fun _ _ h => h) ?_
 rintro ⟨n, q, run⟩ ⟨hq, hr, hn1, hv⟩
 dsimp only at hq hr hn1 hv ⊢
 try dsimp only [Ds, Dr, Dq, Dn]
 repeat' (first|refine a9 ?_|refine a4 ?_|refine a6 ?_|refine a7 ?_|refine a8 a5 rfl rfl ?_)
 refine ar rfl (fun h => ?_) (fun h => ?_)
 ·have hn0 : 0 < n := by have := Dz h; omega
  obtain ⟨i, rfl⟩ : ∃ j, n = j + 1 := ⟨n - 1, by omega⟩
  rw [hZ] at hv
  have hi0 : ((i + 1 : Nat) : Int) - 1 = (i : Int) := by omega
  have hma := n4 E e hau wb q run hq hr i (by omega) forms
  clear h
  rw [hi0]
  repeat' (first|refine a9 ?_|refine a4 ?_|refine ak ?_|refine ai ?_|refine a6 ?_|refine a8 a5 rfl rfl ?_)
  refine aO (gb wb E q run) [] hma rfl rfl (by rw [List.append_nil]; exact Do _) rfl fun c L1 ⟨hc, hL⟩ => ?_
  subst hc; subst hL
  unfold iD
  cases hmv : du E.ms e.l run i forms with
  | none =>
   rw [hmv] at hv
   dsimp only at hv ⊢
   repeat' (first|refine a9 ?_|refine a4 ?_|refine a6 ?_|refine a7 ?_|refine a8 a5 rfl rfl ?_)
   refine pq Tryz.underlying190 rfl rfl rfl rfl ?_
   repeat' (first|refine a4 ?_|refine ai ?_|refine a6 ?_|refine aH ?_|refine a7 ?_|refine a8 a5 rfl rfl ?_|(apply aU; refine aS ?_)|refine bC rfl ?_)
   exact az (i, q, run) rfl ⟨rfl, trivial⟩ ⟨hq, hr, by dsimp only; omega, hv⟩ (by dsimp only; omega) (fun _ _ h => by rw [List.append_nil] at h; exact h)
  | some r =>
   rw [hmv] at hv
   dsimp only at hv ⊢
   obtain ⟨hps, hrm, hin, _, hhd⟩ := Bg hmv
   have hro := hE.rule e he r hrm hin
   have hdo := wp hE wb 4 0 rfl e r (cO E.ms e.l run i r) q run he h1 h6 hro hps hq hr
   have hr2 := (iV (ms := E.ms) (ls := E.ls) 4 e.l r (cO E.ms e.l run i r) run).big hr
   repeat' (first|refine a9 ?_|refine a4 ?_|refine a6 ?_|refine a7 ?_|refine a8 a5 rfl rfl ?_)
   refine pq Tryz.underlying190 rfl rfl rfl rfl ?_
   repeat' (first|refine a4 ?_|refine a6 ?_|refine a7 ?_|refine a8 a5 rfl rfl ?_|refine bv rfl ?_)
   refine aO (gb wb E q run) [] hdo rfl rfl (by rw [List.append_nil]) rfl fun c L1 ⟨q', g1, g2⟩ => ?_
   subst g2
   repeat' (first|refine a4 ?_|refine a6 ?_|refine aH ?_|refine a7 ?_|refine a8 a5 rfl rfl ?_|(apply aU; refine aS ?_)|fail)
   exact az (i, q', _) rfl ⟨rfl, trivial⟩ ⟨g1, hr2, by dsimp only; omega, hv⟩ (by dsimp only; omega) (fun _ _ h => by rw [List.append_nil] at h; exact h)
 ·have hn0 : n = 0 := by have := Dy h; omega
  subst hn0
  have hrun : run = hZ E.ms E.ls e.l forms run0.length run0 := by rw [← hv, hZ]
  repeat' (first|refine aM ?_|refine au ?_|refine aw ?_|refine av ?_)
  exact c8 rfl ⟨q, by rw [← hrun]; exact hq, by rw [← hrun]; rfl⟩
end
end Go.Proofs.YtpmdfoaadejmkaaGreatDoor
namespace Go.Proofs.YtpmdfoaadejmkaaGreatDoor
open Go.RowKit
attribute [local irreducible] AT bh AX AO Av Kt b6 di DA cC
theorem qd (k : Int) : bn Tryz.prog 34 [aA k] (dx (decide (1 ≤ k ∧ k ≤ 6))) := by
 refine aC Tryz.func34 rfl Tryz.ntmps34 rfl fun B => ?_
 repeat' (first|refine a9 ?_|refine a4 ?_|refine ah ?_|refine a6 ?_|refine a7 ?_|refine a8 a5 rfl rfl ?_|refine am rfl rfl ?_|refine ax rfl rfl rfl rfl ?_|refine aI rfl rfl rfl (fun _ => ?_) (fun _ => ?_))
 all_goals exact an rfl rfl (by simp_all <;> omega)
instance (k : Int) : AD Tryz.prog 34 [aA k] (dx (decide (1 ≤ k ∧ k ≤ 6))) := ⟨qd k⟩
section
variable {nt : Nat} {fr : bw} {B : Bs} {D : List Deferred}
theorem oN {t : Nat} {q : Option eo} {run : List aG} {Lf : AL} (hq : cT q run) (hl : bF fr t = some (dv q run)) : jL nt D B fr (lf q run ++ Lf) ((t, .imm 6 (run.map bN)) :: fr) Lf := by
 cases q with
 | none =>
  have he := hq.emp rfl
  subst he
  exact bT hl fun σ v h => h
 | some m =>
  obtain ⟨h1, h2, h3⟩ := hq.fit m rfl
  have hfl := cy run
  have hcl : run.length * 6 ≤ (bq run ++ m.junk).length := by rw [List.length_append]; omega
  have htk : (bq run ++ m.junk).take (run.length * 6) = (run.map bN).flatten := by
   have := kZ run m.junk (Nat.le_refl _)
   rw [List.take_length] at this
   exact this
  exact iL (sz := 6) (n := run.length) (cap := m.cap) (l := run.map bN) 0 hl rfl htk hcl (fun e he => by obtain ⟨z, _, rfl⟩ := List.mem_map.1 he; rfl) (Du ..) h1 h2
theorem kC {t wb : Nat} {eng : AV} {q : Option eo} {run : List aG} {Lf : AL} (hq : cT q run) (hl : bF fr t = some (dv q run)) : jL nt D B fr ((wb, .box [eng, dv q run] 102) :: (lf q run ++ Lf)) ((t, .imm 6 (run.map bN)) :: fr) Lf := fun σ a w ha hw =>
 oN hq hl σ a w ha (hw.sublist (List.sublist_cons_self ..))
end
section
variable {E : ma} (hE : ln E)
include hE
set_option maxHeartbeats 8000000 in
theorem vQ (n : Int) (run : List aG) (hr : run.length ≤ 1000000) (forms : List Int) : AC Tryz.prog 18 [.iptr (da E), aA n, .imm 6 (run.map bN), .imm 1 (aT forms)] [cr] fun c L => c = .imm 6 ((d8 E.ms E.ls n run forms).map bN) ∧ L = [cr] := by
 refine aC Tryz.func18 rfl Tryz.ntmps18 rfl fun B => ?_
 have hll := nZ E
 have hcl := wh run hr
 repeat' (first|refine a9 ?_|refine a4 ?_|refine a6 ?_|refine a7 ?_|refine a8 a5 rfl rfl ?_)
 refine aO [] [cr] hcl rfl rfl (Do _) rfl fun c L1 ⟨q, hq, hc, hL⟩ => ?_
 subst hc; subst hL
 repeat' (first|fail)
 refine bO (u := .agg [.iptr (da E), dv q run]) (jF a5 (by cases q <;> rfl)) rfl rfl ?_
 repeat' (first|refine a9 ?_|refine a4 ?_|refine a6 ?_|refine a7 ?_|refine a8 a5 rfl rfl ?_|refine x1 (d := 15) fun _=>?_|fail)
 refine n7 Tryz.underlying34 rfl rfl rfl rfl ?_
 by_cases hin : 0 ≤ n ∧ n < E.lks.length
 ·obtain ⟨e, he⟩ : ∃ e, E.lks[n.toNat]? = some e := ⟨_, Bn (by omega)⟩
  have heg : (E.lks.map dO)[n.toNat]? = some (dO e) := by simp [he]
  have hem := Dw he
  refine bH [0, 1, 3, 9] (¬ (1 ≤ e.l.Kind ∧ e.l.Kind ≤ 6)) rfl (fun Q' K => ?_) (fun hC => ?_) (fun hC => ?_)
  ·repeat' (first|refine a7 ?_|refine a8 a5 rfl rfl ?_|refine am rfl rfl ?_|refine ax rfl rfl rfl rfl ?_|(apply aF; first|refine aE a5 ?_|refine aB a5 ?_)|(apply bc;refine b7 ?_)|refine aI rfl rfl rfl (fun _ => ?_) (fun _ => ?_))
   all_goals exact K _ _ rfl rfl (by simp_all <;> omega)
  ·have hv : d8 E.ms E.ls n run forms = run := by
    unfold d8
    rw [if_neg (by omega), List.getElem?_map, he]
    show (if e.l.Kind < 1 ∨ 6 < e.l.Kind then run else _) = run
    rw [if_pos (by omega)]
   rw [hv]
   repeat' (first|refine a9 ?_|refine a4 ?_|refine ah ?_|refine a6 ?_|refine aq ?_|refine a7 ?_|refine a8 a5 rfl rfl ?_|(apply bE; first|refine aj a5 0 rfl rfl rfl rfl rfl ?_|refine aj a5 1 rfl rfl rfl rfl rfl ?_|refine aj a5 2 rfl rfl rfl rfl rfl ?_|refine aj a5 3 rfl rfl rfl rfl rfl ?_|refine ay a5 0 rfl rfl rfl rfl rfl ?_|refine ay a5 1 rfl rfl rfl rfl rfl ?_|refine ay a5 2 rfl rfl rfl rfl rfl ?_|refine aj a5 1 rfl rfl rfl (by assumption) rfl ?_|refine aj a5 0 rfl rfl rfl (by assumption) rfl ?_|fail)|fail)
   refine bB (kC (t := 8) hq rfl) ?_
   exact an rfl rfl ⟨rfl, rfl⟩
  ·have hC : 1 ≤ e.l.Kind ∧ e.l.Kind ≤ 6 := Classical.not_not.1 hC
   have hv : d8 E.ms E.ls n run forms = if e.l.Kind = 5 then hZ E.ms E.ls e.l forms run.length run else tG E.ms E.ls e.l forms run.length 0 run := by
    unfold d8
    rw [if_neg (by omega), List.getElem?_map, he]
    show (if e.l.Kind < 1 ∨ 6 < e.l.Kind then run else _) = _
    rw [if_neg (by omega)]
   rw [hv]
   rename_i wb _
   have hdn := wq hE wb e hem hC.1 hC.2 forms q run hq hr
   have hon := C6 hE wb e hem hC.1 hC.2 forms q run hq hr
   repeat' (first|refine a9 ?_|refine a4 ?_|refine ai ?_|refine a6 ?_|refine a7 ?_|refine a8 a5 rfl rfl ?_|(apply aF; first|refine aE a5 ?_|refine aB a5 ?_)|fail)
   refine ar rfl (fun h5 => ?_) (fun h5 => ?_)
   ·rw [if_pos (Dz h5)]
    repeat' (first|refine a9 ?_|refine a4 ?_|refine a6 ?_|refine a7 ?_|refine a8 a5 rfl rfl ?_|(apply aF; first|refine aE a5 ?_|refine aB a5 ?_)|fail)
    refine fW (gb wb E q run) [] (gD.fnB (f := 38) (fs := [ek wb]) (caps := []) hdn) rfl rfl (by rw [List.append_nil]; exact Do _) rfl rfl fun c L1 ⟨q', g1, g2⟩ => ?_
    subst g2
    repeat' (first|refine a9 ?_|refine a4 ?_|refine ah ?_|refine a6 ?_|refine a7 ?_|refine a8 a5 rfl rfl ?_|(apply bE; first|refine aj a5 0 rfl rfl rfl rfl rfl ?_|refine aj a5 1 rfl rfl rfl rfl rfl ?_|refine aj a5 2 rfl rfl rfl rfl rfl ?_|refine aj a5 3 rfl rfl rfl rfl rfl ?_|refine ay a5 0 rfl rfl rfl rfl rfl ?_|refine ay a5 1 rfl rfl rfl rfl rfl ?_|refine ay a5 2 rfl rfl rfl rfl rfl ?_|refine aj a5 1 rfl rfl rfl (by assumption) rfl ?_|refine aj a5 0 rfl rfl rfl (by assumption) rfl ?_|fail)|fail)
    refine bB (aY (List.Perm.of_eq (List.append_nil _))) ?_
    refine bB (kC (t := 8) g1 rfl) ?_
    exact an rfl rfl ⟨rfl, rfl⟩
   ·rw [if_neg (Dy h5)]
    repeat' (first|refine a9 ?_|refine a4 ?_|refine ai ?_|refine a6 ?_|refine a8 a5 rfl rfl ?_|(apply aF; first|refine aE a5 ?_|refine aB a5 ?_)|fail)
    refine fW (gb wb E q run) [] (gD.fnB (f := 37) (fs := [ek wb]) (caps := []) hon) rfl rfl (by rw [List.append_nil]; exact Do _) rfl rfl fun c L1 ⟨q', g1, g2⟩ => ?_
    subst g2
    repeat' (first|refine a9 ?_|refine a4 ?_|refine ah ?_|refine a6 ?_|refine a7 ?_|refine a8 a5 rfl rfl ?_|(apply bE; first|refine aj a5 0 rfl rfl rfl rfl rfl ?_|refine aj a5 1 rfl rfl rfl rfl rfl ?_|refine aj a5 2 rfl rfl rfl rfl rfl ?_|refine aj a5 3 rfl rfl rfl rfl rfl ?_|refine ay a5 0 rfl rfl rfl rfl rfl ?_|refine ay a5 1 rfl rfl rfl rfl rfl ?_|refine ay a5 2 rfl rfl rfl rfl rfl ?_|refine aj a5 1 rfl rfl rfl (by assumption) rfl ?_|refine aj a5 0 rfl rfl rfl (by assumption) rfl ?_|fail)|fail)
    refine bB (aY (List.Perm.of_eq (List.append_nil _))) ?_
    refine bB (kC (t := 8) g1 rfl) ?_
    exact an rfl rfl ⟨rfl, rfl⟩
 ·have hv : d8 E.ms E.ls n run forms = run := by
   unfold d8
   by_cases h0 : n < 0
   ·rw [if_pos h0]
   ·rw [if_neg h0, List.getElem?_eq_none (by rw [Du]; omega)]
  rw [hv]
  refine bH [0, 1, 3, 9] True rfl (fun Q' K => ?_) (fun hC => ?_) (fun hC => absurd trivial hC)
  ·repeat' (first|refine a7 ?_|refine a8 a5 rfl rfl ?_|refine am rfl rfl ?_|refine ax rfl rfl rfl rfl ?_|refine aI rfl rfl rfl (fun _ => ?_) (fun _ => ?_))
   all_goals first | exact K _ _ rfl rfl (by simp_all <;> omega) | (exfalso; simp_all <;> omega)
  ·repeat' (first|refine a9 ?_|refine a4 ?_|refine ah ?_|refine a6 ?_|refine aq ?_|refine a7 ?_|refine a8 a5 rfl rfl ?_|(apply bE; first|refine aj a5 0 rfl rfl rfl rfl rfl ?_|refine aj a5 1 rfl rfl rfl rfl rfl ?_|refine aj a5 2 rfl rfl rfl rfl rfl ?_|refine aj a5 3 rfl rfl rfl rfl rfl ?_|refine ay a5 0 rfl rfl rfl rfl rfl ?_|refine ay a5 1 rfl rfl rfl rfl rfl ?_|refine ay a5 2 rfl rfl rfl rfl rfl ?_|refine aj a5 1 rfl rfl rfl (by assumption) rfl ?_|refine aj a5 0 rfl rfl rfl (by assumption) rfl ?_|fail)|fail)
   refine bB (kC (t := 8) hq rfl) ?_
   exact an rfl rfl ⟨rfl, rfl⟩
end
def sE (ap : Int → List aG → List Int → List aG) : List Int → List (List Int) → List aG → List aG
 | [], _, run => run
 | n :: ns, fs, run => sE ap ns (fs.drop 1) (ap n run (fs.headD []))
structure zY (u : AV) (ap : Int → List aG → List Int → List aG) : Prop where
 ac : ∀ (n : Int) (run : List aG) (forms : List Int), run.length ≤ 1000000 → AC Tryz.prog 18 [u, aA n, .imm 6 (run.map bN), .imm 1 (aT forms)] [cr] fun c L => c = .imm 6 ((ap n run forms).map bN) ∧ L = [cr]
 len : ∀ (n : Int) (run : List aG) (forms : List Int), run.length ≤ 1000000 → (ap n run forms).length ≤ 1000000
theorem px {ms : List Bool} {ls : List aQ} {l : aQ} {forms : List Int} : ∀ (k i : Nat) (run : List aG), ew run.length (tG ms ls l forms k i run).length
 | 0, _, _ => by unfold ew; rw [tG]; omega
 | k + 1, i, run => by
  rw [tG]
  split
  ·split
   ·exact px k (i + 1) run
   ·exact (iV 4 l _ _ run).trans (px k _ _)
  ·unfold ew; omega
theorem kU {ms : List Bool} {ls : List aQ} {l : aQ} {forms : List Int} : ∀ (k : Nat) (run : List aG), ew run.length (hZ ms ls l forms k run).length
 | 0, _ => by unfold ew; rw [hZ]; omega
 | i + 1, run => by
  rw [hZ]
  split
  ·exact kU i run
  ·exact (iV 4 l _ _ run).trans (kU i _)
theorem rG {ms : List Bool} {ls : List aQ} {n : Int} {run : List aG} {forms : List Int} : ew run.length (d8 ms ls n run forms).length := by
 have hs : ew run.length run.length := by unfold ew; omega
 unfold d8
 split
 ·exact hs
 ·split
  ·exact hs
  ·split
   ·exact hs
   ·split
    ·exact kU _ _
    ·exact px _ _ _
theorem Cv {E : ma} (hE : ln E) : zY (.iptr (da E)) (d8 E.ms E.ls) := ⟨fun n run forms hr => vQ hE n run hr forms, fun _ _ _ hr => rG.big hr⟩
def Cz : AV → Bool
 | .iptr _ => true
 | .sc (.pointer none) => true
 | _ => false
set_option maxHeartbeats 4000000 in
theorem z9 (cs : List AV) {ap : Int → List aG → List Int → List aG} (h : zY (.iptr cs) ap) (ns : List Int) (fs : List (List Int)) (run : List aG) (hr : run.length ≤ 1000000) : AC Tryz.prog 22 [.iptr cs, .imm 1 (aT ns), .imm 1 (b8 fs), .imm 6 (run.map bN)] [cr] fun c L => c = .imm 6 ((sE ap ns fs run).map bN) ∧ L = [cr] := by
 refine aC Tryz.func22 rfl Tryz.ntmps22 rfl fun B => ?_
 refine ci 1 rfl rfl fun hlen => ?_
 have hcl := wh run hr
 have hnl := aW ns
 rw [hnl] at hlen
 have hfl := bS fs
 repeat' (first|refine a9 ?_|refine a4 ?_|refine a6 ?_|refine a7 ?_|refine a8 a5 rfl rfl ?_)
 refine aO [] [cr] hcl rfl rfl (Do _) rfl fun c L1 ⟨q, hq, hc, hL⟩ => ?_
 subst hc; subst hL
 repeat' (first|refine a9 ?_|refine a4 ?_|refine ak ?_|refine a6 ?_|refine a7 ?_|refine a8 a5 rfl rfl ?_)
 refine cY (oN (t := 3) hq rfl) ?_
 refine aL [2, 9, 17, 18] (α := Nat × List aG) (fun s => [(19, aA s.1), (3, .imm 6 (s.2.map bN))]) (fun s => s.1 ≤ ns.length ∧ s.2.length ≤ 1000000 ∧ sE ap (ns.drop s.1) (fs.drop s.1) s.2 = sE ap ns fs run) (fun _ => [cr]) (fun s => ns.length - s.1) (0, run) rfl ⟨rfl, rfl, trivial⟩ ⟨Nat.zero_le _, hr, rfl⟩ (fun _ _ h => h) ?_
 rintro ⟨k, run1⟩ ⟨hk, hr1, hv⟩
 dsimp only at hk hr1 hv ⊢
 try dsimp only [Ds, Dr, Dq, Dn]
 repeat' (first|refine a9 ?_|refine a4 ?_|refine a6 ?_|refine a7 ?_|refine a8 a5 rfl rfl ?_)
 refine ar rfl (fun h0 => ?_) (fun h0 => ?_)
 ·have hk2 : k < ns.length := by have := Dz h0; omega
  obtain ⟨n, hn⟩ : ∃ n, ns[k]? = some n := ⟨_, Bn hk2⟩
  have hng := bJ hn
  rw [List.drop_eq_getElem_cons hk2, (Dp hn).2, sE, List.drop_drop] at hv
  clear h0
  repeat' (first|refine a9 ?_|refine a4 ?_|refine ak ?_|refine ai ?_|refine a6 ?_|refine a7 ?_|refine a8 a5 rfl rfl ?_|(apply aF; first|refine aE a5 ?_|refine aB a5 ?_)|fail)
  refine ar rfl (fun h1 => ?_) (fun h1 => ?_)
  ·have hf : k < fs.length := by have := Dz h1; omega
   obtain ⟨f, hfg⟩ : ∃ f, fs[k]? = some f := ⟨_, Bn hf⟩
   have hfgg := fu hfg
   have hh : (fs.drop k).headD [] = f := by rw [List.drop_eq_getElem_cons hf, (Dp hfg).2]; rfl
   rw [hh] at hv
   have hap := h.ac n run1 f hr1
   clear h1
   repeat' (first|refine a4 ?_|refine a6 ?_|refine a7 ?_|refine a8 a5 rfl rfl ?_|(apply aF; first|refine aE a5 ?_|refine aB a5 ?_)|fail)
   refine fW [cr] [] (gD.fnB (f := 18) (fs := [.iptr cs]) (caps := []) hap) rfl rfl (Do _) rfl rfl fun c L1 ⟨hc, hL⟩ => ?_
   subst hc; subst hL
   repeat' (first|refine a4 ?_|refine a6 ?_|refine aH ?_|refine a7 ?_|refine a8 a5 rfl rfl ?_|(apply aU; refine aS ?_)|fail)
   exact az (k + 1, _) rfl ⟨by rw [Dv]; rfl, rfl, trivial⟩ ⟨hk2, h.len _ _ _ hr1, hv⟩ (by dsimp only; omega) (fun _ _ h => h)
  ·have hf : fs.length ≤ k := by have := Dy h1; omega
   have hh : (fs.drop k).headD [] = [] := by rw [List.drop_eq_nil_of_le hf]; rfl
   rw [hh] at hv
   have hap := AC.args (a := [.iptr cs, aA n, .imm 6 (run1.map bN), .sc (.slice none 0 0)]) (h.ac n run1 [] hr1) ⟨dJ.refl _, dJ.refl _, dJ.refl _, dJ.nil 1, trivial⟩
   clear h1
   repeat' (first|refine a4 ?_|refine ai ?_|refine a6 ?_|refine a8 a5 rfl rfl ?_)
   refine fW [cr] [] (gD.fnB (f := 18) (fs := [.iptr cs]) (caps := []) hap) rfl rfl (Do _) rfl rfl fun c L1 ⟨hc, hL⟩ => ?_
   subst hc; subst hL
   repeat' (first|refine a4 ?_|refine a6 ?_|refine aH ?_|refine a7 ?_|refine a8 a5 rfl rfl ?_|(apply aU; refine aS ?_)|fail)
   exact az (k + 1, _) rfl ⟨by rw [Dv]; rfl, rfl, trivial⟩ ⟨hk2, h.len _ _ _ hr1, hv⟩ (by dsimp only; omega) (fun _ _ h => h)
 ·have hk2 : k = ns.length := by have := Dy h0; omega
  subst hk2
  rw [List.drop_length] at hv
  have hv2 : run1 = sE ap ns fs run := hv
  repeat' (first|refine a9 ?_|refine a4 ?_|refine ah ?_|refine aM ?_|refine a6 ?_|refine au ?_|refine aw ?_|refine av ?_|refine a7 ?_|refine a8 a5 rfl rfl ?_)
  exact an rfl rfl ⟨by rw [← hv2], rfl⟩
end Go.Proofs.YtpmdfoaadejmkaaGreatDoor
namespace Go.Proofs.YtpmdfoaadejmkaaGreatDoor
open Go.RowKit
attribute [local irreducible] AT bh AX AO Av Kt b6 di DA cC
theorem fE {α : Type} {g : α → Nat} {k : Nat} : ∀ {l : List α} {m : Nat}, m ≤ k → (∀ x ∈ l, g x ≤ k) → l.foldl (fun m x => max m (g x)) m ≤ k
 | [], _, h, _ => h
 | a :: l, m, h, hl => by
  rw [List.foldl_cons]
  exact fE (by have := hl a (by simp); omega) fun x hx => hl x (by simp [hx])
theorem uB (rs : List aV) : gQ lI rs = of rs := by
 funext n
 unfold gQ of lI
 rfl
theorem rJ (rs : List aV) (gl : List Int) : bG (dt (rs.map aV.Back) (gQ mB rs) gl) (rs.map aV.Back).length = bG (dt (rs.map aV.Back) (fun _ => true) gl) (rs.map aV.Back).length := by
 refine eY fun i => ?_
 rw [bD, bD]
 by_cases hi : i < (rs.map aV.Back).length
 ·rw [Du] at hi
  congr 1
  unfold dt gQ
  rw [List.getElem?_map, Bn hi]
  rfl
 ·rw [decide_eq_false hi, Bool.false_and, Bool.false_and]
def yp (l : aQ) (a : i8) : m9 := ⟨l, a.cls, a.fore, a.back, a.foreE, a.backE⟩
theorem rf {cls : List Int} {rows : List (List (List Int))} {hv : Nat → Bool} {C : Nat} {tab : List (List Int)} {ends : List Nat} (h : nT cls rows hv C tab ends) (hr : rows.length ≤ 6) : ∀ z ∈ ends, z < 2 ^ 64 := by
 intro z hz
 obtain ⟨met, h0, h1, h2, h3, h4⟩ := h.met
 obtain ⟨i, hi⟩ := List.mem_iff_getElem?.1 hz
 have hil := (Dp hi).1
 obtain ⟨p, hp⟩ : ∃ p, met[i]? = some p := ⟨_, Bn (by omega)⟩
 have := h3 i p hp
 rw [hi] at this
 cases this
 unfold gj
 split
 ·exact Nat.pow_pos (by omega)
 ·refine Nat.lt_of_le_of_lt Nat.and_le_right ?_
  exact kQ (by omega)
theorem yb {N : Nat} {l : aQ} (h : sQ N l) {a : i8} (hb : sR N l.Rules a) : i9 (yp l a) := by
 have hcs : ∀ z ∈ a.cls, z.toNat < (eM a.cls).toNat := fun z hz => by
  have h1 := hb.cls.dom z hz
  omega
 have hf : ∀ r ∈ l.Rules, (cM r).length ≤ 200 ∧ r.Back.length ≤ 200 := fun r hr => by
  have := (h.rule r hr).long
  have := iy r
  omega
 refine ⟨h.few, ⟨rf hb.fore (by rw [Du]; exact h.few), rf hb.back (by rw [Du]; exact h.few)⟩, fun gl => ?_, fun gl => ?_, ?_, ?_⟩
 ·have := lT hb.cls (rows := l.Rules.map cM) (fun dr hrow s hs => ?_) hb.fore hcs gl
  ·rw [uB] at this
   exact this
  ·obtain ⟨r, hr, rfl⟩ := List.mem_map.1 hrow
   have hbr := h.rule r hr
   refine ⟨List.mem_flatMap.2 ⟨r, hr, ?_⟩, ?_⟩
   ·rw [List.mem_append, List.mem_append]
    rcases iz hs with hs | hs
    ·exact .inl (.inr hs)
    ·exact .inr hs
   ·rcases iz hs with hs | hs
    ·exact (hbr.in_ s hs).2
    ·exact (hbr.ahead s hs).2
 ·have := lT hb.cls (rows := l.Rules.map aV.Back) (fun dr hrow s hs => ?_) hb.back hcs gl
  ·rw [rJ] at this
   exact this
  ·obtain ⟨r, hr, rfl⟩ := List.mem_map.1 hrow
   exact ⟨List.mem_flatMap.2 ⟨r, hr, by rw [List.mem_append, List.mem_append]; exact .inl (.inl hs)⟩, ((h.rule r hr).back s hs).2⟩
 ·exact fE (by omega) fun r hr => by have := (h.rule r hr).long; show r.In.length + r.Ahead.length ≤ _; omega
 ·exact fE (by omega) fun r hr => by have := (h.rule r hr).long; show r.Back.length ≤ _; omega
theorem wg (l : List Int) (hl : l.length ≤ 1000000) : bn Tryz.prog 96 [.imm 1 (aT l)] (.imm 1 (aT l)) := by
 refine aC Tryz.func96 rfl Tryz.ntmps96 rfl fun B => ?_
 have hml := aW l
 repeat' (first|refine a9 ?_|refine a4 ?_|refine a6 ?_|refine a7 ?_|refine a8 a5 rfl rfl ?_)
 refine po a5 rfl rfl rfl rfl rfl fun b hb => ?_
 repeat' (first|refine a6 ?_|refine a7 ?_)
 cases b with
 | true =>
  rw [hb rfl]
  repeat' (first|refine a9 ?_|refine a4 ?_|refine ah ?_|refine a6 ?_|refine aq ?_|refine a7 ?_|refine a8 a5 rfl rfl ?_|refine bv rfl ?_)
  refine bB (bT (t := 2) (c' := .imm 1 []) rfl fun σ v h => ja 1 h) ?_
  exact an rfl rfl rfl
 | false =>
  repeat' (first|refine a9 ?_|refine a4 ?_|refine ai ?_|refine a6 ?_|refine a8 a5 rfl rfl ?_|refine tB (d := 5) a5 fun _=>?_|refine bC rfl ?_)
  refine cj a5 [] rfl rfl rfl rfl (Do _) (by rw [hml]; simp; omega) (by rw [hml]; simp; omega) rfl fun k' => ?_
  repeat' (first|refine ah ?_|refine a6 ?_|refine a7 ?_|refine a8 a5 rfl rfl ?_)
  refine bB (bT (t := 2) (c' := .imm 1 (aT l)) rfl fun σ v h => VR.im h) ?_
  refine dk (List.nil_sublist _) ?_
  exact an rfl rfl rfl
theorem AG (l : List ic) (hl : l.length ≤ 1000000) : bn Tryz.prog 97 [.imm 2 (l.map fa)] (.imm 2 (l.map fa)) := by
 refine aC Tryz.func97 rfl Tryz.ntmps97 rfl fun B => ?_
 have hml : (l.map fa).length = l.length := Du ..
 repeat' (first|refine a9 ?_|refine a4 ?_|refine a6 ?_|refine a7 ?_|refine a8 a5 rfl rfl ?_)
 refine po a5 rfl rfl rfl rfl rfl fun b hb => ?_
 repeat' (first|refine a6 ?_|refine a7 ?_)
 cases b with
 | true =>
  rw [hb rfl]
  repeat' (first|refine a9 ?_|refine a4 ?_|refine ah ?_|refine a6 ?_|refine aq ?_|refine a7 ?_|refine a8 a5 rfl rfl ?_|refine bv rfl ?_)
  refine bB (bT (t := 2) (c' := .imm 2 []) rfl fun σ v h => ja 2 h) ?_
  exact an rfl rfl rfl
 | false =>
  repeat' (first|refine a9 ?_|refine a4 ?_|refine ai ?_|refine a6 ?_|refine a8 a5 rfl rfl ?_|refine tB (d := 5) a5 fun _=>?_|refine bC rfl ?_)
  refine cj a5 [] rfl rfl rfl rfl (Do _) (by rw [hml]; simp; omega) (by rw [hml]; simp; omega) rfl fun k' => ?_
  repeat' (first|refine ah ?_|refine a6 ?_|refine a7 ?_|refine a8 a5 rfl rfl ?_)
  refine bB (bT (t := 2) (c' := .imm 2 (l.map fa)) rfl fun σ v h => VR.im h) ?_
  refine dk (List.nil_sublist _) ?_
  exact an rfl rfl rfl
abbrev dh : AV := .sc (.slice none 0 0)
def eu {α : Type} (w : α → List AV) (z : List AV) (l : List α) (i : Nat) : List (List AV) := (l.take i).map w ++ List.replicate (l.length - i) z
theorem mP {α : Type} {w : α → List AV} {z : List AV} {l : List α} : eu w z l 0 = List.replicate l.length z := by simp [eu]
theorem o7 {α : Type} {w : α → List AV} {z : List AV} {l : List α} : eu w z l l.length = l.map w := by simp [eu]
theorem o9 {α : Type} {w : α → List AV} {z : List AV} {l : List α} {i : Nat} {x : α} (h : l[i]? = some x) : (eu w z l i).set i (w x) = eu w z l (i + 1) := by
 have hi := (Dp h).1
 unfold eu
 rw [List.set_append, if_neg (by rw [Du, List.length_take]; omega), Du, List.length_take, Nat.min_eq_left (by omega), Nat.sub_self, show l.length - i = (l.length - (i + 1)) + 1 by omega, List.replicate_succ, List.set_cons_zero, List.take_add_one, h]
 simp
theorem o8 {α : Type} {w : α → List AV} {z : List AV} {l : List α} {i : Nat} (hi : i ≤ l.length) : (eu w z l i).length = l.length := by
 unfold eu
 rw [List.length_append, Du, List.length_take, List.length_replicate]
 omega
theorem kY {sz : Nat} : ∀ {l : List (List AV)} {i : Nat} {e : List AV}, (∀ q ∈ l, q.length = sz) → e.length = sz → i < l.length → eI l.flatten (i * sz) e = (l.set i e).flatten
 | [], _, _, _, _, h => by simp at h
 | q :: l, 0, e, hs, he, _ => by
  have hq := hs q (by simp)
  rw [List.set_cons_zero, List.flatten_cons, List.flatten_cons, Nat.zero_mul]
  apply List.ext_getElem?
  intro j
  rw [ez _ _ _ _ (by rw [List.length_append]; omega)]
  by_cases hj : j < e.length
  ·rw [if_pos (by omega), Nat.sub_zero, List.getElem?_append_left hj]
  ·rw [if_neg (by omega), List.getElem?_append_right (by omega), List.getElem?_append_right (by omega), hq, he]
 | q :: l, i + 1, e, hs, he, h => by
  have hq := hs q (by simp)
  have ih := kY (l := l) (i := i) (e := e) (fun x hx => hs x (by simp [hx])) he (by simpa using h)
  have hlen : i * sz + e.length ≤ l.flatten.length := by
   have hl : l.flatten.length = l.length * sz := dG l fun x hx => hs x (by simp [hx])
   rw [hl, he]
   have : (i + 1) * sz ≤ l.length * sz := Nat.mul_le_mul_right _ (by simp at h; omega)
   rw [Nat.add_mul, Nat.one_mul] at this
   exact this
  rw [List.set_cons_succ, List.flatten_cons, List.flatten_cons, ← ih]
  apply List.ext_getElem?
  intro j
  have e1 : (i + 1) * sz = i * sz + sz := by rw [Nat.add_mul, Nat.one_mul]
  rw [ez _ _ _ _ (by rw [List.length_append]; omega), e1]
  by_cases hj : j < sz
  ·rw [if_neg (by omega), List.getElem?_append_left (by omega), List.getElem?_append_left (by omega)]
  ·rw [List.getElem?_append_right (by omega), List.getElem?_append_right (by omega), ez _ _ _ _ hlen, hq]
   by_cases h2 : i * sz ≤ j - sz ∧ j - sz < i * sz + e.length
   ·rw [if_pos h2, if_pos (by omega)]
    congr 1
    omega
   ·rw [if_neg h2, if_neg (by omega)]
set_option maxHeartbeats 4000000 in
theorem nI (l : List (List Int)) (hl : l.length ≤ 1000000) (hs : ∀ s ∈ l, s.length ≤ 1000000) : bn Tryz.prog 95 [.imm 1 (b8 l)] (.imm 1 (b8 l)) := by
 refine aC Tryz.func95 rfl Tryz.ntmps95 rfl fun B => ?_
 have hil := bS l
 repeat' (first|refine a9 ?_|refine a4 ?_|refine a6 ?_|refine a7 ?_|refine a8 a5 rfl rfl ?_)
 refine iE a5 l.length rfl rfl rfl rfl rfl (by rw [hil]) (by rw [hil]) (by omega) (by omega) rfl fun rb => ?_
 repeat' (first|refine a9 ?_|refine a4 ?_|refine ak ?_|refine a6 ?_|refine a7 ?_|refine a8 a5 rfl rfl ?_)
 refine aL [3, 9, 10] (α := Nat) (fun i => [(11, aA i)]) (fun i => i ≤ l.length) (fun i => [(rb, .box (eu (fun s => [AV.imm 1 (aT s)]) [dh] l i).flatten 22)]) (fun i => l.length - i) 0 rfl ⟨rfl, trivial⟩ (Nat.zero_le _) (fun _ _ hh => by rw [mP]; exact hh) fun i hi => ?_
 try dsimp only [Ds, Dr, Dq, Dn]
 repeat' (first|refine a9 ?_|refine a4 ?_|refine a6 ?_|refine a7 ?_|refine a8 a5 rfl rfl ?_)
 refine ar rfl (fun h1 => ?_) (fun h1 => ?_)
 ·have hi2 : i < l.length := by have := Dz h1; omega
  obtain ⟨s, hsi⟩ : ∃ z, l[i]? = some z := ⟨_, Bn hi2⟩
  have hsg := fu hsi
  haveI := AD.mk (wg s (hs s (Dw hsi)))
  have hsz : ∀ q ∈ eu (fun s => [AV.imm 1 (aT s)]) [dh] l i, q.length = 1 := by
   intro q hq
   unfold eu at hq
   rw [List.mem_append] at hq
   rcases hq with hq | hq
   ·obtain ⟨_, _, rfl⟩ := List.mem_map.1 hq; rfl
   ·rw [(List.mem_replicate.1 hq).2]; rfl
  have hfl := o8 (w := fun s => [AV.imm 1 (aT s)]) (z := [dh]) (l := l) (i := i) hi
  have hput := kY (sz := 1) (l := eu (fun s => [AV.imm 1 (aT s)]) [dh] l i) (i := i) (e := [AV.imm 1 (aT s)]) hsz rfl (by omega)
  rw [o9 hsi] at hput
  have hfll : (eu (fun s => [AV.imm 1 (aT s)]) [dh] l i).flatten.length = l.length * 1 := by rw [dG _ hsz, hfl]
  clear h1
  repeat' (first|refine a9 ?_|refine a4 ?_|refine ak ?_|refine ai ?_|refine a6 ?_|refine a7 ?_|refine a8 a5 rfl rfl ?_|(apply aF; first|refine aE a5 ?_|refine aB a5 ?_)|(apply bc;refine b7 ?_)|fail)
  refine ad a5 0 rfl rfl rfl rfl rfl rfl (Nat.ble_eq_true_of_le (by rw [hfll, Int.toNat_natCast]; show 0 + i * 1 + 1 ≤ _; omega)) ?_
  repeat' (first|refine a4 ?_|refine a6 ?_|refine aH ?_|refine a7 ?_|refine a8 a5 rfl rfl ?_|(apply aU; refine aS ?_)|fail)
  refine az (i + 1) rfl ⟨by rw [Dv]; rfl, trivial⟩ hi2 (by omega) (fun _ _ hh => ?_)
  rw [← hput]
  rw [Int.toNat_natCast, Nat.zero_add] at hh
  exact hh
 ·have hi2 : i = l.length := by have := Dy h1; omega
  subst hi2
  rw [o7]
  clear h1
  repeat' (first|refine a9 ?_|refine a4 ?_|refine ah ?_|refine aM ?_|refine a6 ?_|refine au ?_|refine aw ?_|refine av ?_|refine a7 ?_|refine a8 a5 rfl rfl ?_)
  have hml : (l.map fun s => [AV.imm 1 (aT s)]).flatten.length = l.length * 1 := by rw [dG _ (sz := 1) (fun q hq => by obtain ⟨_, _, rfl⟩ := List.mem_map.1 hq; rfl), Du]
  refine bB (iL (t := 2) (sz := 1) (n := l.length) (cap := l.length) (l := b8 l) 0 rfl rfl (by rw [List.take_of_length_le (by omega)]; rfl) (by omega) (fun e he => by unfold b8 at he; obtain ⟨_, _, rfl⟩ := List.mem_map.1 he; rfl) hil (Nat.le_refl _) (by unfold maxLen; omega)) ?_
  exact an rfl rfl rfl
def fZ (r : aV) : List AV := [dh, .imm 1 (b8 r.In), dh, .imm 1 (aT r.Out), .imm 2 (r.Calls.map fa), aA r.X]
theorem xN (r : aV) : nU (fZ r) (bI (dw r)) := ⟨dJ.nil 1, dJ.refl _, dJ.nil 1, dJ.refl _, dJ.refl _, dJ.refl _, trivial⟩
theorem tU {α : Type} {a b : α → List AV} (h : ∀ x, nU (a x) (b x)) : ∀ (l : List α), A8 (l.map a) (l.map b)
 | [] => trivial
 | x :: l => ⟨h x, tU h l⟩
structure zE (r : aV) : Prop where
 in_ : r.In.length ≤ 1000000 ∧ ∀ s ∈ r.In, s.length ≤ 1000000
 out : r.Out.length ≤ 1000000
 calls : r.Calls.length ≤ 1000000
set_option maxHeartbeats 8000000 in
theorem qm (l : aQ) (hl : l.Rules.length ≤ 1000000) (hr : ∀ r ∈ l.Rules, zE r) : bn Tryz.prog 33 [.agg (bo l)] (.agg (bo (ga l))) := by
 refine aC Tryz.func33 rfl Tryz.ntmps33 rfl fun B => ?_
 have hml : (l.Rules.map bI).length = l.Rules.length := Du ..
 repeat' (first|refine a9 ?_|refine a4 ?_|refine a6 ?_|refine a7 ?_|refine a8 a5 rfl rfl ?_|refine aZ ?_|refine b4 a5 fun _=>?_|fail)
 refine iE a5 l.Rules.length rfl rfl rfl rfl rfl (by rw [hml]) (by rw [hml]) (by omega) (by omega) rfl fun rb => ?_
 repeat' (first|refine a9 ?_|refine a4 ?_|refine ak ?_|refine a6 ?_|refine a7 ?_|refine a8 a5 rfl rfl ?_)
 rename_i r2
 refine aL [1, 2, 3, 11, 12] (α := Nat) (fun i => [(13, aA i)]) (fun i => i ≤ l.Rules.length) (fun i => [(rb, .box (eu fZ [dh, dh, dh, dh, dh, aA 0] l.Rules i).flatten 79), (r2, .box [aA 0, dx false, dh] 59)]) (fun i => l.Rules.length - i) 0 rfl ⟨rfl, trivial⟩ (Nat.zero_le _) (fun _ _ hh => by rw [mP]; exact hh) fun i hi => ?_
 try dsimp only [Ds, Dr, Dq, Dn]
 repeat' (first|refine a9 ?_|refine a4 ?_|refine a6 ?_|refine a7 ?_|refine a8 a5 rfl rfl ?_)
 refine ar rfl (fun h1 => ?_) (fun h1 => ?_)
 ·have hi2 : i < l.Rules.length := by have := Dz h1; omega
  obtain ⟨r, hri⟩ : ∃ z, l.Rules[i]? = some z := ⟨_, Bn hi2⟩
  have hrg : (l.Rules.map bI)[i]? = some (bI r) := by simp [hri]
  have hcr := hr r (Dw hri)
  haveI := AD.mk (nI r.In hcr.in_.1 hcr.in_.2)
  haveI := AD.mk (wg r.Out hcr.out)
  haveI := AD.mk (AG r.Calls hcr.calls)
  have hsz : ∀ q ∈ eu fZ [dh, dh, dh, dh, dh, aA 0] l.Rules i, q.length = 6 := by
   intro q hq
   unfold eu at hq
   rw [List.mem_append] at hq
   rcases hq with hq | hq
   ·obtain ⟨_, _, rfl⟩ := List.mem_map.1 hq; rfl
   ·rw [(List.mem_replicate.1 hq).2]; rfl
  have hfl := o8 (w := fZ) (z := [dh, dh, dh, dh, dh, aA 0]) (l := l.Rules) (i := i) hi
  have hput := kY (sz := 6) (l := eu fZ [dh, dh, dh, dh, dh, aA 0] l.Rules i) (i := i) (e := fZ r) hsz rfl (by omega)
  rw [o9 hri] at hput
  have hfll : (eu fZ [dh, dh, dh, dh, dh, aA 0] l.Rules i).flatten.length = l.Rules.length * 6 := by rw [dG _ hsz, hfl]
  clear h1
  repeat' (first|refine a9 ?_|refine a4 ?_|refine ak ?_|refine ai ?_|refine a6 ?_|refine a7 ?_|refine a8 a5 rfl rfl ?_|(apply aF; first|refine aE a5 ?_|refine aB a5 ?_)|(apply aP; first|refine aa 5 a5 0 rfl rfl rfl rfl rfl rfl rfl rfl ?_|refine aa 5 a5 1 rfl rfl rfl rfl rfl rfl rfl rfl ?_|refine aa 5 a5 2 rfl rfl rfl rfl rfl rfl rfl rfl ?_|refine ad a5 0 rfl rfl rfl rfl rfl rfl rfl ?_|refine ad a5 1 rfl rfl rfl rfl rfl rfl rfl ?_|refine ad a5 2 rfl rfl rfl rfl rfl rfl rfl ?_|refine ad a5 3 rfl rfl rfl rfl rfl rfl rfl ?_|fail)|refine b4 a5 fun _=>?_|fail)
  refine bk 14 [(0, .v), (1, .v), (2, .v), (3, .v), (4, .v), (5, .v), (6, .v), (7, .v), (8, .v), (9, .v), (10, .v), (11, .v), (12, .v), (13, .v)] none ?_ trivial rfl (by kernel_rfl) (by kernel_rfl) (by kernel_rfl) c9 (by kernel_rfl) rfl
  repeat' (first|refine aD ?_|refine bi a5 ?_|(apply cL;refine df ?_)|fail)
  refine bz [1, 2, 3, 11, 12, 13, 18, 19, 31] rfl rfl ?_
  repeat' (first|(apply aF; first|refine aE a5 ?_|refine aB a5 ?_)|fail)
  refine ad a5 0 rfl rfl rfl rfl rfl rfl (Nat.ble_eq_true_of_le (by rw [hfll, Int.toNat_natCast]; show 0 + i * 6 + 6 ≤ _; omega)) ?_
  repeat' (first|refine a4 ?_|refine a6 ?_|refine aH ?_|refine a7 ?_|refine a8 a5 rfl rfl ?_|(apply aU; refine aS ?_)|fail)
  refine az (i + 1) rfl ⟨by rw [Dv]; rfl, trivial⟩ hi2 (by omega) (fun _ _ hh => ?_)
  rw [← hput]
  rw [Int.toNat_natCast, Nat.zero_add] at hh
  exact hh
 ·have hi2 : i = l.Rules.length := by have := Dy h1; omega
  subst hi2
  rw [o7]
  clear h1
  have hsz : ∀ q ∈ l.Rules.map fZ, q.length = 6 := fun q hq => by obtain ⟨_, _, rfl⟩ := List.mem_map.1 hq; rfl
  have hml2 : (l.Rules.map fZ).flatten.length = l.Rules.length * 6 := by rw [dG _ hsz, Du]
  refine cY (iL (t := 3) (sz := 6) (n := l.Rules.length) (cap := l.Rules.length) (l := l.Rules.map fZ) 0 rfl rfl (by rw [List.take_of_length_le (by omega)]) (by omega) hsz (Du ..) (Nat.le_refl _) (by unfold maxLen; omega)) ?_
  refine cY (bT (t := 3) (c' := .imm 6 ((ga l).Rules.map bI)) rfl fun σ v h => ?_) ?_
  ·have e : (ga l).Rules.map bI = l.Rules.map fun r => bI (dw r) := by unfold ga; rw [List.map_map]; rfl
   rw [e]
   exact dJ.imm (tU xN l.Rules) σ v h
  repeat' (first|refine a9 ?_|refine a4 ?_|refine ah ?_|refine aM ?_|refine a6 ?_|refine au ?_|refine aw ?_|refine av ?_|refine a7 ?_|refine a8 a5 rfl rfl ?_|(apply aP; first|refine aa 5 a5 0 rfl rfl rfl rfl rfl rfl rfl rfl ?_|refine aa 5 a5 1 rfl rfl rfl rfl rfl rfl rfl rfl ?_|refine aa 5 a5 2 rfl rfl rfl rfl rfl rfl rfl rfl ?_|refine ad a5 0 rfl rfl rfl rfl rfl rfl rfl ?_|refine ad a5 1 rfl rfl rfl rfl rfl rfl rfl ?_|refine ad a5 2 rfl rfl rfl rfl rfl rfl rfl ?_|refine ad a5 3 rfl rfl rfl rfl rfl rfl rfl ?_|fail))
  exact fi (cs := [.agg (bo (ga l))]) [] ⟨⟨_, 0, _, _, rfl, rfl, .inr ⟨dE a5 rfl, rfl⟩⟩, trivial⟩ (List.nil_sublist _) rfl
end Go.Proofs.YtpmdfoaadejmkaaGreatDoor
