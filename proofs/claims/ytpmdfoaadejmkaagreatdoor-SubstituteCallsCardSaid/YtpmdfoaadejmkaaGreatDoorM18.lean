/-
  What an engine's rules do with a run: many become one.
-/
import Derived.Test.YtpmdfoaadejmkaaGreatDoorM17
import Derived.Test.YtpmdfoaadejmkaaGreatDoorM05
import Derived.Test.YtpmdfoaadejmkaaGreatDoorM14
namespace Go.Proofs.YtpmdfoaadejmkaaGreatDoor
open Go.RowKit
attribute [local irreducible] AT bf AX AO Av Kt aZ df DA cA
theorem rW {run : List aF} {i : Nat} (hi : i < run.length) : bo (run.eraseIdx i) = bo (run.take i) ++ bo (run.drop (i + 1)) := by
 rw [List.eraseIdx_eq_take_drop_succ, fj]
set_option maxHeartbeats 2000000 in
theorem uj (b cap : Nat) (run : List aF) (junk : List AV) (i : Nat) (hi : i < run.length) (hc : run.length ≤ cap) (hm : cap ≤ maxLen) (hf : cap * 6 ≤ (bo run ++ junk).length) (hr : run.length ≤ 1000000) : AC Tryz.prog 260 [.sc (.slice (some ⟨b, 0, none⟩) run.length cap), az i, az ((i : Int) + 1)] [(b, .box (bo run ++ junk) 67)] fun c L =>
  c = .sc (.slice (some ⟨b, 0, none⟩) (run.eraseIdx i).length cap) ∧ ∃ junk', cap * 6 ≤ (bo (run.eraseIdx i) ++ junk').length ∧ L = [(b, .box (bo (run.eraseIdx i) ++ junk') 67)] := by
 refine aB Tryz.func260 rfl Tryz.ntmps260 rfl fun B => ?_
 have hfl := cw run
 have hel := List.length_eraseIdx_of_lt hi
 unfold maxLen at hm
 have hsrc : ∀ fr y B, aW fr y = some (.sc (.slice (some ⟨b, if cap = i + 1 then 0 else (i + 1) * 6, none⟩) (run.length - (i + 1)) (cap - (i + 1)))) → rr fr B [(b, .box (bo run ++ junk) 67)] y 6 (run.length - (i + 1)) (bo (run.drop (i + 1))) := by
  intro fr y B hy
  by_cases hz : run.length - (i + 1) = 0
  ·rw [hz] at hy ⊢
   rw [List.drop_eq_nil_of_le (by omega)]
   exact oF hy
  ·have hs := r8 (B := B) (sz := 6) (L := [(b, .box (bo run ++ junk) 67)]) 0 hy rfl (by split <;> omega)
   rw [if_neg (by omega), o9 run junk hi] at hs
   exact hs
 repeat' (first|refine a8 ?_|refine a0 ?_|refine a5 ?_|refine a6 ?_|refine a7 a4 rfl rfl ?_)
 refine AU a4 i (i + 1) run.length rfl rfl rfl rfl rfl (by omega) rfl rfl (by omega) hi hc rfl ?_
 repeat' (first|refine a8 ?_|refine a0 ?_|refine a5 ?_|refine a6 ?_|refine a7 a4 rfl rfl ?_)
 refine aq rfl (fun h => ?_) (fun _ => ?_)
 ·have := Dz h
  omega
 repeat' (first|refine a8 ?_|refine a0 ?_|refine ah ?_|refine a5 ?_|refine a6 ?_|refine a7 a4 rfl rfl ?_)
 refine bj 6 [(0, .v), (1, .v), (2, .v), (3, .v), (4, .v), (5, .v)] none ?_ trivial rfl (by kernel_rfl) (by kernel_rfl) (by kernel_rfl) c9 (by kernel_rfl) rfl
 repeat' (first|refine aC ?_|refine bh a4 ?_|fail)
 refine yf a4 i rfl rfl rfl rfl (by omega) trivial ?_
 repeat' (first|refine aC ?_|refine bh a4 ?_|fail)
 refine t4 a4 (i + 1) rfl rfl rfl (by omega) hi hc trivial ?_
 repeat' (first|fail)
 refine bv [7, 22, 25] rfl rfl ?_
 repeat' (first|fail)
 refine iX a4 0 rfl rfl rfl rfl (hsrc _ _ _ rfl) rfl hf (by omega) (by unfold maxLen; omega) (by unfold maxLen; omega) (by omega) rfl fun b' cs' cap' e1 e2 e3 e4 e5 => ?_
 obtain ⟨e6, e7, e8⟩ := e5 (by omega)
 subst e6; subst e7
 repeat' (first|refine a8 ?_|refine a0 ?_|refine a5 ?_|refine a6 ?_|refine a7 a4 rfl rfl ?_)
 have hn1 : i + (run.length - (i + 1)) = (run.eraseIdx i).length := by omega
 rw [hn1] at e2 ⊢
 refine AS a4 (run.eraseIdx i).length run.length rfl rfl rfl rfl rfl rfl (by omega) hc rfl ?_
 repeat' (first|fail)
 have hcl : cap' * 6 ≤ cs'.length := e1
 have hce : cs'.take ((run.eraseIdx i).length * 6) = bo (run.eraseIdx i) := by
  rw [e2, kU run junk (by omega), rW hi]
 refine wU a4 0 (m := (run.eraseIdx i).length) rfl rfl rfl rfl (.inl rfl) rfl ?_ fun cs2 g1 g2 => ?_
 ·have h1 : (run.eraseIdx i).length * 6 + (run.length - (run.eraseIdx i).length) * 6 = run.length * 6 := by omega
  rw [h1]
  omega
 repeat' (first|refine a8 ?_|refine a0 ?_|refine ae ?_|refine a5 ?_|refine a6 ?_|refine a7 a4 rfl rfl ?_)
 refine ak rfl rfl ⟨rfl, cs2.drop ((run.eraseIdx i).length * 6), ?_⟩
 have hj : bo (run.eraseIdx i) ++ cs2.drop ((run.eraseIdx i).length * 6) = cs2 := by
  rw [← hce, ← g2, List.take_append_drop]
 rw [hj]
 exact ⟨by omega, rfl⟩
structure CX (run : List aF) : Prop where
 len : run.length ≤ 500
 mono : run.Pairwise fun a b => a.Cluster ≤ b.Cluster
theorem iR : ∀ {q : List Nat} {run : List aF}, (dK q run).Sublist run
 | [], _ => List.Sublist.refl _
 | p :: q, run => by rw [dK]; exact (List.eraseIdx_sublist ..).trans iR
theorem qv {R : List aF} : ∀ {l : List Nat} {j : Nat}, l.Pairwise (· < ·) → (∀ z ∈ l, j < z ∧ z < R.length) → j < R.length → j < (dK l R).length
  | [], _, _, _, hj => hj
  | z :: l, j, hs, hl, hj => by
    obtain ⟨h1, h2⟩ := List.pairwise_cons.1 hs
    have hz := hl z (by simp)
    have := qv (j := z) h2 (fun y hy => ⟨h1 y hy, (hl y (by simp [hy])).2⟩) hz.2
    rw [dK, List.length_eraseIdx_of_lt this]
    omega
theorem oo : ∀ {l : List Nat} {run : List aF} {c : Int}, f6 run l c ≤ c
 | [], _, _ => Int.le_refl _
 | p :: l, run, c => by
  have := oo (l := l) (run := run) (c := l4 run c p)
  have h2 : l4 run c p ≤ c := by unfold l4; split <;> omega
  unfold f6 at this ⊢
  rw [List.foldl_cons]
  omega
theorem mf {wb : Nat} {E : lZ} {m : ei} {run : List aF} {p : Nat} {y : aF} : eM (g7 wb E (some m) run) 1 (.box (bo (run.set p y) ++ m.junk) 67) = g7 wb E (some m) (run.set p y) := by
 show [(wb, AB.box [.iptr (d9 E), .sc (.slice (some ⟨m.rb, 0, none⟩) run.length m.cap)] 102), (m.rb, .box (bo (run.set p y) ++ m.junk) 67), cz] = [(wb, AB.box [.iptr (d9 E), .sc (.slice (some ⟨m.rb, 0, none⟩) (run.set p y).length m.cap)] 102), (m.rb, .box (bo (run.set p y) ++ m.junk) 67), cz]
 rw [List.length_set]
theorem sZ {B : Bs} {σ : bJ} {w : World} {wb : Nat} {E : lZ} {m : ei} {run : List aF} {p : Nat} {y : aF} (h : ck B σ (eM (g7 wb E (some m) run) 1 (.box (bo (run.set p y) ++ m.junk) 67)) w) : ck B σ (g7 wb E (some m) (run.set p y)) w := mf ▸ h
theorem cR.set {m : ei} {run : List aF} (h : cR (some m) run) (p : Nat) (y : aF) : cR (some m) (run.set p y) := ⟨fun e => (by cases e), fun m' e => by
 cases e
 obtain ⟨h1, h2, h3⟩ := h.fit m rfl
 rw [List.length_append, cw] at h3 ⊢
 rw [List.length_set]
 exact ⟨h1, h2, h3⟩⟩
theorem CB {a b c : Nat × AB} : [a, b, c].Perm ([b] ++ [a, c]) := List.Perm.swap ..
set_option maxHeartbeats 4000000 in
theorem yO (E : lZ) (wb : Nat) (m : ei) (run : List aF) (hq : cR (some m) run) (hr : run.length ≤ 1000000) (p : Nat) (q : List Nat) (hp : ∀ j ∈ p :: q, j < run.length) (hs : (p :: q).Pairwise (· < ·)) (x : aF) (hx : run[p]? = some x) (r : aT) (g : Int) (gs : List Int) (hg : r.Out = g :: gs) : AC Tryz.prog 192 [eh wb, .imm 1 (cD (p :: q)), az g] (g7 wb E (some m) run) fun _ L => ∃ q', cR q' (k6 r (p :: q) run) ∧ L = g7 wb E q' (k6 r (p :: q) run) := by
  refine aB Tryz.func192 rfl Tryz.ntmps192 rfl fun B => ?_
  refine cf 1 rfl rfl fun hlen => ?_
  have hil := (Dp hx).1
  have hnl := iY (p :: q)
  rw [hnl] at hlen
  have hql : q.length + 1 ≤ 9223372036854775807 := hlen
  obtain ⟨h1, h2, h3⟩ := hq.fit m rfl
  have hfl := cw run
  have hlv : k6 r (p :: q) run = dK q (run.set p { x with Glyph := g, Cluster := f6 run (p :: q) x.Cluster }) := by
    unfold k6
    rw [hg]
    dsimp only
    rw [hx]
  rw [hlv]
  have hflj : ∀ y : aF, (bo (run.set p y) ++ m.junk).length = (bo run ++ m.junk).length := fun y => by rw [List.length_append, cw, List.length_set, List.length_append, hfl]
  have hp0 : (cD (p :: q))[(0 : Int).toNat]? = some [az p] := rfl
  have hst := iu (j := 0) { x with Glyph := g } (az g) m.junk hx (by omega) rfl
  repeat' (first|refine a8 ?_)
  refine bj 7 [(0, .v), (1, .v), (2, .v), (3, .l), (4, .v), (5, .v), (6, .v)] none ?_ trivial rfl (by kernel_rfl) (by kernel_rfl) (by kernel_rfl) c9 (by kernel_rfl) rfl
  repeat' (first|refine aC ?_|refine bh a4 ?_|(apply cC;refine cZ a4 ?_)|refine bW a4 0 rfl rfl rfl rfl (by first|trivial|rfl) ?_)
  refine bv [0, 1, 2, 13, 16] rfl rfl ?_
  repeat' (first|refine a8 ?_|refine a0 ?_|refine a5 ?_|refine a6 ?_|refine a7 a4 rfl rfl ?_|(apply aE; first|refine aD a4 ?_|refine aA a4 ?_)|fail)
  refine aa a4 1 rfl rfl rfl rfl rfl rfl (Nat.ble_eq_true_of_le (by rw [Int.toNat_natCast]; simp; omega)) ?_
  rw [hst]
  repeat' (first|refine a8 ?_|refine a0 ?_|refine aj ?_|refine a5 ?_|refine a6 ?_|refine a7 a4 rfl rfl ?_)
  refine aK [0, 1, 6, 22, 23] (α := Nat) (fun k => [(24, az k)]) (fun k => k ≤ (p :: q).length) (fun k => g7 wb E (some m) (run.set p { x with Glyph := g, Cluster := f6 run ((p :: q).take k) x.Cluster })) (fun k => (p :: q).length - k) 0 rfl ⟨rfl, trivial⟩ (Nat.zero_le _) (fun _ _ h => sZ h) fun k hk => ?_
  · try dsimp only [Ds, Dr, Dq, Dn]
    repeat' (first|refine a8 ?_|refine a0 ?_|refine a5 ?_|refine a6 ?_|refine a7 a4 rfl rfl ?_)
    refine aq rfl (fun h => ?_) (fun h => ?_)
    · have hk2 : k < (p :: q).length := by have := Dz h; omega
      obtain ⟨j, hj⟩ : ∃ z, (p :: q)[k]? = some z := ⟨_, Bj hk2⟩
      have hjg : (cD (p :: q))[k]? = some [az j] := by unfold cD; exact bI (by rw [List.getElem?_map, hj]; rfl)
      have hjl := hp j (Dw hj)
      obtain ⟨y, hy⟩ : ∃ z, run[j]? = some z := ⟨_, Bj hjl⟩
      have htk : (p :: q).take (k + 1) = (p :: q).take k ++ [j] := by rw [List.take_add_one, hj]; rfl
      have hle := oo (l := (p :: q).take k) (run := run) (c := x.Cluster)
      have hnew : f6 run ((p :: q).take (k + 1)) x.Cluster = min (f6 run ((p :: q).take k) x.Cluster) y.Cluster := by
        unfold f6
        rw [htk, List.foldl_append]
        show l4 run _ j = _
        unfold l4
        rw [hy]
      generalize f6 run ((p :: q).take k) x.Cluster = c at *
      have hxp : (run.set p { x with Glyph := g, Cluster := c })[p]? = some { x with Glyph := g, Cluster := c } := List.getElem?_set_self hil
      obtain ⟨y2, hy2, hyc⟩ : ∃ y2, (run.set p { x with Glyph := g, Cluster := c })[j]? = some y2 ∧ min c y2.Cluster = min c y.Cluster := by
        by_cases hjp : j = p
        · subst hjp
          rw [hx] at hy
          cases hy
          exact ⟨_, hxp, by dsimp only; omega⟩
        · exact ⟨y, by rw [List.getElem?_set_ne (fun e => hjp e.symm)]; exact hy, rfl⟩
      have hf1 := lA (j := 1) m.junk hxp rfl
      have hf2 := lA (j := 1) m.junk hy2 rfl
      have hst2 := iu (j := 1) { x with Glyph := g, Cluster := min c y2.Cluster } (az (min c y2.Cluster)) m.junk hxp (by omega) rfl
      have hsl : (run.set p { x with Glyph := g, Cluster := c }).length = run.length := List.length_set ..
      have hfl2 := hflj { x with Glyph := g, Cluster := c }
      clear h
      repeat' (first|refine a8 ?_|refine a0 ?_|refine aj ?_|refine ah ?_|refine a5 ?_|refine a6 ?_|refine a7 a4 rfl rfl ?_|(apply aE; first|refine aD a4 ?_|refine aA a4 ?_)|fail)
      refine bj 14 [(0, .v), (1, .v), (2, .v), (3, .v), (4, .l), (5, .v), (6, .v), (7, .v), (8, .l), (9, .v), (10, .v), (11, .v), (12, .l), (13, .v)] none ?_ trivial rfl (by kernel_rfl) (by kernel_rfl) (by kernel_rfl) c9 (by kernel_rfl) rfl
      repeat' (first|refine aC ?_|refine bh a4 ?_|fail)
      refine bW a4 1 rfl rfl rfl hf1 trivial ?_
      repeat' (first|refine aC ?_|refine bh a4 ?_|refine bW a4 0 rfl rfl rfl rfl (by first|trivial|rfl) ?_)
      refine cJ a4 rfl rfl rfl ⟨by omega, by omega⟩ trivial ?_
      repeat' (first|refine aC ?_|refine bh a4 ?_|fail)
      refine bW a4 1 rfl rfl rfl hf2 trivial ?_
      repeat' (first|refine aC ?_|refine bh a4 ?_|fail)
      refine bv [0, 1, 6, 22, 23, 24, 28, 41] rfl rfl ?_
      repeat' (first|refine a7 a4 rfl rfl ?_)
      refine aa a4 1 rfl rfl rfl rfl rfl rfl (Nat.ble_eq_true_of_le (by rw [Int.toNat_natCast]; simp only [hfl2]; simp; omega)) ?_
      rw [hst2]
      repeat' (first|refine a0 ?_|refine a5 ?_|refine aH ?_|refine a6 ?_|refine a7 a4 rfl rfl ?_|(apply aS; refine aR ?_)|fail)
      refine ay (k + 1) rfl ⟨by rw [Dv]; rfl, trivial⟩ (by omega) (by omega) (fun _ _ h => ?_)
      have h4 := sZ h
      rw [List.set_set] at h4
      rw [hnew, ← hyc]
      exact h4
    · have hke : k = (p :: q).length := by have := Dy h; omega
      subst hke
      rw [List.take_length]
      clear h
      have hR : (run.set p { x with Glyph := g, Cluster := f6 run (p :: q) x.Cluster }).length = run.length := List.length_set ..
      have hqR := hq.set p { x with Glyph := g, Cluster := f6 run (p :: q) x.Cluster }
      generalize run.set p { x with Glyph := g, Cluster := f6 run (p :: q) x.Cluster } = R at *
      obtain ⟨g1, g2, g3⟩ := hqR.fit m rfl
      repeat' (first|refine a8 ?_|refine a0 ?_|refine aj ?_|refine aL ?_|refine a5 ?_|refine ar ?_|refine av ?_|refine au ?_|refine a6 ?_|refine a7 a4 rfl rfl ?_|(apply aS; refine aR ?_)|fail)
      refine aK [0, 1] (α := Nat × List AV) (fun s => [(9, az s.1)]) (fun s => s.1 ≤ q.length ∧ m.cap * 6 ≤ (bo (dK (q.drop s.1) R) ++ s.2).length) (fun s => g7 wb E (some ⟨m.rb, m.cap, s.2⟩) (dK (q.drop s.1) R)) (fun s => s.1) (q.length, m.junk) rfl ⟨by rw [hnl]; simp; rfl, trivial⟩ ⟨Nat.le_refl _, by rw [List.drop_length]; exact g3⟩ (fun _ _ h => by rw [List.drop_length]; exact h) ?_
      rintro ⟨n, junk⟩ ⟨hn, hj⟩
      dsimp only at hn hj ⊢
      try dsimp only [Ds, Dr, Dq, Dn]
      repeat' (first|refine a8 ?_|refine a0 ?_|refine a5 ?_|refine a6 ?_|refine a7 a4 rfl rfl ?_)
      refine aq rfl (fun h => ?_) (fun h => ?_)
      · have hn0 : 0 < n := by have := Dz h; omega
        obtain ⟨k, rfl⟩ : ∃ k, n = k + 1 := ⟨n - 1, by omega⟩
        obtain ⟨z, hz⟩ : ∃ z, q[k]? = some z := ⟨_, Bj (by omega)⟩
        have hzg : (cD (p :: q))[((k + 1 : Nat) : Int).toNat]? = some [az z] := by rw [Int.toNat_natCast]; unfold cD; exact bI (by rw [Dq, List.getElem?_cons_succ, List.getElem?_map, hz]; rfl)
        have hqd : q.drop k = z :: q.drop (k + 1) := by rw [List.drop_eq_getElem_cons (by omega), (Dp hz).2]
        have hqp := (List.pairwise_cons.1 hs).2
        have hdp : (z :: q.drop (k + 1)).Pairwise (· < ·) := by rw [← hqd]; exact hqp.sublist (List.drop_sublist ..)
        obtain ⟨d1, d2⟩ := List.pairwise_cons.1 hdp
        have hqm : ∀ y ∈ q, y < R.length := fun y hy => by rw [hR]; exact hp y (by simp [hy])
        have hzl := qv (R := R) d2 (fun y hy => ⟨d1 y hy, hqm y (List.mem_of_mem_drop hy)⟩) (hqm z (Dw hz))
        have hdl : (dK (q.drop (k + 1)) R).length ≤ R.length := iR.length_le
        have hdel := uj m.rb m.cap (dK (q.drop (k + 1)) R) junk z hzl (by omega) h2 hj (by omega)
        have her : (dK (q.drop (k + 1)) R).eraseIdx z = dK (q.drop k) R := by rw [hqd]; rfl
        rw [her] at hdel
        clear h
        repeat' (first|refine a8 ?_|refine aj ?_|refine ah ?_|refine a5 ?_)
        refine bj 15 [(0, .v), (1, .v), (2, .v), (3, .v), (4, .l), (5, .v), (6, .v), (7, .v), (8, .v), (9, .v), (10, .v), (11, .v), (12, .v), (13, .v), (14, .e)] none ?_ trivial rfl (by kernel_rfl) (by kernel_rfl) (by kernel_rfl) c9 (by kernel_rfl) rfl
        repeat' (first|refine aC ?_|refine bh a4 ?_|(apply io;refine lx ?_)|(apply cC;refine cZ a4 ?_)|refine bW a4 0 rfl rfl rfl rfl (by first|trivial|rfl) ?_)
        refine iP [(m.rb, .box (bo (dK (q.drop (k + 1)) R) ++ junk) 67)] [(wb, .box [.iptr (d9 E), dq (some ⟨m.rb, m.cap, junk⟩) (dK (q.drop (k + 1)) R)] 102), cz] hdel rfl rfl CB trivial fun c L1 ⟨hc, junk', hj', hL⟩ => ?_
        subst hc; subst hL
        repeat' (first|fail)
        refine bv [0, 1, 9, 52, 66] rfl rfl ?_
        refine aP (aV B7) ?_
        repeat' (first|refine a0 ?_|refine a5 ?_|refine aH ?_|refine a6 ?_|refine a7 a4 rfl rfl ?_|(apply aS; refine aR ?_)|(apply aO; first|refine aa a4 0 rfl rfl rfl rfl rfl rfl rfl ?_|refine aa a4 1 rfl rfl rfl rfl rfl rfl rfl ?_|refine aa a4 2 rfl rfl rfl rfl rfl rfl rfl ?_|refine aa a4 3 rfl rfl rfl rfl rfl rfl rfl ?_|fail))
        refine ay (k, junk') rfl ⟨?_, trivial⟩ ⟨by omega, hj'⟩ (by dsimp only; omega) (fun _ _ h => h)
        show some (az (((k + 1 : Nat) : Int) - 1)) = some (az (k : Int))
        rw [show ((k + 1 : Nat) : Int) - 1 = (k : Int) by omega]
      · have hn0 : n = 0 := by have := Dy h; omega
        subst hn0
        rw [List.drop_zero] at hj ⊢
        clear h
        repeat' (first|refine aL ?_|refine ar ?_|refine av ?_|refine au ?_)
        have hdl := (iR (q := q) (run := R)).length_le
        have hok : cR (some ⟨m.rb, m.cap, junk⟩) (dK q R) := ⟨fun e => (by cases e), fun m' e => by
          cases e
          exact ⟨by dsimp only; omega, h2, hj⟩⟩
        exact c8 rfl ⟨some ⟨m.rb, m.cap, junk⟩, hok, rfl⟩
section
variable {P : Program} {tt : TT} {l : List Oper} {fr : bw} {fin : jh} {sk : lg} {acc : bw} {L : AL} {k : Nat} {dd : Option Tmp} {ty t t' : TypeId} {pos : String} {af : Array Edge} {g : Option (Nat × Bool)} {x y : Operand} {u : AV}
theorem AA {q : IntKind} {a b : Int} (hx : aW (ci l.toArray acc fr af.toList) x = some (.sc (.int q a))) (hy : aW (ci l.toArray acc fr af.toList) y = some (.sc (.int q b))) (hg : iK ⟨dd, .binOp .add t x y t', ty, pos, af, g⟩ acc) (h : DA P l fr fin sk ((k, .sc (.int q (q.wrap (a + b)))) :: acc) L) : cA P l fr fin k .v ⟨dd, .binOp .add t x y t', ty, pos, af, g⟩ sk acc L := eO hg (yU (zC hx hy)) h
end
structure oQ (run : List aF) (ps : List Nat) : Prop where
  some_ : ps ≠ []
  lt : ∀ j ∈ ps, j < run.length
  inc : ps.Pairwise (· < ·)
structure mi (r : aT) : Prop where
 some_ : r.In ≠ []
 out : r.Out.length ≤ 1000000
 calls : r.Calls.length ≤ 1000000
 at_ : ∀ c ∈ r.Calls, 0 ≤ c.At ∧ c.At ≤ 1000000
abbrev gG (wb : Nat) (e : lY) (r : aT) (ps : List Nat) (deep : Nat) : List AV := [eh wb, .iptr (dL e), .iptr (bH (dr r)), .imm 1 (cD ps), az deep]
def eL (wb : Nat) (E : lZ) (run' : List aF) : AV → AL → Prop := fun _ L => ∃ q', cR q' run' ∧ L = g7 wb E q' run'
section
variable {E : lZ} {wb : Nat} {m : ei} {run : List aF} (hq : cR (some m) run) (hr : run.length ≤ 1000000) {e : lY} {r : aT} (hro : mi r) {ps : List Nat} (hps : oQ run ps) (deep : Nat)
include hq hr hro hps
set_option maxHeartbeats 4000000 in
theorem D2 (hk : e.l.Kind = 2) : AC Tryz.prog 103 (gG wb e r ps deep) (g7 wb E (some m) run) (eL wb E (eJ e.l r ps run)) := by
 obtain ⟨⟨kd, ig, rs⟩, cls, fo, ba, fe, be⟩ := e
 dsimp only at hk
 subst hk
 obtain ⟨p, q, rfl⟩ := List.exists_cons_of_ne_nil hps.some_
 have hpl := hps.lt p (by simp)
 obtain ⟨x, hx⟩ : ∃ x, run[p]? = some x := ⟨_, Bj hpl⟩
 have hp0 : (cD (p :: q))[(0 : Int).toNat]? = some [az p] := rfl
 have hm := wQ E wb m run hq hr p x hx r hro.out
 refine aB Tryz.func103 rfl Tryz.ntmps103 rfl fun B => ?_
 repeat' (first|refine a8 ?_|refine a0 ?_|refine aj ?_|refine a5 ?_|refine a6 ?_|refine a7 a4 rfl rfl ?_|(apply aE; first|refine aD a4 ?_|refine aA a4 ?_)|refine br rfl ?_|refine bB rfl ?_)
 refine aN (g7 wb E (some m) run) [] hm rfl rfl (by rw [List.append_nil]) rfl fun c L1 ⟨q', h1, h2⟩ => ?_
 subst h2
 repeat' (first|refine aH ?_|refine a6 ?_)
 exact c8 rfl ⟨q', h1, by rw [List.append_nil]; rfl⟩
set_option maxHeartbeats 4000000 in
theorem D1 (hk : e.l.Kind = 1) : AC Tryz.prog 103 (gG wb e r ps deep) (g7 wb E (some m) run) (eL wb E (eJ e.l r ps run)) := by
 have _ := hr
 obtain ⟨⟨kd, ig, rs⟩, cls, fo, ba, fe, be⟩ := e
 dsimp only at hk
 subst hk
 obtain ⟨p, q, rfl⟩ := List.exists_cons_of_ne_nil hps.some_
 have hpl := hps.lt p (by simp)
 obtain ⟨x, hx⟩ : ∃ x, run[p]? = some x := ⟨_, Bj hpl⟩
 have hp0 : (cD (p :: q))[(0 : Int).toNat]? = some [az p] := rfl
 obtain ⟨i0, is, hin⟩ := List.exists_cons_of_ne_nil hro.some_
 have hin0 : (b7 (dr r).In)[(0 : Int).toNat]? = some [.imm 1 (aU i0)] := by
  show (b7 r.In)[0]? = _
  rw [hin]
  rfl
 have hsv : eJ ⟨1, ig, rs⟩ r (p :: q) run = ey r p run := rfl
 rw [hsv]
 have hsg : ey r p run = match r.Out[i0.idxOf x.Glyph]? with
   | none => run
   | some g => if i0.idxOf x.Glyph < i0.length then run.set p { x with Glyph := g } else run := by
  unfold ey
  rw [hx, hin]
  rfl
 have hol := b6 r.Out
 have h0 := lA (j := 0) m.junk hx rfl
 obtain ⟨g1, g2, g3⟩ := hq.fit m rfl
 have hfl := cw run
 refine aB Tryz.func103 rfl Tryz.ntmps103 rfl fun B => ?_
 repeat' (first|refine a8 ?_|refine a0 ?_|refine aj ?_|refine ah ?_|refine a5 ?_|refine a6 ?_|refine a7 a4 rfl rfl ?_|(apply aE; first|refine aD a4 ?_|refine aA a4 ?_)|refine br rfl ?_)
 refine bj 15 [(0, .v), (1, .v), (2, .v), (3, .v), (4, .v), (5, .v), (6, .v), (7, .v), (8, .v), (9, .l), (10, .v), (11, .v), (12, .v), (13, .l), (14, .v)] none ?_ trivial rfl (by kernel_rfl) (by kernel_rfl) (by kernel_rfl) c9 (by kernel_rfl) rfl
 repeat' (first|refine aC ?_|refine bh a4 ?_|(apply cC;refine cZ a4 ?_)|refine bW a4 0 rfl rfl rfl rfl (by first|trivial|rfl) ?_)
 refine cJ a4 rfl rfl rfl ⟨by omega, by omega⟩ trivial ?_
 repeat' (first|refine aC ?_|refine bh a4 ?_|fail)
 refine bW a4 1 rfl rfl rfl h0 trivial ?_
 repeat' (first|refine aC ?_|(apply cK;refine da ?_)|fail)
 refine bv [0, 2, 10, 37] rfl rfl ?_
 repeat' (first|refine a8 ?_|refine a0 ?_|refine a5 ?_|refine a6 ?_|refine a7 a4 rfl rfl ?_)
 have hst : (dr r).Out = r.Out := rfl
 generalize hn : (if x.Glyph ∈ i0 then ((i0.idxOf x.Glyph : Nat) : Int) else -1) = n
 refine bG [0, 2, 10, 11] (0 ≤ n ∧ n < r.Out.length) rfl (fun Q' K => ?_) (fun hC => ?_) (fun hC => ?_)
 ·repeat' (first|refine a6 ?_|refine a7 a4 rfl rfl ?_|refine an rfl rfl ?_|refine aw rfl rfl rfl rfl ?_|refine aG rfl rfl rfl (fun _ => ?_) (fun _ => ?_))
  all_goals exact K _ _ rfl rfl (by rw [hst, hol] at *; simp_all <;> omega)
 ·have hm : x.Glyph ∈ i0 := Classical.byContradiction fun hm => by rw [if_neg hm] at hn; omega
  rw [if_pos hm] at hn
  subst hn
  have hlt : i0.idxOf x.Glyph < r.Out.length := by omega
  obtain ⟨g, hg⟩ : ∃ g, r.Out[i0.idxOf x.Glyph]? = some g := ⟨_, Bj hlt⟩
  have hgg : (aU (dr r).Out)[((i0.idxOf x.Glyph : Nat) : Int).toNat]? = some [az g] := by rw [Int.toNat_natCast]; exact bI hg
  rw [hg] at hsg
  dsimp only at hsg
  rw [if_pos (List.idxOf_lt_length_of_mem hm)] at hsg
  rw [hsg]
  have hst := iu (j := 0) { x with Glyph := g } (az g) m.junk hx (by omega) rfl
  repeat' (first|fail)
  refine bj 12 [(0, .v), (1, .v), (2, .v), (3, .l), (4, .v), (5, .v), (6, .v), (7, .v), (8, .v), (9, .v), (10, .v), (11, .v)] none ?_ trivial rfl (by kernel_rfl) (by kernel_rfl) (by kernel_rfl) c9 (by kernel_rfl) rfl
  repeat' (first|refine aC ?_|refine bh a4 ?_|(apply cC;refine cZ a4 ?_)|refine bW a4 0 rfl rfl rfl rfl (by first|trivial|rfl) ?_)
  refine bv [52, 53, 60] rfl rfl ?_
  repeat' (first|refine a7 a4 rfl rfl ?_|(apply aE; first|refine aD a4 ?_|refine aA a4 ?_)|fail)
  refine aa a4 1 rfl rfl rfl rfl rfl rfl (Nat.ble_eq_true_of_le (by rw [Int.toNat_natCast]; simp; omega)) ?_
  rw [hst]
  repeat' (first|refine aH ?_|refine a6 ?_)
  exact c8 rfl ⟨some m, hq.set p _, mf⟩
 ·have hsg2 : ey r p run = run := by
   rw [hsg]
   split
   ·rfl
   ·rename_i g hg
    rw [if_neg]
    intro h
    rw [if_pos (List.idxOf_lt_length_iff.1 h)] at hn
    have := (Dp hg).1
    omega
  rw [hsg2]
  repeat' (first|refine ah ?_|refine aH ?_)
  exact c8 rfl ⟨some m, hq, rfl⟩
set_option maxHeartbeats 4000000 in
theorem D4 (hk : e.l.Kind = 5) : AC Tryz.prog 103 (gG wb e r ps deep) (g7 wb E (some m) run) (eL wb E (eJ e.l r ps run)) := by
 have _ := hr
 obtain ⟨⟨kd, ig, rs⟩, cls, fo, ba, fe, be⟩ := e
 dsimp only at hk
 subst hk
 obtain ⟨p, q, rfl⟩ := List.exists_cons_of_ne_nil hps.some_
 have hpl := hps.lt p (by simp)
 obtain ⟨x, hx⟩ : ∃ x, run[p]? = some x := ⟨_, Bj hpl⟩
 have hp0 : (cD (p :: q))[(0 : Int).toNat]? = some [az p] := rfl
 obtain ⟨i0, is, hin⟩ := List.exists_cons_of_ne_nil hro.some_
 have hin0 : (b7 (dr r).In)[(0 : Int).toNat]? = some [.imm 1 (aU i0)] := by
  show (b7 r.In)[0]? = _
  rw [hin]
  rfl
 have hsv : eJ ⟨5, ig, rs⟩ r (p :: q) run = ey r p run := rfl
 rw [hsv]
 have hsg : ey r p run = match r.Out[i0.idxOf x.Glyph]? with
   | none => run
   | some g => if i0.idxOf x.Glyph < i0.length then run.set p { x with Glyph := g } else run := by
  unfold ey
  rw [hx, hin]
  rfl
 have hol := b6 r.Out
 have h0 := lA (j := 0) m.junk hx rfl
 obtain ⟨g1, g2, g3⟩ := hq.fit m rfl
 have hfl := cw run
 refine aB Tryz.func103 rfl Tryz.ntmps103 rfl fun B => ?_
 repeat' (first|refine a8 ?_|refine a0 ?_|refine aj ?_|refine a5 ?_|refine a6 ?_|refine a7 a4 rfl rfl ?_|(apply aE; first|refine aD a4 ?_|refine aA a4 ?_)|refine br rfl ?_|refine bB rfl ?_)
 refine bj 15 [(0, .v), (1, .v), (2, .v), (3, .v), (4, .v), (5, .v), (6, .v), (7, .v), (8, .v), (9, .l), (10, .v), (11, .v), (12, .v), (13, .l), (14, .v)] none ?_ trivial rfl (by kernel_rfl) (by kernel_rfl) (by kernel_rfl) c9 (by kernel_rfl) rfl
 repeat' (first|refine aC ?_|refine bh a4 ?_|(apply cC;refine cZ a4 ?_)|refine bW a4 0 rfl rfl rfl rfl (by first|trivial|rfl) ?_)
 refine cJ a4 rfl rfl rfl ⟨by omega, by omega⟩ trivial ?_
 repeat' (first|refine aC ?_|refine bh a4 ?_|fail)
 refine bW a4 1 rfl rfl rfl h0 trivial ?_
 repeat' (first|refine aC ?_|(apply cK;refine da ?_)|fail)
 refine bv [0, 2, 10, 37] rfl rfl ?_
 repeat' (first|refine a8 ?_|refine a0 ?_|refine a5 ?_|refine a6 ?_|refine a7 a4 rfl rfl ?_)
 have hst : (dr r).Out = r.Out := rfl
 generalize hn : (if x.Glyph ∈ i0 then ((i0.idxOf x.Glyph : Nat) : Int) else -1) = n
 refine bG [0, 2, 10, 11] (0 ≤ n ∧ n < r.Out.length) rfl (fun Q' K => ?_) (fun hC => ?_) (fun hC => ?_)
 ·repeat' (first|refine a6 ?_|refine a7 a4 rfl rfl ?_|refine an rfl rfl ?_|refine aw rfl rfl rfl rfl ?_|refine aG rfl rfl rfl (fun _ => ?_) (fun _ => ?_))
  all_goals exact K _ _ rfl rfl (by rw [hst, hol] at *; simp_all <;> omega)
 ·have hm : x.Glyph ∈ i0 := Classical.byContradiction fun hm => by rw [if_neg hm] at hn; omega
  rw [if_pos hm] at hn
  subst hn
  have hlt : i0.idxOf x.Glyph < r.Out.length := by omega
  obtain ⟨g, hg⟩ : ∃ g, r.Out[i0.idxOf x.Glyph]? = some g := ⟨_, Bj hlt⟩
  have hgg : (aU (dr r).Out)[((i0.idxOf x.Glyph : Nat) : Int).toNat]? = some [az g] := by rw [Int.toNat_natCast]; exact bI hg
  rw [hg] at hsg
  dsimp only at hsg
  rw [if_pos (List.idxOf_lt_length_of_mem hm)] at hsg
  rw [hsg]
  have hst := iu (j := 0) { x with Glyph := g } (az g) m.junk hx (by omega) rfl
  repeat' (first|fail)
  refine bj 12 [(0, .v), (1, .v), (2, .v), (3, .l), (4, .v), (5, .v), (6, .v), (7, .v), (8, .v), (9, .v), (10, .v), (11, .v)] none ?_ trivial rfl (by kernel_rfl) (by kernel_rfl) (by kernel_rfl) c9 (by kernel_rfl) rfl
  repeat' (first|refine aC ?_|refine bh a4 ?_|(apply cC;refine cZ a4 ?_)|refine bW a4 0 rfl rfl rfl rfl (by first|trivial|rfl) ?_)
  refine bv [52, 53, 60] rfl rfl ?_
  repeat' (first|refine a7 a4 rfl rfl ?_|(apply aE; first|refine aD a4 ?_|refine aA a4 ?_)|fail)
  refine aa a4 1 rfl rfl rfl rfl rfl rfl (Nat.ble_eq_true_of_le (by rw [Int.toNat_natCast]; simp; omega)) ?_
  rw [hst]
  repeat' (first|refine aH ?_|refine a6 ?_)
  exact c8 rfl ⟨some m, hq.set p _, mf⟩
 ·have hsg2 : ey r p run = run := by
   rw [hsg]
   split
   ·rfl
   ·rename_i g hg
    rw [if_neg]
    intro h
    rw [if_pos (List.idxOf_lt_length_iff.1 h)] at hn
    have := (Dp hg).1
    omega
  rw [hsg2]
  repeat' (first|refine ah ?_|refine aH ?_)
  exact c8 rfl ⟨some m, hq, rfl⟩
set_option maxHeartbeats 4000000 in
theorem D3 (hk : e.l.Kind = 3) : AC Tryz.prog 103 (gG wb e r ps deep) (g7 wb E (some m) run) (eL wb E (eJ e.l r ps run)) := by
 have _ := hro
 obtain ⟨⟨kd, ig, rs⟩, cls, fo, ba, fe, be⟩ := e
 dsimp only at hk
 subst hk
 obtain ⟨p, q, rfl⟩ := List.exists_cons_of_ne_nil hps.some_
 have hpl := hps.lt p (by simp)
 obtain ⟨x, hx⟩ : ∃ x, run[p]? = some x := ⟨_, Bj hpl⟩
 have hp0 : (cD (p :: q))[(0 : Int).toNat]? = some [az p] := rfl
 have hol := b6 (dr r).Out
 have hst : (dr r).Out = r.Out := rfl
 rw [hst] at hol
 refine aB Tryz.func103 rfl Tryz.ntmps103 rfl fun B => ?_
 repeat' (first|refine a8 ?_|refine a0 ?_|refine aj ?_|refine a5 ?_|refine a6 ?_|refine a7 a4 rfl rfl ?_|(apply aE; first|refine aD a4 ?_|refine aA a4 ?_)|refine br rfl ?_|refine bB rfl ?_)
 refine aq rfl (fun h => ?_) (fun h => ?_)
 ·have hne : r.Out ≠ [] := fun e => by rw [hst, e] at h; cases h
  obtain ⟨g, gs, hg⟩ := List.exists_cons_of_ne_nil hne
  have hj := yO E wb m run hq hr p q hps.lt hps.inc x hx r g gs hg
  have hg0 : (aU (dr r).Out)[(0 : Int).toNat]? = some [az g] := by rw [hst, hg]; rfl
  clear h
  repeat' (first|refine a0 ?_|refine a7 a4 rfl rfl ?_|(apply aE; first|refine aD a4 ?_|refine aA a4 ?_)|fail)
  refine aN (g7 wb E (some m) run) [] hj rfl rfl (by rw [List.append_nil]) rfl fun c L1 ⟨q', h1, h2⟩ => ?_
  subst h2
  repeat' (first|refine aH ?_|refine a6 ?_)
  exact c8 rfl ⟨q', h1, by rw [List.append_nil]; rfl⟩
 ·have hz : r.Out = [] := List.eq_nil_of_length_eq_zero (by have := Dy h; rw [hst] at this; omega)
  have hsv : eJ ⟨3, ig, rs⟩ r (p :: q) run = run := by
   show k6 r (p :: q) run = run
   unfold k6
   rw [hz]
  rw [hsv]
  repeat' (first|refine ah ?_|refine aH ?_)
  exact c8 rfl ⟨some m, hq, rfl⟩
set_option maxHeartbeats 4000000 in
theorem D5 (hk : e.l.Kind = 6) : AC Tryz.prog 103 (gG wb e r ps deep) (g7 wb E (some m) run) (eL wb E (eJ e.l r ps run)) := by
 have _ := hr
 have _ := hro
 obtain ⟨⟨kd, ig, rs⟩, cls, fo, ba, fe, be⟩ := e
 dsimp only at hk
 subst hk
 obtain ⟨p, q, rfl⟩ := List.exists_cons_of_ne_nil hps.some_
 have hpl := hps.lt p (by simp)
 obtain ⟨x, hx⟩ : ∃ x, run[p]? = some x := ⟨_, Bj hpl⟩
 have hp0 : (cD (p :: q))[(0 : Int).toNat]? = some [az p] := rfl
 have hsv : eJ ⟨6, ig, rs⟩ r (p :: q) run = run.set p { x with Advance := IntKind.i64.wrap (x.Advance + r.X) } := by
  show ow r p run = _
  unfold ow
  rw [hx]
 rw [hsv]
 have h3 := lA (j := 3) m.junk hx rfl
 have hst := iu (j := 3) { x with Advance := IntKind.i64.wrap (x.Advance + r.X) } (az (IntKind.i64.wrap (x.Advance + r.X))) m.junk hx (by omega) rfl
 obtain ⟨g1, g2, g3⟩ := hq.fit m rfl
 have hfl := cw run
 refine aB Tryz.func103 rfl Tryz.ntmps103 rfl fun B => ?_
 repeat' (first|refine a8 ?_|refine a0 ?_|refine aj ?_|refine a5 ?_|refine a6 ?_|refine a7 a4 rfl rfl ?_|(apply aE; first|refine aD a4 ?_|refine aA a4 ?_)|refine br rfl ?_|refine bB rfl ?_)
 refine bj 13 [(0, .v), (1, .v), (2, .v), (3, .l), (4, .v), (5, .v), (6, .v), (7, .l), (8, .v), (9, .v), (10, .v), (11, .v), (12, .v)] none ?_ trivial rfl (by kernel_rfl) (by kernel_rfl) (by kernel_rfl) c9 (by kernel_rfl) rfl
 repeat' (first|refine aC ?_|refine bh a4 ?_|refine bW a4 0 rfl rfl rfl rfl (by first|trivial|rfl) ?_)
 refine cJ a4 rfl rfl rfl ⟨by omega, by omega⟩ trivial ?_
 repeat' (first|refine aC ?_|refine bh a4 ?_|fail)
 refine bW a4 1 rfl rfl rfl h3 trivial ?_
 repeat' (first|refine aC ?_|refine bh a4 ?_|fail)
 refine AA rfl rfl trivial ?_
 repeat' (first|fail)
 refine bv [107, 108, 116] rfl rfl ?_
 repeat' (first|refine a7 a4 rfl rfl ?_|(apply aE; first|refine aD a4 ?_|refine aA a4 ?_)|fail)
 refine aa a4 1 rfl rfl rfl rfl rfl rfl (Nat.ble_eq_true_of_le (by rw [Int.toNat_natCast]; simp; omega)) ?_
 have hsx : (dr r).X = r.X := rfl
 rw [hsx, hst]
 repeat' (first|refine aH ?_|refine a6 ?_)
 exact c8 rfl ⟨some m, hq.set p _, mf⟩
end
end Go.Proofs.YtpmdfoaadejmkaaGreatDoor
namespace Go.Proofs.YtpmdfoaadejmkaaGreatDoor
open Go.RowKit
attribute [local irreducible] AT bf AX AO Av Kt aZ df DA cA
structure lh (E : lZ) : Prop where
 auto : ∀ e ∈ E.lks, 1 ≤ e.l.Kind → e.l.Kind ≤ 6 → i4 e
 rule : ∀ e ∈ E.lks, ∀ r ∈ e.l.Rules, r.In ≠ [] → mi r
abbrev lZ.ls (E : lZ) : List aQ := E.lks.map (·.l)
theorem uJ {ms : List Bool} {ig : Bool} {run : List aF} {i : Nat} (hi : i < run.length) {n : Int} (h0 : 0 ≤ n) : pt ms ig run i n = if gS ms ig run i = true then (if n = 0 then some i else pt ms ig run (i + 1) (n - 1)) else pt ms ig run (i + 1) n := by
 unfold pt
 rw [if_pos h0, jt hi]
 split
 ·split
  ·rename_i hn
   subst hn
   rfl
  ·rw [if_pos (by omega), show n.toNat = (n - 1).toNat + 1 by omega, List.getElem?_cons_succ]
 ·rfl
theorem x1 {ms : List Bool} {ig : Bool} {run : List aF} {i : Nat} (hi : run.length ≤ i) (n : Int) : pt ms ig run i n = none := by
 unfold pt
 rw [oe hi]
 split <;> simp
theorem uu {ms : List Bool} {ig : Bool} {run : List aF} {i : Nat} : (dh ms ig run i).Pairwise (· < ·) := by
  unfold dh
  exact List.Pairwise.filter _ (List.pairwise_lt_range' ..)
theorem Bb {ms : List Bool} {l : aQ} {run : List aF} {i : Nat} {forms : List Int} {r : aT} (h : dp ms l run i forms = some r) : oQ run (cM ms l run i r) ∧ r ∈ l.Rules ∧ r.In ≠ [] ∧ i < run.length ∧ (cM ms l run i r).head? = some i := by
 unfold dp at h
 split at h
 ·rename_i hb
  have hm := List.mem_of_find?_eq_some h
  obtain ⟨h1, h2⟩ := lO (List.find?_some h)
  unfold jl at hb
  split at hb
  ·rename_i x hx
   have hil := (Dp hx).1
   rw [Bool.and_eq_true] at hb
   have hs : gS ms l.Ignore run i = true := by rw [la hx]; exact hb.1
   have hf : dh ms l.Ignore run i = i :: dh ms l.Ignore run (i + 1) := by rw [jt hil, if_pos hs]
   obtain ⟨n, hn⟩ : ∃ n, r.In.length = n + 1 := ⟨r.In.length - 1, by omega⟩
   have hp : cM ms l run i r = i :: (dh ms l.Ignore run (i + 1)).take n := by unfold cM; rw [hf, hn, List.take_succ_cons]
   refine ⟨⟨by rw [hp]; simp, fun j hj => (wr j (List.mem_of_mem_take hj)).2.1, ?_⟩, hm, fun e => by rw [e] at h1; simp at h1, hil, by rw [hp]; rfl⟩
   exact uu.sublist (List.take_sublist ..)
  ·cases hb
 ·cases h
def er (a b : Nat) : Prop := b ≤ max a 500
theorem oH {l : aQ} {r : aT} {ps : List Nat} {run : List aF} : er run.length (eJ l r ps run).length := by
 unfold eJ er
 split
 ·unfold ey; split <;> (try split) <;> (try split) <;> (try rw [List.length_set]) <;> omega
 split
 ·unfold fF
  split
  ·omega
  ·split
   ·omega
   ·rename_i x hx hh
    have := (Dp hx).1
    simp only [List.length_append, List.length_take, List.length_drop, Du]
    omega
 split
 ·unfold k6
  split
  ·split
   ·refine Nat.le_trans iR.length_le ?_
    rw [List.length_set]; omega
   ·omega
  ·omega
 split
 ·unfold ow; split <;> (try rw [List.length_set]) <;> omega
 ·omega
theorem er.trans {a b c : Nat} (h : er a b) (k : er b c) : er a c := by unfold er at *; omega
theorem nX {ms : List Bool} {ls : List aQ} {d : Cb} (hd : ∀ l r ps run, er run.length (d l r ps run).length) {n : Int} {i : Nat} {run : List aF} : er run.length (jN ms ls d n i run).length := by
 unfold jN
 split
 ·unfold er; omega
 ·split
  ·unfold er; omega
  ·split
   ·unfold er; omega
   ·split
    ·unfold er; omega
    ·exact hd ..
theorem iQ {ms : List Bool} {ls : List aQ} : ∀ (k : Nat) (l : aQ) (r : aT) (ps : List Nat) (run : List aF), er run.length (gw ms ls k l r ps run).length
 | 0, _, _, _, _ => oH
 | k + 1, l, r, ps, run => by
  unfold gw
  split
  ·have key : ∀ (cs : List i6) (run : List aF), er run.length (cs.foldl (dT ms ls (gw ms ls k) l.Ignore (ps.headD 0)) run).length := by
    intro cs
    induction cs with
    | nil => intro run; unfold er; simp; omega
    | cons c cs ih =>
     intro run
     rw [List.foldl_cons]
     refine er.trans ?_ (ih _)
     unfold dT
     split
     ·unfold er; omega
     ·exact nX (iQ k)
   exact key _ _
  ·exact oH
theorem er.big {a b : Nat} (h : er a b) (ha : a ≤ 1000000) : b ≤ 1000000 := by unfold er at h; omega
section
variable {E : lZ} (hE : lh E) (wb : Nat)
def Bm (E : lZ) (wb deep k : Nat) : Prop := ∀ (e : lY) (r : aT) (ps : List Nat) (q : Option ei) (run : List aF), e ∈ E.lks → 1 ≤ e.l.Kind → e.l.Kind ≤ 6 → mi r → oQ run ps → cR q run → run.length ≤ 1000000 →
 AC Tryz.prog 103 (gG wb e r ps deep) (g7 wb E q run) (eL wb E (gw E.ms E.ls k e.l r ps run))
def rp (E : lZ) (wb deep k : Nat) : Prop := ∀ (n : Int) (i : Nat) (q : Option ei) (run : List aF), i < run.length → cR q run → run.length ≤ 1000000 →
 AC Tryz.prog 261 [eh wb, az n, az i, az deep] (g7 wb E q run) (eL wb E (jN E.ms E.ls (gw E.ms E.ls k) n i run))
theorem nW (E : lZ) : (E.lks.map dL).length = E.lks.length := by simp
include hE in
set_option maxHeartbeats 4000000 in
theorem y9 {deep k : Nat} (hd : deep ≤ 4) (hdo : Bm E wb deep k) : rp E wb deep k := by
 intro n i q run hi hq hr
 refine aB Tryz.func261 rfl Tryz.ntmps261 rfl fun B => ?_
 have hll := nW E
 repeat' (first|refine a8 ?_|refine a0 ?_|refine a7 a4 rfl rfl ?_)
 refine bG [0, 1, 2, 3] (n < 0 ∨ (E.lks.length : Int) ≤ n) rfl (fun Q' K => ?_) (fun hC => ?_) (fun hC => ?_)
 ·repeat' (first|refine a6 ?_|refine a7 a4 rfl rfl ?_|refine an rfl rfl ?_|refine aw rfl rfl rfl rfl ?_|(apply bD; first|refine ai a4 0 rfl rfl rfl rfl rfl ?_|refine ai a4 1 rfl rfl rfl rfl rfl ?_|refine ai a4 2 rfl rfl rfl rfl rfl ?_|refine ai a4 3 rfl rfl rfl rfl rfl ?_|refine ax a4 0 rfl rfl rfl rfl rfl ?_|refine ax a4 1 rfl rfl rfl rfl rfl ?_|refine ax a4 2 rfl rfl rfl rfl rfl ?_|refine ai a4 1 rfl rfl rfl (by assumption) rfl ?_|refine ai a4 0 rfl rfl rfl (by assumption) rfl ?_|fail)|refine aG rfl rfl rfl (fun _ => ?_) (fun _ => ?_))
  all_goals exact K _ _ rfl rfl (by simp_all <;> omega)
 ·have hv : jN E.ms E.ls (gw E.ms E.ls k) n i run = run := by
   unfold jN
   by_cases h0 : n < 0
   ·rw [if_pos h0]
   ·rw [if_neg h0, List.getElem?_eq_none (by rw [Du]; omega)]
  rw [hv]
  repeat' (first|refine ae ?_|refine am ?_)
  exact m8 rfl ⟨q, hq, rfl⟩
 obtain ⟨e, he⟩ : ∃ e, E.lks[n.toNat]? = some e := ⟨_, Bj (by omega)⟩
 have heg : (E.lks.map dL)[n.toNat]? = some (dL e) := by simp [he]
 have hem := Dw he
 have hcv : jN E.ms E.ls (gw E.ms E.ls k) n i run = if e.l.Kind < 1 ∨ 4 < e.l.Kind then run else match dp E.ms e.l run i [] with
   | none => run
   | some r => gw E.ms E.ls k e.l r (cM E.ms e.l run i r) run := by
  unfold jN
  rw [if_neg (by omega), List.getElem?_map, he]
  rfl
 repeat' (first|refine a8 ?_|refine a0 ?_|refine ah ?_|refine a5 ?_|refine a6 ?_|refine a7 a4 rfl rfl ?_|(apply bD; first|refine ai a4 0 rfl rfl rfl rfl rfl ?_|refine ai a4 1 rfl rfl rfl rfl rfl ?_|refine ai a4 2 rfl rfl rfl rfl rfl ?_|refine ai a4 3 rfl rfl rfl rfl rfl ?_|refine ax a4 0 rfl rfl rfl rfl rfl ?_|refine ax a4 1 rfl rfl rfl rfl rfl ?_|refine ax a4 2 rfl rfl rfl rfl rfl ?_|refine ai a4 1 rfl rfl rfl (by assumption) rfl ?_|refine ai a4 0 rfl rfl rfl (by assumption) rfl ?_|fail)|(apply aE; first|refine aD a4 ?_|refine aA a4 ?_)|fail)
 refine bG [0, 2, 3, 8] (e.l.Kind < 1 ∨ 4 < e.l.Kind) rfl (fun Q' K => ?_) (fun hC2 => ?_) (fun hC2 => ?_)
 ·repeat' (first|refine a6 ?_|refine a7 a4 rfl rfl ?_|refine an rfl rfl ?_|refine aw rfl rfl rfl rfl ?_|refine aG rfl rfl rfl (fun _ => ?_) (fun _ => ?_))
  all_goals exact K _ _ rfl rfl (by simp_all <;> omega)
 ·rw [if_pos hC2] at hcv
  rw [hcv]
  repeat' (first|refine ae ?_|refine am ?_)
  exact m8 rfl ⟨q, hq, rfl⟩
 rw [if_neg hC2] at hcv
 rw [hcv]
 have hau := hE.auto e hem (by omega) (by omega)
 have hma := AC.args (a := [eh wb, .iptr (dL e), az i, .sc (.slice none 0 0)]) (mY E e hau wb q run hq hr i (by omega) []) ⟨dG.refl _, dG.refl _, dG.refl _, dG.nil 1, trivial⟩
 repeat' (first|refine a8 ?_|refine a0 ?_|refine ah ?_|refine a5 ?_|refine a7 a4 rfl rfl ?_)
 refine aN (g7 wb E q run) [] hma rfl rfl (by rw [List.append_nil]) rfl fun c L1 ⟨hc, hL⟩ => ?_
 subst hc; subst hL
 unfold iA
 cases hmv : dp E.ms e.l run i [] with
 | none =>
  dsimp only
  repeat' (first|refine a8 ?_|refine a0 ?_|refine a5 ?_|refine a6 ?_|refine a7 a4 rfl rfl ?_)
  refine po Tryz.underlying190 rfl rfl rfl rfl ?_
  repeat' (first|refine ah ?_|refine a5 ?_|refine a6 ?_|refine bB rfl ?_)
  exact c8 rfl ⟨q, hq, by rw [List.append_nil]⟩
 | some r =>
  dsimp only
  obtain ⟨hps, hrm, hin, _, _⟩ := Bb hmv
  have hdc := hdo e r (cM E.ms e.l run i r) q run hem (by omega) (by omega) (hE.rule e hem r hrm hin) hps hq hr
  repeat' (first|refine a8 ?_|refine a0 ?_|refine a5 ?_|refine a6 ?_|refine a7 a4 rfl rfl ?_)
  refine po Tryz.underlying190 rfl rfl rfl rfl ?_
  repeat' (first|refine a0 ?_|refine a5 ?_|refine a6 ?_|refine a7 a4 rfl rfl ?_|refine br rfl ?_)
  refine aN (g7 wb E q run) [] hdc rfl rfl (by rw [List.append_nil]) rfl fun c L1 ⟨q', h1, h2⟩ => ?_
  subst h2
  repeat' (first|refine a6 ?_)
  exact c8 rfl ⟨q', h1, by rw [List.append_nil]⟩
set_option maxHeartbeats 4000000 in
theorem w4 {deep k : Nat} (hd : deep < 4) (hca : rp E wb (deep + 1) k) (e : lY) (cs : List i6) (hcs : cs.length ≤ 1000000) (hca0 : ∀ c ∈ cs, 0 ≤ c.At ∧ c.At ≤ 1000000) (p : Nat) (hp : p ≤ 1000000) (q : Option ei) (run : List aF) (hq : cR q run) (hr : run.length ≤ 1000000) :
  AC Tryz.prog 193 [eh wb, .iptr (dL e), .imm 2 (cs.map f7), az p, az deep] (g7 wb E q run) (eL wb E (cs.foldl (dT E.ms E.ls (gw E.ms E.ls k) e.l.Ignore p) run)) := by
 refine aB Tryz.func193 rfl Tryz.ntmps193 rfl fun B => ?_
 have hcl : (cs.map f7).length = cs.length := by simp
 repeat' (first|fail)
 refine vM ?_
 repeat' (first|refine a8 ?_|refine a0 ?_|refine aj ?_|refine vK ?_|refine a5 ?_|refine a6 ?_|refine a7 a4 rfl rfl ?_)
 refine aK [0, 1, 3, 4, 14, 15] (α := Nat × Option ei × List aF) (fun s => [(16, az s.1)]) (fun s => s.1 ≤ cs.length ∧ cR s.2.1 s.2.2 ∧ s.2.2.length ≤ 1000000 ∧ (cs.drop s.1).foldl (dT E.ms E.ls (gw E.ms E.ls k) e.l.Ignore p) s.2.2 = cs.foldl (dT E.ms E.ls (gw E.ms E.ls k) e.l.Ignore p) run) (fun s => g7 wb E s.2.1 s.2.2) (fun s => cs.length - s.1) (0, q, run) rfl ⟨rfl, trivial⟩ ⟨Nat.zero_le _, hq, hr, rfl⟩ (fun _ _ h => h) ?_
 rintro ⟨n, q1, run1⟩ ⟨hn, hq1, hr1, hf⟩
 dsimp only at hn hq1 hr1 hf ⊢
 try dsimp only [Ds, Dr, Dq, Dn]
 repeat' (first|refine a8 ?_|refine a0 ?_|refine a5 ?_|refine a6 ?_|refine a7 a4 rfl rfl ?_)
 refine aq rfl (fun h => ?_) (fun h => ?_)
 ·have hn2 : n < cs.length := by have := Dz h; omega
  obtain ⟨c, hc⟩ : ∃ c, cs[n]? = some c := ⟨_, Bj hn2⟩
  have hcg : (cs.map f7)[n]? = some (f7 c) := by simp [hc]
  obtain ⟨ha0, ha1⟩ := hca0 c (Dw hc)
  have hfd : (cs.drop (n + 1)).foldl (dT E.ms E.ls (gw E.ms E.ls k) e.l.Ignore p) (dT E.ms E.ls (gw E.ms E.ls k) e.l.Ignore p run1 c) = cs.foldl (dT E.ms E.ls (gw E.ms E.ls k) e.l.Ignore p) run := by
   rw [← hf, List.drop_eq_getElem_cons hn2, List.foldl_cons, (Dp hc).2]
  clear h
  repeat' (first|refine a8 ?_|refine a0 ?_|refine aj ?_|refine ah ?_|refine a5 ?_|refine a6 ?_|refine a7 a4 rfl rfl ?_|(apply aE; first|refine aD a4 ?_|refine aA a4 ?_)|(apply aO; first|refine a9 11 a4 0 rfl rfl rfl rfl rfl rfl rfl rfl ?_|refine a9 11 a4 1 rfl rfl rfl rfl rfl rfl rfl rfl ?_|refine a9 11 a4 2 rfl rfl rfl rfl rfl rfl rfl rfl ?_|refine aa a4 0 rfl rfl rfl rfl rfl rfl rfl ?_|refine aa a4 1 rfl rfl rfl rfl rfl rfl rfl ?_|refine aa a4 2 rfl rfl rfl rfl rfl rfl rfl ?_|refine aa a4 3 rfl rfl rfl rfl rfl rfl rfl ?_|fail)|refine aY a4 fun _=>?_|fail)
  refine aK [0, 1, 3, 4, 11, 14, 15, 16] (α := Nat × Int) (fun s => [(13, az s.1), (12, az s.2)]) (fun s => 0 ≤ s.2 ∧ s.2 ≤ 1000000 ∧ s.1 ≤ 1000000 ∧ pt E.ms e.l.Ignore run1 p c.At = pt E.ms e.l.Ignore run1 s.1 s.2) (fun s => g7 wb E q1 run1) (fun s => run1.length - s.1) (p, c.At) rfl ⟨rfl, rfl, trivial⟩ ⟨ha0, ha1, hp, rfl⟩ (fun _ _ h => h) ?_
  rintro ⟨i, left⟩ ⟨hl0, hl1, hi1, hnth⟩
  dsimp only at hl0 hl1 hi1 hnth ⊢
  try dsimp only [Ds, Dr, Dq, Dn]
  repeat' (first|refine a8 ?_|refine a0 ?_|refine a7 a4 rfl rfl ?_|(apply bD; first|refine ai a4 0 rfl rfl rfl rfl rfl ?_|refine ai a4 1 rfl rfl rfl rfl rfl ?_|refine ai a4 2 rfl rfl rfl rfl rfl ?_|refine ai a4 3 rfl rfl rfl rfl rfl ?_|refine ax a4 0 rfl rfl rfl rfl rfl ?_|refine ax a4 1 rfl rfl rfl rfl rfl ?_|refine ax a4 2 rfl rfl rfl rfl rfl ?_|refine ai a4 1 rfl rfl rfl (by assumption) rfl ?_|refine ai a4 0 rfl rfl rfl (by assumption) rfl ?_|fail)|fail)
  refine jv a4 rfl hq1 rfl rfl ?_
  repeat' (first|refine a5 ?_|refine a6 ?_|refine a7 a4 rfl rfl ?_)
  refine aq rfl (fun h => ?_) (fun h => ?_)
  ·have hi2 : i < run1.length := by have := Dz h; omega
   obtain ⟨m, rfl⟩ := hq1.lt hi2
   obtain ⟨x, hx⟩ : ∃ x, run1[i]? = some x := ⟨_, Bj hi2⟩
   have hse := pG E e wb m run1 i x hx
   have hst := uJ (ms := E.ms) (ig := e.l.Ignore) hi2 hl0
   rw [la hx] at hst
   clear h
   repeat' (first|refine a8 ?_|refine a0 ?_|refine aj ?_|refine ah ?_|refine a5 ?_|refine a7 a4 rfl rfl ?_)
   refine aN (rm wb (.iptr (d9 E)) (some m) run1) [cz] hse rfl rfl (Do _) rfl fun c1 L1 ⟨hc1, hL⟩ => ?_
   subst hc1; subst hL
   repeat' (first|refine a5 ?_|refine a6 ?_|refine a7 a4 rfl rfl ?_)
   refine aq rfl (fun hb => ?_) (fun hb => ?_)
   ·rw [if_neg (by simpa using hb)] at hst
    repeat' (first|refine a0 ?_|refine aL ?_|refine a5 ?_|refine ar ?_|refine av ?_|refine a6 ?_|refine a7 a4 rfl rfl ?_|(apply aS; refine aR ?_)|fail)
    exact ay (i + 1, left) rfl ⟨by rw [Dv]; rfl, rfl, trivial⟩ ⟨hl0, hl1, by dsimp only; omega, by rw [hnth, hst]⟩ (by dsimp only; omega) (fun _ _ h => h)
   ·rw [if_pos (by simpa using hb)] at hst
    repeat' (first|refine a8 ?_|refine a0 ?_|refine ah ?_|refine a5 ?_|refine a6 ?_|refine a7 a4 rfl rfl ?_)
    refine aq rfl (fun h0 => ?_) (fun h0 => ?_)
    ·have hz := Dz h0
     subst hz
     rw [if_pos rfl] at hst
     have hcc := hca c.Lookup i (some m) run1 hi2 hq1 hr1
     have hch : dT E.ms E.ls (gw E.ms E.ls k) e.l.Ignore p run1 c = jN E.ms E.ls (gw E.ms E.ls k) c.Lookup i run1 := by
      unfold dT
      rw [hnth, hst]
     rw [hch] at hfd
     clear h0
     repeat' (first|refine a8 ?_|refine a0 ?_|refine a7 a4 rfl rfl ?_|(apply aS; refine aR ?_)|fail)
     refine aN (g7 wb E (some m) run1) [] hcc rfl (by rw [Dv]; rfl) (by rw [List.append_nil]) rfl fun c2 L2 ⟨q', h1, h2⟩ => ?_
     subst h2
     repeat' (first|refine a0 ?_|refine aL ?_|refine a5 ?_|refine ar ?_|refine av ?_|refine cY rfl ?_|refine au ?_|refine a6 ?_|refine a7 a4 rfl rfl ?_|(apply aS; refine aR ?_)|fail)
     exact ay (n + 1, q', _) rfl ⟨by rw [Dv]; rfl, trivial⟩ ⟨hn2, h1, (nX (iQ k)).big hr1, hfd⟩ (by dsimp only; omega) (fun _ _ h => by rw [List.append_nil] at h; exact h)
    ·have hz := Dy h0
     rw [if_neg hz] at hst
     repeat' (first|refine a0 ?_|refine ah ?_|refine a5 ?_|refine aH ?_|refine a6 ?_|refine a7 a4 rfl rfl ?_|(apply aS; refine aR ?_)|fail)
     exact ay (i + 1, left - 1) rfl ⟨by rw [Dv]; rfl, rfl, trivial⟩ ⟨by dsimp only; omega, by dsimp only; omega, by dsimp only; omega, by rw [hnth, hst]⟩ (by dsimp only; omega) (fun _ _ h => h)
  ·have hi2 : run1.length ≤ i := by have := Dy h; omega
   have hch : dT E.ms E.ls (gw E.ms E.ls k) e.l.Ignore p run1 c = run1 := by
    unfold dT
    rw [hnth, x1 hi2]
   rw [hch] at hfd
   clear h
   repeat' (first|refine a0 ?_|refine aL ?_|refine a5 ?_|refine ar ?_|refine aH ?_|refine av ?_|refine au ?_|refine a6 ?_|refine a7 a4 rfl rfl ?_|(apply aS; refine aR ?_)|fail)
   exact ay (n + 1, q1, run1) rfl ⟨by rw [Dv]; rfl, trivial⟩ ⟨hn2, hq1, hr1, hfd⟩ (by dsimp only; omega) (fun _ _ h => h)
 ·have hn2 : n = cs.length := by have := Dy h; omega
  subst hn2
  rw [List.drop_length] at hf
  have hf2 : run1 = cs.foldl (dT E.ms E.ls (gw E.ms E.ls k) e.l.Ignore p) run := hf
  repeat' (first|refine aL ?_|refine ar ?_|refine av ?_|refine au ?_)
  refine Ay ?_
  exact c8 rfl ⟨q1, by rw [← hf2]; exact hq1, by rw [← hf2]; rfl⟩
set_option maxHeartbeats 4000000 in
theorem AG {deep k : Nat} (hd : deep < 4) (hca : rp E wb (deep + 1) k) (e : lY) (hk : e.l.Kind = 4) (r : aT) (hro : mi r) (ps : List Nat) (q : Option ei) (run : List aF) (hps : oQ run ps) (hq : cR q run) (hr : run.length ≤ 1000000) :
  AC Tryz.prog 103 (gG wb e r ps deep) (g7 wb E q run) (eL wb E (gw E.ms E.ls (k + 1) e.l r ps run)) := by
 obtain ⟨p, ps', rfl⟩ := List.exists_cons_of_ne_nil hps.some_
 have hpl := hps.lt p (by simp)
 have hch := w4 wb hd hca e r.Calls hro.calls hro.at_ p (by omega) q run hq hr
 have hdv : gw E.ms E.ls (k + 1) e.l r (p :: ps') run = r.Calls.foldl (dT E.ms E.ls (gw E.ms E.ls k) e.l.Ignore p) run := by
  rw [gw]
  exact if_pos hk
 rw [hdv]
 obtain ⟨⟨kd, ig, rs⟩, cls, fo, ba, fe, be⟩ := e
 dsimp only at hk
 subst hk
 have hp0 : (cD (p :: ps'))[(0 : Int).toNat]? = some [az p] := rfl
 refine aB Tryz.func103 rfl Tryz.ntmps103 rfl fun B => ?_
 repeat' (first|refine a8 ?_|refine a0 ?_|refine aj ?_|refine a5 ?_|refine a6 ?_|refine a7 a4 rfl rfl ?_|(apply aE; first|refine aD a4 ?_|refine aA a4 ?_)|refine br rfl ?_|refine bB rfl ?_)
 refine aq rfl (fun h => ?_) (fun h => ?_)
 ·clear h
  repeat' (first|refine a0 ?_|refine a7 a4 rfl rfl ?_)
  refine aN (g7 wb E q run) [] hch rfl rfl (by rw [List.append_nil]) rfl fun c L1 ⟨q', h1, h2⟩ => ?_
  subst h2
  repeat' (first|refine aH ?_|refine a6 ?_)
  exact c8 rfl ⟨q', h1, by rw [List.append_nil]⟩
 ·have := Dy h
  omega
set_option maxHeartbeats 4000000 in
theorem yi (e : lY) (hk : e.l.Kind = 4) (r : aT) (ps : List Nat) (q : Option ei) (run : List aF) (hps : oQ run ps) (hq : cR q run) :
  AC Tryz.prog 103 (gG wb e r ps 4) (g7 wb E q run) (eL wb E (gw E.ms E.ls 0 e.l r ps run)) := by
 obtain ⟨p, ps', rfl⟩ := List.exists_cons_of_ne_nil hps.some_
 have hdv : gw E.ms E.ls 0 e.l r (p :: ps') run = run := by
  rw [gw]
  dsimp only
  unfold eJ
  rw [hk]
  rfl
 rw [hdv]
 obtain ⟨⟨kd, ig, rs⟩, cls, fo, ba, fe, be⟩ := e
 dsimp only at hk
 subst hk
 have hp0 : (cD (p :: ps'))[(0 : Int).toNat]? = some [az p] := rfl
 refine aB Tryz.func103 rfl Tryz.ntmps103 rfl fun B => ?_
 repeat' (first|refine a8 ?_|refine a0 ?_|refine aj ?_|refine ah ?_|refine a5 ?_|refine aH ?_|refine a6 ?_|refine a7 a4 rfl rfl ?_|(apply aE; first|refine aD a4 ?_|refine aA a4 ?_)|refine br rfl ?_|refine bB rfl ?_)
 exact c8 rfl ⟨q, hq, rfl⟩
theorem qu (deep k : Nat) (e : lY) (h1 : 1 ≤ e.l.Kind) (h6 : e.l.Kind ≤ 6) (h4 : e.l.Kind ≠ 4) (r : aT) (hro : mi r) (ps : List Nat) (q : Option ei) (run : List aF) (hps : oQ run ps) (hq : cR q run) (hr : run.length ≤ 1000000) :
  AC Tryz.prog 103 (gG wb e r ps deep) (g7 wb E q run) (eL wb E (gw E.ms E.ls k e.l r ps run)) := by
 obtain ⟨p, ps', rfl⟩ := List.exists_cons_of_ne_nil hps.some_
 obtain ⟨m, rfl⟩ := hq.lt (hps.lt p (by simp))
 have hdv : gw E.ms E.ls k e.l r (p :: ps') run = eJ e.l r (p :: ps') run := by
  cases k with
  | zero => rw [gw]
  | succ k => rw [gw]; exact if_neg h4
 rw [hdv]
 have hc : e.l.Kind = 1 ∨ e.l.Kind = 2 ∨ e.l.Kind = 3 ∨ e.l.Kind = 5 ∨ e.l.Kind = 6 := by omega
 rcases hc with hk | hk | hk | hk | hk
 ·exact D1 hq hr hro hps deep hk
 ·exact D2 hq hr hro hps deep hk
 ·exact D3 hq hr hro hps deep hk
 ·exact D4 hq hr hro hps deep hk
 ·exact D5 hq hr hro hps deep hk
include hE in
theorem wh : ∀ (k deep : Nat), deep + k = 4 → Bm E wb deep k
 | 0, deep, hd => by
  intro e r ps q run _ h1 h6 hro hps hq hr
  have kY : deep = 4 := by omega
  subst kY
  by_cases h4 : e.l.Kind = 4
  ·exact yi wb e h4 r ps q run hps hq
  ·exact qu wb 4 0 e h1 h6 h4 r hro ps q run hps hq hr
 | k + 1, deep, hd => by
  intro e r ps q run _ h1 h6 hro hps hq hr
  by_cases h4 : e.l.Kind = 4
  ·exact AG wb (by omega) (y9 hE wb (by omega) (wh k (deep + 1) (by omega))) e h4 r hro ps q run hps hq hr
  ·exact qu wb deep (k + 1) e h1 h6 h4 r hro ps q run hps hq hr
end
end Go.Proofs.YtpmdfoaadejmkaaGreatDoor
