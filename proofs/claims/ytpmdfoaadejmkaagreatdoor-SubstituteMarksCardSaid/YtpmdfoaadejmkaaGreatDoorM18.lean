/-
  What an engine's rules do with a run: many become one.
-/
import Derived.Test.YtpmdfoaadejmkaaGreatDoorM17
import Derived.Test.YtpmdfoaadejmkaaGreatDoorM05
import Derived.Test.YtpmdfoaadejmkaaGreatDoorM14
namespace Go.Proofs.YtpmdfoaadejmkaaGreatDoor
open Go.RowKit
attribute [local irreducible] AT bh AX AO Av Kt b6 di DA cC
theorem rW {run : List aG} {i : Nat} (hi : i < run.length) : bq (run.eraseIdx i) = bq (run.take i) ++ bq (run.drop (i + 1)) := by
 rw [List.eraseIdx_eq_take_drop_succ, fp]
set_option maxHeartbeats 2000000 in
theorem uo (b cap : Nat) (run : List aG) (junk : List AV) (i : Nat) (hi : i < run.length) (hc : run.length ≤ cap) (hm : cap ≤ maxLen) (hf : cap * 6 ≤ (bq run ++ junk).length) (hr : run.length ≤ 1000000) : AC Tryz.prog 260 [.sc (.slice (some ⟨b, 0, none⟩) run.length cap), aA i, aA ((i : Int) + 1)] [(b, .box (bq run ++ junk) 67)] fun c L =>
  c = .sc (.slice (some ⟨b, 0, none⟩) (run.eraseIdx i).length cap) ∧ ∃ junk', cap * 6 ≤ (bq (run.eraseIdx i) ++ junk').length ∧ L = [(b, .box (bq (run.eraseIdx i) ++ junk') 67)] := by
 refine aC Tryz.func260 rfl Tryz.ntmps260 rfl fun B => ?_
 have hfl := cy run
 have hel := List.length_eraseIdx_of_lt hi
 unfold maxLen at hm
 have hsrc : ∀ fr y B, aX fr y = some (.sc (.slice (some ⟨b, if cap = i + 1 then 0 else (i + 1) * 6, none⟩) (run.length - (i + 1)) (cap - (i + 1)))) → rr fr B [(b, .box (bq run ++ junk) 67)] y 6 (run.length - (i + 1)) (bq (run.drop (i + 1))) := by
  intro fr y B hy
  by_cases hz : run.length - (i + 1) = 0
  ·rw [hz] at hy ⊢
   rw [List.drop_eq_nil_of_le (by omega)]
   exact oH hy
  ·have hs := r8 (B := B) (sz := 6) (L := [(b, .box (bq run ++ junk) 67)]) 0 hy rfl (by split <;> omega)
   rw [if_neg (by omega), od run junk hi] at hs
   exact hs
 repeat' (first|refine a9 ?_|refine a4 ?_|refine a6 ?_|refine a7 ?_|refine a8 a5 rfl rfl ?_)
 refine B2 a5 i (i + 1) run.length rfl rfl rfl rfl rfl (by omega) rfl rfl (by omega) hi hc rfl ?_
 repeat' (first|refine a9 ?_|refine a4 ?_|refine a6 ?_|refine a7 ?_|refine a8 a5 rfl rfl ?_)
 refine ar rfl (fun h => ?_) (fun _ => ?_)
 ·have := Dz h
  omega
 repeat' (first|refine a9 ?_|refine a4 ?_|refine ai ?_|refine a6 ?_|refine a7 ?_|refine a8 a5 rfl rfl ?_)
 refine bk 6 [(0, .v), (1, .v), (2, .v), (3, .v), (4, .v), (5, .v)] none ?_ trivial rfl (by kernel_rfl) (by kernel_rfl) (by kernel_rfl) c9 (by kernel_rfl) rfl
 repeat' (first|refine aD ?_|refine bi a5 ?_|fail)
 refine yl a5 i rfl rfl rfl rfl (by omega) trivial ?_
 repeat' (first|refine aD ?_|refine bi a5 ?_|fail)
 refine t8 a5 (i + 1) rfl rfl rfl (by omega) hi hc trivial ?_
 repeat' (first|fail)
 refine bz [7, 22, 25] rfl rfl ?_
 repeat' (first|fail)
 refine j4 a5 0 rfl rfl rfl rfl (hsrc _ _ _ rfl) rfl hf (by omega) (by unfold maxLen; omega) (by unfold maxLen; omega) (by omega) rfl fun b' cs' cap' e1 e2 e3 e4 e5 => ?_
 obtain ⟨e6, e7, e8⟩ := e5 (by omega)
 subst e6; subst e7
 repeat' (first|refine a9 ?_|refine a4 ?_|refine a6 ?_|refine a7 ?_|refine a8 a5 rfl rfl ?_)
 have hn1 : i + (run.length - (i + 1)) = (run.eraseIdx i).length := by omega
 rw [hn1] at e2 ⊢
 refine B0 a5 (run.eraseIdx i).length run.length rfl rfl rfl rfl rfl rfl (by omega) hc rfl ?_
 repeat' (first|fail)
 have hcl : cap' * 6 ≤ cs'.length := e1
 have hce : cs'.take ((run.eraseIdx i).length * 6) = bq (run.eraseIdx i) := by
  rw [e2, kZ run junk (by omega), rW hi]
 refine x3 a5 0 (m := (run.eraseIdx i).length) rfl rfl rfl rfl (.inl rfl) rfl ?_ fun cs2 g1 g2 => ?_
 ·have h1 : (run.eraseIdx i).length * 6 + (run.length - (run.eraseIdx i).length) * 6 = run.length * 6 := by omega
  rw [h1]
  omega
 repeat' (first|refine a9 ?_|refine a4 ?_|refine ah ?_|refine a6 ?_|refine a7 ?_|refine a8 a5 rfl rfl ?_)
 refine an rfl rfl ⟨rfl, cs2.drop ((run.eraseIdx i).length * 6), ?_⟩
 have hj : bq (run.eraseIdx i) ++ cs2.drop ((run.eraseIdx i).length * 6) = cs2 := by
  rw [← hce, ← g2, List.take_append_drop]
 rw [hj]
 exact ⟨by omega, rfl⟩
structure D5 (run : List aG) : Prop where
 len : run.length ≤ 500
 mono : run.Pairwise fun a b => a.Cluster ≤ b.Cluster
theorem iW : ∀ {q : List Nat} {run : List aG}, (dN q run).Sublist run
 | [], _ => List.Sublist.refl _
 | p :: q, run => by rw [dN]; exact (List.eraseIdx_sublist ..).trans iW
theorem qx {R : List aG} : ∀ {l : List Nat} {j : Nat}, l.Pairwise (· < ·) → (∀ z ∈ l, j < z ∧ z < R.length) → j < R.length → j < (dN l R).length
  | [], _, _, _, hj => hj
  | z :: l, j, hs, hl, hj => by
    obtain ⟨h1, h2⟩ := List.pairwise_cons.1 hs
    have hz := hl z (by simp)
    have := qx (j := z) h2 (fun y hy => ⟨h1 y hy, (hl y (by simp [hy])).2⟩) hz.2
    rw [dN, List.length_eraseIdx_of_lt this]
    omega
theorem ot : ∀ {l : List Nat} {run : List aG} {c : Int}, f7 run l c ≤ c
 | [], _, _ => Int.le_refl _
 | p :: l, run, c => by
  have := ot (l := l) (run := run) (c := la run c p)
  have h2 : la run c p ≤ c := by unfold la; split <;> omega
  unfold f7 at this ⊢
  rw [List.foldl_cons]
  omega
theorem mo {wb : Nat} {E : ma} {m : eo} {run : List aG} {p : Nat} {y : aG} : eQ (gb wb E (some m) run) 1 (.box (bq (run.set p y) ++ m.junk) 67) = gb wb E (some m) (run.set p y) := by
 show [(wb, AB.box [.iptr (da E), .sc (.slice (some ⟨m.rb, 0, none⟩) run.length m.cap)] 102), (m.rb, .box (bq (run.set p y) ++ m.junk) 67), cr] = [(wb, AB.box [.iptr (da E), .sc (.slice (some ⟨m.rb, 0, none⟩) (run.set p y).length m.cap)] 102), (m.rb, .box (bq (run.set p y) ++ m.junk) 67), cr]
 rw [List.length_set]
theorem t2 {B : Bs} {σ : bK} {w : World} {wb : Nat} {E : ma} {m : eo} {run : List aG} {p : Nat} {y : aG} (h : cm B σ (eQ (gb wb E (some m) run) 1 (.box (bq (run.set p y) ++ m.junk) 67)) w) : cm B σ (gb wb E (some m) (run.set p y)) w := mo ▸ h
theorem cT.set {m : eo} {run : List aG} (h : cT (some m) run) (p : Nat) (y : aG) : cT (some m) (run.set p y) := ⟨fun e => (by cases e), fun m' e => by
 cases e
 obtain ⟨h1, h2, h3⟩ := h.fit m rfl
 rw [List.length_append, cy] at h3 ⊢
 rw [List.length_set]
 exact ⟨h1, h2, h3⟩⟩
theorem CH {a b c : Nat × AB} : [a, b, c].Perm ([b] ++ [a, c]) := List.Perm.swap ..
set_option maxHeartbeats 4000000 in
theorem yU (E : ma) (wb : Nat) (m : eo) (run : List aG) (hq : cT (some m) run) (hr : run.length ≤ 1000000) (p : Nat) (q : List Nat) (hp : ∀ j ∈ p :: q, j < run.length) (hs : (p :: q).Pairwise (· < ·)) (x : aG) (hx : run[p]? = some x) (r : aV) (g : Int) (gs : List Int) (hg : r.Out = g :: gs) : AC Tryz.prog 192 [ek wb, .imm 1 (cF (p :: q)), aA g] (gb wb E (some m) run) fun _ L => ∃ q', cT q' (ke r (p :: q) run) ∧ L = gb wb E q' (ke r (p :: q) run) := by
  refine aC Tryz.func192 rfl Tryz.ntmps192 rfl fun B => ?_
  refine ci 1 rfl rfl fun hlen => ?_
  have hil := (Dp hx).1
  have hnl := j5 (p :: q)
  rw [hnl] at hlen
  have hql : q.length + 1 ≤ 9223372036854775807 := hlen
  obtain ⟨h1, h2, h3⟩ := hq.fit m rfl
  have hfl := cy run
  have hlv : ke r (p :: q) run = dN q (run.set p { x with Glyph := g, Cluster := f7 run (p :: q) x.Cluster }) := by
    unfold ke
    rw [hg]
    dsimp only
    rw [hx]
  rw [hlv]
  have hflj : ∀ y : aG, (bq (run.set p y) ++ m.junk).length = (bq run ++ m.junk).length := fun y => by rw [List.length_append, cy, List.length_set, List.length_append, hfl]
  have hp0 : (cF (p :: q))[(0 : Int).toNat]? = some [aA p] := rfl
  have hst := ix (j := 0) { x with Glyph := g } (aA g) m.junk hx (by omega) rfl
  repeat' (first|refine a9 ?_)
  refine bk 7 [(0, .v), (1, .v), (2, .v), (3, .l), (4, .v), (5, .v), (6, .v)] none ?_ trivial rfl (by kernel_rfl) (by kernel_rfl) (by kernel_rfl) c9 (by kernel_rfl) rfl
  repeat' (first|refine aD ?_|refine bi a5 ?_|(apply cD;refine d3 a5 ?_)|refine bX a5 0 rfl rfl rfl rfl (by first|trivial|rfl) ?_)
  refine bz [0, 1, 2, 13, 16] rfl rfl ?_
  repeat' (first|refine a9 ?_|refine a4 ?_|refine a6 ?_|refine a7 ?_|refine a8 a5 rfl rfl ?_|(apply aF; first|refine aE a5 ?_|refine aB a5 ?_)|fail)
  refine ad a5 1 rfl rfl rfl rfl rfl rfl (Nat.ble_eq_true_of_le (by rw [Int.toNat_natCast]; simp; omega)) ?_
  rw [hst]
  repeat' (first|refine a9 ?_|refine a4 ?_|refine ak ?_|refine a6 ?_|refine a7 ?_|refine a8 a5 rfl rfl ?_)
  refine aL [0, 1, 6, 22, 23] (α := Nat) (fun k => [(24, aA k)]) (fun k => k ≤ (p :: q).length) (fun k => gb wb E (some m) (run.set p { x with Glyph := g, Cluster := f7 run ((p :: q).take k) x.Cluster })) (fun k => (p :: q).length - k) 0 rfl ⟨rfl, trivial⟩ (Nat.zero_le _) (fun _ _ h => t2 h) fun k hk => ?_
  · try dsimp only [Ds, Dr, Dq, Dn]
    repeat' (first|refine a9 ?_|refine a4 ?_|refine a6 ?_|refine a7 ?_|refine a8 a5 rfl rfl ?_)
    refine ar rfl (fun h => ?_) (fun h => ?_)
    · have hk2 : k < (p :: q).length := by have := Dz h; omega
      obtain ⟨j, hj⟩ : ∃ z, (p :: q)[k]? = some z := ⟨_, Bn hk2⟩
      have hjg : (cF (p :: q))[k]? = some [aA j] := by unfold cF; exact bJ (by rw [List.getElem?_map, hj]; rfl)
      have hjl := hp j (Dw hj)
      obtain ⟨y, hy⟩ : ∃ z, run[j]? = some z := ⟨_, Bn hjl⟩
      have htk : (p :: q).take (k + 1) = (p :: q).take k ++ [j] := by rw [List.take_add_one, hj]; rfl
      have hle := ot (l := (p :: q).take k) (run := run) (c := x.Cluster)
      have hnew : f7 run ((p :: q).take (k + 1)) x.Cluster = min (f7 run ((p :: q).take k) x.Cluster) y.Cluster := by
        unfold f7
        rw [htk, List.foldl_append]
        show la run _ j = _
        unfold la
        rw [hy]
      generalize f7 run ((p :: q).take k) x.Cluster = c at *
      have hxp : (run.set p { x with Glyph := g, Cluster := c })[p]? = some { x with Glyph := g, Cluster := c } := List.getElem?_set_self hil
      obtain ⟨y2, hy2, hyc⟩ : ∃ y2, (run.set p { x with Glyph := g, Cluster := c })[j]? = some y2 ∧ min c y2.Cluster = min c y.Cluster := by
        by_cases hjp : j = p
        · subst hjp
          rw [hx] at hy
          cases hy
          exact ⟨_, hxp, by dsimp only; omega⟩
        · exact ⟨y, by rw [List.getElem?_set_ne (fun e => hjp e.symm)]; exact hy, rfl⟩
      have hf1 := lH (j := 1) m.junk hxp rfl
      have hf2 := lH (j := 1) m.junk hy2 rfl
      have hst2 := ix (j := 1) { x with Glyph := g, Cluster := min c y2.Cluster } (aA (min c y2.Cluster)) m.junk hxp (by omega) rfl
      have hsl : (run.set p { x with Glyph := g, Cluster := c }).length = run.length := List.length_set ..
      have hfl2 := hflj { x with Glyph := g, Cluster := c }
      clear h
      repeat' (first|refine a9 ?_|refine a4 ?_|refine ak ?_|refine ai ?_|refine a6 ?_|refine a7 ?_|refine a8 a5 rfl rfl ?_|(apply aF; first|refine aE a5 ?_|refine aB a5 ?_)|fail)
      refine bk 14 [(0, .v), (1, .v), (2, .v), (3, .v), (4, .l), (5, .v), (6, .v), (7, .v), (8, .l), (9, .v), (10, .v), (11, .v), (12, .l), (13, .v)] none ?_ trivial rfl (by kernel_rfl) (by kernel_rfl) (by kernel_rfl) c9 (by kernel_rfl) rfl
      repeat' (first|refine aD ?_|refine bi a5 ?_|fail)
      refine bX a5 1 rfl rfl rfl hf1 trivial ?_
      repeat' (first|refine aD ?_|refine bi a5 ?_|refine bX a5 0 rfl rfl rfl rfl (by first|trivial|rfl) ?_)
      refine cK a5 rfl rfl rfl ⟨by omega, by omega⟩ trivial ?_
      repeat' (first|refine aD ?_|refine bi a5 ?_|fail)
      refine bX a5 1 rfl rfl rfl hf2 trivial ?_
      repeat' (first|refine aD ?_|refine bi a5 ?_|fail)
      refine bz [0, 1, 6, 22, 23, 24, 28, 41] rfl rfl ?_
      repeat' (first|refine a8 a5 rfl rfl ?_)
      refine ad a5 1 rfl rfl rfl rfl rfl rfl (Nat.ble_eq_true_of_le (by rw [Int.toNat_natCast]; simp only [hfl2]; simp; omega)) ?_
      rw [hst2]
      repeat' (first|refine a4 ?_|refine a6 ?_|refine aH ?_|refine a7 ?_|refine a8 a5 rfl rfl ?_|(apply aU; refine aS ?_)|fail)
      refine az (k + 1) rfl ⟨by rw [Dv]; rfl, trivial⟩ (by omega) (by omega) (fun _ _ h => ?_)
      have h4 := t2 h
      rw [List.set_set] at h4
      rw [hnew, ← hyc]
      exact h4
    · have hke : k = (p :: q).length := by have := Dy h; omega
      subst hke
      rw [List.take_length]
      clear h
      have hR : (run.set p { x with Glyph := g, Cluster := f7 run (p :: q) x.Cluster }).length = run.length := List.length_set ..
      have hqR := hq.set p { x with Glyph := g, Cluster := f7 run (p :: q) x.Cluster }
      generalize run.set p { x with Glyph := g, Cluster := f7 run (p :: q) x.Cluster } = R at *
      obtain ⟨g1, g2, g3⟩ := hqR.fit m rfl
      repeat' (first|refine a9 ?_|refine a4 ?_|refine ak ?_|refine aM ?_|refine a6 ?_|refine au ?_|refine aw ?_|refine av ?_|refine a7 ?_|refine a8 a5 rfl rfl ?_|(apply aU; refine aS ?_)|fail)
      refine aL [0, 1] (α := Nat × List AV) (fun s => [(9, aA s.1)]) (fun s => s.1 ≤ q.length ∧ m.cap * 6 ≤ (bq (dN (q.drop s.1) R) ++ s.2).length) (fun s => gb wb E (some ⟨m.rb, m.cap, s.2⟩) (dN (q.drop s.1) R)) (fun s => s.1) (q.length, m.junk) rfl ⟨by rw [hnl]; simp; rfl, trivial⟩ ⟨Nat.le_refl _, by rw [List.drop_length]; exact g3⟩ (fun _ _ h => by rw [List.drop_length]; exact h) ?_
      rintro ⟨n, junk⟩ ⟨hn, hj⟩
      dsimp only at hn hj ⊢
      try dsimp only [Ds, Dr, Dq, Dn]
      repeat' (first|refine a9 ?_|refine a4 ?_|refine a6 ?_|refine a7 ?_|refine a8 a5 rfl rfl ?_)
      refine ar rfl (fun h => ?_) (fun h => ?_)
      · have hn0 : 0 < n := by have := Dz h; omega
        obtain ⟨k, rfl⟩ : ∃ k, n = k + 1 := ⟨n - 1, by omega⟩
        obtain ⟨z, hz⟩ : ∃ z, q[k]? = some z := ⟨_, Bn (by omega)⟩
        have hzg : (cF (p :: q))[((k + 1 : Nat) : Int).toNat]? = some [aA z] := by rw [Int.toNat_natCast]; unfold cF; exact bJ (by rw [Dq, List.getElem?_cons_succ, List.getElem?_map, hz]; rfl)
        have hqd : q.drop k = z :: q.drop (k + 1) := by rw [List.drop_eq_getElem_cons (by omega), (Dp hz).2]
        have hqp := (List.pairwise_cons.1 hs).2
        have hdp : (z :: q.drop (k + 1)).Pairwise (· < ·) := by rw [← hqd]; exact hqp.sublist (List.drop_sublist ..)
        obtain ⟨d1, d2⟩ := List.pairwise_cons.1 hdp
        have hqm : ∀ y ∈ q, y < R.length := fun y hy => by rw [hR]; exact hp y (by simp [hy])
        have hzl := qx (R := R) d2 (fun y hy => ⟨d1 y hy, hqm y (List.mem_of_mem_drop hy)⟩) (hqm z (Dw hz))
        have hdl : (dN (q.drop (k + 1)) R).length ≤ R.length := iW.length_le
        have hdel := uo m.rb m.cap (dN (q.drop (k + 1)) R) junk z hzl (by omega) h2 hj (by omega)
        have her : (dN (q.drop (k + 1)) R).eraseIdx z = dN (q.drop k) R := by rw [hqd]; rfl
        rw [her] at hdel
        clear h
        repeat' (first|refine a9 ?_|refine ak ?_|refine ai ?_|refine a6 ?_)
        refine bk 15 [(0, .v), (1, .v), (2, .v), (3, .v), (4, .l), (5, .v), (6, .v), (7, .v), (8, .v), (9, .v), (10, .v), (11, .v), (12, .v), (13, .v), (14, .e)] none ?_ trivial rfl (by kernel_rfl) (by kernel_rfl) (by kernel_rfl) c9 (by kernel_rfl) rfl
        repeat' (first|refine aD ?_|refine bi a5 ?_|(apply ir;refine lE ?_)|(apply cD;refine d3 a5 ?_)|refine bX a5 0 rfl rfl rfl rfl (by first|trivial|rfl) ?_)
        refine iU [(m.rb, .box (bq (dN (q.drop (k + 1)) R) ++ junk) 67)] [(wb, .box [.iptr (da E), dv (some ⟨m.rb, m.cap, junk⟩) (dN (q.drop (k + 1)) R)] 102), cr] hdel rfl rfl CH trivial fun c L1 ⟨hc, junk', hj', hL⟩ => ?_
        subst hc; subst hL
        repeat' (first|fail)
        refine bz [0, 1, 9, 52, 66] rfl rfl ?_
        refine aR (aY Bb) ?_
        repeat' (first|refine a4 ?_|refine a6 ?_|refine aH ?_|refine a7 ?_|refine a8 a5 rfl rfl ?_|(apply aU; refine aS ?_)|(apply aP; first|refine ad a5 0 rfl rfl rfl rfl rfl rfl rfl ?_|refine ad a5 1 rfl rfl rfl rfl rfl rfl rfl ?_|refine ad a5 2 rfl rfl rfl rfl rfl rfl rfl ?_|refine ad a5 3 rfl rfl rfl rfl rfl rfl rfl ?_|fail))
        refine az (k, junk') rfl ⟨?_, trivial⟩ ⟨by omega, hj'⟩ (by dsimp only; omega) (fun _ _ h => h)
        show some (aA (((k + 1 : Nat) : Int) - 1)) = some (aA (k : Int))
        rw [show ((k + 1 : Nat) : Int) - 1 = (k : Int) by omega]
      · have hn0 : n = 0 := by have := Dy h; omega
        subst hn0
        rw [List.drop_zero] at hj ⊢
        clear h
        repeat' (first|refine aM ?_|refine au ?_|refine aw ?_|refine av ?_)
        have hdl := (iW (q := q) (run := R)).length_le
        have hok : cT (some ⟨m.rb, m.cap, junk⟩) (dN q R) := ⟨fun e => (by cases e), fun m' e => by
          cases e
          exact ⟨by dsimp only; omega, h2, hj⟩⟩
        exact c8 rfl ⟨some ⟨m.rb, m.cap, junk⟩, hok, rfl⟩
section
variable {P : Program} {tt : TT} {l : List Oper} {fr : bw} {fin : jn} {sk : lm} {acc : bw} {L : AL} {k : Nat} {dd : Option Tmp} {ty t t' : TypeId} {pos : String} {af : Array Edge} {g : Option (Nat × Bool)} {x y : Operand} {u : AV}
theorem AH {q : IntKind} {a b : Int} (hx : aX (cl l.toArray acc fr af.toList) x = some (.sc (.int q a))) (hy : aX (cl l.toArray acc fr af.toList) y = some (.sc (.int q b))) (hg : iQ ⟨dd, .binOp .add t x y t', ty, pos, af, g⟩ acc) (h : DA P l fr fin sk ((k, .sc (.int q (q.wrap (a + b)))) :: acc) L) : cC P l fr fin k .v ⟨dd, .binOp .add t x y t', ty, pos, af, g⟩ sk acc L := eR hg (z1 (zK hx hy)) h
end
structure oS (run : List aG) (ps : List Nat) : Prop where
  some_ : ps ≠ []
  lt : ∀ j ∈ ps, j < run.length
  inc : ps.Pairwise (· < ·)
structure mr (r : aV) : Prop where
 some_ : r.In ≠ []
 out : r.Out.length ≤ 1000000
 calls : r.Calls.length ≤ 1000000
 at_ : ∀ c ∈ r.Calls, 0 ≤ c.At ∧ c.At ≤ 1000000
abbrev gK (wb : Nat) (e : m9) (r : aV) (ps : List Nat) (deep : Nat) : List AV := [ek wb, .iptr (dO e), .iptr (bI (dw r)), .imm 1 (cF ps), aA deep]
def eP (wb : Nat) (E : ma) (run' : List aG) : AV → AL → Prop := fun _ L => ∃ q', cT q' run' ∧ L = gb wb E q' run'
section
variable {E : ma} {wb : Nat} {m : eo} {run : List aG} (hq : cT (some m) run) (hr : run.length ≤ 1000000) {e : m9} {r : aV} (hro : mr r) {ps : List Nat} (hps : oS run ps) (deep : Nat)
include hq hr hro hps
set_option maxHeartbeats 4000000 in
theorem D9 (hk : e.l.Kind = 2) : AC Tryz.prog 103 (gK wb e r ps deep) (gb wb E (some m) run) (eP wb E (eN e.l r ps run)) := by
 obtain ⟨⟨kd, ig, rs⟩, cls, fo, ba, fe, be⟩ := e
 dsimp only at hk
 subst hk
 obtain ⟨p, q, rfl⟩ := List.exists_cons_of_ne_nil hps.some_
 have hpl := hps.lt p (by simp)
 obtain ⟨x, hx⟩ : ∃ x, run[p]? = some x := ⟨_, Bn hpl⟩
 have hp0 : (cF (p :: q))[(0 : Int).toNat]? = some [aA p] := rfl
 have hm := wY E wb m run hq hr p x hx r hro.out
 refine aC Tryz.func103 rfl Tryz.ntmps103 rfl fun B => ?_
 repeat' (first|refine a9 ?_|refine a4 ?_|refine ak ?_|refine a6 ?_|refine a7 ?_|refine a8 a5 rfl rfl ?_|(apply aF; first|refine aE a5 ?_|refine aB a5 ?_)|refine bv rfl ?_|refine bC rfl ?_)
 refine aO (gb wb E (some m) run) [] hm rfl rfl (by rw [List.append_nil]) rfl fun c L1 ⟨q', h1, h2⟩ => ?_
 subst h2
 repeat' (first|refine aH ?_|refine a7 ?_)
 exact c8 rfl ⟨q', h1, by rw [List.append_nil]; rfl⟩
set_option maxHeartbeats 4000000 in
theorem D8 (hk : e.l.Kind = 1) : AC Tryz.prog 103 (gK wb e r ps deep) (gb wb E (some m) run) (eP wb E (eN e.l r ps run)) := by
 have _ := hr
 obtain ⟨⟨kd, ig, rs⟩, cls, fo, ba, fe, be⟩ := e
 dsimp only at hk
 subst hk
 obtain ⟨p, q, rfl⟩ := List.exists_cons_of_ne_nil hps.some_
 have hpl := hps.lt p (by simp)
 obtain ⟨x, hx⟩ : ∃ x, run[p]? = some x := ⟨_, Bn hpl⟩
 have hp0 : (cF (p :: q))[(0 : Int).toNat]? = some [aA p] := rfl
 obtain ⟨i0, is, hin⟩ := List.exists_cons_of_ne_nil hro.some_
 have hin0 : (b8 (dw r).In)[(0 : Int).toNat]? = some [.imm 1 (aT i0)] := by
  show (b8 r.In)[0]? = _
  rw [hin]
  rfl
 have hsv : eN ⟨1, ig, rs⟩ r (p :: q) run = eC r p run := rfl
 rw [hsv]
 have hsg : eC r p run = match r.Out[i0.idxOf x.Glyph]? with
   | none => run
   | some g => if i0.idxOf x.Glyph < i0.length then run.set p { x with Glyph := g } else run := by
  unfold eC
  rw [hx, hin]
  rfl
 have hol := aW r.Out
 have h0 := lH (j := 0) m.junk hx rfl
 obtain ⟨g1, g2, g3⟩ := hq.fit m rfl
 have hfl := cy run
 refine aC Tryz.func103 rfl Tryz.ntmps103 rfl fun B => ?_
 repeat' (first|refine a9 ?_|refine a4 ?_|refine ak ?_|refine ai ?_|refine a6 ?_|refine a7 ?_|refine a8 a5 rfl rfl ?_|(apply aF; first|refine aE a5 ?_|refine aB a5 ?_)|refine bv rfl ?_)
 refine bk 15 [(0, .v), (1, .v), (2, .v), (3, .v), (4, .v), (5, .v), (6, .v), (7, .v), (8, .v), (9, .l), (10, .v), (11, .v), (12, .v), (13, .l), (14, .v)] none ?_ trivial rfl (by kernel_rfl) (by kernel_rfl) (by kernel_rfl) c9 (by kernel_rfl) rfl
 repeat' (first|refine aD ?_|refine bi a5 ?_|(apply cD;refine d3 a5 ?_)|refine bX a5 0 rfl rfl rfl rfl (by first|trivial|rfl) ?_)
 refine cK a5 rfl rfl rfl ⟨by omega, by omega⟩ trivial ?_
 repeat' (first|refine aD ?_|refine bi a5 ?_|fail)
 refine bX a5 1 rfl rfl rfl h0 trivial ?_
 repeat' (first|refine aD ?_|(apply cL;refine df ?_)|fail)
 refine bz [0, 2, 10, 37] rfl rfl ?_
 repeat' (first|refine a9 ?_|refine a4 ?_|refine a6 ?_|refine a7 ?_|refine a8 a5 rfl rfl ?_)
 have hst : (dw r).Out = r.Out := rfl
 generalize hn : (if x.Glyph ∈ i0 then ((i0.idxOf x.Glyph : Nat) : Int) else -1) = n
 refine bH [0, 2, 10, 11] (0 ≤ n ∧ n < r.Out.length) rfl (fun Q' K => ?_) (fun hC => ?_) (fun hC => ?_)
 ·repeat' (first|refine a7 ?_|refine a8 a5 rfl rfl ?_|refine am rfl rfl ?_|refine ax rfl rfl rfl rfl ?_|refine aI rfl rfl rfl (fun _ => ?_) (fun _ => ?_))
  all_goals exact K _ _ rfl rfl (by rw [hst, hol] at *; simp_all <;> omega)
 ·have hm : x.Glyph ∈ i0 := Classical.byContradiction fun hm => by rw [if_neg hm] at hn; omega
  rw [if_pos hm] at hn
  subst hn
  have hlt : i0.idxOf x.Glyph < r.Out.length := by omega
  obtain ⟨g, hg⟩ : ∃ g, r.Out[i0.idxOf x.Glyph]? = some g := ⟨_, Bn hlt⟩
  have hgg : (aT (dw r).Out)[((i0.idxOf x.Glyph : Nat) : Int).toNat]? = some [aA g] := by rw [Int.toNat_natCast]; exact bJ hg
  rw [hg] at hsg
  dsimp only at hsg
  rw [if_pos (List.idxOf_lt_length_of_mem hm)] at hsg
  rw [hsg]
  have hst := ix (j := 0) { x with Glyph := g } (aA g) m.junk hx (by omega) rfl
  repeat' (first|fail)
  refine bk 12 [(0, .v), (1, .v), (2, .v), (3, .l), (4, .v), (5, .v), (6, .v), (7, .v), (8, .v), (9, .v), (10, .v), (11, .v)] none ?_ trivial rfl (by kernel_rfl) (by kernel_rfl) (by kernel_rfl) c9 (by kernel_rfl) rfl
  repeat' (first|refine aD ?_|refine bi a5 ?_|(apply cD;refine d3 a5 ?_)|refine bX a5 0 rfl rfl rfl rfl (by first|trivial|rfl) ?_)
  refine bz [52, 53, 60] rfl rfl ?_
  repeat' (first|refine a8 a5 rfl rfl ?_|(apply aF; first|refine aE a5 ?_|refine aB a5 ?_)|fail)
  refine ad a5 1 rfl rfl rfl rfl rfl rfl (Nat.ble_eq_true_of_le (by rw [Int.toNat_natCast]; simp; omega)) ?_
  rw [hst]
  repeat' (first|refine aH ?_|refine a7 ?_)
  exact c8 rfl ⟨some m, hq.set p _, mo⟩
 ·have hsg2 : eC r p run = run := by
   rw [hsg]
   split
   ·rfl
   ·rename_i g hg
    rw [if_neg]
    intro h
    rw [if_pos (List.idxOf_lt_length_iff.1 h)] at hn
    have := (Dp hg).1
    omega
  rw [hsg2]
  repeat' (first|refine ai ?_|refine aH ?_)
  exact c8 rfl ⟨some m, hq, rfl⟩
set_option maxHeartbeats 4000000 in
theorem Db (hk : e.l.Kind = 5) : AC Tryz.prog 103 (gK wb e r ps deep) (gb wb E (some m) run) (eP wb E (eN e.l r ps run)) := by
 have _ := hr
 obtain ⟨⟨kd, ig, rs⟩, cls, fo, ba, fe, be⟩ := e
 dsimp only at hk
 subst hk
 obtain ⟨p, q, rfl⟩ := List.exists_cons_of_ne_nil hps.some_
 have hpl := hps.lt p (by simp)
 obtain ⟨x, hx⟩ : ∃ x, run[p]? = some x := ⟨_, Bn hpl⟩
 have hp0 : (cF (p :: q))[(0 : Int).toNat]? = some [aA p] := rfl
 obtain ⟨i0, is, hin⟩ := List.exists_cons_of_ne_nil hro.some_
 have hin0 : (b8 (dw r).In)[(0 : Int).toNat]? = some [.imm 1 (aT i0)] := by
  show (b8 r.In)[0]? = _
  rw [hin]
  rfl
 have hsv : eN ⟨5, ig, rs⟩ r (p :: q) run = eC r p run := rfl
 rw [hsv]
 have hsg : eC r p run = match r.Out[i0.idxOf x.Glyph]? with
   | none => run
   | some g => if i0.idxOf x.Glyph < i0.length then run.set p { x with Glyph := g } else run := by
  unfold eC
  rw [hx, hin]
  rfl
 have hol := aW r.Out
 have h0 := lH (j := 0) m.junk hx rfl
 obtain ⟨g1, g2, g3⟩ := hq.fit m rfl
 have hfl := cy run
 refine aC Tryz.func103 rfl Tryz.ntmps103 rfl fun B => ?_
 repeat' (first|refine a9 ?_|refine a4 ?_|refine ak ?_|refine a6 ?_|refine a7 ?_|refine a8 a5 rfl rfl ?_|(apply aF; first|refine aE a5 ?_|refine aB a5 ?_)|refine bv rfl ?_|refine bC rfl ?_)
 refine bk 15 [(0, .v), (1, .v), (2, .v), (3, .v), (4, .v), (5, .v), (6, .v), (7, .v), (8, .v), (9, .l), (10, .v), (11, .v), (12, .v), (13, .l), (14, .v)] none ?_ trivial rfl (by kernel_rfl) (by kernel_rfl) (by kernel_rfl) c9 (by kernel_rfl) rfl
 repeat' (first|refine aD ?_|refine bi a5 ?_|(apply cD;refine d3 a5 ?_)|refine bX a5 0 rfl rfl rfl rfl (by first|trivial|rfl) ?_)
 refine cK a5 rfl rfl rfl ⟨by omega, by omega⟩ trivial ?_
 repeat' (first|refine aD ?_|refine bi a5 ?_|fail)
 refine bX a5 1 rfl rfl rfl h0 trivial ?_
 repeat' (first|refine aD ?_|(apply cL;refine df ?_)|fail)
 refine bz [0, 2, 10, 37] rfl rfl ?_
 repeat' (first|refine a9 ?_|refine a4 ?_|refine a6 ?_|refine a7 ?_|refine a8 a5 rfl rfl ?_)
 have hst : (dw r).Out = r.Out := rfl
 generalize hn : (if x.Glyph ∈ i0 then ((i0.idxOf x.Glyph : Nat) : Int) else -1) = n
 refine bH [0, 2, 10, 11] (0 ≤ n ∧ n < r.Out.length) rfl (fun Q' K => ?_) (fun hC => ?_) (fun hC => ?_)
 ·repeat' (first|refine a7 ?_|refine a8 a5 rfl rfl ?_|refine am rfl rfl ?_|refine ax rfl rfl rfl rfl ?_|refine aI rfl rfl rfl (fun _ => ?_) (fun _ => ?_))
  all_goals exact K _ _ rfl rfl (by rw [hst, hol] at *; simp_all <;> omega)
 ·have hm : x.Glyph ∈ i0 := Classical.byContradiction fun hm => by rw [if_neg hm] at hn; omega
  rw [if_pos hm] at hn
  subst hn
  have hlt : i0.idxOf x.Glyph < r.Out.length := by omega
  obtain ⟨g, hg⟩ : ∃ g, r.Out[i0.idxOf x.Glyph]? = some g := ⟨_, Bn hlt⟩
  have hgg : (aT (dw r).Out)[((i0.idxOf x.Glyph : Nat) : Int).toNat]? = some [aA g] := by rw [Int.toNat_natCast]; exact bJ hg
  rw [hg] at hsg
  dsimp only at hsg
  rw [if_pos (List.idxOf_lt_length_of_mem hm)] at hsg
  rw [hsg]
  have hst := ix (j := 0) { x with Glyph := g } (aA g) m.junk hx (by omega) rfl
  repeat' (first|fail)
  refine bk 12 [(0, .v), (1, .v), (2, .v), (3, .l), (4, .v), (5, .v), (6, .v), (7, .v), (8, .v), (9, .v), (10, .v), (11, .v)] none ?_ trivial rfl (by kernel_rfl) (by kernel_rfl) (by kernel_rfl) c9 (by kernel_rfl) rfl
  repeat' (first|refine aD ?_|refine bi a5 ?_|(apply cD;refine d3 a5 ?_)|refine bX a5 0 rfl rfl rfl rfl (by first|trivial|rfl) ?_)
  refine bz [52, 53, 60] rfl rfl ?_
  repeat' (first|refine a8 a5 rfl rfl ?_|(apply aF; first|refine aE a5 ?_|refine aB a5 ?_)|fail)
  refine ad a5 1 rfl rfl rfl rfl rfl rfl (Nat.ble_eq_true_of_le (by rw [Int.toNat_natCast]; simp; omega)) ?_
  rw [hst]
  repeat' (first|refine aH ?_|refine a7 ?_)
  exact c8 rfl ⟨some m, hq.set p _, mo⟩
 ·have hsg2 : eC r p run = run := by
   rw [hsg]
   split
   ·rfl
   ·rename_i g hg
    rw [if_neg]
    intro h
    rw [if_pos (List.idxOf_lt_length_iff.1 h)] at hn
    have := (Dp hg).1
    omega
  rw [hsg2]
  repeat' (first|refine ai ?_|refine aH ?_)
  exact c8 rfl ⟨some m, hq, rfl⟩
set_option maxHeartbeats 4000000 in
theorem Da (hk : e.l.Kind = 3) : AC Tryz.prog 103 (gK wb e r ps deep) (gb wb E (some m) run) (eP wb E (eN e.l r ps run)) := by
 have _ := hro
 obtain ⟨⟨kd, ig, rs⟩, cls, fo, ba, fe, be⟩ := e
 dsimp only at hk
 subst hk
 obtain ⟨p, q, rfl⟩ := List.exists_cons_of_ne_nil hps.some_
 have hpl := hps.lt p (by simp)
 obtain ⟨x, hx⟩ : ∃ x, run[p]? = some x := ⟨_, Bn hpl⟩
 have hp0 : (cF (p :: q))[(0 : Int).toNat]? = some [aA p] := rfl
 have hol := aW (dw r).Out
 have hst : (dw r).Out = r.Out := rfl
 rw [hst] at hol
 refine aC Tryz.func103 rfl Tryz.ntmps103 rfl fun B => ?_
 repeat' (first|refine a9 ?_|refine a4 ?_|refine ak ?_|refine a6 ?_|refine a7 ?_|refine a8 a5 rfl rfl ?_|(apply aF; first|refine aE a5 ?_|refine aB a5 ?_)|refine bv rfl ?_|refine bC rfl ?_)
 refine ar rfl (fun h => ?_) (fun h => ?_)
 ·have hne : r.Out ≠ [] := fun e => by rw [hst, e] at h; cases h
  obtain ⟨g, gs, hg⟩ := List.exists_cons_of_ne_nil hne
  have hj := yU E wb m run hq hr p q hps.lt hps.inc x hx r g gs hg
  have hg0 : (aT (dw r).Out)[(0 : Int).toNat]? = some [aA g] := by rw [hst, hg]; rfl
  clear h
  repeat' (first|refine a4 ?_|refine a8 a5 rfl rfl ?_|(apply aF; first|refine aE a5 ?_|refine aB a5 ?_)|fail)
  refine aO (gb wb E (some m) run) [] hj rfl rfl (by rw [List.append_nil]) rfl fun c L1 ⟨q', h1, h2⟩ => ?_
  subst h2
  repeat' (first|refine aH ?_|refine a7 ?_)
  exact c8 rfl ⟨q', h1, by rw [List.append_nil]; rfl⟩
 ·have hz : r.Out = [] := List.eq_nil_of_length_eq_zero (by have := Dy h; rw [hst] at this; omega)
  have hsv : eN ⟨3, ig, rs⟩ r (p :: q) run = run := by
   show ke r (p :: q) run = run
   unfold ke
   rw [hz]
  rw [hsv]
  repeat' (first|refine ai ?_|refine aH ?_)
  exact c8 rfl ⟨some m, hq, rfl⟩
set_option maxHeartbeats 4000000 in
theorem Dc (hk : e.l.Kind = 6) : AC Tryz.prog 103 (gK wb e r ps deep) (gb wb E (some m) run) (eP wb E (eN e.l r ps run)) := by
 have _ := hr
 have _ := hro
 obtain ⟨⟨kd, ig, rs⟩, cls, fo, ba, fe, be⟩ := e
 dsimp only at hk
 subst hk
 obtain ⟨p, q, rfl⟩ := List.exists_cons_of_ne_nil hps.some_
 have hpl := hps.lt p (by simp)
 obtain ⟨x, hx⟩ : ∃ x, run[p]? = some x := ⟨_, Bn hpl⟩
 have hp0 : (cF (p :: q))[(0 : Int).toNat]? = some [aA p] := rfl
 have hsv : eN ⟨6, ig, rs⟩ r (p :: q) run = run.set p { x with Advance := IntKind.i64.wrap (x.Advance + r.X) } := by
  show oz r p run = _
  unfold oz
  rw [hx]
 rw [hsv]
 have h3 := lH (j := 3) m.junk hx rfl
 have hst := ix (j := 3) { x with Advance := IntKind.i64.wrap (x.Advance + r.X) } (aA (IntKind.i64.wrap (x.Advance + r.X))) m.junk hx (by omega) rfl
 obtain ⟨g1, g2, g3⟩ := hq.fit m rfl
 have hfl := cy run
 refine aC Tryz.func103 rfl Tryz.ntmps103 rfl fun B => ?_
 repeat' (first|refine a9 ?_|refine a4 ?_|refine ak ?_|refine a6 ?_|refine a7 ?_|refine a8 a5 rfl rfl ?_|(apply aF; first|refine aE a5 ?_|refine aB a5 ?_)|refine bv rfl ?_|refine bC rfl ?_)
 refine bk 13 [(0, .v), (1, .v), (2, .v), (3, .l), (4, .v), (5, .v), (6, .v), (7, .l), (8, .v), (9, .v), (10, .v), (11, .v), (12, .v)] none ?_ trivial rfl (by kernel_rfl) (by kernel_rfl) (by kernel_rfl) c9 (by kernel_rfl) rfl
 repeat' (first|refine aD ?_|refine bi a5 ?_|refine bX a5 0 rfl rfl rfl rfl (by first|trivial|rfl) ?_)
 refine cK a5 rfl rfl rfl ⟨by omega, by omega⟩ trivial ?_
 repeat' (first|refine aD ?_|refine bi a5 ?_|fail)
 refine bX a5 1 rfl rfl rfl h3 trivial ?_
 repeat' (first|refine aD ?_|refine bi a5 ?_|fail)
 refine AH rfl rfl trivial ?_
 repeat' (first|fail)
 refine bz [107, 108, 116] rfl rfl ?_
 repeat' (first|refine a8 a5 rfl rfl ?_|(apply aF; first|refine aE a5 ?_|refine aB a5 ?_)|fail)
 refine ad a5 1 rfl rfl rfl rfl rfl rfl (Nat.ble_eq_true_of_le (by rw [Int.toNat_natCast]; simp; omega)) ?_
 have hsx : (dw r).X = r.X := rfl
 rw [hsx, hst]
 repeat' (first|refine aH ?_|refine a7 ?_)
 exact c8 rfl ⟨some m, hq.set p _, mo⟩
end
end Go.Proofs.YtpmdfoaadejmkaaGreatDoor
namespace Go.Proofs.YtpmdfoaadejmkaaGreatDoor
open Go.RowKit
attribute [local irreducible] AT bh AX AO Av Kt b6 di DA cC
structure ln (E : ma) : Prop where
 auto : ∀ e ∈ E.lks, 1 ≤ e.l.Kind → e.l.Kind ≤ 6 → i9 e
 rule : ∀ e ∈ E.lks, ∀ r ∈ e.l.Rules, r.In ≠ [] → mr r
abbrev ma.ls (E : ma) : List aQ := E.lks.map (·.l)
theorem uQ {ms : List Bool} {ig : Bool} {run : List aG} {i : Nat} (hi : i < run.length) {n : Int} (h0 : 0 ≤ n) : pv ms ig run i n = if gW ms ig run i = true then (if n = 0 then some i else pv ms ig run (i + 1) (n - 1)) else pv ms ig run (i + 1) n := by
 unfold pv
 rw [if_pos h0, jz hi]
 split
 ·split
  ·rename_i hn
   subst hn
   rfl
  ·rw [if_pos (by omega), show n.toNat = (n - 1).toNat + 1 by omega, List.getElem?_cons_succ]
 ·rfl
theorem x9 {ms : List Bool} {ig : Bool} {run : List aG} {i : Nat} (hi : run.length ≤ i) (n : Int) : pv ms ig run i n = none := by
 unfold pv
 rw [og hi]
 split <;> simp
theorem uz {ms : List Bool} {ig : Bool} {run : List aG} {i : Nat} : (dm ms ig run i).Pairwise (· < ·) := by
  unfold dm
  exact List.Pairwise.filter _ (List.pairwise_lt_range' ..)
theorem Bg {ms : List Bool} {l : aQ} {run : List aG} {i : Nat} {forms : List Int} {r : aV} (h : du ms l run i forms = some r) : oS run (cO ms l run i r) ∧ r ∈ l.Rules ∧ r.In ≠ [] ∧ i < run.length ∧ (cO ms l run i r).head? = some i := by
 unfold du at h
 split at h
 ·rename_i hb
  have hm := List.mem_of_find?_eq_some h
  obtain ⟨h1, h2⟩ := lV (List.find?_some h)
  unfold jr at hb
  split at hb
  ·rename_i x hx
   have hil := (Dp hx).1
   rw [Bool.and_eq_true] at hb
   have hs : gW ms l.Ignore run i = true := by rw [lg hx]; exact hb.1
   have hf : dm ms l.Ignore run i = i :: dm ms l.Ignore run (i + 1) := by rw [jz hil, if_pos hs]
   obtain ⟨n, hn⟩ : ∃ n, r.In.length = n + 1 := ⟨r.In.length - 1, by omega⟩
   have hp : cO ms l run i r = i :: (dm ms l.Ignore run (i + 1)).take n := by unfold cO; rw [hf, hn, List.take_succ_cons]
   refine ⟨⟨by rw [hp]; simp, fun j hj => (wA j (List.mem_of_mem_take hj)).2.1, ?_⟩, hm, fun e => by rw [e] at h1; simp at h1, hil, by rw [hp]; rfl⟩
   exact uz.sublist (List.take_sublist ..)
  ·cases hb
 ·cases h
def ew (a b : Nat) : Prop := b ≤ max a 500
theorem oJ {l : aQ} {r : aV} {ps : List Nat} {run : List aG} : ew run.length (eN l r ps run).length := by
 unfold eN ew
 split
 ·unfold eC; split <;> (try split) <;> (try split) <;> (try rw [List.length_set]) <;> omega
 split
 ·unfold fJ
  split
  ·omega
  ·split
   ·omega
   ·rename_i x hx hh
    have := (Dp hx).1
    simp only [List.length_append, List.length_take, List.length_drop, Du]
    omega
 split
 ·unfold ke
  split
  ·split
   ·refine Nat.le_trans iW.length_le ?_
    rw [List.length_set]; omega
   ·omega
  ·omega
 split
 ·unfold oz; split <;> (try rw [List.length_set]) <;> omega
 ·omega
theorem ew.trans {a b c : Nat} (h : ew a b) (k : ew b c) : ew a c := by unfold ew at *; omega
theorem o0 {ms : List Bool} {ls : List aQ} {d : Ci} (hd : ∀ l r ps run, ew run.length (d l r ps run).length) {n : Int} {i : Nat} {run : List aG} : ew run.length (jT ms ls d n i run).length := by
 unfold jT
 split
 ·unfold ew; omega
 ·split
  ·unfold ew; omega
  ·split
   ·unfold ew; omega
   ·split
    ·unfold ew; omega
    ·exact hd ..
theorem iV {ms : List Bool} {ls : List aQ} : ∀ (k : Nat) (l : aQ) (r : aV) (ps : List Nat) (run : List aG), ew run.length (gA ms ls k l r ps run).length
 | 0, _, _, _, _ => oJ
 | k + 1, l, r, ps, run => by
  unfold gA
  split
  ·have key : ∀ (cs : List ic) (run : List aG), ew run.length (cs.foldl (dW ms ls (gA ms ls k) l.Ignore (ps.headD 0)) run).length := by
    intro cs
    induction cs with
    | nil => intro run; unfold ew; simp; omega
    | cons c cs ih =>
     intro run
     rw [List.foldl_cons]
     refine ew.trans ?_ (ih _)
     unfold dW
     split
     ·unfold ew; omega
     ·exact o0 (iV k)
   exact key _ _
  ·exact oJ
theorem ew.big {a b : Nat} (h : ew a b) (ha : a ≤ 1000000) : b ≤ 1000000 := by unfold ew at h; omega
section
variable {E : ma} (hE : ln E) (wb : Nat)
def Bq (E : ma) (wb deep k : Nat) : Prop := ∀ (e : m9) (r : aV) (ps : List Nat) (q : Option eo) (run : List aG), e ∈ E.lks → 1 ≤ e.l.Kind → e.l.Kind ≤ 6 → mr r → oS run ps → cT q run → run.length ≤ 1000000 →
 AC Tryz.prog 103 (gK wb e r ps deep) (gb wb E q run) (eP wb E (gA E.ms E.ls k e.l r ps run))
def rp (E : ma) (wb deep k : Nat) : Prop := ∀ (n : Int) (i : Nat) (q : Option eo) (run : List aG), i < run.length → cT q run → run.length ≤ 1000000 →
 AC Tryz.prog 261 [ek wb, aA n, aA i, aA deep] (gb wb E q run) (eP wb E (jT E.ms E.ls (gA E.ms E.ls k) n i run))
theorem nZ (E : ma) : (E.lks.map dO).length = E.lks.length := by simp
include hE in
set_option maxHeartbeats 4000000 in
theorem yf {deep k : Nat} (hd : deep ≤ 4) (hdo : Bq E wb deep k) : rp E wb deep k := by
 intro n i q run hi hq hr
 refine aC Tryz.func261 rfl Tryz.ntmps261 rfl fun B => ?_
 have hll := nZ E
 repeat' (first|refine a9 ?_|refine a4 ?_|refine a8 a5 rfl rfl ?_)
 refine bH [0, 1, 2, 3] (n < 0 ∨ (E.lks.length : Int) ≤ n) rfl (fun Q' K => ?_) (fun hC => ?_) (fun hC => ?_)
 ·repeat' (first|refine a7 ?_|refine a8 a5 rfl rfl ?_|refine am rfl rfl ?_|refine ax rfl rfl rfl rfl ?_|(apply bE; first|refine aj a5 0 rfl rfl rfl rfl rfl ?_|refine aj a5 1 rfl rfl rfl rfl rfl ?_|refine aj a5 2 rfl rfl rfl rfl rfl ?_|refine aj a5 3 rfl rfl rfl rfl rfl ?_|refine ay a5 0 rfl rfl rfl rfl rfl ?_|refine ay a5 1 rfl rfl rfl rfl rfl ?_|refine ay a5 2 rfl rfl rfl rfl rfl ?_|refine aj a5 1 rfl rfl rfl (by assumption) rfl ?_|refine aj a5 0 rfl rfl rfl (by assumption) rfl ?_|fail)|refine aI rfl rfl rfl (fun _ => ?_) (fun _ => ?_))
  all_goals exact K _ _ rfl rfl (by simp_all <;> omega)
 ·have hv : jT E.ms E.ls (gA E.ms E.ls k) n i run = run := by
   unfold jT
   by_cases h0 : n < 0
   ·rw [if_pos h0]
   ·rw [if_neg h0, List.getElem?_eq_none (by rw [Du]; omega)]
  rw [hv]
  repeat' (first|refine ah ?_|refine aq ?_)
  exact mg rfl ⟨q, hq, rfl⟩
 obtain ⟨e, he⟩ : ∃ e, E.lks[n.toNat]? = some e := ⟨_, Bn (by omega)⟩
 have heg : (E.lks.map dO)[n.toNat]? = some (dO e) := by simp [he]
 have hem := Dw he
 have hcv : jT E.ms E.ls (gA E.ms E.ls k) n i run = if e.l.Kind < 1 ∨ 4 < e.l.Kind then run else match du E.ms e.l run i [] with
   | none => run
   | some r => gA E.ms E.ls k e.l r (cO E.ms e.l run i r) run := by
  unfold jT
  rw [if_neg (by omega), List.getElem?_map, he]
  rfl
 repeat' (first|refine a9 ?_|refine a4 ?_|refine ai ?_|refine a6 ?_|refine a7 ?_|refine a8 a5 rfl rfl ?_|(apply bE; first|refine aj a5 0 rfl rfl rfl rfl rfl ?_|refine aj a5 1 rfl rfl rfl rfl rfl ?_|refine aj a5 2 rfl rfl rfl rfl rfl ?_|refine aj a5 3 rfl rfl rfl rfl rfl ?_|refine ay a5 0 rfl rfl rfl rfl rfl ?_|refine ay a5 1 rfl rfl rfl rfl rfl ?_|refine ay a5 2 rfl rfl rfl rfl rfl ?_|refine aj a5 1 rfl rfl rfl (by assumption) rfl ?_|refine aj a5 0 rfl rfl rfl (by assumption) rfl ?_|fail)|(apply aF; first|refine aE a5 ?_|refine aB a5 ?_)|fail)
 refine bH [0, 2, 3, 8] (e.l.Kind < 1 ∨ 4 < e.l.Kind) rfl (fun Q' K => ?_) (fun hC2 => ?_) (fun hC2 => ?_)
 ·repeat' (first|refine a7 ?_|refine a8 a5 rfl rfl ?_|refine am rfl rfl ?_|refine ax rfl rfl rfl rfl ?_|refine aI rfl rfl rfl (fun _ => ?_) (fun _ => ?_))
  all_goals exact K _ _ rfl rfl (by simp_all <;> omega)
 ·rw [if_pos hC2] at hcv
  rw [hcv]
  repeat' (first|refine ah ?_|refine aq ?_)
  exact mg rfl ⟨q, hq, rfl⟩
 rw [if_neg hC2] at hcv
 rw [hcv]
 have hau := hE.auto e hem (by omega) (by omega)
 have hma := AC.args (a := [ek wb, .iptr (dO e), aA i, .sc (.slice none 0 0)]) (n4 E e hau wb q run hq hr i (by omega) []) ⟨dJ.refl _, dJ.refl _, dJ.refl _, dJ.nil 1, trivial⟩
 repeat' (first|refine a9 ?_|refine a4 ?_|refine ai ?_|refine a6 ?_|refine a8 a5 rfl rfl ?_)
 refine aO (gb wb E q run) [] hma rfl rfl (by rw [List.append_nil]) rfl fun c L1 ⟨hc, hL⟩ => ?_
 subst hc; subst hL
 unfold iD
 cases hmv : du E.ms e.l run i [] with
 | none =>
  dsimp only
  repeat' (first|refine a9 ?_|refine a4 ?_|refine a6 ?_|refine a7 ?_|refine a8 a5 rfl rfl ?_)
  refine pq Tryz.underlying190 rfl rfl rfl rfl ?_
  repeat' (first|refine ai ?_|refine a6 ?_|refine a7 ?_|refine bC rfl ?_)
  exact c8 rfl ⟨q, hq, by rw [List.append_nil]⟩
 | some r =>
  dsimp only
  obtain ⟨hps, hrm, hin, _, _⟩ := Bg hmv
  have hdc := hdo e r (cO E.ms e.l run i r) q run hem (by omega) (by omega) (hE.rule e hem r hrm hin) hps hq hr
  repeat' (first|refine a9 ?_|refine a4 ?_|refine a6 ?_|refine a7 ?_|refine a8 a5 rfl rfl ?_)
  refine pq Tryz.underlying190 rfl rfl rfl rfl ?_
  repeat' (first|refine a4 ?_|refine a6 ?_|refine a7 ?_|refine a8 a5 rfl rfl ?_|refine bv rfl ?_)
  refine aO (gb wb E q run) [] hdc rfl rfl (by rw [List.append_nil]) rfl fun c L1 ⟨q', h1, h2⟩ => ?_
  subst h2
  repeat' (first|refine a7 ?_)
  exact c8 rfl ⟨q', h1, by rw [List.append_nil]⟩
set_option maxHeartbeats 4000000 in
theorem wd {deep k : Nat} (hd : deep < 4) (hca : rp E wb (deep + 1) k) (e : m9) (cs : List ic) (hcs : cs.length ≤ 1000000) (hca0 : ∀ c ∈ cs, 0 ≤ c.At ∧ c.At ≤ 1000000) (p : Nat) (hp : p ≤ 1000000) (q : Option eo) (run : List aG) (hq : cT q run) (hr : run.length ≤ 1000000) :
  AC Tryz.prog 193 [ek wb, .iptr (dO e), .imm 2 (cs.map fa), aA p, aA deep] (gb wb E q run) (eP wb E (cs.foldl (dW E.ms E.ls (gA E.ms E.ls k) e.l.Ignore p) run)) := by
 refine aC Tryz.func193 rfl Tryz.ntmps193 rfl fun B => ?_
 have hcl : (cs.map fa).length = cs.length := by simp
 repeat' (first|fail)
 refine vU ?_
 repeat' (first|refine a9 ?_|refine a4 ?_|refine ak ?_|refine vS ?_|refine a6 ?_|refine a7 ?_|refine a8 a5 rfl rfl ?_)
 refine aL [0, 1, 3, 4, 14, 15] (α := Nat × Option eo × List aG) (fun s => [(16, aA s.1)]) (fun s => s.1 ≤ cs.length ∧ cT s.2.1 s.2.2 ∧ s.2.2.length ≤ 1000000 ∧ (cs.drop s.1).foldl (dW E.ms E.ls (gA E.ms E.ls k) e.l.Ignore p) s.2.2 = cs.foldl (dW E.ms E.ls (gA E.ms E.ls k) e.l.Ignore p) run) (fun s => gb wb E s.2.1 s.2.2) (fun s => cs.length - s.1) (0, q, run) rfl ⟨rfl, trivial⟩ ⟨Nat.zero_le _, hq, hr, rfl⟩ (fun _ _ h => h) ?_
 rintro ⟨n, q1, run1⟩ ⟨hn, hq1, hr1, hf⟩
 dsimp only at hn hq1 hr1 hf ⊢
 try dsimp only [Ds, Dr, Dq, Dn]
 repeat' (first|refine a9 ?_|refine a4 ?_|refine a6 ?_|refine a7 ?_|refine a8 a5 rfl rfl ?_)
 refine ar rfl (fun h => ?_) (fun h => ?_)
 ·have hn2 : n < cs.length := by have := Dz h; omega
  obtain ⟨c, hc⟩ : ∃ c, cs[n]? = some c := ⟨_, Bn hn2⟩
  have hcg : (cs.map fa)[n]? = some (fa c) := by simp [hc]
  obtain ⟨ha0, ha1⟩ := hca0 c (Dw hc)
  have hfd : (cs.drop (n + 1)).foldl (dW E.ms E.ls (gA E.ms E.ls k) e.l.Ignore p) (dW E.ms E.ls (gA E.ms E.ls k) e.l.Ignore p run1 c) = cs.foldl (dW E.ms E.ls (gA E.ms E.ls k) e.l.Ignore p) run := by
   rw [← hf, List.drop_eq_getElem_cons hn2, List.foldl_cons, (Dp hc).2]
  clear h
  repeat' (first|refine a9 ?_|refine a4 ?_|refine ak ?_|refine ai ?_|refine a6 ?_|refine a7 ?_|refine a8 a5 rfl rfl ?_|(apply aF; first|refine aE a5 ?_|refine aB a5 ?_)|(apply aP; first|refine aa 11 a5 0 rfl rfl rfl rfl rfl rfl rfl rfl ?_|refine aa 11 a5 1 rfl rfl rfl rfl rfl rfl rfl rfl ?_|refine aa 11 a5 2 rfl rfl rfl rfl rfl rfl rfl rfl ?_|refine ad a5 0 rfl rfl rfl rfl rfl rfl rfl ?_|refine ad a5 1 rfl rfl rfl rfl rfl rfl rfl ?_|refine ad a5 2 rfl rfl rfl rfl rfl rfl rfl ?_|refine ad a5 3 rfl rfl rfl rfl rfl rfl rfl ?_|fail)|refine b4 a5 fun _=>?_|fail)
  refine aL [0, 1, 3, 4, 11, 14, 15, 16] (α := Nat × Int) (fun s => [(13, aA s.1), (12, aA s.2)]) (fun s => 0 ≤ s.2 ∧ s.2 ≤ 1000000 ∧ s.1 ≤ 1000000 ∧ pv E.ms e.l.Ignore run1 p c.At = pv E.ms e.l.Ignore run1 s.1 s.2) (fun s => gb wb E q1 run1) (fun s => run1.length - s.1) (p, c.At) rfl ⟨rfl, rfl, trivial⟩ ⟨ha0, ha1, hp, rfl⟩ (fun _ _ h => h) ?_
  rintro ⟨i, left⟩ ⟨hl0, hl1, hi1, hnth⟩
  dsimp only at hl0 hl1 hi1 hnth ⊢
  try dsimp only [Ds, Dr, Dq, Dn]
  repeat' (first|refine a9 ?_|refine a4 ?_|refine a8 a5 rfl rfl ?_|(apply bE; first|refine aj a5 0 rfl rfl rfl rfl rfl ?_|refine aj a5 1 rfl rfl rfl rfl rfl ?_|refine aj a5 2 rfl rfl rfl rfl rfl ?_|refine aj a5 3 rfl rfl rfl rfl rfl ?_|refine ay a5 0 rfl rfl rfl rfl rfl ?_|refine ay a5 1 rfl rfl rfl rfl rfl ?_|refine ay a5 2 rfl rfl rfl rfl rfl ?_|refine aj a5 1 rfl rfl rfl (by assumption) rfl ?_|refine aj a5 0 rfl rfl rfl (by assumption) rfl ?_|fail)|fail)
  refine jB a5 rfl hq1 rfl rfl ?_
  repeat' (first|refine a6 ?_|refine a7 ?_|refine a8 a5 rfl rfl ?_)
  refine ar rfl (fun h => ?_) (fun h => ?_)
  ·have hi2 : i < run1.length := by have := Dz h; omega
   obtain ⟨m, rfl⟩ := hq1.lt hi2
   obtain ⟨x, hx⟩ : ∃ x, run1[i]? = some x := ⟨_, Bn hi2⟩
   have hse := pI E e wb m run1 i x hx
   have hst := uQ (ms := E.ms) (ig := e.l.Ignore) hi2 hl0
   rw [lg hx] at hst
   clear h
   repeat' (first|refine a9 ?_|refine a4 ?_|refine ak ?_|refine ai ?_|refine a6 ?_|refine a8 a5 rfl rfl ?_)
   refine aO (rm wb (.iptr (da E)) (some m) run1) [cr] hse rfl rfl (Do _) rfl fun c1 L1 ⟨hc1, hL⟩ => ?_
   subst hc1; subst hL
   repeat' (first|refine a6 ?_|refine a7 ?_|refine a8 a5 rfl rfl ?_)
   refine ar rfl (fun hb => ?_) (fun hb => ?_)
   ·rw [if_neg (by simpa using hb)] at hst
    repeat' (first|refine a4 ?_|refine aM ?_|refine a6 ?_|refine au ?_|refine aw ?_|refine a7 ?_|refine a8 a5 rfl rfl ?_|(apply aU; refine aS ?_)|fail)
    exact az (i + 1, left) rfl ⟨by rw [Dv]; rfl, rfl, trivial⟩ ⟨hl0, hl1, by dsimp only; omega, by rw [hnth, hst]⟩ (by dsimp only; omega) (fun _ _ h => h)
   ·rw [if_pos (by simpa using hb)] at hst
    repeat' (first|refine a9 ?_|refine a4 ?_|refine ai ?_|refine a6 ?_|refine a7 ?_|refine a8 a5 rfl rfl ?_)
    refine ar rfl (fun h0 => ?_) (fun h0 => ?_)
    ·have hz := Dz h0
     subst hz
     rw [if_pos rfl] at hst
     have hcc := hca c.Lookup i (some m) run1 hi2 hq1 hr1
     have hch : dW E.ms E.ls (gA E.ms E.ls k) e.l.Ignore p run1 c = jT E.ms E.ls (gA E.ms E.ls k) c.Lookup i run1 := by
      unfold dW
      rw [hnth, hst]
     rw [hch] at hfd
     clear h0
     repeat' (first|refine a9 ?_|refine a4 ?_|refine a8 a5 rfl rfl ?_|(apply aU; refine aS ?_)|fail)
     refine aO (gb wb E (some m) run1) [] hcc rfl (by rw [Dv]; rfl) (by rw [List.append_nil]) rfl fun c2 L2 ⟨q', h1, h2⟩ => ?_
     subst h2
     repeat' (first|refine a4 ?_|refine aM ?_|refine a6 ?_|refine au ?_|refine aw ?_|refine cZ rfl ?_|refine av ?_|refine a7 ?_|refine a8 a5 rfl rfl ?_|(apply aU; refine aS ?_)|fail)
     exact az (n + 1, q', _) rfl ⟨by rw [Dv]; rfl, trivial⟩ ⟨hn2, h1, (o0 (iV k)).big hr1, hfd⟩ (by dsimp only; omega) (fun _ _ h => by rw [List.append_nil] at h; exact h)
    ·have hz := Dy h0
     rw [if_neg hz] at hst
     repeat' (first|refine a4 ?_|refine ai ?_|refine a6 ?_|refine aH ?_|refine a7 ?_|refine a8 a5 rfl rfl ?_|(apply aU; refine aS ?_)|fail)
     exact az (i + 1, left - 1) rfl ⟨by rw [Dv]; rfl, rfl, trivial⟩ ⟨by dsimp only; omega, by dsimp only; omega, by dsimp only; omega, by rw [hnth, hst]⟩ (by dsimp only; omega) (fun _ _ h => h)
  ·have hi2 : run1.length ≤ i := by have := Dy h; omega
   have hch : dW E.ms E.ls (gA E.ms E.ls k) e.l.Ignore p run1 c = run1 := by
    unfold dW
    rw [hnth, x9 hi2]
   rw [hch] at hfd
   clear h
   repeat' (first|refine a4 ?_|refine aM ?_|refine a6 ?_|refine au ?_|refine aH ?_|refine aw ?_|refine av ?_|refine a7 ?_|refine a8 a5 rfl rfl ?_|(apply aU; refine aS ?_)|fail)
   exact az (n + 1, q1, run1) rfl ⟨by rw [Dv]; rfl, trivial⟩ ⟨hn2, hq1, hr1, hfd⟩ (by dsimp only; omega) (fun _ _ h => h)
 ·have hn2 : n = cs.length := by have := Dy h; omega
  subst hn2
  rw [List.drop_length] at hf
  have hf2 : run1 = cs.foldl (dW E.ms E.ls (gA E.ms E.ls k) e.l.Ignore p) run := hf
  repeat' (first|refine aM ?_|refine au ?_|refine aw ?_|refine av ?_)
  refine AF ?_
  exact c8 rfl ⟨q1, by rw [← hf2]; exact hq1, by rw [← hf2]; rfl⟩
set_option maxHeartbeats 4000000 in
theorem AK {deep k : Nat} (hd : deep < 4) (hca : rp E wb (deep + 1) k) (e : m9) (hk : e.l.Kind = 4) (r : aV) (hro : mr r) (ps : List Nat) (q : Option eo) (run : List aG) (hps : oS run ps) (hq : cT q run) (hr : run.length ≤ 1000000) :
  AC Tryz.prog 103 (gK wb e r ps deep) (gb wb E q run) (eP wb E (gA E.ms E.ls (k + 1) e.l r ps run)) := by
 obtain ⟨p, ps', rfl⟩ := List.exists_cons_of_ne_nil hps.some_
 have hpl := hps.lt p (by simp)
 have hch := wd wb hd hca e r.Calls hro.calls hro.at_ p (by omega) q run hq hr
 have hdv : gA E.ms E.ls (k + 1) e.l r (p :: ps') run = r.Calls.foldl (dW E.ms E.ls (gA E.ms E.ls k) e.l.Ignore p) run := by
  rw [gA]
  exact if_pos hk
 rw [hdv]
 obtain ⟨⟨kd, ig, rs⟩, cls, fo, ba, fe, be⟩ := e
 dsimp only at hk
 subst hk
 have hp0 : (cF (p :: ps'))[(0 : Int).toNat]? = some [aA p] := rfl
 refine aC Tryz.func103 rfl Tryz.ntmps103 rfl fun B => ?_
 repeat' (first|refine a9 ?_|refine a4 ?_|refine ak ?_|refine a6 ?_|refine a7 ?_|refine a8 a5 rfl rfl ?_|(apply aF; first|refine aE a5 ?_|refine aB a5 ?_)|refine bv rfl ?_|refine bC rfl ?_)
 refine ar rfl (fun h => ?_) (fun h => ?_)
 ·clear h
  repeat' (first|refine a4 ?_|refine a8 a5 rfl rfl ?_)
  refine aO (gb wb E q run) [] hch rfl rfl (by rw [List.append_nil]) rfl fun c L1 ⟨q', h1, h2⟩ => ?_
  subst h2
  repeat' (first|refine aH ?_|refine a7 ?_)
  exact c8 rfl ⟨q', h1, by rw [List.append_nil]⟩
 ·have := Dy h
  omega
set_option maxHeartbeats 4000000 in
theorem yo (e : m9) (hk : e.l.Kind = 4) (r : aV) (ps : List Nat) (q : Option eo) (run : List aG) (hps : oS run ps) (hq : cT q run) :
  AC Tryz.prog 103 (gK wb e r ps 4) (gb wb E q run) (eP wb E (gA E.ms E.ls 0 e.l r ps run)) := by
 obtain ⟨p, ps', rfl⟩ := List.exists_cons_of_ne_nil hps.some_
 have hdv : gA E.ms E.ls 0 e.l r (p :: ps') run = run := by
  rw [gA]
  dsimp only
  unfold eN
  rw [hk]
  rfl
 rw [hdv]
 obtain ⟨⟨kd, ig, rs⟩, cls, fo, ba, fe, be⟩ := e
 dsimp only at hk
 subst hk
 have hp0 : (cF (p :: ps'))[(0 : Int).toNat]? = some [aA p] := rfl
 refine aC Tryz.func103 rfl Tryz.ntmps103 rfl fun B => ?_
 repeat' (first|refine a9 ?_|refine a4 ?_|refine ak ?_|refine ai ?_|refine a6 ?_|refine aH ?_|refine a7 ?_|refine a8 a5 rfl rfl ?_|(apply aF; first|refine aE a5 ?_|refine aB a5 ?_)|refine bv rfl ?_|refine bC rfl ?_)
 exact c8 rfl ⟨q, hq, rfl⟩
theorem qw (deep k : Nat) (e : m9) (h1 : 1 ≤ e.l.Kind) (h6 : e.l.Kind ≤ 6) (h4 : e.l.Kind ≠ 4) (r : aV) (hro : mr r) (ps : List Nat) (q : Option eo) (run : List aG) (hps : oS run ps) (hq : cT q run) (hr : run.length ≤ 1000000) :
  AC Tryz.prog 103 (gK wb e r ps deep) (gb wb E q run) (eP wb E (gA E.ms E.ls k e.l r ps run)) := by
 obtain ⟨p, ps', rfl⟩ := List.exists_cons_of_ne_nil hps.some_
 obtain ⟨m, rfl⟩ := hq.lt (hps.lt p (by simp))
 have hdv : gA E.ms E.ls k e.l r (p :: ps') run = eN e.l r (p :: ps') run := by
  cases k with
  | zero => rw [gA]
  | succ k => rw [gA]; exact if_neg h4
 rw [hdv]
 have hc : e.l.Kind = 1 ∨ e.l.Kind = 2 ∨ e.l.Kind = 3 ∨ e.l.Kind = 5 ∨ e.l.Kind = 6 := by omega
 rcases hc with hk | hk | hk | hk | hk
 ·exact D8 hq hr hro hps deep hk
 ·exact D9 hq hr hro hps deep hk
 ·exact Da hq hr hro hps deep hk
 ·exact Db hq hr hro hps deep hk
 ·exact Dc hq hr hro hps deep hk
include hE in
theorem wp : ∀ (k deep : Nat), deep + k = 4 → Bq E wb deep k
 | 0, deep, hd => by
  intro e r ps q run _ h1 h6 hro hps hq hr
  have l8 : deep = 4 := by omega
  subst l8
  by_cases h4 : e.l.Kind = 4
  ·exact yo wb e h4 r ps q run hps hq
  ·exact qw wb 4 0 e h1 h6 h4 r hro ps q run hps hq hr
 | k + 1, deep, hd => by
  intro e r ps q run _ h1 h6 hro hps hq hr
  by_cases h4 : e.l.Kind = 4
  ·exact AK wb (by omega) (yf hE wb (by omega) (wp k (deep + 1) (by omega))) e h4 r hro ps q run hps hq hr
  ·exact qw wb deep (k + 1) e h1 h6 h4 r hro ps q run hps hq hr
end
end Go.Proofs.YtpmdfoaadejmkaaGreatDoor
