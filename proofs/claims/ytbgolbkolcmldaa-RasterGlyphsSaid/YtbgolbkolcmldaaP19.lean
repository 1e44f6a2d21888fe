/-
  Plain law: which pixels lines have is what the document says.
-/
import Derived.Test.YtbgolbkolcmldaaW41
import Derived.Test.YtbgolbkolcmldaaP17
namespace Go.Proofs.Ytbgolbkolcmldaa

def SortP (L : List Pc) : Prop := L.Pairwise fun a b => leP (ofPc a).p (ofPc b).p
theorem insRev_sorted {c : Pc} (hc : PcOk c) : ∀ (L : List Pc), (∀ x ∈ L, PcOk x) → L.Pairwise (fun a b => leP (ofPc b).p (ofPc a).p) → (insRev c L).Pairwise (fun a b => leP (ofPc b).p (ofPc a).p)
  | [], _, _ => by simp [insRev]
  | y :: r, hok, h => by
    have hy := hok y (by simp)
    obtain ⟨h1, h2⟩ := List.pairwise_cons.1 h
    have pd : ∀ z, PcOk z → 0 < (ofPc z).p.2 := fun z hz => by have := hz.n; show 0 < z.2.2.1; omega
    unfold insRev
    split
    · rename_i hl
      have hcy : leP (ofPc c).p (ofPc y).p := le_of_not ((lessC_iff hc hy).1 hl)
      refine List.pairwise_cons.2 ⟨fun z hz => ?_, insRev_sorted hc r (fun x hx => hok x (by simp [hx])) h2⟩
      rcases List.mem_cons.1 ((insRev_perm c r).subset hz) with rfl | hz
      · exact hcy
      · exact h1 z hz
    · rename_i hl
      have hyc : leP (ofPc y).p (ofPc c).p := Classical.byContradiction fun h5 => hl ((lessC_iff hc hy).2 h5)
      refine List.pairwise_cons.2 ⟨fun z hz => ?_, h⟩
      rcases List.mem_cons.1 hz with rfl | hz
      · exact hyc
      · exact leP_trans (pd z (hok z (by simp [hz]))) (pd y hy) (pd c hc) (h1 z hz) hyc
theorem insR_sorted {c : Pc} (hc : PcOk c) {L : List Pc} (hok : ∀ x ∈ L, PcOk x) (h : SortP L) : SortP (insR L c) := by
  unfold SortP insR
  rw [List.pairwise_reverse]
  exact insRev_sorted hc _ (fun x hx => hok x (List.mem_reverse.1 hx)) (List.pairwise_reverse.2 h)
theorem fold_sorted : ∀ (l L : List Pc), (∀ x ∈ l, PcOk x) → (∀ x ∈ L, PcOk x) → SortP L → SortP (l.foldl insR L)
  | [], _, _, _, h => h
  | c :: l, L, hl, hL, h => by
    rw [List.foldl_cons]
    refine fold_sorted l _ (fun x hx => hl x (by simp [hx])) (fun x hx => ?_) (insR_sorted (hl c (by simp)) hL h)
    rcases List.mem_cons.1 ((insR_perm L c).subset hx) with rfl | hx
    · exact hl x (by simp)
    · exact hL x hx
theorem crs_ok {N : List Pts} (hN : Near N) {k : Int} {c : Cr} (hc : c ∈ crs N k) : PcOk (toPc c) ∧ CrOk c ∧ PlIn (-2048) 2047 c.p := by
  have hb := crs_bd (x0 := -2048) (x1 := 2047) (y0 := -2048) (y1 := 2047) hN (by omega) hc
  have hp := crs_pos _ _ c hc
  have hck : CrOk c := by
    obtain ⟨e, he, hce, rfl⟩ := crs_mem hc
    have hne : N.flatten ≠ [] := fun h0 => by
      have h2 : edgesAll N = [] := List.length_eq_zero_iff.1 (Nat.le_zero.1 (by have := edgesAll_le N; rwa [h0] at this))
      rw [h2] at he
      cases he
    have hs := near_small hN hne
    have hin := edge_in he
    have := hs.2
    exact crOf_ok (edgesAll_ok he) ((crB_iff _ _).2 hce) (by omega)
  refine ⟨⟨⟨Int.emod_nonneg _ (by omega), Int.emod_lt_of_pos _ hp⟩, hck.p.e.2, ?_, hck.t⟩, hck, hck.p, hb.1, hb.2.1⟩
  have h1 := (Int.le_ediv_iff_mul_le (a := -2048) (b := c.n) hp).2 hb.1
  have h2 : c.n / c.d < 2048 := Int.ediv_lt_of_lt_mul hp (by rw [show (2048 : Int) = 2047 + 1 from rfl, Int.add_mul, Int.one_mul]; omega)
  show -20000 ≤ c.n / c.d ∧ c.n / c.d ≤ 20000
  omega
theorem crsR_ok {N : List Pts} (hN : Near N) (k : Int) : ∀ c ∈ crsR (64 * k + 32) N, PcOk c := by
  intro c hc
  obtain ⟨z, hz, rfl⟩ := List.mem_map.1 ((crsR_perm N k).subset hc)
  exact (crs_ok hN hz).1
theorem crsR_of {N : List Pts} (k : Int) : ((crsR (64 * k + 32) N).map ofPc).Perm (crs N k) := by
  refine ((crsR_perm N k).map ofPc).trans (List.Perm.of_eq ?_)
  rw [List.map_map]
  refine (List.map_congr_left fun c hc => ?_).trans (List.map_id _)
  exact of_to (crs_pos _ _ c hc)
theorem crsR_sorted {N : List Pts} (hN : Near N) (k : Int) : Sorted ((crsR (64 * k + 32) N).map ofPc) := by
  unfold Sorted
  rw [List.pairwise_map]
  refine fold_sorted _ [] (fun x hx => ?_) (by simp) List.Pairwise.nil
  rw [cross_map] at hx
  obtain ⟨z, hz, rfl⟩ := List.mem_map.1 hx
  exact (crs_ok hN hz).1
theorem strs_len : ∀ (n : Nat) (l : List Cr) (t : Int) (f : Place), l.length ≤ n → (strs l t f).length ≤ l.length
  | _, [], t, f, _ => by rw [strs]; simp
  | 0, c :: r, t, f, h => by simp at h
  | n + 1, c :: r, t, f, h => by
    have hlen := takeRun_len c r (t + c.t)
    have ih := strs_len n (takeRun c r (t + c.t)).2 (takeRun c r (t + c.t)).1 (if t = 0 ∧ (takeRun c r (t + c.t)).1 ≠ 0 then c.p else f) (by simp at h; omega)
    have h1 : (if t ≠ 0 ∧ (takeRun c r (t + c.t)).1 = 0 then [((if t = 0 ∧ (takeRun c r (t + c.t)).1 ≠ 0 then c.p else f), c.p)] else []).length ≤ 1 := by split <;> simp
    rw [strs, List.length_append, List.length_cons]
    omega
theorem dr_len (l : List (Place × Place)) : (dr l).length ≤ l.length := by
  induction l with
  | nil => simp [dr]
  | cons a l ih =>
    have : (drOne a).length ≤ 1 := by unfold drOne; split <;> simp
    unfold dr at ih ⊢
    rw [List.flatMap_cons, List.length_append, List.length_cons]
    omega
theorem drops_mem {N : List Pts} (hN : Near N) (k d : Int) : d ∈ dropsOf N k ↔ ∃ a b, IsStr (crs N k) a b ∧ cf a.n a.d = cf b.n b.d ∧ d = md a.n a.d b.n b.d := by
  have hperm := crsR_of (N := N) k
  have hs := crsR_sorted hN k
  have hpos : Pos ((crsR (64 * k + 32) N).map ofPc) := fun c hc => crs_pos _ _ c (hperm.subset hc)
  unfold dropsOf dr
  rw [List.mem_flatMap]
  constructor
  · rintro ⟨st, hst, hd⟩
    obtain ⟨a, b, rfl, hi⟩ := strs_is hpos hs hst
    unfold drOne at hd
    split at hd
    · rename_i hc
      simp only [List.mem_singleton] at hd
      exact ⟨a, b, hi.perm hperm, hc, hd⟩
    · cases hd
  · rintro ⟨a, b, hi, hc, hd⟩
    have hi2 := hi.perm hperm.symm
    obtain ⟨a', b', hst, ha', hb', hea, heb⟩ := is_strs hpos hs hi2 (0, 0)
    refine ⟨_, hst, ?_⟩
    have pa := hpos a' ha'; have pb := hpos b' hb'; have pa2 := hpos a hi2.ma; have pb2 := hpos b hi2.mb
    have e1 : cf a'.p.1 a'.p.2 = cf a.p.1 a.p.2 := cf_eqP pa pa2 hea
    have e2 : cf b'.p.1 b'.p.2 = cf b.p.1 b.p.2 := cf_eqP pb pb2 heb
    have e3 : md a'.p.1 a'.p.2 b'.p.1 b'.p.2 = md a.p.1 a.p.2 b.p.1 b.p.2 := md_eqP pa pa2 pb pb2 hea heb
    unfold drOne
    dsimp only
    rw [e1, e2, e3, if_pos (show cf a.p.1 a.p.2 = cf b.p.1 b.p.2 from hc), hd]
    exact List.mem_singleton.2 rfl
theorem drops_len {N : List Pts} (hcount : N.flatten.length ≤ 10000) (k : Int) : (dropsOf N k).length ≤ 10000 := by
  unfold dropsOf
  have h1 := dr_len (strs ((crsR (64 * k + 32) N).map ofPc) 0 (0, 0))
  have h2 := strs_len _ ((crsR (64 * k + 32) N).map ofPc) 0 (0, 0) (Nat.le_refl _)
  rw [List.length_map, crsR_len] at h2
  have h3 : (crs N k).length ≤ (edgesAll N).length := by unfold crs; rw [List.length_map]; exact List.length_filter_le _ _
  have h4 := edgesAll_le N
  omega
theorem drops_bd {N : List Pts} (hN : Near N) (k : Int) : ∀ d ∈ dropsOf N k, -1000 ≤ d ∧ d ≤ 1000 := by
  intro d hd
  obtain ⟨a, b, hi, _, rfl⟩ := (drops_mem hN k d).1 hd
  have := md_in (crs_ok hN hi.ma).2.2 (crs_ok hN hi.mb).2.2
  omega
theorem W_in {cs : List Cr} (hpos : Pos cs) {a b : Cr} (hi : IsStr cs a b) {q : Place} (hq : 0 < q.2) (h1 : leP a.p q) (h2 : ¬ leP b.p q) : W cs q ≠ 0 := by
  obtain ⟨m, hm, hmq, hmx⟩ := max_of hpos (fun c => leP c.p q) hi.ma h1
  have hd : ∀ x ∈ cs, 0 < x.p.2 := fun x hx => hpos x hx
  have hWm : W cs m.p = W cs q := W_congr fun c hc => ⟨fun h => leP_trans (hd c hc) (hd m hm) hq h hmq, fun h => hmx c hc h⟩
  rw [← hWm]
  exact hi.within m hm (hmx a hi.ma h1) fun h => h2 (leP_trans (hd b hi.mb) (hd m hm) hq h hmq)
theorem fills_eq {N : List Pts} (hN : Near N) : fillB N = if N.flatten = [] then Bm.nil else bmOf ((rfillL N (boxP N)).map ptS) := by
  by_cases hne : N.flatten = []
  · rw [if_pos hne, fill_none hne]
  · rw [if_neg hne]
    have hs := near_small hN hne
    have hw := box_within _ _ _ _ hN (by omega) (by omega) hs
    have hbo := box_ok N hs.1
    refine fill_canon hs (ptS_tight _) fun x y => ?_
    rw [pt_black]
    unfold rfillL rowsL
    rw [List.mem_flatMap]
    constructor
    · intro hb
      have hbi := blk_in hs hb
      obtain ⟨a, b, hi, hin⟩ := hb
      refine ⟨(y - (boxP N).2.1 / 64).toNat, List.mem_range.2 (by omega), ?_⟩
      have ey : (boxP N).2.1 / 64 + ((y - (boxP N).2.1 / 64).toNat : Int) = y := by omega
      rw [ey]
      unfold rowL
      rw [List.mem_append]
      have pa := crs_pos _ _ a hi.ma
      have pb := crs_pos _ _ b hi.mb
      by_cases hc : cf a.n a.d = cf b.n b.d
      · refine .inr (List.mem_map.2 ⟨x, (drops_mem hN y x).2 ⟨a, b, hi, hc, ?_⟩, rfl⟩)
        simp only [inS, fillV, Bool.and_eq_true, decide_eq_true_eq] at hin
        rw [if_pos (show cf a.p.1 a.p.2 = cf b.p.1 b.p.2 from hc)] at hin
        dsimp only at hin
        have e : md a.p.1 a.p.2 b.p.1 b.p.2 = md a.n a.d b.n b.d := rfl
        omega
      · refine .inl (List.mem_flatMap.2 ⟨(x - (boxP N).1 / 64).toNat, List.mem_range.2 (by omega), ?_⟩)
        have ex : (boxP N).1 / 64 + ((x - (boxP N).1 / 64).toNat : Int) = x := by omega
        rw [ex]
        unfold wOne
        rw [if_pos]
        · exact List.mem_singleton.2 rfl
        · simp only [inS, fillV, Bool.and_eq_true, decide_eq_true_eq] at hin
          rw [if_neg (show ¬ cf a.p.1 a.p.2 = cf b.p.1 b.p.2 from hc)] at hin
          dsimp only at hin
          rw [wind_W N x y (by omega) (by omega)]
          refine W_in (crs_pos _ _) hi Int.one_pos ((cf_leP (p := a.p) pa).1 hin.1) fun h5 => ?_
          have := (cf_leP (p := b.p) pb).2 h5
          omega
    · rintro ⟨m, hm, hp⟩
      rw [List.mem_range] at hm
      unfold rowL at hp
      rcases List.mem_append.1 hp with hp | hp
      · obtain ⟨j, hj, hp⟩ := List.mem_flatMap.1 hp
        rw [List.mem_range] at hj
        unfold wOne at hp
        split at hp
        · rename_i hwd
          simp only [List.mem_singleton, Prod.mk.injEq] at hp
          obtain ⟨rfl, rfl⟩ := hp
          exact blk_of_wind (by omega) (by omega) hwd
        · cases hp
      · obtain ⟨d, hd, hp⟩ := List.mem_map.1 hp
        simp only [Prod.mk.injEq] at hp
        obtain ⟨rfl, rfl⟩ := hp
        obtain ⟨a, b, hi, hc, hdd⟩ := (drops_mem hN _ _).1 hd
        refine ⟨a, b, hi, ?_⟩
        simp only [inS, fillV, Bool.and_eq_true, decide_eq_true_eq]
        rw [if_pos (show cf a.p.1 a.p.2 = cf b.p.1 b.p.2 from hc)]
        dsimp only
        have e : md a.p.1 a.p.2 b.p.1 b.p.2 = md a.n a.d b.n b.d := rfl
        omega

end Go.Proofs.Ytbgolbkolcmldaa
