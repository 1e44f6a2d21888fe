/-
  Plain law: what is moved by whole pixels is drawn moved by them.
-/
import Derived.Test.YtbgolbkolcmldaaP9
namespace Go.Proofs.Ytbgolbkolcmldaa

/-! ### crossings that are moved -/
def shC (s : Int) (c : Cr) : Cr := ⟨c.n + 64 * s * c.d, c.d, c.t⟩
def shP (s : Int) (p : Place) : Place := (p.1 + 64 * s * p.2, p.2)
theorem shC_p (s : Int) (c : Cr) : (shC s c).p = shP s c.p := rfl
theorem leP_sh (s : Int) (p q : Place) : leP (shP s p) (shP s q) ↔ leP p q := by
  unfold leP shP
  dsimp only
  have e : 64 * s * p.2 * q.2 = 64 * s * q.2 * p.2 := by rw [Int.mul_assoc, Int.mul_comm p.2, ← Int.mul_assoc]
  rw [Int.add_mul, Int.add_mul, e]
  omega
theorem W_sh (s : Int) (cs : List Cr) (q : Place) : W (cs.map (shC s)) (shP s q) = W cs q := by
  unfold W
  rw [List.map_map]
  congr 1
  refine List.map_congr_left fun c _ => ?_
  show (if leP (shP s c.p) (shP s q) then c.t else 0) = _
  simp only [leP_sh]
theorem Wlt_sh (s : Int) (cs : List Cr) (q : Place) : Wlt (cs.map (shC s)) (shP s q) = Wlt cs q := by
  unfold Wlt
  rw [List.map_map]
  congr 1
  refine List.map_congr_left fun c _ => ?_
  show (if leP (shP s q) (shP s c.p) then 0 else c.t) = _
  simp only [leP_sh]
theorem IsStr.sh {s : Int} {cs : List Cr} {a b : Cr} (h : IsStr cs a b) : IsStr (cs.map (shC s)) (shC s a) (shC s b) := by
  refine ⟨List.mem_map_of_mem h.ma, List.mem_map_of_mem h.mb, ?_, fun p hp h1 h2 => ?_, ?_, ?_⟩
  · rw [shC_p, Wlt_sh]; exact h.before
  · obtain ⟨c, hc, rfl⟩ := List.mem_map.1 hp
    rw [shC_p, shC_p, leP_sh] at h1 h2
    rw [shC_p, W_sh]
    exact h.within c hc h1 h2
  · rw [shC_p, W_sh]; exact h.behind
  · rw [shC_p, shC_p, leP_sh]; exact h.apart
theorem cf_sh {p : Place} (s : Int) (hp : 0 < p.2) : cf (shP s p).1 (shP s p).2 = cf p.1 p.2 + s := by
  refine int_eq_of_le fun c => ?_
  rw [cf_le_iff (n := (shP s p).1) (e := (shP s p).2) hp]
  have : cf p.1 p.2 + s ≤ c ↔ cf p.1 p.2 ≤ c - s := by omega
  rw [this, cf_le_iff hp]
  show p.1 + 64 * s * p.2 ≤ (64 * c + 32) * p.2 ↔ _
  have e : (64 * c + 32) * p.2 = (64 * (c - s) + 32) * p.2 + 64 * s * p.2 := by rw [← Int.add_mul]; congr 1; omega
  rw [e]; omega
theorem md_sh {p q : Place} (s : Int) (hp : 0 < p.2) (hq : 0 < q.2) : md (shP s p).1 (shP s p).2 (shP s q).1 (shP s q).2 = md p.1 p.2 q.1 q.2 + s := by
  refine int_eq_of_ge fun c => ?_
  rw [le_md_iff (n := (shP s p).1) (e := (shP s p).2) (m := (shP s q).1) (f := (shP s q).2) hp hq]
  have : c ≤ md p.1 p.2 q.1 q.2 + s ↔ c - s ≤ md p.1 p.2 q.1 q.2 := by omega
  rw [this, le_md_iff hp hq]
  show c * (128 * p.2 * q.2) ≤ (p.1 + 64 * s * p.2) * q.2 + (q.1 + 64 * s * q.2) * p.2 ↔ _
  have e1 : 64 * s * q.2 * p.2 = 64 * s * p.2 * q.2 := by rw [Int.mul_assoc, Int.mul_comm q.2, ← Int.mul_assoc]
  have e2 : (c - s) * (128 * p.2 * q.2) = c * (128 * p.2 * q.2) - s * (128 * p.2 * q.2) := Int.sub_mul ..
  have e3 : s * (128 * p.2 * q.2) = 2 * (64 * s * p.2 * q.2) := by
    rw [show (128 : Int) * p.2 * q.2 = 128 * (p.2 * q.2) by rw [Int.mul_assoc], Int.mul_left_comm, show 64 * s * p.2 * q.2 = 64 * (s * (p.2 * q.2)) by rw [Int.mul_assoc, Int.mul_assoc]]
    omega
  rw [Int.add_mul, Int.add_mul, e1, e2, e3]
  omega
theorem inS_sh {p q : Place} (s x : Int) (hp : 0 < p.2) (hq : 0 < q.2) : inS (shP s p, shP s q) (x + s) = inS (p, q) x := by
  have e1 := cf_sh s hp
  have e2 := cf_sh s hq
  have e3 := md_sh s hp hq
  rw [Bool.eq_iff_iff]
  simp only [inS, fillV, Bool.and_eq_true, decide_eq_true_eq]
  rw [e1, e2, e3]
  by_cases h : cf p.1 p.2 = cf q.1 q.2
  · rw [if_pos h, if_pos (by omega)]
    dsimp only
    omega
  · rw [if_neg h, if_neg (by omega)]
    dsimp only
    omega

/-! ### lines that are moved -/
def shPt (dx dy : Int) (p : Int × Int) : Int × Int := (p.1 + 64 * dx, p.2 + 64 * dy)
def shL (dx dy : Int) (ls : List Pts) : List Pts := ls.map fun l => l.map (shPt dx dy)
def OkP (p : Int × Int) : Prop := (-268435456 ≤ p.1 ∧ p.1 ≤ 268435456) ∧ -268435456 ≤ p.2 ∧ p.2 ≤ 268435456
def shE (dx dy : Int) (e : Edg) : Edg := (e.1 + 64 * dx, e.2.1 + 64 * dy, e.2.2.1 + 64 * dx, e.2.2.2.1 + 64 * dy, e.2.2.2.2)
theorem edgeP_sh {dx dy : Int} {s : (Int × Int) × (Int × Int)} (h1 : OkP s.1) (h2 : OkP s.2) (h3 : OkP (shPt dx dy s.1)) (h4 : OkP (shPt dx dy s.2)) : edgeP (shPt dx dy s.1, shPt dx dy s.2) = (edgeP s).map (shE dx dy) := by
  unfold OkP at *
  obtain ⟨⟨p1, p2⟩, q1, q2⟩ := s
  simp only [shPt] at h1 h2 h3 h4
  have c1 := cut_id h1.1; have c2 := cut_id h1.2; have c3 := cut_id h2.1; have c4 := cut_id h2.2
  have c5 := cut_id h3.1; have c6 := cut_id h3.2; have c7 := cut_id h4.1; have c8 := cut_id h4.2
  have e1 : edgeV (p1 + 64 * dx) (p2 + 64 * dy) (q1 + 64 * dx) (q2 + 64 * dy) = shE dx dy (edgeV p1 p2 q1 q2) := by
    unfold edgeV
    rw [c1, c2, c3, c4, c5, c6, c7, c8]
    by_cases h : q2 < p2
    · rw [if_pos h, if_pos (by omega)]; rfl
    · rw [if_neg h, if_neg (by omega)]; rfl
  show (if (edgeV (p1 + 64 * dx) (p2 + 64 * dy) (q1 + 64 * dx) (q2 + 64 * dy)).2.1 < (edgeV (p1 + 64 * dx) (p2 + 64 * dy) (q1 + 64 * dx) (q2 + 64 * dy)).2.2.2.1 then [edgeV (p1 + 64 * dx) (p2 + 64 * dy) (q1 + 64 * dx) (q2 + 64 * dy)] else []) = (if (edgeV p1 p2 q1 q2).2.1 < (edgeV p1 p2 q1 q2).2.2.2.1 then [edgeV p1 p2 q1 q2] else []).map (shE dx dy)
  rw [e1]
  generalize edgeV p1 p2 q1 q2 = e
  have e2 : (shE dx dy e).2.1 = e.2.1 + 64 * dy := rfl
  have e3 : (shE dx dy e).2.2.2.1 = e.2.2.2.1 + 64 * dy := rfl
  rw [e2, e3]
  by_cases h : e.2.1 < e.2.2.2.1
  · rw [if_pos h, if_pos (by omega)]; rfl
  · rw [if_neg h, if_neg (by omega)]; rfl
theorem crP_sh {dx dy : Int} (k : Int) {s : (Int × Int) × (Int × Int)} (h1 : OkP s.1) (h2 : OkP s.2) (h3 : OkP (shPt dx dy s.1)) (h4 : OkP (shPt dx dy s.2)) : crP (k + dy) (shPt dx dy s.1, shPt dx dy s.2) = (crP k s).map (shC dx) := by
  unfold crP
  rw [edgeP_sh h1 h2 h3 h4, List.filter_map, List.map_map, List.map_map]
  have e1 : (crB (64 * (k + dy) + 32)) ∘ shE dx dy = crB (64 * k + 32) := by
    funext e
    rw [Bool.eq_iff_iff]
    simp only [Function.comp, crB_iff, shE]
    omega
  rw [e1]
  refine List.map_congr_left fun e _ => ?_
  show crOf (64 * (k + dy) + 32) (shE dx dy e) = shC dx (crOf (64 * k + 32) e)
  simp only [crOf, shC, atN, atD, shE]
  have ed : e.2.2.2.1 + 64 * dy - (e.2.1 + 64 * dy) = e.2.2.2.1 - e.2.1 := by omega
  have ex : e.2.2.1 + 64 * dx - (e.1 + 64 * dx) = e.2.2.1 - e.1 := by omega
  have ey : 64 * (k + dy) + 32 - (e.2.1 + 64 * dy) = 64 * k + 32 - e.2.1 := by omega
  rw [ed, ex, ey, Int.add_mul]
  congr 1
  omega
theorem crs_sh {dx dy : Int} {ls : List Pts} (h : ∀ p ∈ ls.flatten, OkP p ∧ OkP (shPt dx dy p)) (k : Int) : crs (shL dx dy ls) (k + dy) = (crs ls k).map (shC dx) := by
  rw [crs_segs, crs_segs, segs, segs, shL, List.flatMap_map, List.flatMap_assoc, List.flatMap_assoc, List.map_flatMap]
  refine flatMap_congr' fun l hl => ?_
  rw [pairs_map, List.flatMap_map, List.map_flatMap]
  refine flatMap_congr' fun s hs => ?_
  have hm := pairs_mem hs
  have a := h s.1 (List.mem_flatten.2 ⟨l, hl, hm.1⟩)
  have b := h s.2 (List.mem_flatten.2 ⟨l, hl, hm.2⟩)
  exact crP_sh k a.1 b.1 a.2 b.2
theorem shC_inv (s : Int) (cs : List Cr) : (cs.map (shC s)).map (shC (-s)) = cs := by
  rw [List.map_map]
  refine (List.map_congr_left fun c _ => ?_).trans (List.map_id _)
  show (⟨c.n + 64 * s * c.d + 64 * -s * c.d, c.d, c.t⟩ : Cr) = c
  have e : c.n + 64 * s * c.d + 64 * -s * c.d = c.n := by
    rw [Int.add_assoc, ← Int.add_mul, show 64 * s + 64 * -s = 0 by omega, Int.zero_mul, Int.add_zero]
  rw [e]
theorem blk_sh {dx dy : Int} {ls : List Pts} (h : ∀ p ∈ ls.flatten, OkP p ∧ OkP (shPt dx dy p)) (x k : Int) : Blk (shL dx dy ls) x k ↔ Blk ls (x - dx) (k - dy) := by
  have e := crs_sh h (k - dy)
  rw [Int.sub_add_cancel] at e
  constructor
  · rintro ⟨a, b, hi, hin⟩
    rw [e] at hi
    obtain ⟨a', ha', rfl⟩ := List.mem_map.1 hi.ma
    obtain ⟨b', hb', rfl⟩ := List.mem_map.1 hi.mb
    have h2 := hi.sh (s := -dx)
    rw [shC_inv] at h2
    have e2 : ∀ c : Cr, shC (-dx) (shC dx c) = c := fun c => by
      have := shC_inv dx [c]
      simpa using this
    rw [e2, e2] at h2
    refine ⟨a', b', h2, ?_⟩
    rw [← inS_sh (p := a'.p) (q := b'.p) dx _ (crs_pos _ _ a' ha') (crs_pos _ _ b' hb'), Int.sub_add_cancel]
    exact hin
  · rintro ⟨a, b, hi, hin⟩
    refine ⟨shC dx a, shC dx b, by rw [e]; exact hi.sh, ?_⟩
    have := inS_sh (p := a.p) (q := b.p) dx (x - dx) (crs_pos _ _ a hi.ma) (crs_pos _ _ b hi.mb)
    rw [Int.sub_add_cancel] at this
    rw [shC_p, shC_p, this]
    exact hin

/-! ### strips that are moved -/
def shS (dx dy : Int) (ss : List Sp) : List Sp := ss.map fun s => ⟨s.x + dx, s.y + dy, s.t⟩
theorem shS_black (dx dy : Int) (ss : List Sp) (x y : Int) : blackAt (shS dx dy ss) x y = blackAt ss (x - dx) (y - dy) := by
  unfold blackAt shS
  rw [List.any_map]
  congr 1
  funext s
  simp only [Function.comp]
  rw [show x - (s.x + dx) = x - dx - s.x by omega]
  have e1 : decide (s.y + dy = y) = decide (s.y = y - dy) := by rw [decide_eq_decide]; omega
  have e2 : decide (s.x + dx ≤ x) = decide (s.x ≤ x - dx) := by rw [decide_eq_decide]; omega
  rw [e1, e2]
theorem shS_tight {dx dy : Int} {ss : List Sp} (h : ∀ s ∈ ss, Tight s) : ∀ s ∈ shS dx dy ss, Tight s := by
  intro s hs
  obtain ⟨s', h', rfl⟩ := List.mem_map.1 hs
  have := h s' h'
  exact ⟨this.pos, this.left, this.right⟩
theorem bx_sh (dx dy : Int) : ∀ (ss : List Sp) (q : Int × Int × Int × Int), (shS dx dy ss).foldl bxStep (q.1 + dx, q.2.1 + dx, q.2.2.1 + dy, q.2.2.2 + dy) = ((ss.foldl bxStep q).1 + dx, (ss.foldl bxStep q).2.1 + dx, (ss.foldl bxStep q).2.2.1 + dy, (ss.foldl bxStep q).2.2.2 + dy)
  | [], q => rfl
  | s :: ss, q => by
    have e : bxStep (q.1 + dx, q.2.1 + dx, q.2.2.1 + dy, q.2.2.2 + dy) ⟨s.x + dx, s.y + dy, s.t⟩ = ((bxStep q s).1 + dx, (bxStep q s).2.1 + dx, (bxStep q s).2.2.1 + dy, (bxStep q s).2.2.2 + dy) := by
      simp only [bxStep, Prod.mk.injEq]
      omega
    show (shS dx dy ss).foldl bxStep (bxStep _ _) = _
    rw [e, bx_sh dx dy ss (bxStep q s)]
    rfl
theorem bmOf_sh (dx dy : Int) (ss : List Sp) : bmOf (shS dx dy ss) = if (bmOf ss).W = 0 then Bm.nil else ⟨(bmOf ss).X + dx, (bmOf ss).Y + dy, (bmOf ss).W, (bmOf ss).H, (bmOf ss).rows⟩ := by
  cases ss with
  | nil => rfl
  | cons s0 ss =>
    have hb := bx_bounds (s0 :: ss) (s0.x, s0.x, s0.y, s0.y)
    have hq : bxOf ⟨s0.x + dx, s0.y + dy, s0.t⟩ (shS dx dy (s0 :: ss)) = _ := bx_sh dx dy (s0 :: ss) (s0.x, s0.x, s0.y, s0.y)
    have eq0 : bxOf s0 (s0 :: ss) = (s0 :: ss).foldl bxStep (s0.x, s0.x, s0.y, s0.y) := rfl
    show bmIn (shS dx dy (s0 :: ss)) (bxOf _ (shS dx dy (s0 :: ss))) = _
    rw [hq]
    have eB : bmOf (s0 :: ss) = bmIn (s0 :: ss) ((s0 :: ss).foldl bxStep (s0.x, s0.x, s0.y, s0.y)) := rfl
    rw [eB]
    clear eB eq0 hq
    generalize (s0 :: ss).foldl bxStep (s0.x, s0.x, s0.y, s0.y) = q at *
    generalize hS : s0 :: ss = S at *
    have e1 : q.2.1 + dx - (q.1 + dx) + 1 = q.2.1 - q.1 + 1 := by omega
    have e2 : q.2.2.2 + dy - (q.2.2.1 + dy) + 1 = q.2.2.2 - q.2.2.1 + 1 := by omega
    unfold bmIn
    dsimp only
    rw [e1, e2]
    by_cases h : 1024 < q.2.1 - q.1 + 1 ∨ 1024 < q.2.2.2 - q.2.2.1 + 1
    · rw [if_pos h, if_pos h, if_pos (show Bm.nil.W = 0 from rfl)]
    · rw [if_neg h, if_neg h, if_neg (by dsimp only at hb ⊢; omega)]
      dsimp only
      congr 1
      refine List.map_congr_left fun m _ => ?_
      congr 1
      funext j
      rw [shS_black]
      congr 1 <;> omega

/-! ### the law -/
theorem moves_in {N : List Pts} {dx dy : Int} (h : ∀ p ∈ N.flatten, -2048 ≤ p.1 ∧ p.1 ≤ 2047 ∧ -2048 ≤ p.2 ∧ p.2 ≤ 2047) (hd : -512 ≤ dx ∧ dx ≤ 511 ∧ -512 ≤ dy ∧ dy ≤ 511) {p : Int × Int} (hp : p ∈ (shL dx dy N).flatten) : ∃ q ∈ N.flatten, p = shPt dx dy q := by
  obtain ⟨l, hl, hp⟩ := List.mem_flatten.1 hp
  obtain ⟨l0, hl0, rfl⟩ := List.mem_map.1 hl
  obtain ⟨q, hq, rfl⟩ := List.mem_map.1 hp
  exact ⟨q, List.mem_flatten.2 ⟨l0, hl0, hq⟩, rfl⟩
theorem sh_flat_nil {N : List Pts} {dx dy : Int} : (shL dx dy N).flatten = [] ↔ N.flatten = [] := by
  rw [← List.length_eq_zero_iff, ← List.length_eq_zero_iff]
  simp [shL, List.length_flatten, Function.comp_def]
theorem moves_fill {N : List Pts} {dx dy : Int} (h : ∀ p ∈ N.flatten, -2048 ≤ p.1 ∧ p.1 ≤ 2047 ∧ -2048 ≤ p.2 ∧ p.2 ≤ 2047) (hd : -512 ≤ dx ∧ dx ≤ 511 ∧ -512 ≤ dy ∧ dy ≤ 511) :
    fillB (shL dx dy N) = (if (fillB N).W = 0 then Bm.nil else ⟨(fillB N).X + dx, (fillB N).Y + dy, (fillB N).W, (fillB N).H, (fillB N).rows⟩) ∧ overB Bm.nil (fillB N) dx dy = fillB (shL dx dy N) := by
  have hcx : cut dx = dx := cut_id (by omega)
  have hcy : cut dy = dy := cut_id (by omega)
  have hov : overB Bm.nil (fillB N) dx dy = bmOf (movedS (fillB N) dx dy) := by
    unfold overB
    rw [hcx, hcy]
    rfl
  by_cases hne : N.flatten = []
  · rw [hov, fill_none hne, fill_none (sh_flat_nil.2 hne)]
    exact ⟨rfl, rfl⟩
  · have hs := near_small h hne
    have hw := box_within _ _ _ _ h (by omega) (by omega) hs
    have hs2 : Small (shL dx dy N) := small_of (-2048 + 64 * dx) (2047 + 64 * dx) (-2048 + 64 * dy) (2047 + 64 * dy) (fun h2 => hne (sh_flat_nil.1 h2)) (fun p hp => by
      obtain ⟨q, hq, rfl⟩ := moves_in h hd hp
      have := h q hq
      simp only [shPt]
      omega) (by omega) (by omega)
    have hblk : ∀ x y, Blk (shL dx dy N) x y ↔ Blk N (x - dx) (y - dy) := blk_sh fun p hp => by
      have := h p hp
      simp only [OkP, shPt]
      omega
    have hfb := fun x y => fill_black hs.2.1 hs.2.2 x y
    have hin : ∀ x y, blackAt (fillS N (boxP N)) x y = true → -500 ≤ x ∧ x ≤ 500 ∧ -500 ≤ y ∧ y ≤ 500 := fun x y hb => by
      have := blk_in hs ((hfb x y).1 hb)
      omega
    have e1 : fillB (shL dx dy N) = bmOf (shS dx dy (fillS N (boxP N))) := fill_canon hs2 (shS_tight fillS_tight) fun x y => by
      rw [shS_black, hfb]; exact hblk x y
    refine ⟨by rw [e1, bmOf_sh, ← fillB_small hs], ?_⟩
    rw [hov, e1]
    refine bmOf_canon (moved_tight _ _ _) (shS_tight fillS_tight) fun x y => ?_
    rw [moved_black, shS_black, fillB_small hs, at_bmOf fillS_tight hin]
    constructor
    · exact fun h => h.1
    · intro hb
      have := hin _ _ hb
      exact ⟨hb, (cut_iff _).2 (by omega), (cut_iff _).2 (by omega)⟩

end Go.Proofs.Ytbgolbkolcmldaa
