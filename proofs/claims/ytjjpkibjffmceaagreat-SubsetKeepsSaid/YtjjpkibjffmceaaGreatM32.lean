/-
  The law: what is kept of each glyph, and of characters.
-/
import Derived.Test.YtjjpkibjffmceaaGreatM31
namespace Go.Proofs.YtjjpkibjffmceaaGreat
open Go.RowKit
attribute [local irreducible] AT bT AX AO Av Kt bk ej DA cX
set_option maxHeartbeats 8000000 in
theorem rA (a : zU) : bO Tryz.prog 4 [.agg (Ae a)] (cF true) := by
 refine aP Tryz.func4 rfl Tryz.ntmps4 rfl fun B => ?_
 haveI c1 : AD Tryz.prog 7 [] (cF true) := ⟨xd⟩
 haveI c2 : AD Tryz.prog 8 [.imm 1 (aU a.Font)] (cr (lQ (a.Font.take 300))) := ⟨wE _⟩
 have hG := B9 (a.Font.take 300)
 repeat' (first|refine ah ?_|refine a7 ?_|refine a8 ?_|refine aa ?_|refine ae a6 rfl rfl ?_|(apply aH; first|refine ai 4 a6 0 rfl rfl rfl rfl rfl rfl rfl rfl ?_|refine ai 4 a6 1 rfl rfl rfl rfl rfl rfl rfl rfl ?_|refine ai 4 a6 2 rfl rfl rfl rfl rfl rfl rfl rfl ?_|refine ai 5 a6 0 rfl rfl rfl rfl rfl rfl rfl rfl ?_|refine ai 5 a6 1 rfl rfl rfl rfl rfl rfl rfl rfl ?_|refine ai 5 a6 2 rfl rfl rfl rfl rfl rfl rfl rfl ?_|refine ai 6 a6 0 rfl rfl rfl rfl rfl rfl rfl rfl ?_|refine ai 6 a6 1 rfl rfl rfl rfl rfl rfl rfl rfl ?_|refine ai 6 a6 2 rfl rfl rfl rfl rfl rfl rfl rfl ?_|refine aj a6 0 rfl rfl rfl rfl rfl rfl rfl ?_|refine aj a6 1 rfl rfl rfl rfl rfl rfl rfl ?_|refine aj a6 2 rfl rfl rfl rfl rfl rfl rfl ?_|refine aj a6 3 rfl rfl rfl rfl rfl rfl rfl ?_|fail)|refine be ?_|refine b5 a6 fun _=>?_|(apply bA;refine bh ?_)|fail)
 generalize lQ (a.Font.take 300) = f at hG c2 ⊢
 refine bh (hc := ⟨sV a⟩) ?_
 have hb1 : (vR a.Runes).any rX = false := vU fun z hz => .inl (vS hz)
 generalize vR a.Runes = rs at hb1 ⊢
 generalize A8 a.Features = fs
 have hd1 := sC hG rs fs hb1
 have hset := kq f rs fs
 have hup := yp f rs fs
 have hpart : ∀ z ∈ gI f rs fs, ∀ g, f.Glyphs[z.toNat]? = some g → ∀ p ∈ g.Parts, p.Glyph ∈ gI f rs fs := fun z hz g hg p hp => wA hG hz hg hp
 have hchar : ∀ c ∈ f.Chars, c.Rune ∈ rs → c.Glyph ∈ gI f rs fs := fun c hc hr => wz hG hc hr
 have hpr : zN (pC f rs fs (gI f rs fs) (dx f fs)) := Ap hG.fpr (wy f rs fs) (uz f fs)
 generalize gI f rs fs = G at hd1 hset hup hpart hchar hpr
 generalize dx f fs = K at hd1 hpr
 have hcg := w7 (f := f) (rs := rs) (fs := fs) (G := G) (K := K) hset
 have hcc : (pC f rs fs G K).Chars = f.Chars.filterMap (dG G rs) := rfl
 generalize pC f rs fs G K = g at hd1 hcg hcc hpr
 have hgl : (aU G).length = G.length := aQ G
 have hGlen := hset.len
 have hGN := hG.glyN.2
 have hgm : (g.Glyphs.map bb).length = g.Glyphs.length := Gu ..
 have hfm : (f.Glyphs.map bb).length = f.Glyphs.length := Gu ..
 haveI c3 : AD Tryz.prog 14 [.imm 1 (aU G), aM (((f.Glyphs.map bb).length : Nat) : Int)] (cF true) := ⟨sW G _ hup fun z hz => by have := hset.dom z hz; omega⟩
 unfold cr nD at hd1
 haveI := AD.mk hd1
 repeat' (first|refine ah ?_|refine a7 ?_|refine a8 ?_|refine aa ?_|refine ae a6 rfl rfl ?_|refine aG rfl rfl ?_|(apply aH; first|refine ai 4 a6 0 rfl rfl rfl rfl rfl rfl rfl rfl ?_|refine ai 4 a6 1 rfl rfl rfl rfl rfl rfl rfl rfl ?_|refine ai 4 a6 2 rfl rfl rfl rfl rfl rfl rfl rfl ?_|refine ai 5 a6 0 rfl rfl rfl rfl rfl rfl rfl rfl ?_|refine ai 5 a6 1 rfl rfl rfl rfl rfl rfl rfl rfl ?_|refine ai 5 a6 2 rfl rfl rfl rfl rfl rfl rfl rfl ?_|refine ai 6 a6 0 rfl rfl rfl rfl rfl rfl rfl rfl ?_|refine ai 6 a6 1 rfl rfl rfl rfl rfl rfl rfl rfl ?_|refine ai 6 a6 2 rfl rfl rfl rfl rfl rfl rfl rfl ?_|refine aj a6 0 rfl rfl rfl rfl rfl rfl rfl ?_|refine aj a6 1 rfl rfl rfl rfl rfl rfl rfl ?_|refine aj a6 2 rfl rfl rfl rfl rfl rfl rfl ?_|refine aj a6 3 rfl rfl rfl rfl rfl rfl rfl ?_|fail)|refine b5 a6 fun _=>?_|(apply bA;refine bh ?_)|fail)
 rw [decide_eq_false (show ¬ (((aU G).length : Nat) : Int) ≠ (((g.Glyphs.map bb).length : Nat) : Int) by have := hcg.1; omega)]
 repeat' (first|refine ah ?_|refine a7 ?_|refine aq ?_|refine au ?_|refine a8 ?_|refine aa ?_|refine ae a6 rfl rfl ?_|refine aG rfl rfl ?_|(apply bA;refine bh ?_)|refine bv rfl ?_)
 refine bK (bY (L' := []) (List.nil_sublist _)) ?_
 refine aN [4, 5, 6, 7] (α := Nat) (fun i => [(9, aM i)]) (fun i => i ≤ G.length) (fun _ => []) (fun i => G.length - i) 0 rfl ⟨rfl, trivial⟩ (Nat.zero_le _) (fun _ _ h => h) ?_
 intro i hi
 try dsimp only [Gr, Gq, Gp, Gj]
 repeat' (first|refine ah ?_|refine a7 ?_|refine a8 ?_|refine aa ?_|refine ae a6 rfl rfl ?_)
 refine aw rfl (fun hh => ?_) (fun hh => ?_)
 ·have hil : i < G.length := by have := Gz hh; omega
  obtain ⟨z, hz⟩ : ∃ z, G[i]? = some z := ⟨_, Ds hil⟩
  have hzg := bN hz
  have hzm := Gx hz
  have hzd := hset.dom z hzm
  obtain ⟨y, hy, hx⟩ := hcg.2 i z hz
  have hyg := bj (c := bb) hy
  have hxg := bj (c := bb) hx
  have hps := w8 (G := G) (y := y) fun p hp => hpart z hzm y hy p hp
  have hyp : rE y := hG.gpr (Gx hy)
  have hyp0 : rE { y with Parts := [] } := ⟨hyp.name, hyp.adv, hyp.pts, hyp.ends, ⟨Nat.zero_le _, fun p hp => by cases hp⟩, hyp.anchors, hyp.deltas, hyp.hint⟩
  have hyN := hyp.parts.1
  have m1 : ((dC G y).Parts.map cn).length = (dC G y).Parts.length := Gu ..
  have m2 : (y.Parts.map cn).length = y.Parts.length := Gu ..
  clear hh
  repeat' (first|refine ah ?_|refine a7 ?_|refine aq ?_|refine au ?_|refine a8 ?_|refine aa ?_|refine ae a6 rfl rfl ?_|(apply aY; first|refine aX a6 ?_|refine aS a6 ?_)|(apply aH; first|refine ai 4 a6 0 rfl rfl rfl rfl rfl rfl rfl rfl ?_|refine ai 4 a6 1 rfl rfl rfl rfl rfl rfl rfl rfl ?_|refine ai 4 a6 2 rfl rfl rfl rfl rfl rfl rfl rfl ?_|refine ai 5 a6 0 rfl rfl rfl rfl rfl rfl rfl rfl ?_|refine ai 5 a6 1 rfl rfl rfl rfl rfl rfl rfl rfl ?_|refine ai 5 a6 2 rfl rfl rfl rfl rfl rfl rfl rfl ?_|refine ai 6 a6 0 rfl rfl rfl rfl rfl rfl rfl rfl ?_|refine ai 6 a6 1 rfl rfl rfl rfl rfl rfl rfl rfl ?_|refine ai 6 a6 2 rfl rfl rfl rfl rfl rfl rfl rfl ?_|refine aj a6 0 rfl rfl rfl rfl rfl rfl rfl ?_|refine aj a6 1 rfl rfl rfl rfl rfl rfl rfl ?_|refine aj a6 2 rfl rfl rfl rfl rfl rfl rfl ?_|refine aj a6 3 rfl rfl rfl rfl rfl rfl rfl ?_|fail)|refine b5 a6 fun _=>?_|fail)
  refine bt 9 [(0, .v), (1, .v), (2, .v), (3, .v), (4, .v), (5, .v), (6, .v), (7, .v)] (some (8, .box _ 63)) ?_ ⟨_, rfl, rfl, fun _ _ _ => gX (eV a6 rfl) rfl⟩ rfl (by kernel_rfl) (by kernel_rfl) (by kernel_rfl) mixed (by kernel_rfl) rfl
  repeat' (first|refine aE ?_|refine aZ a6 ?_|(apply bP;refine c8 a6 ?_)|fail)
  refine kj [4, 5, 6, 7, 9, 10, 11, 69] (fun _ => _) (fun _ => rfl) rfl fun _ => ?_
  repeat' (first|refine ah ?_|refine a7 ?_|refine a8 ?_|refine aa ?_|refine ae a6 rfl rfl ?_|(apply bB; first|refine ak a6 0 rfl rfl rfl rfl rfl ?_|refine ak a6 1 rfl rfl rfl rfl rfl ?_|refine ak a6 2 rfl rfl rfl rfl rfl ?_|refine ak a6 3 rfl rfl rfl rfl rfl ?_|refine aD a6 0 rfl rfl rfl rfl rfl ?_|refine aD a6 1 rfl rfl rfl rfl rfl ?_|refine aD a6 2 rfl rfl rfl rfl rfl ?_|refine ak a6 1 rfl rfl rfl (by assumption) rfl ?_|refine ak a6 0 rfl rfl rfl (by assumption) rfl ?_|fail)|(apply aH; first|refine ai 4 a6 0 rfl rfl rfl rfl rfl rfl rfl rfl ?_|refine ai 4 a6 1 rfl rfl rfl rfl rfl rfl rfl rfl ?_|refine ai 4 a6 2 rfl rfl rfl rfl rfl rfl rfl rfl ?_|refine ai 5 a6 0 rfl rfl rfl rfl rfl rfl rfl rfl ?_|refine ai 5 a6 1 rfl rfl rfl rfl rfl rfl rfl rfl ?_|refine ai 5 a6 2 rfl rfl rfl rfl rfl rfl rfl rfl ?_|refine ai 6 a6 0 rfl rfl rfl rfl rfl rfl rfl rfl ?_|refine ai 6 a6 1 rfl rfl rfl rfl rfl rfl rfl rfl ?_|refine ai 6 a6 2 rfl rfl rfl rfl rfl rfl rfl rfl ?_|refine aj a6 0 rfl rfl rfl rfl rfl rfl rfl ?_|refine aj a6 1 rfl rfl rfl rfl rfl rfl rfl ?_|refine aj a6 2 rfl rfl rfl rfl rfl rfl rfl ?_|refine aj a6 3 rfl rfl rfl rfl rfl rfl rfl ?_|fail))
  rename_i xb yb
  refine bK (bY (L' := [(xb, .box (bb (dC G y)) 63), (yb, .box (bb y) 63)]) (List.Sublist.refl _)) ?_
  rw [decide_eq_false (show ¬ ((((dC G y).Parts.map cn).length : Nat) : Int) ≠ (((y.Parts.map cn).length : Nat) : Int) by have := hps.1; omega)]
  repeat' (first|refine ah ?_|refine a7 ?_|refine aq ?_|refine au ?_|refine a8 ?_|refine aa ?_|refine ae a6 rfl rfl ?_|refine bv rfl ?_)
  refine aN [4, 5, 6, 7, 9, 10, 11] (α := Nat) (fun k => [(12, aM k)]) (fun k => k ≤ y.Parts.length) (fun _ => [(xb, .box (bb (dC G y)) 63), (yb, .box (bb y) 63)]) (fun k => y.Parts.length - k) 0 rfl ⟨rfl, trivial⟩ (Nat.zero_le _) (fun _ _ h => h) ?_
  intro k hk
  try dsimp only [Gr, Gq, Gp, Gj]
  repeat' (first|refine ah ?_|refine a7 ?_|refine a8 ?_|refine aa ?_|refine ae a6 rfl rfl ?_|(apply bB; first|refine ak a6 0 rfl rfl rfl rfl rfl ?_|refine ak a6 1 rfl rfl rfl rfl rfl ?_|refine ak a6 2 rfl rfl rfl rfl rfl ?_|refine ak a6 3 rfl rfl rfl rfl rfl ?_|refine aD a6 0 rfl rfl rfl rfl rfl ?_|refine aD a6 1 rfl rfl rfl rfl rfl ?_|refine aD a6 2 rfl rfl rfl rfl rfl ?_|refine ak a6 1 rfl rfl rfl (by assumption) rfl ?_|refine ak a6 0 rfl rfl rfl (by assumption) rfl ?_|fail)|fail)
  refine aw rfl (fun hh => ?_) (fun hh => ?_)
  ·have hkl : k < y.Parts.length := by have := Gz hh; have := hps.1; omega
   obtain ⟨p, hp⟩ : ∃ p, y.Parts[k]? = some p := ⟨_, Ds hkl⟩
   obtain ⟨n, hn, hn1, hq⟩ := hps.2 k p hp
   obtain ⟨Q, hQ⟩ : ∃ Q : cB, Q = { p with Glyph := (n : Int) } := ⟨_, rfl⟩
   rw [← hQ] at hq
   have q1 : Q.Glyph = n := by rw [hQ]
   have q2 : Q.X = p.X := by rw [hQ]
   have q3 : Q.Y = p.Y := by rw [hQ]
   clear hQ
   have hpg := bj (c := cn) hp
   have hqg := bj (c := cn) hq
   have hng := bN (i := Q.Glyph.toNat) (l := G) (by rw [q1, Int.toNat_natCast]; exact hn1)
   clear hh
   repeat' (first|refine ah ?_|refine a7 ?_|refine aq ?_|refine au ?_|refine a8 ?_|refine aa ?_|refine ae a6 rfl rfl ?_|(apply bB; first|refine ak a6 0 rfl rfl rfl rfl rfl ?_|refine ak a6 1 rfl rfl rfl rfl rfl ?_|refine ak a6 2 rfl rfl rfl rfl rfl ?_|refine ak a6 3 rfl rfl rfl rfl rfl ?_|refine aD a6 0 rfl rfl rfl rfl rfl ?_|refine aD a6 1 rfl rfl rfl rfl rfl ?_|refine aD a6 2 rfl rfl rfl rfl rfl ?_|refine ak a6 1 rfl rfl rfl (by assumption) rfl ?_|refine ak a6 0 rfl rfl rfl (by assumption) rfl ?_|fail)|(apply aY; first|refine aX a6 ?_|refine aS a6 ?_)|fail)
   refine bt 51 [(0, .v), (1, .v), (2, .v), (3, .v), (4, .v), (5, .v), (6, .v), (7, .v), (8, .v), (9, .v), (10, .v), (11, .v), (12, .v), (13, .v), (14, .l), (15, .v), (16, .v), (17, .v), (18, .v), (19, .v), (20, .v), (21, .v), (22, .v), (23, .l), (24, .v), (25, .v), (26, .v), (27, .v), (28, .v), (29, .l), (30, .v), (31, .v), (32, .v), (33, .v), (34, .v), (35, .v), (36, .v), (37, .v), (38, .l), (39, .v), (40, .v), (41, .v), (42, .v), (43, .v), (44, .l), (45, .v), (46, .v), (47, .v), (48, .v), (49, .v), (50, .v)] none ?_ trivial rfl (by kernel_rfl) (by kernel_rfl) (by kernel_rfl) mixed (by kernel_rfl) rfl
   repeat' (first|refine aE ?_|refine aZ a6 ?_|fail)
   rw [decide_eq_false (show ¬ Q.Glyph < 0 by omega)]
   repeat' (first|refine aE ?_|refine aZ a6 ?_|fail)
   rw [decide_eq_false (show ¬ (((aU G).length : Nat) : Int) ≤ Q.Glyph by omega)]
   repeat' (first|refine aE ?_|refine aZ a6 ?_|(apply bP;refine c8 a6 ?_)|refine cI a6 1 rfl rfl rfl rfl (by first|trivial|rfl) ?_)
   rw [decide_eq_false (show ¬ p.Glyph ≠ p.Glyph from fun h => h rfl)]
   repeat' (first|refine aE ?_|refine aZ a6 ?_|(apply bP;refine c8 a6 ?_)|refine cI a6 0 rfl rfl rfl rfl (by first|trivial|rfl) ?_|refine cI a6 1 rfl rfl rfl rfl (by first|trivial|rfl) ?_)
   rw [decide_eq_false (show ¬ Q.X ≠ p.X from fun h => h q2)]
   repeat' (first|refine aE ?_|refine aZ a6 ?_|(apply bP;refine c8 a6 ?_)|refine cI a6 0 rfl rfl rfl rfl (by first|trivial|rfl) ?_|refine cI a6 1 rfl rfl rfl rfl (by first|trivial|rfl) ?_)
   rw [decide_eq_false (show ¬ Q.Y ≠ p.Y from fun h => h q3)]
   repeat' (first|fail)
   refine br [4, 5, 6, 7, 9, 10, 11, 12, 140] rfl rfl ?_
   repeat' (first|refine a7 ?_|refine au ?_|refine a8 ?_|refine aI ?_|refine aa ?_|refine ae a6 rfl rfl ?_|(apply aW; refine aV ?_)|refine bv rfl ?_)
   exact aC (k + 1) rfl ⟨by rw [Gw]; rfl, trivial⟩ (by omega) (by omega) (fun _ _ h => h)
  have hkl : k = y.Parts.length := by have := Gy hh; have := hps.1; omega
  clear hh
  repeat' (first|refine ah ?_|refine a7 ?_|refine aR ?_|refine a8 ?_|refine av ?_|refine aB ?_|refine ay ?_|refine aa ?_|refine ae a6 rfl rfl ?_|(apply aH; first|refine ai 4 a6 0 rfl rfl rfl rfl rfl rfl rfl rfl ?_|refine ai 4 a6 1 rfl rfl rfl rfl rfl rfl rfl rfl ?_|refine ai 4 a6 2 rfl rfl rfl rfl rfl rfl rfl rfl ?_|refine ai 5 a6 0 rfl rfl rfl rfl rfl rfl rfl rfl ?_|refine ai 5 a6 1 rfl rfl rfl rfl rfl rfl rfl rfl ?_|refine ai 5 a6 2 rfl rfl rfl rfl rfl rfl rfl rfl ?_|refine ai 6 a6 0 rfl rfl rfl rfl rfl rfl rfl rfl ?_|refine ai 6 a6 1 rfl rfl rfl rfl rfl rfl rfl rfl ?_|refine ai 6 a6 2 rfl rfl rfl rfl rfl rfl rfl rfl ?_|refine aj a6 0 rfl rfl rfl rfl rfl rfl rfl ?_|refine aj a6 1 rfl rfl rfl rfl rfl rfl rfl ?_|refine aj a6 2 rfl rfl rfl rfl rfl rfl rfl ?_|refine aj a6 3 rfl rfl rfl rfl rfl rfl rfl ?_|fail))
  refine bK (bi 0 (cs' := bb { y with Parts := [] }) rfl fun σ vs h => mZ.vrs (a := gg (bb (dC G y)) (0 + 5) [.sc (.slice none 0 0)]) (b := bb { y with Parts := [] }) ⟨dw.refl _, dw.refl _, dw.refl _, dw.refl _, dw.refl _, dw.nil 3, dw.refl _, dw.refl _, dw.refl _, trivial⟩ h) ?_
  refine bK (bi 1 (cs' := bb { y with Parts := [] }) rfl fun σ vs h => mZ.vrs (a := gg (bb y) (0 + 5) [.sc (.slice none 0 0)]) (b := bb { y with Parts := [] }) ⟨dw.refl _, dw.refl _, dw.refl _, dw.refl _, dw.refl _, dw.nil 3, dw.refl _, dw.refl _, dw.refl _, trivial⟩ h) ?_
  refine bK (bY (L' := [(xb, .box (bb { y with Parts := [] }) 63), (yb, .box (bb { y with Parts := [] }) 63)]) (List.Sublist.refl _)) ?_
  generalize ({ y with Parts := [] } : bf) = Y at hyp0
  haveI : Fd Y := ⟨hyp0⟩
  refine bt 3 [(0, .l), (1, .v), (2, .l)] none ?_ trivial rfl (by kernel_rfl) (by kernel_rfl) (by kernel_rfl) mixed (by kernel_rfl) rfl
  repeat' (first|refine aE ?_|refine nL a6 0 rfl rfl rfl rfl (by first|trivial|rfl) ?_)
  refine cm (hc := ⟨oB Y hyp0⟩) ?_
  repeat' (first|refine aE ?_|refine nL a6 1 rfl rfl rfl rfl (by first|trivial|rfl) ?_)
  refine br [4, 5, 6, 7, 9, 144, 145] rfl rfl ?_
  repeat' (first|fail)
  refine bh (hc := ⟨oB Y hyp0⟩) ?_
  repeat' (first|refine a8 ?_|refine aa ?_|refine ae a6 rfl rfl ?_)
  rw [decide_eq_false (show ¬ r1 Y ≠ r1 Y from fun h => h rfl)]
  repeat' (first|refine a7 ?_|refine au ?_|refine a8 ?_|refine aI ?_|refine aa ?_|refine ae a6 rfl rfl ?_|(apply aW; refine aV ?_)|refine bv rfl ?_)
  refine cO (L' := []) (List.nil_sublist _) ?_
  exact aC (i + 1) rfl ⟨by rw [Gw]; rfl, trivial⟩ (by omega) (by omega) (fun _ _ h => h)
 have hil : i = G.length := by have := Gy hh; omega
 clear hh
 have hcm : (f.Chars.map ci).length = f.Chars.length := Gu ..
 have hgc : (g.Chars.map ci).length = g.Chars.length := Gu ..
 have hfc := hG.chars
 repeat' (first|refine ah ?_|refine a7 ?_|refine aq ?_|refine aR ?_|refine a8 ?_|refine av ?_|refine aB ?_|refine ay ?_|refine aa ?_|refine ae a6 rfl rfl ?_)
 refine aN [4, 5, 6, 7] (α := Nat) (fun j => [(15, aM j), (14, aM (((f.Chars.take j).filterMap (dG G rs)).length : Nat))]) (fun j => j ≤ f.Chars.length) (fun _ => []) (fun j => f.Chars.length - j) 0 rfl ⟨rfl, rfl, trivial⟩ (Nat.zero_le _) (fun _ _ h => h) ?_
 intro j hj
 have hfl := Nat.le_trans (List.length_filterMap_le (dG G rs) (f.Chars.take j)) (by rw [List.length_take]; omega : (f.Chars.take j).length ≤ 16)
 try dsimp only [Gr, Gq, Gp, Gj]
 repeat' (first|refine ah ?_|refine a7 ?_|refine a8 ?_|refine aa ?_|refine ae a6 rfl rfl ?_)
 refine aw rfl (fun hh => ?_) (fun hh => ?_)
 ·have hjl : j < f.Chars.length := by have := Gz hh; omega
  obtain ⟨c, hc⟩ : ∃ c, f.Chars[j]? = some c := ⟨_, Ds hjl⟩
  have hcgt := bj (c := ci) hc
  have hst : (f.Chars.take (j + 1)).filterMap (dG G rs) = (f.Chars.take j).filterMap (dG G rs) ++ (dG G rs c).toList := fv hc
  clear hh
  repeat' (first|refine ah ?_|refine aq ?_|refine au ?_|refine a8 ?_)
  refine bt 8 [(0, .v), (1, .v), (2, .v), (3, .v), (4, .v), (5, .v), (6, .v), (7, .v)] none ?_ trivial rfl (by kernel_rfl) (by kernel_rfl) (by kernel_rfl) mixed (by kernel_rfl) rfl
  repeat' (first|refine aE ?_|refine aZ a6 ?_|(apply bP;refine c8 a6 ?_)|fail)
  refine br [4, 5, 6, 7, 14, 15, 156, 162] rfl rfl ?_
  repeat' (first|refine a8 ?_|refine aa ?_|refine ae a6 rfl rfl ?_|(apply bA;refine bh ?_)|fail)
  cases hr : rs.contains c.Rune with
  | false =>
   have hno : dG G rs c = none := by unfold dG; rw [if_neg]; intro hm; rw [List.contains_iff_mem.2 hm] at hr; cases hr
   rw [hno, Option.toList_none, List.append_nil] at hst
   repeat' (first|refine a7 ?_|refine aR ?_|refine a8 ?_|refine av ?_|refine aB ?_|refine aa ?_|refine ae a6 rfl rfl ?_|(apply aW; refine aV ?_)|refine bQ rfl ?_)
   exact aC (j + 1) rfl ⟨by rw [Gw]; rfl, by rw [hst]; rfl, trivial⟩ (by omega) (by omega) (fun _ _ h => h)
  | true =>
   have hrm : c.Rune ∈ rs := List.contains_iff_mem.1 hr
   have hcG := hchar c (Gx hc) hrm
   obtain ⟨p1, p2⟩ := nS hcG
   have hm := List.idxOf_lt_length_of_mem hcG
   have hw : dG G rs c = some { c with Glyph := (G.idxOf c.Glyph : Int) } := by unfold dG; rw [if_pos hrm, p1]; rfl
   have hat := E3 hc hw
   rw [hw, Option.toList_some] at hst
   rw [← hcc] at hat
   obtain ⟨Q, hQ⟩ : ∃ Q : dO, Q = { c with Glyph := (G.idxOf c.Glyph : Int) } := ⟨_, rfl⟩
   rw [← hQ] at hat
   have q1 : Q.Glyph = (G.idxOf c.Glyph : Int) := by rw [hQ]
   have q2 : Q.Rune = c.Rune := by rw [hQ]
   clear hQ hw
   have hst2 : ((f.Chars.take (j + 1)).filterMap (dG G rs)).length = ((f.Chars.take j).filterMap (dG G rs)).length + 1 := by rw [hst, List.length_append]; rfl
   clear hst
   have hnl := (Gn hat).1
   generalize hnn : ((f.Chars.take j).filterMap (dG G rs)).length = nn at hat hnl hst2 hfl ⊢
   have hqg := bj (c := ci) hat
   have hng := bN (i := Q.Glyph.toNat) (l := G) (by rw [q1, Int.toNat_natCast]; exact p2)
   repeat' (first|refine ah ?_|refine au ?_|refine a8 ?_|refine bv rfl ?_)
   refine bt 58 [(0, .v), (1, .v), (2, .v), (3, .v), (4, .v), (5, .v), (6, .v), (7, .v), (8, .v), (9, .v), (10, .v), (11, .v), (12, .v), (13, .v), (14, .v), (15, .v), (16, .v), (17, .v), (18, .v), (19, .v), (20, .v), (21, .v), (22, .v), (23, .v), (24, .v), (25, .v), (26, .v), (27, .v), (28, .v), (29, .v), (30, .v), (31, .v), (32, .v), (33, .v), (34, .v), (35, .v), (36, .v), (37, .v), (38, .v), (39, .v), (40, .v), (41, .v), (42, .v), (43, .v), (44, .v), (45, .v), (46, .v), (47, .v), (48, .v), (49, .v), (50, .v), (51, .v), (52, .v), (53, .v), (54, .v), (55, .v), (56, .v), (57, .v)] none ?_ trivial rfl (by kernel_rfl) (by kernel_rfl) (by kernel_rfl) mixed (by kernel_rfl) rfl
   repeat' (first|refine aE ?_|refine aZ a6 ?_|fail)
   rw [decide_eq_false (show ¬ (((g.Chars.map ci).length : Nat) : Int) ≤ (nn : Int) by omega)]
   repeat' (first|refine aE ?_|refine aZ a6 ?_|(apply bP;refine c8 a6 ?_)|fail)
   rw [decide_eq_false (show ¬ Q.Rune ≠ c.Rune from fun h => h q2)]
   repeat' (first|refine aE ?_|refine aZ a6 ?_|(apply bP;refine c8 a6 ?_)|fail)
   rw [decide_eq_false (show ¬ Q.Glyph < 0 by omega)]
   repeat' (first|refine aE ?_|refine aZ a6 ?_|(apply bP;refine c8 a6 ?_)|fail)
   rw [decide_eq_false (show ¬ (((aU G).length : Nat) : Int) ≤ Q.Glyph by omega)]
   repeat' (first|refine aE ?_|refine aZ a6 ?_|(apply bP;refine c8 a6 ?_)|fail)
   rw [decide_eq_false (show ¬ c.Glyph ≠ c.Glyph from fun h => h rfl)]
   repeat' (first|fail)
   refine br [4, 5, 6, 7, 14, 15, 222] rfl rfl ?_
   repeat' (first|refine a7 ?_|refine au ?_|refine a8 ?_|refine aI ?_|refine aa ?_|refine ae a6 rfl rfl ?_|(apply aW; refine aV ?_)|refine bv rfl ?_)
   exact aC (j + 1) rfl ⟨by rw [Gw]; rfl, by rw [hst2, Gw]; rfl, trivial⟩ (by omega) (by omega) (fun _ _ h => h)
 have hjl : j = f.Chars.length := by have := Gy hh; omega
 clear hh
 subst hjl
 rw [List.take_length, ← hcc]
 have hd : decide (((g.Chars.length : Nat) : Int) = (((g.Chars.map ci).length : Nat) : Int)) = true := decide_eq_true (by omega)
 repeat' (first|refine ah ?_|refine a7 ?_|refine ar ?_|refine aR ?_|refine a8 ?_|refine av ?_|refine aB ?_|refine ay ?_|refine aa ?_|refine ae a6 rfl rfl ?_)
 rw [hd]
 exact aA rfl rfl rfl
end Go.Proofs.YtjjpkibjffmceaaGreat
