/-
  The document: glyphs, lookups and fonts as texts.
-/
import Derived.Test.YtjjpkibjffmceaaGreatM30
namespace Go.Proofs.YtjjpkibjffmceaaGreat
open Go.RowKit
attribute [local irreducible] AT bV AX AO Av Kt bC eH DA dl
theorem xF (l : List (List Int)) (h : oD l) : bQ Tryz.prog 151 [.imm 1 (bv l)] (gE (mw l)) := by
 refine aQ Tryz.func151 rfl Tryz.ntmps151 rfl fun B => ?_
 have hil : (bv l).length = l.length := Gu ..
 have hl := h.1
 haveI : gP (((bv l).length : Nat) : Int) := j8 (by omega)
 have e0 : cj (((bv l).length : Nat) : Int) = dO l.length := by rw [hil]; rfl
 have h0 := cx (n := l.length) (by omega)
 repeat' (first|refine ae ?_|refine a6 ?_|refine ak ?_|refine a7 ?_|refine a8 ?_|refine aa a2 rfl rfl ?_|(apply bh;refine bc ?_)|fail)
 rw [e0]
 repeat' (first|fail)
 refine aJ [0] (α := Nat) (fun i => [(4, aM i), (3, gE ((l.take i).foldl nu (dO l.length)))]) (fun i => i ≤ l.length) (fun _ => []) (fun i => l.length - i) 0 rfl ⟨rfl, rfl, trivial⟩ (Nat.zero_le _) (fun _ _ h => h) ?_
 intro i hi
 try dsimp only [Gr, Gq, Gp, Gj]
 repeat' (first|refine ae ?_|refine a6 ?_|refine a7 ?_|refine a8 ?_|refine aa a2 rfl rfl ?_)
 refine aw rfl (fun hh => ?_) (fun hh => ?_)
 ·have hil : i < l.length := by have := Gz hh; omega
  obtain ⟨z, hz⟩ : ∃ z, l[i]? = some z := ⟨_, Ee hil⟩
  have hzi := nj hz
  have hzn := h.2 z (Gx hz)
  haveI : Ef z := ⟨hzn⟩
  have k1 := fB hzn
  have k2 := cH (n := 16) (m := 11) i (o5 h.2) h.1 h0
  have hst : (l.take (i + 1)).foldl nu (dO l.length) = (l.take i).foldl nu (dO l.length) ++ of z := dp hz
  repeat' (first|refine ae ?_|refine a6 ?_|refine ak ?_|refine ar ?_|refine a7 ?_|refine aa a2 rfl rfl ?_|(apply aX; first|refine aW a2 ?_|refine aP a2 ?_)|(apply bh;refine bc ?_)|fail)
  refine eu rfl rfl (by omega) rfl ?_
  repeat' (first|refine a6 ?_|refine a7 ?_|refine aH ?_|refine a8 ?_|refine aa a2 rfl rfl ?_|(apply aV; refine aU ?_)|fail)
  exact aB (i + 1) rfl ⟨by rw [Gw]; rfl, by rw [hst]; rfl, trivial⟩ (by omega) (by omega) (fun _ _ h => h)
 have hil : i = l.length := by have := Gy hh; omega
 subst hil
 rw [List.take_length]
 repeat' (first|refine ae ?_|refine a6 ?_|refine aq ?_|refine aO ?_|refine a7 ?_|refine au ?_|refine ay ?_|refine av ?_|refine a8 ?_|refine aa a2 rfl rfl ?_)
 exact aA rfl rfl rfl
class AU (l : List (List Int)) : Prop where
 ok : oD l
instance (l : List (List Int)) [h : AU l] : AD Tryz.prog 151 [.imm 1 (bv l)] (gE (mw l)) := ⟨xF l h.ok⟩
class FH (g : bo) : Prop where
 ok : sm g
set_option maxHeartbeats 8000000 in
theorem uJ (g : bo) (h : sm g) : bQ Tryz.prog 18 [.agg (bA g)] (gE (n4 g)) := by
 refine aQ Tryz.func18 rfl Tryz.ntmps18 rfl fun B => ?_
 have bl : (⟨#[32]⟩ : ByteArray).size = 1 := rfl
 have m1 : (g.Points.map cX).length = g.Points.length := Gu ..
 have m2 : (g.Parts.map cN).length = g.Parts.length := Gu ..
 have m3 : (g.Anchors.map cB).length = g.Anchors.length := Gu ..
 have m4 : (g.Deltas.map dk).length = g.Deltas.length := Gu ..
 have b0 := h.name
 have b1 := h.pts.1
 have b2 := h.parts.1
 have b3 := h.anchors.1
 have b4 := h.deltas.1
 haveI c0 : gP ((g.Name.size : Nat) : Int) := j8 (by omega)
 haveI c1 : gP (((g.Points.map cX).length : Nat) : Int) := j8 (by omega)
 haveI c2 : gP (((g.Parts.map cN).length : Nat) : Int) := j8 (by omega)
 haveI c3 : gP (((g.Anchors.map cB).length : Nat) : Int) := j8 (by omega)
 haveI c4 : gP (((g.Deltas.map dk).length : Nat) : Int) := j8 (by omega)
 haveI c5 : gP g.Advance := ⟨h.adv⟩
 haveI c6 : Ef g.Ends := ⟨h.ends⟩
 haveI c7 : Fk g.Hint := ⟨h.hint⟩
 have d0 := aY c0.ok
 have d1 := aY c1.ok
 have d2 := aY c2.ok
 have d3 := aY c3.ok
 have d4 := aY c4.ok
 have d5 := aY c5.ok
 have d6 := fB h.ends
 have d7 := jy h.hint
 have d8 := ib g.Mark
 have t1 : BP g = cj ((g.Name.size : Nat) : Int) ++ g.Name ++ ⟨#[32]⟩ ++ cj g.Advance ++ sh g.Mark ++ cj (((g.Points.map cX).length : Nat) : Int) := by unfold BP dO; rw [m1]; rfl
 have t2 : BQ g = g.Points.foldl stPoint (BP g) ++ of g.Ends ++ cj (((g.Parts.map cN).length : Nat) : Int) := by unfold BQ dO; rw [m2]
 have t3 : BR g = g.Parts.foldl stPart (BQ g) ++ cj (((g.Anchors.map cB).length : Nat) : Int) := by unfold BR dO; rw [m3]
 have t4 : CJ g = g.Anchors.foldl stAnchor (BR g) ++ cj (((g.Deltas.map dk).length : Nat) : Int) := by unfold CJ dO; rw [m4]
 have z1 := h.s1
 have z2 := h.s2
 have z3 := h.s3
 have z4 := h.s4
 have q1 := cS (n := 16) (m := 86) h.stPoint h.pts.1 h.s1
 have q2 := cS (n := 16) (m := 668) h.stPart h.parts.1 h.s2
 have q3 := cS (n := 16) (m := 1207) h.stAnchor h.anchors.1 h.s3
 have q4 := cS (n := 50) (m := 1922) h.stDelta h.deltas.1 h.s4
 repeat' (first|refine ae ?_|refine a6 ?_|refine a7 ?_|refine a8 ?_|refine aa a2 rfl rfl ?_|refine bg ?_|fail)
 refine bt 22 [(0, .v), (1, .v), (2, .v), (3, .v), (4, .v), (5, .v), (6, .v), (7, .v), (8, .v), (9, .v), (10, .v), (11, .v), (12, .v), (13, .v), (14, .v), (15, .v), (16, .v), (17, .v), (18, .v), (19, .v), (20, .v), (21, .v)] none ?_ trivial rfl (by kernel_rfl) (by kernel_rfl) (by kernel_rfl) mixed (by kernel_rfl) rfl
 repeat' (first|refine aC ?_|refine aZ a2 ?_|(apply bB;refine bP ?_)|fail)
 refine di ?_ rfl rfl (by (try simp only [Gv, bl]); omega) (by first | trivial | rfl)
 repeat' (first|refine aC ?_|fail)
 refine di ?_ rfl rfl (by (try simp only [Gv, bl]); omega) (by first | trivial | rfl)
 repeat' (first|refine aC ?_|refine aZ a2 ?_|(apply bB;refine bP ?_)|fail)
 refine di ?_ rfl rfl (by (try simp only [Gv, bl]); omega) (by first | trivial | rfl)
 repeat' (first|refine aC ?_|refine aZ a2 ?_|(apply bB;refine bP ?_)|fail)
 refine di ?_ rfl rfl (by (try simp only [Gv, bl]); omega) (by first | trivial | rfl)
 repeat' (first|refine aC ?_|refine aZ a2 ?_|(apply bB;refine bP ?_)|fail)
 refine di ?_ rfl rfl (by (try simp only [Gv, bl]); omega) (by first | trivial | rfl)
 repeat' (first|fail)
 refine bq [1, 32] rfl rfl ?_
 repeat' (first|refine ae ?_|refine a6 ?_|refine ak ?_|refine a7 ?_|refine a8 ?_|refine aa a2 rfl rfl ?_)
 have hml0 : (g.Points.map cX).length = g.Points.length := Gu ..
 refine aJ [1] (α := Nat) (fun i => [(4, aM i), (3, gE ((g.Points.take i).foldl stPoint (BP g)))]) (fun i => i ≤ g.Points.length) (fun _ => []) (fun i => g.Points.length - i) 0 rfl ⟨rfl, by rw [t1]; rfl, trivial⟩ (Nat.zero_le _) (fun _ _ h => h) ?_
 intro i hi
 try dsimp only [Gr, Gq, Gp, Gj]
 repeat' (first|refine ae ?_|refine a6 ?_|refine a7 ?_|refine a8 ?_|refine aa a2 rfl rfl ?_)
 refine aw rfl (fun hh => ?_) (fun hh => ?_)
 ·have hil : i < g.Points.length := by have := Gz hh; omega
  obtain ⟨z, hz⟩ : ∃ y, g.Points[i]? = some y := ⟨_, Ee hil⟩
  have hzg := bn (c := cX) hz
  have hzm := Gx hz
  have hzn := h.pts.2 z hzm
  haveI : gP z.X := ⟨hzn.1⟩
  haveI : gP z.Y := ⟨hzn.2⟩
  have kk0 := aY hzn.1
  have kk1 := aY hzn.2
  have kk9 := ib z.On
  have ki0 := cH (n := 16) (m := 86) i h.stPoint h.pts.1 h.s1
  have hst : (g.Points.take (i + 1)).foldl stPoint (BP g) = (g.Points.take i).foldl stPoint (BP g) ++ cj z.X ++ cj z.Y ++ sh z.On := dp hz
  clear hh
  repeat' (first|refine ae ?_|refine a6 ?_|refine ak ?_|refine ar ?_|refine a7 ?_|refine a8 ?_|refine aa a2 rfl rfl ?_|(apply aX; first|refine aW a2 ?_|refine aP a2 ?_)|(apply aG; first|refine ah 5 a2 0 rfl rfl rfl rfl rfl rfl rfl rfl ?_|refine ah 5 a2 1 rfl rfl rfl rfl rfl rfl rfl rfl ?_|refine ah 5 a2 2 rfl rfl rfl rfl rfl rfl rfl rfl ?_|refine ah 8 a2 0 rfl rfl rfl rfl rfl rfl rfl rfl ?_|refine ah 8 a2 1 rfl rfl rfl rfl rfl rfl rfl rfl ?_|refine ah 8 a2 2 rfl rfl rfl rfl rfl rfl rfl rfl ?_|refine ah 10 a2 0 rfl rfl rfl rfl rfl rfl rfl rfl ?_|refine ah 10 a2 1 rfl rfl rfl rfl rfl rfl rfl rfl ?_|refine ah 10 a2 2 rfl rfl rfl rfl rfl rfl rfl rfl ?_|refine ai a2 0 rfl rfl rfl rfl rfl rfl rfl ?_|refine ai a2 1 rfl rfl rfl rfl rfl rfl rfl ?_|refine ai a2 2 rfl rfl rfl rfl rfl rfl rfl ?_|refine ai a2 3 rfl rfl rfl rfl rfl rfl rfl ?_|fail)|refine b7 a2 fun _=>?_|fail)
  refine bt 12 [(0, .v), (1, .v), (2, .v), (3, .v), (4, .v), (5, .v), (6, .v), (7, .v), (8, .v), (9, .v), (10, .v), (11, .v)] none ?_ trivial rfl (by kernel_rfl) (by kernel_rfl) (by kernel_rfl) mixed (by kernel_rfl) rfl
  repeat' (first|refine aC ?_|refine aZ a2 ?_|(apply bB;refine bP ?_)|fail)
  refine di ?_ rfl rfl (by (try simp only [Gv, bl]); omega) (by first | trivial | rfl)
  repeat' (first|refine aC ?_|refine aZ a2 ?_|(apply bB;refine bP ?_)|fail)
  refine di ?_ rfl rfl (by (try simp only [Gv, bl]); omega) (by first | trivial | rfl)
  repeat' (first|refine aC ?_|refine aZ a2 ?_|(apply bB;refine bP ?_)|fail)
  refine bq [1, 4, 55, 58] rfl rfl ?_
  repeat' (first|fail)
  refine eu rfl rfl (by (try simp only [Gv, bl]); omega) rfl ?_
  repeat' (first|refine a6 ?_|refine a7 ?_|refine aH ?_|refine a8 ?_|refine aa a2 rfl rfl ?_|(apply aV; refine aU ?_)|fail)
  exact aB (i + 1) rfl ⟨by rw [Gw]; rfl, by rw [hst]; rfl, trivial⟩ (by omega) (by omega) (fun _ _ h => h)
 have hil : i = g.Points.length := by have := Gy hh; omega
 subst hil
 rw [List.take_length]
 clear hh hi
 repeat' (first|refine ae ?_|refine aO ?_|refine a7 ?_|refine au ?_|refine ay ?_|refine av ?_)
 refine bt 10 [(0, .v), (1, .v), (2, .v), (3, .v), (4, .v), (5, .v), (6, .v), (7, .v), (8, .v), (9, .v)] none ?_ trivial rfl (by kernel_rfl) (by kernel_rfl) (by kernel_rfl) mixed (by kernel_rfl) rfl
 repeat' (first|refine aC ?_|refine aZ a2 ?_|(apply bB;refine bP ?_)|fail)
 refine di ?_ rfl rfl (by (try simp only [Gv, bl]); omega) (by first | trivial | rfl)
 repeat' (first|refine aC ?_|refine aZ a2 ?_|(apply bB;refine bP ?_)|fail)
 refine bq [1, 65, 69] rfl rfl ?_
 repeat' (first|fail)
 refine eu rfl rfl (by (try simp only [Gv, bl]); omega) rfl ?_
 repeat' (first|refine ae ?_|refine a6 ?_|refine ak ?_|refine a7 ?_|refine a8 ?_|refine aa a2 rfl rfl ?_)
 have hml2 : (g.Parts.map cN).length = g.Parts.length := Gu ..
 refine aJ [1] (α := Nat) (fun i => [(6, aM i), (3, gE ((g.Parts.take i).foldl stPart (BQ g)))]) (fun i => i ≤ g.Parts.length) (fun _ => []) (fun i => g.Parts.length - i) 0 rfl ⟨rfl, by rw [t2]; rfl, trivial⟩ (Nat.zero_le _) (fun _ _ h => h) ?_
 intro i hi
 try dsimp only [Gr, Gq, Gp, Gj]
 repeat' (first|refine ae ?_|refine a6 ?_|refine a7 ?_|refine a8 ?_|refine aa a2 rfl rfl ?_)
 refine aw rfl (fun hh => ?_) (fun hh => ?_)
 ·have hil : i < g.Parts.length := by have := Gz hh; omega
  obtain ⟨z, hz⟩ : ∃ y, g.Parts[i]? = some y := ⟨_, Ee hil⟩
  have hzg := bn (c := cN) hz
  have hzm := Gx hz
  have hzn := h.parts.2 z hzm
  haveI : gP z.Glyph := ⟨hzn.1⟩
  haveI : gP z.X := ⟨hzn.2.1⟩
  haveI : gP z.Y := ⟨hzn.2.2⟩
  have kk0 := aY hzn.1
  have kk1 := aY hzn.2.1
  have kk2 := aY hzn.2.2
  have ki0 := cH (n := 16) (m := 668) i h.stPart h.parts.1 h.s2
  have hst : (g.Parts.take (i + 1)).foldl stPart (BQ g) = (g.Parts.take i).foldl stPart (BQ g) ++ cj z.Glyph ++ cj z.X ++ cj z.Y := dp hz
  clear hh
  repeat' (first|refine ae ?_|refine ak ?_|refine ar ?_|refine a7 ?_)
  refine bt 25 [(0, .v), (1, .v), (2, .v), (3, .v), (4, .v), (5, .v), (6, .v), (7, .v), (8, .v), (9, .v), (10, .v), (11, .v), (12, .v), (13, .v), (14, .v), (15, .v), (16, .v), (17, .v), (18, .v), (19, .v), (20, .v), (21, .v), (22, .v), (23, .v), (24, .v)] none ?_ trivial rfl (by kernel_rfl) (by kernel_rfl) (by kernel_rfl) mixed (by kernel_rfl) rfl
  repeat' (first|refine aC ?_|refine aZ a2 ?_|(apply ca;refine ck a2 ?_)|(apply bB;refine bP ?_)|fail)
  refine di ?_ rfl rfl (by (try simp only [Gv, bl]); omega) (by first | trivial | rfl)
  repeat' (first|refine aC ?_|refine aZ a2 ?_|(apply ca;refine ck a2 ?_)|(apply bB;refine bP ?_)|fail)
  refine di ?_ rfl rfl (by (try simp only [Gv, bl]); omega) (by first | trivial | rfl)
  repeat' (first|refine aC ?_|refine aZ a2 ?_|(apply ca;refine ck a2 ?_)|(apply bB;refine bP ?_)|fail)
  refine di ?_ rfl rfl (by (try simp only [Gv, bl]); omega) (by first | trivial | rfl)
  repeat' (first|fail)
  refine bq [1, 6, 102] rfl rfl ?_
  repeat' (first|refine a6 ?_|refine a7 ?_|refine aH ?_|refine a8 ?_|refine aa a2 rfl rfl ?_|(apply aV; refine aU ?_)|fail)
  exact aB (i + 1) rfl ⟨by rw [Gw]; rfl, by rw [hst]; rfl, trivial⟩ (by omega) (by omega) (fun _ _ h => h)
 have hil : i = g.Parts.length := by have := Gy hh; omega
 subst hil
 rw [List.take_length]
 clear hh hi
 repeat' (first|refine ae ?_|refine a6 ?_|refine aO ?_|refine a7 ?_|refine au ?_|refine ay ?_|refine av ?_|refine aa a2 rfl rfl ?_|(apply bh;refine bc ?_)|fail)
 refine eu rfl rfl (by (try simp only [Gv, bl]); omega) rfl ?_
 repeat' (first|refine ae ?_|refine a6 ?_|refine ak ?_|refine a7 ?_|refine a8 ?_|refine aa a2 rfl rfl ?_)
 have hml4 : (g.Anchors.map cB).length = g.Anchors.length := Gu ..
 refine aJ [1] (α := Nat) (fun i => [(7, aM i), (3, gE ((g.Anchors.take i).foldl stAnchor (BR g)))]) (fun i => i ≤ g.Anchors.length) (fun _ => []) (fun i => g.Anchors.length - i) 0 rfl ⟨rfl, by rw [t3]; rfl, trivial⟩ (Nat.zero_le _) (fun _ _ h => h) ?_
 intro i hi
 try dsimp only [Gr, Gq, Gp, Gj]
 repeat' (first|refine ae ?_|refine a6 ?_|refine a7 ?_|refine a8 ?_|refine aa a2 rfl rfl ?_)
 refine aw rfl (fun hh => ?_) (fun hh => ?_)
 ·have hil : i < g.Anchors.length := by have := Gz hh; omega
  obtain ⟨z, hz⟩ : ∃ y, g.Anchors[i]? = some y := ⟨_, Ee hil⟩
  have hzg := bn (c := cB) hz
  have hzm := Gx hz
  have hzn := h.anchors.2 z hzm
  haveI : gP z.Kind := ⟨hzn.1⟩
  haveI : gP z.Class := ⟨hzn.2.1⟩
  haveI : gP z.X := ⟨hzn.2.2.1⟩
  haveI : gP z.Y := ⟨hzn.2.2.2⟩
  have kk0 := aY hzn.1
  have kk1 := aY hzn.2.1
  have kk2 := aY hzn.2.2.1
  have kk3 := aY hzn.2.2.2
  have ki0 := cH (n := 16) (m := 1207) i h.stAnchor h.anchors.1 h.s3
  have hst : (g.Anchors.take (i + 1)).foldl stAnchor (BR g) = (g.Anchors.take i).foldl stAnchor (BR g) ++ cj z.Kind ++ cj z.Class ++ cj z.X ++ cj z.Y := dp hz
  clear hh
  repeat' (first|refine ae ?_|refine a6 ?_|refine ak ?_|refine ar ?_|refine a7 ?_|refine a8 ?_|refine aa a2 rfl rfl ?_|(apply aX; first|refine aW a2 ?_|refine aP a2 ?_)|(apply aG; first|refine ah 5 a2 0 rfl rfl rfl rfl rfl rfl rfl rfl ?_|refine ah 5 a2 1 rfl rfl rfl rfl rfl rfl rfl rfl ?_|refine ah 5 a2 2 rfl rfl rfl rfl rfl rfl rfl rfl ?_|refine ah 8 a2 0 rfl rfl rfl rfl rfl rfl rfl rfl ?_|refine ah 8 a2 1 rfl rfl rfl rfl rfl rfl rfl rfl ?_|refine ah 8 a2 2 rfl rfl rfl rfl rfl rfl rfl rfl ?_|refine ah 10 a2 0 rfl rfl rfl rfl rfl rfl rfl rfl ?_|refine ah 10 a2 1 rfl rfl rfl rfl rfl rfl rfl rfl ?_|refine ah 10 a2 2 rfl rfl rfl rfl rfl rfl rfl rfl ?_|refine ai a2 0 rfl rfl rfl rfl rfl rfl rfl ?_|refine ai a2 1 rfl rfl rfl rfl rfl rfl rfl ?_|refine ai a2 2 rfl rfl rfl rfl rfl rfl rfl ?_|refine ai a2 3 rfl rfl rfl rfl rfl rfl rfl ?_|fail)|refine b7 a2 fun _=>?_|fail)
  refine bt 16 [(0, .v), (1, .v), (2, .v), (3, .v), (4, .v), (5, .v), (6, .v), (7, .v), (8, .v), (9, .v), (10, .v), (11, .v), (12, .v), (13, .v), (14, .v), (15, .v)] none ?_ trivial rfl (by kernel_rfl) (by kernel_rfl) (by kernel_rfl) mixed (by kernel_rfl) rfl
  repeat' (first|refine aC ?_|refine aZ a2 ?_|(apply bB;refine bP ?_)|fail)
  refine di ?_ rfl rfl (by (try simp only [Gv, bl]); omega) (by first | trivial | rfl)
  repeat' (first|refine aC ?_|refine aZ a2 ?_|(apply bB;refine bP ?_)|fail)
  refine di ?_ rfl rfl (by (try simp only [Gv, bl]); omega) (by first | trivial | rfl)
  repeat' (first|refine aC ?_|refine aZ a2 ?_|(apply bB;refine bP ?_)|fail)
  refine di ?_ rfl rfl (by (try simp only [Gv, bl]); omega) (by first | trivial | rfl)
  repeat' (first|refine aC ?_|refine aZ a2 ?_|(apply bB;refine bP ?_)|fail)
  refine bq [1, 7, 133, 136] rfl rfl ?_
  repeat' (first|fail)
  refine eu rfl rfl (by (try simp only [Gv, bl]); omega) rfl ?_
  repeat' (first|refine a6 ?_|refine a7 ?_|refine aH ?_|refine a8 ?_|refine aa a2 rfl rfl ?_|(apply aV; refine aU ?_)|fail)
  exact aB (i + 1) rfl ⟨by rw [Gw]; rfl, by rw [hst]; rfl, trivial⟩ (by omega) (by omega) (fun _ _ h => h)
 have hil : i = g.Anchors.length := by have := Gy hh; omega
 subst hil
 rw [List.take_length]
 clear hh hi
 repeat' (first|refine ae ?_|refine a6 ?_|refine aO ?_|refine a7 ?_|refine au ?_|refine ay ?_|refine av ?_|refine aa a2 rfl rfl ?_|(apply bh;refine bc ?_)|fail)
 refine eu rfl rfl (by (try simp only [Gv, bl]); omega) rfl ?_
 repeat' (first|refine ae ?_|refine a6 ?_|refine ak ?_|refine a7 ?_|refine a8 ?_|refine aa a2 rfl rfl ?_)
 have hml6 : (g.Deltas.map dk).length = g.Deltas.length := Gu ..
 refine aJ [1] (α := Nat) (fun i => [(9, aM i), (3, gE ((g.Deltas.take i).foldl stDelta (CJ g)))]) (fun i => i ≤ g.Deltas.length) (fun _ => []) (fun i => g.Deltas.length - i) 0 rfl ⟨rfl, by rw [t4]; rfl, trivial⟩ (Nat.zero_le _) (fun _ _ h => h) ?_
 intro i hi
 try dsimp only [Gr, Gq, Gp, Gj]
 repeat' (first|refine ae ?_|refine a6 ?_|refine a7 ?_|refine a8 ?_|refine aa a2 rfl rfl ?_)
 refine aw rfl (fun hh => ?_) (fun hh => ?_)
 ·have hil : i < g.Deltas.length := by have := Gz hh; omega
  obtain ⟨z, hz⟩ : ∃ y, g.Deltas[i]? = some y := ⟨_, Ee hil⟩
  have hzg := bn (c := dk) hz
  have hzm := Gx hz
  have hzn := h.deltas.2 z hzm
  haveI : gP z.Region := ⟨hzn.1⟩
  haveI : gP z.Point := ⟨hzn.2.1⟩
  haveI : gP z.X := ⟨hzn.2.2.1⟩
  haveI : gP z.Y := ⟨hzn.2.2.2⟩
  have kk0 := aY hzn.1
  have kk1 := aY hzn.2.1
  have kk2 := aY hzn.2.2.1
  have kk3 := aY hzn.2.2.2
  have ki0 := cH (n := 50) (m := 1922) i h.stDelta h.deltas.1 h.s4
  have hst : (g.Deltas.take (i + 1)).foldl stDelta (CJ g) = (g.Deltas.take i).foldl stDelta (CJ g) ++ cj z.Region ++ cj z.Point ++ cj z.X ++ cj z.Y := dp hz
  clear hh
  repeat' (first|refine ae ?_|refine a6 ?_|refine ak ?_|refine ar ?_|refine a7 ?_|refine a8 ?_|refine aa a2 rfl rfl ?_|(apply aX; first|refine aW a2 ?_|refine aP a2 ?_)|(apply aG; first|refine ah 5 a2 0 rfl rfl rfl rfl rfl rfl rfl rfl ?_|refine ah 5 a2 1 rfl rfl rfl rfl rfl rfl rfl rfl ?_|refine ah 5 a2 2 rfl rfl rfl rfl rfl rfl rfl rfl ?_|refine ah 8 a2 0 rfl rfl rfl rfl rfl rfl rfl rfl ?_|refine ah 8 a2 1 rfl rfl rfl rfl rfl rfl rfl rfl ?_|refine ah 8 a2 2 rfl rfl rfl rfl rfl rfl rfl rfl ?_|refine ah 10 a2 0 rfl rfl rfl rfl rfl rfl rfl rfl ?_|refine ah 10 a2 1 rfl rfl rfl rfl rfl rfl rfl rfl ?_|refine ah 10 a2 2 rfl rfl rfl rfl rfl rfl rfl rfl ?_|refine ai a2 0 rfl rfl rfl rfl rfl rfl rfl ?_|refine ai a2 1 rfl rfl rfl rfl rfl rfl rfl ?_|refine ai a2 2 rfl rfl rfl rfl rfl rfl rfl ?_|refine ai a2 3 rfl rfl rfl rfl rfl rfl rfl ?_|fail)|refine b7 a2 fun _=>?_|fail)
  refine bt 16 [(0, .v), (1, .v), (2, .v), (3, .v), (4, .v), (5, .v), (6, .v), (7, .v), (8, .v), (9, .v), (10, .v), (11, .v), (12, .v), (13, .v), (14, .v), (15, .v)] none ?_ trivial rfl (by kernel_rfl) (by kernel_rfl) (by kernel_rfl) mixed (by kernel_rfl) rfl
  repeat' (first|refine aC ?_|refine aZ a2 ?_|(apply bB;refine bP ?_)|fail)
  refine di ?_ rfl rfl (by (try simp only [Gv, bl]); omega) (by first | trivial | rfl)
  repeat' (first|refine aC ?_|refine aZ a2 ?_|(apply bB;refine bP ?_)|fail)
  refine di ?_ rfl rfl (by (try simp only [Gv, bl]); omega) (by first | trivial | rfl)
  repeat' (first|refine aC ?_|refine aZ a2 ?_|(apply bB;refine bP ?_)|fail)
  refine di ?_ rfl rfl (by (try simp only [Gv, bl]); omega) (by first | trivial | rfl)
  repeat' (first|refine aC ?_|refine aZ a2 ?_|(apply bB;refine bP ?_)|fail)
  refine bq [1, 9, 168, 171] rfl rfl ?_
  repeat' (first|fail)
  refine eu rfl rfl (by (try simp only [Gv, bl]); omega) rfl ?_
  repeat' (first|refine a6 ?_|refine a7 ?_|refine aH ?_|refine a8 ?_|refine aa a2 rfl rfl ?_|(apply aV; refine aU ?_)|fail)
  exact aB (i + 1) rfl ⟨by rw [Gw]; rfl, by rw [hst]; rfl, trivial⟩ (by omega) (by omega) (fun _ _ h => h)
 have hil : i = g.Deltas.length := by have := Gy hh; omega
 subst hil
 rw [List.take_length]
 clear hh hi
 repeat' (first|refine ae ?_|refine a6 ?_|refine aO ?_|refine a7 ?_|refine au ?_|refine ay ?_|refine av ?_|refine aa a2 rfl rfl ?_|(apply bh;refine bc ?_)|fail)
 refine eu rfl rfl (by (try simp only [Gv, bl]); omega) rfl ?_
 repeat' (first|refine aq ?_|refine a7 ?_|refine a8 ?_|refine aa a2 rfl rfl ?_)
 exact aA rfl rfl rfl
instance (g : bo) [h : FH g] : AD Tryz.prog 18 [.agg (bA g)] (gE (n4 g)) := ⟨uJ g h.ok⟩
class FI (l : ba) : Prop where
 ok : AP l
set_option maxHeartbeats 8000000 in
theorem xj (l : ba) (h : AP l) : bQ Tryz.prog 92 [.agg (bj l)] (gE (tp l)) := by
 refine aQ Tryz.func92 rfl Tryz.ntmps92 rfl fun B => ?_
 have bl : (⟨#[32]⟩ : ByteArray).size = 1 := rfl
 have m1 : (l.Rules.map bD).length = l.Rules.length := Gu ..
 have b1 := h.rules.1
 haveI c1 : gP (((l.Rules.map bD).length : Nat) : Int) := j8 (by omega)
 haveI c2 : gP l.Kind := ⟨h.kind⟩
 have d1 := aY c1.ok
 have d2 := aY c2.ok
 have d3 := ib l.Ignore
 have t1 : xg l = cj l.Kind ++ sh l.Ignore ++ cj (((l.Rules.map bD).length : Nat) : Int) := by unfold xg dO; rw [m1]
 repeat' (first|refine ae ?_|refine a6 ?_|refine a7 ?_|refine a8 ?_|refine aa a2 rfl rfl ?_|refine bg ?_|fail)
 refine bt 11 [(0, .v), (1, .v), (2, .v), (3, .v), (4, .v), (5, .v), (6, .v), (7, .v), (8, .v), (9, .v), (10, .v)] none ?_ trivial rfl (by kernel_rfl) (by kernel_rfl) (by kernel_rfl) mixed (by kernel_rfl) rfl
 repeat' (first|refine aC ?_|refine aZ a2 ?_|(apply bB;refine bP ?_)|fail)
 refine di ?_ rfl rfl (by (try simp only [Gv, bl]); omega) (by first | trivial | rfl)
 repeat' (first|refine aC ?_|refine aZ a2 ?_|(apply bB;refine bP ?_)|fail)
 refine bq [1, 13, 17] rfl rfl ?_
 repeat' (first|fail)
 refine eu rfl rfl (by (try simp only [Gv, bl]); omega) rfl ?_
 repeat' (first|refine ae ?_|refine a6 ?_|refine ak ?_|refine a7 ?_|refine a8 ?_|refine aa a2 rfl rfl ?_)
 have hml0 : (l.Rules.map bD).length = l.Rules.length := Gu ..
 refine aJ [1] (α := Nat) (fun i => [(4, aM i), (3, gE ((l.Rules.take i).foldl gW (xg l)))]) (fun i => i ≤ l.Rules.length) (fun _ => []) (fun i => l.Rules.length - i) 0 rfl ⟨rfl, by rw [t1]; rfl, trivial⟩ (Nat.zero_le _) (fun _ _ h => h) ?_
 intro i hi
 try dsimp only [Gr, Gq, Gp, Gj]
 repeat' (first|refine ae ?_|refine a6 ?_|refine a7 ?_|refine a8 ?_|refine aa a2 rfl rfl ?_)
 refine aw rfl (fun hh => ?_) (fun hh => ?_)
 ·have hil : i < l.Rules.length := by have := Gz hh; omega
  obtain ⟨z, hz⟩ : ∃ y, l.Rules[i]? = some y := ⟨_, Ee hil⟩
  have hzg := bn (c := bD) hz
  have hzm := Gx hz
  have hzn := h.rules.2 z hzm
  have mz : (z.Calls.map dD).length = z.Calls.length := Gu ..
  have bz := hzn.calls.1
  haveI : gP (((z.Calls.map dD).length : Nat) : Int) := j8 (by omega)
  have kk5 : (cj (((z.Calls.map dD).length : Nat) : Int)).size ≤ 11 := aY ⟨by omega, by omega⟩
  haveI : gP z.X := ⟨hzn.x⟩
  haveI : AU z.Back := ⟨hzn.back⟩
  haveI : AU z.In := ⟨hzn.ins⟩
  haveI : AU z.Ahead := ⟨hzn.ahead⟩
  haveI : Ef z.Out := ⟨hzn.out⟩
  have kk0 := gx hzn.back
  have kk1 := gx hzn.ins
  have kk2 := gx hzn.ahead
  have kk3 := fB hzn.out
  have kk4 := aY hzn.x
  have e1 : ∀ s, C9 s z = s ++ mw z.Back ++ mw z.In ++ mw z.Ahead ++ of z.Out ++ cj (((z.Calls.map dD).length : Nat) : Int) := fun s => by unfold C9 dO; rw [mz]
  have e2 := hzn.s1 ((l.Rules.take i).foldl gW (xg l))
  have e3 : (C9 ((l.Rules.take i).foldl gW (xg l)) z).size ≤ 4*9570+24+9207 := by have := cH (n := 4) (m := 24) i (fun s r hr => (h.rules.2 r hr).size s) h.rules.1 h.s1; omega
  have ki0 := cH (n := 4) (m := 24) i (fun s r hr => (h.rules.2 r hr).size s) h.rules.1 h.s1
  have hst : (l.Rules.take (i + 1)).foldl gW (xg l) = gW ((l.Rules.take i).foldl gW (xg l)) z := dp hz
  clear hh
  repeat' (first|refine ae ?_|refine a6 ?_|refine ak ?_|refine ar ?_|refine a7 ?_|refine a8 ?_|refine aa a2 rfl rfl ?_|(apply aX; first|refine aW a2 ?_|refine aP a2 ?_)|(apply aG; first|refine ah 5 a2 0 rfl rfl rfl rfl rfl rfl rfl rfl ?_|refine ah 5 a2 1 rfl rfl rfl rfl rfl rfl rfl rfl ?_|refine ah 5 a2 2 rfl rfl rfl rfl rfl rfl rfl rfl ?_|refine ai a2 0 rfl rfl rfl rfl rfl rfl rfl ?_|refine ai a2 1 rfl rfl rfl rfl rfl rfl rfl ?_|refine ai a2 2 rfl rfl rfl rfl rfl rfl rfl ?_|refine ai a2 3 rfl rfl rfl rfl rfl rfl rfl ?_|fail)|refine b7 a2 fun _=>?_|fail)
  refine bt 22 [(0, .v), (1, .v), (2, .v), (3, .v), (4, .v), (5, .v), (6, .v), (7, .v), (8, .v), (9, .v), (10, .v), (11, .v), (12, .v), (13, .v), (14, .v), (15, .v), (16, .v), (17, .v), (18, .v), (19, .v), (20, .v), (21, .v)] none ?_ trivial rfl (by kernel_rfl) (by kernel_rfl) (by kernel_rfl) mixed (by kernel_rfl) rfl
  repeat' (first|refine aC ?_|refine aZ a2 ?_|(apply bB;refine bP ?_)|fail)
  refine di ?_ rfl rfl (by (try simp only [Gv, bl]); omega) (by first | trivial | rfl)
  repeat' (first|refine aC ?_|refine aZ a2 ?_|(apply bB;refine bP ?_)|fail)
  refine di ?_ rfl rfl (by (try simp only [Gv, bl]); omega) (by first | trivial | rfl)
  repeat' (first|refine aC ?_|refine aZ a2 ?_|(apply bB;refine bP ?_)|fail)
  refine di ?_ rfl rfl (by (try simp only [Gv, bl]); omega) (by first | trivial | rfl)
  repeat' (first|refine aC ?_|refine aZ a2 ?_|(apply bB;refine bP ?_)|fail)
  refine di ?_ rfl rfl (by (try simp only [Gv, bl]); omega) (by first | trivial | rfl)
  repeat' (first|refine aC ?_|refine aZ a2 ?_|(apply bB;refine bP ?_)|fail)
  refine di ?_ rfl rfl (by (try simp only [Gv, bl]); omega) (by first | trivial | rfl)
  repeat' (first|fail)
  refine bq [1, 4, 5, 52] rfl rfl ?_
  repeat' (first|refine ae ?_|refine a6 ?_|refine ak ?_|refine a7 ?_|refine a8 ?_|refine aa a2 rfl rfl ?_)
  have hml2 : (z.Calls.map dD).length = z.Calls.length := Gu ..
  refine aJ [1, 4, 5] (α := Nat) (fun j => [(6, aM j), (3, gE ((z.Calls.take j).foldl stCall (C9 ((l.Rules.take i).foldl gW (xg l)) z)))]) (fun j => j ≤ z.Calls.length) (fun _ => []) (fun j => z.Calls.length - j) 0 rfl ⟨rfl, by rw [e1]; rfl, trivial⟩ (Nat.zero_le _) (fun _ _ h => h) ?_
  intro j hj
  try dsimp only [Gr, Gq, Gp, Gj]
  repeat' (first|refine ae ?_|refine a6 ?_|refine a7 ?_|refine a8 ?_|refine aa a2 rfl rfl ?_)
  refine aw rfl (fun hh => ?_) (fun hh => ?_)
  ·have hil : j < z.Calls.length := by have := Gz hh; omega
   obtain ⟨y, hy⟩ : ∃ y, z.Calls[j]? = some y := ⟨_, Ee hil⟩
   have hyg := bn (c := dD) hy
   have hym := Gx hy
   have hyn := hzn.calls.2 y hym
   haveI : gP y.At := ⟨hyn.1⟩
   haveI : gP y.Lookup := ⟨hyn.2⟩
   have kk0 := aY hyn.1
   have kk1 := aY hyn.2
   have kj0 := cH (n := 16) (m := 4*9570+24+9207) j hzn.stCall hzn.calls.1 e3
   have hst : (z.Calls.take (j + 1)).foldl stCall (C9 ((l.Rules.take i).foldl gW (xg l)) z) = (z.Calls.take j).foldl stCall (C9 ((l.Rules.take i).foldl gW (xg l)) z) ++ cj y.At ++ cj y.Lookup := dp hy
   clear hh
   repeat' (first|refine ae ?_|refine ak ?_|refine ar ?_|refine a7 ?_)
   refine bt 17 [(0, .v), (1, .v), (2, .v), (3, .v), (4, .v), (5, .v), (6, .v), (7, .v), (8, .v), (9, .v), (10, .v), (11, .v), (12, .v), (13, .v), (14, .v), (15, .v), (16, .v)] none ?_ trivial rfl (by kernel_rfl) (by kernel_rfl) (by kernel_rfl) mixed (by kernel_rfl) rfl
   repeat' (first|refine aC ?_|refine aZ a2 ?_|(apply ca;refine ck a2 ?_)|(apply bB;refine bP ?_)|fail)
   refine di ?_ rfl rfl (by (try simp only [Gv, bl]); omega) (by first | trivial | rfl)
   repeat' (first|refine aC ?_|refine aZ a2 ?_|(apply ca;refine ck a2 ?_)|(apply bB;refine bP ?_)|fail)
   refine di ?_ rfl rfl (by (try simp only [Gv, bl]); omega) (by first | trivial | rfl)
   repeat' (first|fail)
   refine bq [1, 4, 5, 6, 76] rfl rfl ?_
   repeat' (first|refine a6 ?_|refine a7 ?_|refine aH ?_|refine a8 ?_|refine aa a2 rfl rfl ?_|(apply aV; refine aU ?_)|fail)
   exact aB (j + 1) rfl ⟨by rw [Gw]; rfl, by rw [hst]; rfl, trivial⟩ (by omega) (by omega) (fun _ _ h => h)
  have hil : j = z.Calls.length := by have := Gy hh; omega
  subst hil
  rw [List.take_length]
  clear hh hj
  repeat' (first|refine a6 ?_|refine aO ?_|refine a7 ?_|refine au ?_|refine ay ?_|refine av ?_|refine aa a2 rfl rfl ?_|(apply bh;refine bc ?_)|fail)
  have e4 := cS (n := 16) (m := 4*9570+24+9207) hzn.stCall hzn.calls.1 e3
  refine eu rfl rfl (by (try simp only [Gv, bl]); omega) rfl ?_
  repeat' (first|refine a6 ?_|refine a7 ?_|refine aH ?_|refine a8 ?_|refine aa a2 rfl rfl ?_|(apply aV; refine aU ?_)|fail)
  exact aB (i + 1) rfl ⟨by rw [Gw]; rfl, by rw [hst]; rfl, trivial⟩ (by omega) (by omega) (fun _ _ h => h)
 have hil : i = l.Rules.length := by have := Gy hh; omega
 subst hil
 rw [List.take_length]
 clear hh hi
 repeat' (first|refine ae ?_|refine a6 ?_|refine aq ?_|refine aO ?_|refine a7 ?_|refine au ?_|refine ay ?_|refine av ?_|refine a8 ?_|refine aa a2 rfl rfl ?_)
 exact aA rfl rfl rfl
instance (l : ba) [h : FI l] : AD Tryz.prog 92 [.agg (bj l)] (gE (tp l)) := ⟨xj l h.ok⟩
set_option maxHeartbeats 16000000 in
theorem x2 (f : aI) (h : mE f) : bQ Tryz.prog 52 [.agg (ce f)] (gE (vO f)) := by
 refine aQ Tryz.func52 rfl Tryz.ntmps52 rfl fun B => ?_
 have bl : (⟨#[32]⟩ : ByteArray).size = 1 := rfl
 have m0 : (f.Glyphs.map bA).length = f.Glyphs.length := Gu ..
 have b0 := h.glyphs.1
 haveI c0 : gP (((f.Glyphs.map bA).length : Nat) : Int) := j8 (by omega)
 have d0 := aY c0.ok
 have m1 : (f.Chars.map cw).length = f.Chars.length := Gu ..
 have b1 := h.chars.1
 haveI c1 : gP (((f.Chars.map cw).length : Nat) : Int) := j8 (by omega)
 have d1 := aY c1.ok
 have m2 : (f.Lookups.map bj).length = f.Lookups.length := Gu ..
 have b2 := h.looks.1
 haveI c2 : gP (((f.Lookups.map bj).length : Nat) : Int) := j8 (by omega)
 have d2 := aY c2.ok
 have m3 : (f.Features.map bw).length = f.Features.length := Gu ..
 have b3 := h.feats.1
 haveI c3 : gP (((f.Features.map bw).length : Nat) : Int) := j8 (by omega)
 have d3 := aY c3.ok
 have m4 : (f.Axes.map cu).length = f.Axes.length := Gu ..
 have b4 := h.axes.1
 haveI c4 : gP (((f.Axes.map cu).length : Nat) : Int) := j8 (by omega)
 have d4 := aY c4.ok
 have m5 : (f.Regions.map bk).length = f.Regions.length := Gu ..
 have b5 := h.regs.1
 haveI c5 : gP (((f.Regions.map bk).length : Nat) : Int) := j8 (by omega)
 have d5 := aY c5.ok
 have m6 : (f.Funcs.map cM).length = f.Funcs.length := Gu ..
 have b6 := h.funcs.1
 haveI c6 : gP (((f.Funcs.map cM).length : Nat) : Int) := j8 (by omega)
 have d6 := aY c6.ok
 haveI c9 : gP f.Unit := ⟨h.unit⟩
 have d9 := aY h.unit
 haveI c8 : Ef f.Cvt := ⟨h.cvt⟩
 have d8 := fB h.cvt
 have t1 : BJ f = cj f.Unit ++ cj (((f.Glyphs.map bA).length : Nat) : Int) := by unfold BJ dO; rw [m0]
 have t2 : BK f = f.Glyphs.foldl stGlyph (BJ f) ++ cj (((f.Chars.map cw).length : Nat) : Int) := by unfold BK dO; rw [m1]
 have t3 : BL f = f.Chars.foldl stChar (BK f) ++ cj (((f.Lookups.map bj).length : Nat) : Int) := by unfold BL dO; rw [m2]
 have t4 : BM f = f.Lookups.foldl stLook (BL f) ++ cj (((f.Features.map bw).length : Nat) : Int) := by unfold BM dO; rw [m3]
 have t5 : BN f = f.Features.foldl stFeat (BM f) ++ cj (((f.Axes.map cu).length : Nat) : Int) := by unfold BN dO; rw [m4]
 have t6 : wZ f = f.Axes.foldl stAxis (BN f) ++ cj (((f.Regions.map bk).length : Nat) : Int) := by unfold wZ dO; rw [m5]
 have t7 : CI f = f.Regions.foldl stReg (wZ f) ++ cj (((f.Funcs.map cM).length : Nat) : Int) := by unfold CI dO; rw [m6]
 have z0 := h.s1
 have q0 := cS (n := 16) (m := 22) h.stGlyph h.glyphs.1 h.s1
 have z1 := h.s2
 have q1 := cS (n := 32) (m := 83761) h.stChar h.chars.1 h.s2
 have z2 := h.s3
 have q2 := cS (n := 8) (m := 84476) h.stLook h.looks.1 h.s3
 have z3 := h.s4
 have q3 := cS (n := 16) (m := 390919) h.stFeat h.feats.1 h.s4
 have z4 := h.s5
 have q4 := cS (n := 16) (m := 394914) h.stAxis h.axes.1 h.s5
 have z5 := h.s6
 have q5 := cS (n := 16) (m := 396445) h.stReg h.regs.1 h.s6
 have z6 := h.s7
 have q6 := cS (n := 16) (m := 405080) h.stFunc h.funcs.1 h.s7
 repeat' (first|refine ae ?_|refine a6 ?_|refine a7 ?_|refine a8 ?_|refine aa a2 rfl rfl ?_|refine bg ?_|fail)
 refine bt 6 [(0, .v), (1, .v), (2, .v), (3, .v), (4, .v), (5, .v)] none ?_ trivial rfl (by kernel_rfl) (by kernel_rfl) (by kernel_rfl) mixed (by kernel_rfl) rfl
 repeat' (first|refine aC ?_|refine aZ a2 ?_|(apply bB;refine bP ?_)|fail)
 refine bq [1, 16, 19] rfl rfl ?_
 repeat' (first|(apply bh;refine bc ?_)|fail)
 refine eu rfl rfl (by (try simp only [Gv, bl]); omega) rfl ?_
 repeat' (first|refine ae ?_|refine a6 ?_|refine ak ?_|refine a7 ?_|refine a8 ?_|refine aa a2 rfl rfl ?_)
 have hml0 : (f.Glyphs.map bA).length = f.Glyphs.length := Gu ..
 refine aJ [1] (α := Nat) (fun i => [(4, aM i), (3, gE ((f.Glyphs.take i).foldl stGlyph (BJ f)))]) (fun i => i ≤ f.Glyphs.length) (fun _ => []) (fun i => f.Glyphs.length - i) 0 rfl ⟨rfl, by rw [t1]; rfl, trivial⟩ (Nat.zero_le _) (fun _ _ h => h) ?_
 intro i hi
 try dsimp only [Gr, Gq, Gp, Gj]
 repeat' (first|refine ae ?_|refine a6 ?_|refine a7 ?_|refine a8 ?_|refine aa a2 rfl rfl ?_)
 refine aw rfl (fun hh => ?_) (fun hh => ?_)
 ·have hil : i < f.Glyphs.length := by have := Gz hh; omega
  obtain ⟨z, hz⟩ : ∃ y, f.Glyphs[i]? = some y := ⟨_, Ee hil⟩
  have hzg := bn (c := bA) hz
  have hzm := Gx hz
  have hzn := h.glyphs.2 z hzm
  haveI : FH z := ⟨hzn⟩
  have kk0 := hzn.size
  have ki0 := cH (n := 16) (m := 22) i h.stGlyph h.glyphs.1 h.s1
  have hst : (f.Glyphs.take (i + 1)).foldl stGlyph (BJ f) = (f.Glyphs.take i).foldl stGlyph (BJ f) ++ n4 z := dp hz
  clear hh
  repeat' (first|refine ae ?_|refine a6 ?_|refine ak ?_|refine ar ?_|refine a7 ?_|refine aa a2 rfl rfl ?_|(apply aX; first|refine aW a2 ?_|refine aP a2 ?_)|(apply bh;refine bc ?_)|fail)
  refine eu rfl rfl (by (try simp only [Gv, bl]); omega) rfl ?_
  repeat' (first|refine a6 ?_|refine a7 ?_|refine aH ?_|refine a8 ?_|refine aa a2 rfl rfl ?_|(apply aV; refine aU ?_)|fail)
  exact aB (i + 1) rfl ⟨by rw [Gw]; rfl, by rw [hst]; rfl, trivial⟩ (by omega) (by omega) (fun _ _ h => h)
 have hil : i = f.Glyphs.length := by have := Gy hh; omega
 subst hil
 rw [List.take_length]
 clear hh hi
 repeat' (first|refine ae ?_|refine a6 ?_|refine aO ?_|refine a7 ?_|refine au ?_|refine ay ?_|refine av ?_|refine aa a2 rfl rfl ?_|(apply bh;refine bc ?_)|fail)
 refine eu rfl rfl (by (try simp only [Gv, bl]); omega) rfl ?_
 repeat' (first|refine ae ?_|refine a6 ?_|refine ak ?_|refine a7 ?_|refine a8 ?_|refine aa a2 rfl rfl ?_)
 have hml2 : (f.Chars.map cw).length = f.Chars.length := Gu ..
 refine aJ [1] (α := Nat) (fun i => [(5, aM i), (3, gE ((f.Chars.take i).foldl stChar (BK f)))]) (fun i => i ≤ f.Chars.length) (fun _ => []) (fun i => f.Chars.length - i) 0 rfl ⟨rfl, by rw [t2]; rfl, trivial⟩ (Nat.zero_le _) (fun _ _ h => h) ?_
 intro i hi
 try dsimp only [Gr, Gq, Gp, Gj]
 repeat' (first|refine ae ?_|refine a6 ?_|refine a7 ?_|refine a8 ?_|refine aa a2 rfl rfl ?_)
 refine aw rfl (fun hh => ?_) (fun hh => ?_)
 ·have hil : i < f.Chars.length := by have := Gz hh; omega
  obtain ⟨z, hz⟩ : ∃ y, f.Chars[i]? = some y := ⟨_, Ee hil⟩
  have hzg := bn (c := cw) hz
  have hzm := Gx hz
  have hzn := h.chars.2 z hzm
  haveI : gP z.Rune := ⟨hzn.1⟩
  haveI : gP z.Glyph := ⟨hzn.2⟩
  have kk0 := aY hzn.1
  have kk1 := aY hzn.2
  have ki0 := cH (n := 32) (m := 83761) i h.stChar h.chars.1 h.s2
  have hst : (f.Chars.take (i + 1)).foldl stChar (BK f) = (f.Chars.take i).foldl stChar (BK f) ++ cj z.Rune ++ cj z.Glyph := dp hz
  clear hh
  repeat' (first|refine ae ?_|refine ak ?_|refine ar ?_|refine a7 ?_)
  refine bt 17 [(0, .v), (1, .v), (2, .v), (3, .v), (4, .v), (5, .v), (6, .v), (7, .v), (8, .v), (9, .v), (10, .v), (11, .v), (12, .v), (13, .v), (14, .v), (15, .v), (16, .v)] none ?_ trivial rfl (by kernel_rfl) (by kernel_rfl) (by kernel_rfl) mixed (by kernel_rfl) rfl
  repeat' (first|refine aC ?_|refine aZ a2 ?_|(apply ca;refine ck a2 ?_)|(apply bB;refine bP ?_)|fail)
  refine di ?_ rfl rfl (by (try simp only [Gv, bl]); omega) (by first | trivial | rfl)
  repeat' (first|refine aC ?_|refine aZ a2 ?_|(apply ca;refine ck a2 ?_)|(apply bB;refine bP ?_)|fail)
  refine di ?_ rfl rfl (by (try simp only [Gv, bl]); omega) (by first | trivial | rfl)
  repeat' (first|fail)
  refine bq [1, 5, 66] rfl rfl ?_
  repeat' (first|refine a6 ?_|refine a7 ?_|refine aH ?_|refine a8 ?_|refine aa a2 rfl rfl ?_|(apply aV; refine aU ?_)|fail)
  exact aB (i + 1) rfl ⟨by rw [Gw]; rfl, by rw [hst]; rfl, trivial⟩ (by omega) (by omega) (fun _ _ h => h)
 have hil : i = f.Chars.length := by have := Gy hh; omega
 subst hil
 rw [List.take_length]
 clear hh hi
 repeat' (first|refine ae ?_|refine a6 ?_|refine aO ?_|refine a7 ?_|refine au ?_|refine ay ?_|refine av ?_|refine aa a2 rfl rfl ?_|(apply bh;refine bc ?_)|fail)
 refine eu rfl rfl (by (try simp only [Gv, bl]); omega) rfl ?_
 repeat' (first|refine ae ?_|refine a6 ?_|refine ak ?_|refine a7 ?_|refine a8 ?_|refine aa a2 rfl rfl ?_)
 have hml4 : (f.Lookups.map bj).length = f.Lookups.length := Gu ..
 refine aJ [1] (α := Nat) (fun i => [(6, aM i), (3, gE ((f.Lookups.take i).foldl stLook (BL f)))]) (fun i => i ≤ f.Lookups.length) (fun _ => []) (fun i => f.Lookups.length - i) 0 rfl ⟨rfl, by rw [t3]; rfl, trivial⟩ (Nat.zero_le _) (fun _ _ h => h) ?_
 intro i hi
 try dsimp only [Gr, Gq, Gp, Gj]
 repeat' (first|refine ae ?_|refine a6 ?_|refine a7 ?_|refine a8 ?_|refine aa a2 rfl rfl ?_)
 refine aw rfl (fun hh => ?_) (fun hh => ?_)
 ·have hil : i < f.Lookups.length := by have := Gz hh; omega
  obtain ⟨z, hz⟩ : ∃ y, f.Lookups[i]? = some y := ⟨_, Ee hil⟩
  have hzg := bn (c := bj) hz
  have hzm := Gx hz
  have hzn := h.looks.2 z hzm
  haveI : FI z := ⟨hzn⟩
  have kk0 := hzn.size
  have ki0 := cH (n := 8) (m := 84476) i h.stLook h.looks.1 h.s3
  have hst : (f.Lookups.take (i + 1)).foldl stLook (BL f) = (f.Lookups.take i).foldl stLook (BL f) ++ tp z := dp hz
  clear hh
  repeat' (first|refine ae ?_|refine a6 ?_|refine ak ?_|refine ar ?_|refine a7 ?_|refine aa a2 rfl rfl ?_|(apply aX; first|refine aW a2 ?_|refine aP a2 ?_)|(apply bh;refine bc ?_)|fail)
  refine eu rfl rfl (by (try simp only [Gv, bl]); omega) rfl ?_
  repeat' (first|refine a6 ?_|refine a7 ?_|refine aH ?_|refine a8 ?_|refine aa a2 rfl rfl ?_|(apply aV; refine aU ?_)|fail)
  exact aB (i + 1) rfl ⟨by rw [Gw]; rfl, by rw [hst]; rfl, trivial⟩ (by omega) (by omega) (fun _ _ h => h)
 have hil : i = f.Lookups.length := by have := Gy hh; omega
 subst hil
 rw [List.take_length]
 clear hh hi
 repeat' (first|refine ae ?_|refine a6 ?_|refine aO ?_|refine a7 ?_|refine au ?_|refine ay ?_|refine av ?_|refine aa a2 rfl rfl ?_|(apply bh;refine bc ?_)|fail)
 refine eu rfl rfl (by (try simp only [Gv, bl]); omega) rfl ?_
 repeat' (first|refine ae ?_|refine a6 ?_|refine ak ?_|refine a7 ?_|refine a8 ?_|refine aa a2 rfl rfl ?_)
 have hml6 : (f.Features.map bw).length = f.Features.length := Gu ..
 refine aJ [1] (α := Nat) (fun i => [(7, aM i), (3, gE ((f.Features.take i).foldl stFeat (BM f)))]) (fun i => i ≤ f.Features.length) (fun _ => []) (fun i => f.Features.length - i) 0 rfl ⟨rfl, by rw [t4]; rfl, trivial⟩ (Nat.zero_le _) (fun _ _ h => h) ?_
 intro i hi
 try dsimp only [Gr, Gq, Gp, Gj]
 repeat' (first|refine ae ?_|refine a6 ?_|refine a7 ?_|refine a8 ?_|refine aa a2 rfl rfl ?_)
 refine aw rfl (fun hh => ?_) (fun hh => ?_)
 ·have hil : i < f.Features.length := by have := Gz hh; omega
  obtain ⟨z, hz⟩ : ∃ y, f.Features[i]? = some y := ⟨_, Ee hil⟩
  have hzg := bn (c := bw) hz
  have hzm := Gx hz
  have hzn := h.feats.2 z hzm
  have hz0 := hzn.1
  haveI : Ef z.Lookups := ⟨hzn.2⟩
  haveI cz : gP ((z.Name.size : Nat) : Int) := j8 (by omega)
  have kk0 := aY cz.ok
  have kk1 := fB hzn.2
  have ki0 := cH (n := 16) (m := 390919) i h.stFeat h.feats.1 h.s4
  have hst : (f.Features.take (i + 1)).foldl stFeat (BM f) = (f.Features.take i).foldl stFeat (BM f) ++ cj ((z.Name.size : Nat) : Int) ++ z.Name ++ ⟨#[32]⟩ ++ of z.Lookups := dp hz
  clear hh
  repeat' (first|refine ae ?_|refine ak ?_|refine ar ?_|refine a7 ?_)
  refine bt 26 [(0, .v), (1, .v), (2, .v), (3, .v), (4, .v), (5, .v), (6, .v), (7, .v), (8, .v), (9, .v), (10, .v), (11, .v), (12, .v), (13, .v), (14, .v), (15, .v), (16, .v), (17, .v), (18, .v), (19, .v), (20, .v), (21, .v), (22, .v), (23, .v), (24, .v), (25, .v)] none ?_ trivial rfl (by kernel_rfl) (by kernel_rfl) (by kernel_rfl) mixed (by kernel_rfl) rfl
  repeat' (first|refine aC ?_|refine aZ a2 ?_|(apply ca;refine ck a2 ?_)|(apply bB;refine bP ?_)|fail)
  refine di ?_ rfl rfl (by (try simp only [Gv, bl]); omega) (by first | trivial | rfl)
  repeat' (first|refine aC ?_|refine aZ a2 ?_|(apply ca;refine ck a2 ?_)|fail)
  refine di ?_ rfl rfl (by (try simp only [Gv, bl]); omega) (by first | trivial | rfl)
  repeat' (first|refine aC ?_|fail)
  refine di ?_ rfl rfl (by (try simp only [Gv, bl]); omega) (by first | trivial | rfl)
  repeat' (first|refine aC ?_|refine aZ a2 ?_|(apply ca;refine ck a2 ?_)|(apply bB;refine bP ?_)|fail)
  refine di ?_ rfl rfl (by (try simp only [Gv, bl]); omega) (by first | trivial | rfl)
  repeat' (first|fail)
  refine bq [1, 7, 126] rfl rfl ?_
  repeat' (first|refine a6 ?_|refine a7 ?_|refine aH ?_|refine a8 ?_|refine aa a2 rfl rfl ?_|(apply aV; refine aU ?_)|fail)
  exact aB (i + 1) rfl ⟨by rw [Gw]; rfl, by rw [hst]; rfl, trivial⟩ (by omega) (by omega) (fun _ _ h => h)
 have hil : i = f.Features.length := by have := Gy hh; omega
 subst hil
 rw [List.take_length]
 clear hh hi
 repeat' (first|refine ae ?_|refine a6 ?_|refine aO ?_|refine a7 ?_|refine au ?_|refine ay ?_|refine av ?_|refine aa a2 rfl rfl ?_|(apply bh;refine bc ?_)|fail)
 refine eu rfl rfl (by (try simp only [Gv, bl]); omega) rfl ?_
 repeat' (first|refine ae ?_|refine a6 ?_|refine ak ?_|refine a7 ?_|refine a8 ?_|refine aa a2 rfl rfl ?_)
 have hml8 : (f.Axes.map cu).length = f.Axes.length := Gu ..
 refine aJ [1] (α := Nat) (fun i => [(8, aM i), (3, gE ((f.Axes.take i).foldl stAxis (BN f)))]) (fun i => i ≤ f.Axes.length) (fun _ => []) (fun i => f.Axes.length - i) 0 rfl ⟨rfl, by rw [t5]; rfl, trivial⟩ (Nat.zero_le _) (fun _ _ h => h) ?_
 intro i hi
 try dsimp only [Gr, Gq, Gp, Gj]
 repeat' (first|refine ae ?_|refine a6 ?_|refine a7 ?_|refine a8 ?_|refine aa a2 rfl rfl ?_)
 refine aw rfl (fun hh => ?_) (fun hh => ?_)
 ·have hil : i < f.Axes.length := by have := Gz hh; omega
  obtain ⟨z, hz⟩ : ∃ y, f.Axes[i]? = some y := ⟨_, Ee hil⟩
  have hzg := bn (c := cu) hz
  have hzm := Gx hz
  have hzn := h.axes.2 z hzm
  have hz0 := hzn.1
  haveI cz : gP ((z.Name.size : Nat) : Int) := j8 (by omega)
  have kk9 := aY cz.ok
  haveI : gP z.Min := ⟨hzn.2.1⟩
  haveI : gP z.Def := ⟨hzn.2.2.1⟩
  haveI : gP z.Max := ⟨hzn.2.2.2⟩
  have kk0 := aY hzn.2.1
  have kk1 := aY hzn.2.2.1
  have kk2 := aY hzn.2.2.2
  have ki0 := cH (n := 16) (m := 394914) i h.stAxis h.axes.1 h.s5
  have hst : (f.Axes.take (i + 1)).foldl stAxis (BN f) = (f.Axes.take i).foldl stAxis (BN f) ++ cj ((z.Name.size : Nat) : Int) ++ z.Name ++ ⟨#[32]⟩ ++ cj z.Min ++ cj z.Def ++ cj z.Max := dp hz
  clear hh
  repeat' (first|refine ae ?_|refine a6 ?_|refine ak ?_|refine ar ?_|refine a7 ?_|refine a8 ?_|refine aa a2 rfl rfl ?_|(apply aX; first|refine aW a2 ?_|refine aP a2 ?_)|(apply aG; first|refine ah 9 a2 0 rfl rfl rfl rfl rfl rfl rfl rfl ?_|refine ah 9 a2 1 rfl rfl rfl rfl rfl rfl rfl rfl ?_|refine ah 9 a2 2 rfl rfl rfl rfl rfl rfl rfl rfl ?_|refine ah 12 a2 0 rfl rfl rfl rfl rfl rfl rfl rfl ?_|refine ah 12 a2 1 rfl rfl rfl rfl rfl rfl rfl rfl ?_|refine ah 12 a2 2 rfl rfl rfl rfl rfl rfl rfl rfl ?_|refine ai a2 0 rfl rfl rfl rfl rfl rfl rfl ?_|refine ai a2 1 rfl rfl rfl rfl rfl rfl rfl ?_|refine ai a2 2 rfl rfl rfl rfl rfl rfl rfl ?_|refine ai a2 3 rfl rfl rfl rfl rfl rfl rfl ?_|fail)|refine b7 a2 fun _=>?_|fail)
  refine bt 22 [(0, .v), (1, .v), (2, .v), (3, .v), (4, .v), (5, .v), (6, .v), (7, .v), (8, .v), (9, .v), (10, .v), (11, .v), (12, .v), (13, .v), (14, .v), (15, .v), (16, .v), (17, .v), (18, .v), (19, .v), (20, .v), (21, .v)] none ?_ trivial rfl (by kernel_rfl) (by kernel_rfl) (by kernel_rfl) mixed (by kernel_rfl) rfl
  repeat' (first|refine aC ?_|refine aZ a2 ?_|(apply bB;refine bP ?_)|fail)
  refine di ?_ rfl rfl (by (try simp only [Gv, bl]); omega) (by first | trivial | rfl)
  repeat' (first|refine aC ?_|refine aZ a2 ?_|fail)
  refine di ?_ rfl rfl (by (try simp only [Gv, bl]); omega) (by first | trivial | rfl)
  repeat' (first|refine aC ?_|fail)
  refine di ?_ rfl rfl (by (try simp only [Gv, bl]); omega) (by first | trivial | rfl)
  repeat' (first|refine aC ?_|refine aZ a2 ?_|(apply bB;refine bP ?_)|fail)
  refine di ?_ rfl rfl (by (try simp only [Gv, bl]); omega) (by first | trivial | rfl)
  repeat' (first|refine aC ?_|refine aZ a2 ?_|(apply bB;refine bP ?_)|fail)
  refine di ?_ rfl rfl (by (try simp only [Gv, bl]); omega) (by first | trivial | rfl)
  repeat' (first|refine aC ?_|refine aZ a2 ?_|(apply bB;refine bP ?_)|fail)
  refine di ?_ rfl rfl (by (try simp only [Gv, bl]); omega) (by first | trivial | rfl)
  repeat' (first|fail)
  refine bq [1, 8, 166] rfl rfl ?_
  repeat' (first|refine a6 ?_|refine a7 ?_|refine aH ?_|refine a8 ?_|refine aa a2 rfl rfl ?_|(apply aV; refine aU ?_)|fail)
  exact aB (i + 1) rfl ⟨by rw [Gw]; rfl, by rw [hst]; rfl, trivial⟩ (by omega) (by omega) (fun _ _ h => h)
 have hil : i = f.Axes.length := by have := Gy hh; omega
 subst hil
 rw [List.take_length]
 clear hh hi
 repeat' (first|refine ae ?_|refine a6 ?_|refine aO ?_|refine a7 ?_|refine au ?_|refine ay ?_|refine av ?_|refine aa a2 rfl rfl ?_|(apply bh;refine bc ?_)|fail)
 refine eu rfl rfl (by (try simp only [Gv, bl]); omega) rfl ?_
 repeat' (first|refine ae ?_|refine a6 ?_|refine ak ?_|refine a7 ?_|refine a8 ?_|refine aa a2 rfl rfl ?_)
 have hml10 : (f.Regions.map bk).length = f.Regions.length := Gu ..
 refine aJ [1] (α := Nat) (fun i => [(10, aM i), (3, gE ((f.Regions.take i).foldl stReg (wZ f)))]) (fun i => i ≤ f.Regions.length) (fun _ => []) (fun i => f.Regions.length - i) 0 rfl ⟨rfl, by rw [t6]; rfl, trivial⟩ (Nat.zero_le _) (fun _ _ h => h) ?_
 intro i hi
 try dsimp only [Gr, Gq, Gp, Gj]
 repeat' (first|refine ae ?_|refine a6 ?_|refine a7 ?_|refine a8 ?_|refine aa a2 rfl rfl ?_)
 refine aw rfl (fun hh => ?_) (fun hh => ?_)
 ·have hil : i < f.Regions.length := by have := Gz hh; omega
  obtain ⟨z, hz⟩ : ∃ y, f.Regions[i]? = some y := ⟨_, Ee hil⟩
  have hzg := bn (c := bk) hz
  have hzm := Gx hz
  have mz : (z.map fD).length = z.length := Gu ..
  have bz := (h.regs.2 z hzm).1
  haveI : gP (((z.map fD).length : Nat) : Int) := j8 (by omega)
  have kk5 : (cj (((z.map fD).length : Nat) : Int)).size ≤ 11 := aY ⟨by omega, by omega⟩
  have e1 : dO z.length = cj (((z.map fD).length : Nat) : Int) := by unfold dO; rw [mz]
  have e2 := cH (n := 16) (m := 396445) i h.stReg h.regs.1 h.s6
  have e3 : ((f.Regions.take i).foldl stReg (wZ f) ++ dO z.length).size ≤ 16*539+396445+11 := by rw [Gv, e1]; omega
  have ki0 := cH (n := 16) (m := 396445) i h.stReg h.regs.1 h.s6
  have hst : (f.Regions.take (i + 1)).foldl stReg (wZ f) = stReg ((f.Regions.take i).foldl stReg (wZ f)) z := dp hz
  clear hh
  repeat' (first|refine ae ?_|refine a6 ?_|refine ak ?_|refine ar ?_|refine a7 ?_|refine aa a2 rfl rfl ?_|(apply aX; first|refine aW a2 ?_|refine aP a2 ?_)|(apply bh;refine bc ?_)|fail)
  refine eu rfl rfl (by (try simp only [Gv, bl]); omega) rfl ?_
  repeat' (first|refine ae ?_|refine a6 ?_|refine ak ?_|refine a7 ?_|refine a8 ?_|refine aa a2 rfl rfl ?_)
  have hml12 : (z.map fD).length = z.length := Gu ..
  refine aJ [1, 10] (α := Nat) (fun j => [(11, aM j), (3, gE ((z.take j).foldl stTent ((f.Regions.take i).foldl stReg (wZ f) ++ dO z.length)))]) (fun j => j ≤ z.length) (fun _ => []) (fun j => z.length - j) 0 rfl ⟨rfl, by rw [e1]; rfl, trivial⟩ (Nat.zero_le _) (fun _ _ h => h) ?_
  intro j hj
  try dsimp only [Gr, Gq, Gp, Gj]
  repeat' (first|refine ae ?_|refine a6 ?_|refine a7 ?_|refine a8 ?_|refine aa a2 rfl rfl ?_|(apply aX; first|refine aW a2 ?_|refine aP a2 ?_)|fail)
  refine aw rfl (fun hh => ?_) (fun hh => ?_)
  ·have hil : j < z.length := by have := Gz hh; omega
   obtain ⟨y, hy⟩ : ∃ y, z[j]? = some y := ⟨_, Ee hil⟩
   have hyg := bn (c := fD) hy
   have hym := Gx hy
   have hyn := (h.regs.2 z hzm).2 y hym
   haveI : gP y.Start := ⟨hyn.1⟩
   haveI : gP y.Peak := ⟨hyn.2.1⟩
   haveI : gP y.End := ⟨hyn.2.2⟩
   have kk0 := aY hyn.1
   have kk1 := aY hyn.2.1
   have kk2 := aY hyn.2.2
   have kj0 := cH (n := 16) (m := 16*539+396445+11) j (h.stTent hzm) bz e3
   have hst : (z.take (j + 1)).foldl stTent ((f.Regions.take i).foldl stReg (wZ f) ++ dO z.length) = (z.take j).foldl stTent ((f.Regions.take i).foldl stReg (wZ f) ++ dO z.length) ++ cj y.Start ++ cj y.Peak ++ cj y.End := dp hy
   clear hh
   repeat' (first|refine ae ?_|refine a6 ?_|refine ak ?_|refine ar ?_|refine a7 ?_|refine a8 ?_|refine aa a2 rfl rfl ?_|(apply aX; first|refine aW a2 ?_|refine aP a2 ?_)|(apply aG; first|refine ah 9 a2 0 rfl rfl rfl rfl rfl rfl rfl rfl ?_|refine ah 9 a2 1 rfl rfl rfl rfl rfl rfl rfl rfl ?_|refine ah 9 a2 2 rfl rfl rfl rfl rfl rfl rfl rfl ?_|refine ah 12 a2 0 rfl rfl rfl rfl rfl rfl rfl rfl ?_|refine ah 12 a2 1 rfl rfl rfl rfl rfl rfl rfl rfl ?_|refine ah 12 a2 2 rfl rfl rfl rfl rfl rfl rfl rfl ?_|refine ai a2 0 rfl rfl rfl rfl rfl rfl rfl ?_|refine ai a2 1 rfl rfl rfl rfl rfl rfl rfl ?_|refine ai a2 2 rfl rfl rfl rfl rfl rfl rfl ?_|refine ai a2 3 rfl rfl rfl rfl rfl rfl rfl ?_|fail)|refine b7 a2 fun _=>?_|fail)
   refine bt 12 [(0, .v), (1, .v), (2, .v), (3, .v), (4, .v), (5, .v), (6, .v), (7, .v), (8, .v), (9, .v), (10, .v), (11, .v)] none ?_ trivial rfl (by kernel_rfl) (by kernel_rfl) (by kernel_rfl) mixed (by kernel_rfl) rfl
   repeat' (first|refine aC ?_|refine aZ a2 ?_|(apply bB;refine bP ?_)|fail)
   refine di ?_ rfl rfl (by (try simp only [Gv, bl]); omega) (by first | trivial | rfl)
   repeat' (first|refine aC ?_|refine aZ a2 ?_|(apply bB;refine bP ?_)|fail)
   refine di ?_ rfl rfl (by (try simp only [Gv, bl]); omega) (by first | trivial | rfl)
   repeat' (first|refine aC ?_|refine aZ a2 ?_|(apply bB;refine bP ?_)|fail)
   refine bq [1, 10, 11, 218, 221] rfl rfl ?_
   repeat' (first|fail)
   refine eu rfl rfl (by (try simp only [Gv, bl]); omega) rfl ?_
   repeat' (first|refine a6 ?_|refine a7 ?_|refine aH ?_|refine a8 ?_|refine aa a2 rfl rfl ?_|(apply aV; refine aU ?_)|fail)
   exact aB (j + 1) rfl ⟨by rw [Gw]; rfl, by rw [hst]; rfl, trivial⟩ (by omega) (by omega) (fun _ _ h => h)
  have hil : j = z.length := by have := Gy hh; omega
  subst hil
  rw [List.take_length]
  clear hh hj
  repeat' (first|refine a6 ?_|refine aO ?_|refine a7 ?_|refine au ?_|refine aH ?_|refine ay ?_|refine av ?_|refine a8 ?_|refine aa a2 rfl rfl ?_|(apply aV; refine aU ?_)|fail)
  exact aB (i + 1) rfl ⟨by rw [Gw]; rfl, by rw [hst]; rfl, trivial⟩ (by omega) (by omega) (fun _ _ h => h)
 have hil : i = f.Regions.length := by have := Gy hh; omega
 subst hil
 rw [List.take_length]
 clear hh hi
 repeat' (first|refine ae ?_|refine a6 ?_|refine aO ?_|refine a7 ?_|refine au ?_|refine ay ?_|refine av ?_|refine aa a2 rfl rfl ?_|(apply bh;refine bc ?_)|fail)
 refine eu rfl rfl (by (try simp only [Gv, bl]); omega) rfl ?_
 repeat' (first|refine ae ?_|refine a6 ?_|refine ak ?_|refine a7 ?_|refine a8 ?_|refine aa a2 rfl rfl ?_)
 have hml14 : (f.Funcs.map cM).length = f.Funcs.length := Gu ..
 refine aJ [1] (α := Nat) (fun i => [(13, aM i), (3, gE ((f.Funcs.take i).foldl stFunc (CI f)))]) (fun i => i ≤ f.Funcs.length) (fun _ => []) (fun i => f.Funcs.length - i) 0 rfl ⟨rfl, by rw [t7]; rfl, trivial⟩ (Nat.zero_le _) (fun _ _ h => h) ?_
 intro i hi
 try dsimp only [Gr, Gq, Gp, Gj]
 repeat' (first|refine ae ?_|refine a6 ?_|refine a7 ?_|refine a8 ?_|refine aa a2 rfl rfl ?_)
 refine aw rfl (fun hh => ?_) (fun hh => ?_)
 ·have hil : i < f.Funcs.length := by have := Gz hh; omega
  obtain ⟨z, hz⟩ : ∃ y, f.Funcs[i]? = some y := ⟨_, Ee hil⟩
  have hzg := bn (c := cM) hz
  have hzm := Gx hz
  have hzn := h.funcs.2 z hzm
  haveI : Fk z := ⟨hzn⟩
  have kk0 := jy hzn
  have ki0 := cH (n := 16) (m := 405080) i h.stFunc h.funcs.1 h.s7
  have hst : (f.Funcs.take (i + 1)).foldl stFunc (CI f) = (f.Funcs.take i).foldl stFunc (CI f) ++ qC z := dp hz
  clear hh
  repeat' (first|refine ae ?_|refine a6 ?_|refine ak ?_|refine ar ?_|refine a7 ?_|refine aa a2 rfl rfl ?_|(apply aX; first|refine aW a2 ?_|refine aP a2 ?_)|(apply bh;refine bc ?_)|fail)
  refine eu rfl rfl (by (try simp only [Gv, bl]); omega) rfl ?_
  repeat' (first|refine a6 ?_|refine a7 ?_|refine aH ?_|refine a8 ?_|refine aa a2 rfl rfl ?_|(apply aV; refine aU ?_)|fail)
  exact aB (i + 1) rfl ⟨by rw [Gw]; rfl, by rw [hst]; rfl, trivial⟩ (by omega) (by omega) (fun _ _ h => h)
 have hil : i = f.Funcs.length := by have := Gy hh; omega
 subst hil
 rw [List.take_length]
 clear hh hi
 repeat' (first|refine ae ?_|refine a6 ?_|refine aO ?_|refine a7 ?_|refine au ?_|refine ay ?_|refine av ?_|refine aa a2 rfl rfl ?_|(apply bh;refine bc ?_)|fail)
 refine eu rfl rfl (by (try simp only [Gv, bl]); omega) rfl ?_
 repeat' (first|refine aq ?_|refine a7 ?_|refine a8 ?_|refine aa a2 rfl rfl ?_)
 exact aA rfl rfl rfl
class Fl (f : aI) : Prop where
 ok : mE f
instance (f : aI) [h : Fl f] : AD Tryz.prog 52 [.agg (ce f)] (gE (vO f)) := ⟨x2 f h.ok⟩
end Go.Proofs.YtjjpkibjffmceaaGreat
