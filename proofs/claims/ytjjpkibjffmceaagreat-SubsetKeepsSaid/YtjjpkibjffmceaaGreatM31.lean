/-
  The document: glyphs, lookups and fonts as texts.
-/
import Derived.Test.YtjjpkibjffmceaaGreatM30
import Derived.Test.YtjjpkibjffmceaaGreatM24
import Derived.Test.YtjjpkibjffmceaaGreatM29
import Derived.Test.YtjjpkibjffmceaaGreatM22
import Derived.Test.YtjjpkibjffmceaaGreatM07
import Derived.Test.YtjjpkibjffmceaaGreatM20
namespace Go.Proofs.YtjjpkibjffmceaaGreat
open Go.RowKit
attribute [local irreducible] AT bT AX AO Av Kt bk ej DA cX
class Ff (l : List (List Int)) : Prop where
 ok : qF l
class Fd (g : bf) : Prop where
 ok : rE g
set_option maxHeartbeats 8000000 in
theorem oB (g : bf) (h : rE g) : bO Tryz.prog 18 [.agg (bb g)] (kf (r1 g)) := by
 refine aP Tryz.func18 rfl Tryz.ntmps18 rfl fun B => ?_
 have bl : (⟨#[32]⟩ : ByteArray).size = 1 := rfl
 have m1 : (g.Points.map cP).length = g.Points.length := Gu ..
 have m2 : (g.Parts.map cn).length = g.Parts.length := Gu ..
 have m3 : (g.Anchors.map ct).length = g.Anchors.length := Gu ..
 have m4 : (g.Deltas.map cW).length = g.Deltas.length := Gu ..
 have b0 := h.name
 have b1 := h.pts.1
 have b2 := h.parts.1
 have b3 := h.anchors.1
 have b4 := h.deltas.1
 haveI c0 : mY ((g.Name.size : Nat) : Int) := uv (by omega)
 haveI c1 : mY (((g.Points.map cP).length : Nat) : Int) := uv (by omega)
 haveI c2 : mY (((g.Parts.map cn).length : Nat) : Int) := uv (by omega)
 haveI c3 : mY (((g.Anchors.map ct).length : Nat) : Int) := uv (by omega)
 haveI c4 : mY (((g.Deltas.map cW).length : Nat) : Int) := uv (by omega)
 haveI c5 : mY g.Advance := ⟨h.adv⟩
 haveI c6 : F4 g.Ends := ⟨h.ends⟩
 haveI c7 : F1 g.Hint := ⟨h.hint⟩
 have d0 := bG c0.ok
 have d1 := bG c1.ok
 have d2 := bG c2.ok
 have d3 := bG c3.ok
 have d4 := bG c4.ok
 have d5 := bG c5.ok
 have d6 := qq h.ends
 have d7 := tM h.hint
 have d8 := kA g.Mark
 have t1 : AW g = df ((g.Name.size : Nat) : Int) ++ g.Name ++ ⟨#[32]⟩ ++ df g.Advance ++ tj g.Mark ++ df (((g.Points.map cP).length : Nat) : Int) := by unfold AW fk; rw [m1]; rfl
 have t2 : AZ g = g.Points.foldl stPoint (AW g) ++ ru g.Ends ++ df (((g.Parts.map cn).length : Nat) : Int) := by unfold AZ fk; rw [m2]
 have t3 : B0 g = g.Parts.foldl stPart (AZ g) ++ df (((g.Anchors.map ct).length : Nat) : Int) := by unfold B0 fk; rw [m3]
 have t4 : BR g = g.Anchors.foldl stAnchor (B0 g) ++ df (((g.Deltas.map cW).length : Nat) : Int) := by unfold BR fk; rw [m4]
 have z1 := h.s1
 have z2 := h.s2
 have z3 := h.s3
 have z4 := h.s4
 have q1 := gP (n := 16) (m := 86) h.stPoint h.pts.1 h.s1
 have q2 := gP (n := 16) (m := 668) h.stPart h.parts.1 h.s2
 have q3 := gP (n := 16) (m := 1207) h.stAnchor h.anchors.1 h.s3
 have q4 := gP (n := 50) (m := 1922) h.stDelta h.deltas.1 h.s4
 repeat' (first|refine ah ?_|refine a7 ?_|refine a8 ?_|refine aa ?_|refine ae a6 rfl rfl ?_|refine be ?_|fail)
 refine bt 22 [(0, .v), (1, .v), (2, .v), (3, .v), (4, .v), (5, .v), (6, .v), (7, .v), (8, .v), (9, .v), (10, .v), (11, .v), (12, .v), (13, .v), (14, .v), (15, .v), (16, .v), (17, .v), (18, .v), (19, .v), (20, .v), (21, .v)] none ?_ trivial rfl (by kernel_rfl) (by kernel_rfl) (by kernel_rfl) mixed (by kernel_rfl) rfl
 repeat' (first|refine aE ?_|refine aZ a6 ?_|(apply bX;refine cm ?_)|fail)
 refine fA ?_ rfl rfl (by (try simp only [Gv, bl]); omega) (by first | trivial | rfl)
 repeat' (first|refine aE ?_|fail)
 refine fA ?_ rfl rfl (by (try simp only [Gv, bl]); omega) (by first | trivial | rfl)
 repeat' (first|refine aE ?_|refine aZ a6 ?_|(apply bX;refine cm ?_)|fail)
 refine fA ?_ rfl rfl (by (try simp only [Gv, bl]); omega) (by first | trivial | rfl)
 repeat' (first|refine aE ?_|refine aZ a6 ?_|(apply bX;refine cm ?_)|fail)
 refine fA ?_ rfl rfl (by (try simp only [Gv, bl]); omega) (by first | trivial | rfl)
 repeat' (first|refine aE ?_|refine aZ a6 ?_|(apply bX;refine cm ?_)|fail)
 refine fA ?_ rfl rfl (by (try simp only [Gv, bl]); omega) (by first | trivial | rfl)
 repeat' (first|fail)
 refine br [1, 32] rfl rfl ?_
 repeat' (first|refine ah ?_|refine a7 ?_|refine aq ?_|refine a8 ?_|refine aa ?_|refine ae a6 rfl rfl ?_)
 have hml0 : (g.Points.map cP).length = g.Points.length := Gu ..
 refine aN [1] (α := Nat) (fun i => [(4, aM i), (3, kf ((g.Points.take i).foldl stPoint (AW g)))]) (fun i => i ≤ g.Points.length) (fun _ => []) (fun i => g.Points.length - i) 0 rfl ⟨rfl, by rw [t1]; rfl, trivial⟩ (Nat.zero_le _) (fun _ _ h => h) ?_
 intro i hi
 try dsimp only [Gr, Gq, Gp, Gj]
 repeat' (first|refine ah ?_|refine a7 ?_|refine a8 ?_|refine aa ?_|refine ae a6 rfl rfl ?_)
 refine aw rfl (fun hh => ?_) (fun hh => ?_)
 ·have hil : i < g.Points.length := by have := Gz hh; omega
  obtain ⟨z, hz⟩ : ∃ y, g.Points[i]? = some y := ⟨_, Ds hil⟩
  have hzg := bj (c := cP) hz
  have hzm := Gx hz
  have hzn := h.pts.2 z hzm
  haveI : mY z.X := ⟨hzn.1⟩
  haveI : mY z.Y := ⟨hzn.2⟩
  have kk0 := bG hzn.1
  have kk1 := bG hzn.2
  have kk9 := kA z.On
  have ki0 := ga (n := 16) (m := 86) i h.stPoint h.pts.1 h.s1
  have hst : (g.Points.take (i + 1)).foldl stPoint (AW g) = (g.Points.take i).foldl stPoint (AW g) ++ df z.X ++ df z.Y ++ tj z.On := gU hz
  clear hh
  repeat' (first|refine ah ?_|refine a7 ?_|refine aq ?_|refine au ?_|refine a8 ?_|refine aa ?_|refine ae a6 rfl rfl ?_|(apply aY; first|refine aX a6 ?_|refine aS a6 ?_)|(apply aH; first|refine ai 5 a6 0 rfl rfl rfl rfl rfl rfl rfl rfl ?_|refine ai 5 a6 1 rfl rfl rfl rfl rfl rfl rfl rfl ?_|refine ai 5 a6 2 rfl rfl rfl rfl rfl rfl rfl rfl ?_|refine ai 8 a6 0 rfl rfl rfl rfl rfl rfl rfl rfl ?_|refine ai 8 a6 1 rfl rfl rfl rfl rfl rfl rfl rfl ?_|refine ai 8 a6 2 rfl rfl rfl rfl rfl rfl rfl rfl ?_|refine ai 10 a6 0 rfl rfl rfl rfl rfl rfl rfl rfl ?_|refine ai 10 a6 1 rfl rfl rfl rfl rfl rfl rfl rfl ?_|refine ai 10 a6 2 rfl rfl rfl rfl rfl rfl rfl rfl ?_|refine aj a6 0 rfl rfl rfl rfl rfl rfl rfl ?_|refine aj a6 1 rfl rfl rfl rfl rfl rfl rfl ?_|refine aj a6 2 rfl rfl rfl rfl rfl rfl rfl ?_|refine aj a6 3 rfl rfl rfl rfl rfl rfl rfl ?_|fail)|refine b5 a6 fun _=>?_|fail)
  refine bt 12 [(0, .v), (1, .v), (2, .v), (3, .v), (4, .v), (5, .v), (6, .v), (7, .v), (8, .v), (9, .v), (10, .v), (11, .v)] none ?_ trivial rfl (by kernel_rfl) (by kernel_rfl) (by kernel_rfl) mixed (by kernel_rfl) rfl
  repeat' (first|refine aE ?_|refine aZ a6 ?_|(apply bX;refine cm ?_)|fail)
  refine fA ?_ rfl rfl (by (try simp only [Gv, bl]); omega) (by first | trivial | rfl)
  repeat' (first|refine aE ?_|refine aZ a6 ?_|(apply bX;refine cm ?_)|fail)
  refine fA ?_ rfl rfl (by (try simp only [Gv, bl]); omega) (by first | trivial | rfl)
  repeat' (first|refine aE ?_|refine aZ a6 ?_|(apply bX;refine cm ?_)|fail)
  refine br [1, 4, 55, 58] rfl rfl ?_
  repeat' (first|fail)
  refine it rfl rfl (by (try simp only [Gv, bl]); omega) rfl ?_
  repeat' (first|refine a7 ?_|refine a8 ?_|refine aI ?_|refine aa ?_|refine ae a6 rfl rfl ?_|(apply aW; refine aV ?_)|fail)
  exact aC (i + 1) rfl ⟨by rw [Gw]; rfl, by rw [hst]; rfl, trivial⟩ (by omega) (by omega) (fun _ _ h => h)
 have hil : i = g.Points.length := by have := Gy hh; omega
 subst hil
 rw [List.take_length]
 clear hh hi
 repeat' (first|refine ah ?_|refine aR ?_|refine a8 ?_|refine av ?_|refine aB ?_|refine ay ?_)
 refine bt 10 [(0, .v), (1, .v), (2, .v), (3, .v), (4, .v), (5, .v), (6, .v), (7, .v), (8, .v), (9, .v)] none ?_ trivial rfl (by kernel_rfl) (by kernel_rfl) (by kernel_rfl) mixed (by kernel_rfl) rfl
 repeat' (first|refine aE ?_|refine aZ a6 ?_|(apply bX;refine cm ?_)|fail)
 refine fA ?_ rfl rfl (by (try simp only [Gv, bl]); omega) (by first | trivial | rfl)
 repeat' (first|refine aE ?_|refine aZ a6 ?_|(apply bX;refine cm ?_)|fail)
 refine br [1, 65, 69] rfl rfl ?_
 repeat' (first|fail)
 refine it rfl rfl (by (try simp only [Gv, bl]); omega) rfl ?_
 repeat' (first|refine ah ?_|refine a7 ?_|refine aq ?_|refine a8 ?_|refine aa ?_|refine ae a6 rfl rfl ?_)
 have hml2 : (g.Parts.map cn).length = g.Parts.length := Gu ..
 refine aN [1] (α := Nat) (fun i => [(6, aM i), (3, kf ((g.Parts.take i).foldl stPart (AZ g)))]) (fun i => i ≤ g.Parts.length) (fun _ => []) (fun i => g.Parts.length - i) 0 rfl ⟨rfl, by rw [t2]; rfl, trivial⟩ (Nat.zero_le _) (fun _ _ h => h) ?_
 intro i hi
 try dsimp only [Gr, Gq, Gp, Gj]
 repeat' (first|refine ah ?_|refine a7 ?_|refine a8 ?_|refine aa ?_|refine ae a6 rfl rfl ?_)
 refine aw rfl (fun hh => ?_) (fun hh => ?_)
 ·have hil : i < g.Parts.length := by have := Gz hh; omega
  obtain ⟨z, hz⟩ : ∃ y, g.Parts[i]? = some y := ⟨_, Ds hil⟩
  have hzg := bj (c := cn) hz
  have hzm := Gx hz
  have hzn := h.parts.2 z hzm
  haveI : mY z.Glyph := ⟨hzn.1⟩
  haveI : mY z.X := ⟨hzn.2.1⟩
  haveI : mY z.Y := ⟨hzn.2.2⟩
  have kk0 := bG hzn.1
  have kk1 := bG hzn.2.1
  have kk2 := bG hzn.2.2
  have ki0 := ga (n := 16) (m := 668) i h.stPart h.parts.1 h.s2
  have hst : (g.Parts.take (i + 1)).foldl stPart (AZ g) = (g.Parts.take i).foldl stPart (AZ g) ++ df z.Glyph ++ df z.X ++ df z.Y := gU hz
  clear hh
  repeat' (first|refine ah ?_|refine aq ?_|refine au ?_|refine a8 ?_)
  refine bt 25 [(0, .v), (1, .v), (2, .v), (3, .v), (4, .v), (5, .v), (6, .v), (7, .v), (8, .v), (9, .v), (10, .v), (11, .v), (12, .v), (13, .v), (14, .v), (15, .v), (16, .v), (17, .v), (18, .v), (19, .v), (20, .v), (21, .v), (22, .v), (23, .v), (24, .v)] none ?_ trivial rfl (by kernel_rfl) (by kernel_rfl) (by kernel_rfl) mixed (by kernel_rfl) rfl
  repeat' (first|refine aE ?_|refine aZ a6 ?_|(apply bP;refine c8 a6 ?_)|(apply bX;refine cm ?_)|fail)
  refine fA ?_ rfl rfl (by (try simp only [Gv, bl]); omega) (by first | trivial | rfl)
  repeat' (first|refine aE ?_|refine aZ a6 ?_|(apply bP;refine c8 a6 ?_)|(apply bX;refine cm ?_)|fail)
  refine fA ?_ rfl rfl (by (try simp only [Gv, bl]); omega) (by first | trivial | rfl)
  repeat' (first|refine aE ?_|refine aZ a6 ?_|(apply bP;refine c8 a6 ?_)|(apply bX;refine cm ?_)|fail)
  refine fA ?_ rfl rfl (by (try simp only [Gv, bl]); omega) (by first | trivial | rfl)
  repeat' (first|fail)
  refine br [1, 6, 102] rfl rfl ?_
  repeat' (first|refine a7 ?_|refine a8 ?_|refine aI ?_|refine aa ?_|refine ae a6 rfl rfl ?_|(apply aW; refine aV ?_)|fail)
  exact aC (i + 1) rfl ⟨by rw [Gw]; rfl, by rw [hst]; rfl, trivial⟩ (by omega) (by omega) (fun _ _ h => h)
 have hil : i = g.Parts.length := by have := Gy hh; omega
 subst hil
 rw [List.take_length]
 clear hh hi
 repeat' (first|refine ah ?_|refine a7 ?_|refine aR ?_|refine a8 ?_|refine av ?_|refine aB ?_|refine ay ?_|refine ae a6 rfl rfl ?_|(apply bA;refine bh ?_)|fail)
 refine it rfl rfl (by (try simp only [Gv, bl]); omega) rfl ?_
 repeat' (first|refine ah ?_|refine a7 ?_|refine aq ?_|refine a8 ?_|refine aa ?_|refine ae a6 rfl rfl ?_)
 have hml4 : (g.Anchors.map ct).length = g.Anchors.length := Gu ..
 refine aN [1] (α := Nat) (fun i => [(7, aM i), (3, kf ((g.Anchors.take i).foldl stAnchor (B0 g)))]) (fun i => i ≤ g.Anchors.length) (fun _ => []) (fun i => g.Anchors.length - i) 0 rfl ⟨rfl, by rw [t3]; rfl, trivial⟩ (Nat.zero_le _) (fun _ _ h => h) ?_
 intro i hi
 try dsimp only [Gr, Gq, Gp, Gj]
 repeat' (first|refine ah ?_|refine a7 ?_|refine a8 ?_|refine aa ?_|refine ae a6 rfl rfl ?_)
 refine aw rfl (fun hh => ?_) (fun hh => ?_)
 ·have hil : i < g.Anchors.length := by have := Gz hh; omega
  obtain ⟨z, hz⟩ : ∃ y, g.Anchors[i]? = some y := ⟨_, Ds hil⟩
  have hzg := bj (c := ct) hz
  have hzm := Gx hz
  have hzn := h.anchors.2 z hzm
  haveI : mY z.Kind := ⟨hzn.1⟩
  haveI : mY z.Class := ⟨hzn.2.1⟩
  haveI : mY z.X := ⟨hzn.2.2.1⟩
  haveI : mY z.Y := ⟨hzn.2.2.2⟩
  have kk0 := bG hzn.1
  have kk1 := bG hzn.2.1
  have kk2 := bG hzn.2.2.1
  have kk3 := bG hzn.2.2.2
  have ki0 := ga (n := 16) (m := 1207) i h.stAnchor h.anchors.1 h.s3
  have hst : (g.Anchors.take (i + 1)).foldl stAnchor (B0 g) = (g.Anchors.take i).foldl stAnchor (B0 g) ++ df z.Kind ++ df z.Class ++ df z.X ++ df z.Y := gU hz
  clear hh
  repeat' (first|refine ah ?_|refine a7 ?_|refine aq ?_|refine au ?_|refine a8 ?_|refine aa ?_|refine ae a6 rfl rfl ?_|(apply aY; first|refine aX a6 ?_|refine aS a6 ?_)|(apply aH; first|refine ai 5 a6 0 rfl rfl rfl rfl rfl rfl rfl rfl ?_|refine ai 5 a6 1 rfl rfl rfl rfl rfl rfl rfl rfl ?_|refine ai 5 a6 2 rfl rfl rfl rfl rfl rfl rfl rfl ?_|refine ai 8 a6 0 rfl rfl rfl rfl rfl rfl rfl rfl ?_|refine ai 8 a6 1 rfl rfl rfl rfl rfl rfl rfl rfl ?_|refine ai 8 a6 2 rfl rfl rfl rfl rfl rfl rfl rfl ?_|refine ai 10 a6 0 rfl rfl rfl rfl rfl rfl rfl rfl ?_|refine ai 10 a6 1 rfl rfl rfl rfl rfl rfl rfl rfl ?_|refine ai 10 a6 2 rfl rfl rfl rfl rfl rfl rfl rfl ?_|refine aj a6 0 rfl rfl rfl rfl rfl rfl rfl ?_|refine aj a6 1 rfl rfl rfl rfl rfl rfl rfl ?_|refine aj a6 2 rfl rfl rfl rfl rfl rfl rfl ?_|refine aj a6 3 rfl rfl rfl rfl rfl rfl rfl ?_|fail)|refine b5 a6 fun _=>?_|fail)
  refine bt 16 [(0, .v), (1, .v), (2, .v), (3, .v), (4, .v), (5, .v), (6, .v), (7, .v), (8, .v), (9, .v), (10, .v), (11, .v), (12, .v), (13, .v), (14, .v), (15, .v)] none ?_ trivial rfl (by kernel_rfl) (by kernel_rfl) (by kernel_rfl) mixed (by kernel_rfl) rfl
  repeat' (first|refine aE ?_|refine aZ a6 ?_|(apply bX;refine cm ?_)|fail)
  refine fA ?_ rfl rfl (by (try simp only [Gv, bl]); omega) (by first | trivial | rfl)
  repeat' (first|refine aE ?_|refine aZ a6 ?_|(apply bX;refine cm ?_)|fail)
  refine fA ?_ rfl rfl (by (try simp only [Gv, bl]); omega) (by first | trivial | rfl)
  repeat' (first|refine aE ?_|refine aZ a6 ?_|(apply bX;refine cm ?_)|fail)
  refine fA ?_ rfl rfl (by (try simp only [Gv, bl]); omega) (by first | trivial | rfl)
  repeat' (first|refine aE ?_|refine aZ a6 ?_|(apply bX;refine cm ?_)|fail)
  refine br [1, 7, 133, 136] rfl rfl ?_
  repeat' (first|fail)
  refine it rfl rfl (by (try simp only [Gv, bl]); omega) rfl ?_
  repeat' (first|refine a7 ?_|refine a8 ?_|refine aI ?_|refine aa ?_|refine ae a6 rfl rfl ?_|(apply aW; refine aV ?_)|fail)
  exact aC (i + 1) rfl ⟨by rw [Gw]; rfl, by rw [hst]; rfl, trivial⟩ (by omega) (by omega) (fun _ _ h => h)
 have hil : i = g.Anchors.length := by have := Gy hh; omega
 subst hil
 rw [List.take_length]
 clear hh hi
 repeat' (first|refine ah ?_|refine a7 ?_|refine aR ?_|refine a8 ?_|refine av ?_|refine aB ?_|refine ay ?_|refine ae a6 rfl rfl ?_|(apply bA;refine bh ?_)|fail)
 refine it rfl rfl (by (try simp only [Gv, bl]); omega) rfl ?_
 repeat' (first|refine ah ?_|refine a7 ?_|refine aq ?_|refine a8 ?_|refine aa ?_|refine ae a6 rfl rfl ?_)
 have hml6 : (g.Deltas.map cW).length = g.Deltas.length := Gu ..
 refine aN [1] (α := Nat) (fun i => [(9, aM i), (3, kf ((g.Deltas.take i).foldl stDelta (BR g)))]) (fun i => i ≤ g.Deltas.length) (fun _ => []) (fun i => g.Deltas.length - i) 0 rfl ⟨rfl, by rw [t4]; rfl, trivial⟩ (Nat.zero_le _) (fun _ _ h => h) ?_
 intro i hi
 try dsimp only [Gr, Gq, Gp, Gj]
 repeat' (first|refine ah ?_|refine a7 ?_|refine a8 ?_|refine aa ?_|refine ae a6 rfl rfl ?_)
 refine aw rfl (fun hh => ?_) (fun hh => ?_)
 ·have hil : i < g.Deltas.length := by have := Gz hh; omega
  obtain ⟨z, hz⟩ : ∃ y, g.Deltas[i]? = some y := ⟨_, Ds hil⟩
  have hzg := bj (c := cW) hz
  have hzm := Gx hz
  have hzn := h.deltas.2 z hzm
  haveI : mY z.Region := ⟨hzn.1⟩
  haveI : mY z.Point := ⟨hzn.2.1⟩
  haveI : mY z.X := ⟨hzn.2.2.1⟩
  haveI : mY z.Y := ⟨hzn.2.2.2⟩
  have kk0 := bG hzn.1
  have kk1 := bG hzn.2.1
  have kk2 := bG hzn.2.2.1
  have kk3 := bG hzn.2.2.2
  have ki0 := ga (n := 50) (m := 1922) i h.stDelta h.deltas.1 h.s4
  have hst : (g.Deltas.take (i + 1)).foldl stDelta (BR g) = (g.Deltas.take i).foldl stDelta (BR g) ++ df z.Region ++ df z.Point ++ df z.X ++ df z.Y := gU hz
  clear hh
  repeat' (first|refine ah ?_|refine a7 ?_|refine aq ?_|refine au ?_|refine a8 ?_|refine aa ?_|refine ae a6 rfl rfl ?_|(apply aY; first|refine aX a6 ?_|refine aS a6 ?_)|(apply aH; first|refine ai 5 a6 0 rfl rfl rfl rfl rfl rfl rfl rfl ?_|refine ai 5 a6 1 rfl rfl rfl rfl rfl rfl rfl rfl ?_|refine ai 5 a6 2 rfl rfl rfl rfl rfl rfl rfl rfl ?_|refine ai 8 a6 0 rfl rfl rfl rfl rfl rfl rfl rfl ?_|refine ai 8 a6 1 rfl rfl rfl rfl rfl rfl rfl rfl ?_|refine ai 8 a6 2 rfl rfl rfl rfl rfl rfl rfl rfl ?_|refine ai 10 a6 0 rfl rfl rfl rfl rfl rfl rfl rfl ?_|refine ai 10 a6 1 rfl rfl rfl rfl rfl rfl rfl rfl ?_|refine ai 10 a6 2 rfl rfl rfl rfl rfl rfl rfl rfl ?_|refine aj a6 0 rfl rfl rfl rfl rfl rfl rfl ?_|refine aj a6 1 rfl rfl rfl rfl rfl rfl rfl ?_|refine aj a6 2 rfl rfl rfl rfl rfl rfl rfl ?_|refine aj a6 3 rfl rfl rfl rfl rfl rfl rfl ?_|fail)|refine b5 a6 fun _=>?_|fail)
  refine bt 16 [(0, .v), (1, .v), (2, .v), (3, .v), (4, .v), (5, .v), (6, .v), (7, .v), (8, .v), (9, .v), (10, .v), (11, .v), (12, .v), (13, .v), (14, .v), (15, .v)] none ?_ trivial rfl (by kernel_rfl) (by kernel_rfl) (by kernel_rfl) mixed (by kernel_rfl) rfl
  repeat' (first|refine aE ?_|refine aZ a6 ?_|(apply bX;refine cm ?_)|fail)
  refine fA ?_ rfl rfl (by (try simp only [Gv, bl]); omega) (by first | trivial | rfl)
  repeat' (first|refine aE ?_|refine aZ a6 ?_|(apply bX;refine cm ?_)|fail)
  refine fA ?_ rfl rfl (by (try simp only [Gv, bl]); omega) (by first | trivial | rfl)
  repeat' (first|refine aE ?_|refine aZ a6 ?_|(apply bX;refine cm ?_)|fail)
  refine fA ?_ rfl rfl (by (try simp only [Gv, bl]); omega) (by first | trivial | rfl)
  repeat' (first|refine aE ?_|refine aZ a6 ?_|(apply bX;refine cm ?_)|fail)
  refine br [1, 9, 168, 171] rfl rfl ?_
  repeat' (first|fail)
  refine it rfl rfl (by (try simp only [Gv, bl]); omega) rfl ?_
  repeat' (first|refine a7 ?_|refine a8 ?_|refine aI ?_|refine aa ?_|refine ae a6 rfl rfl ?_|(apply aW; refine aV ?_)|fail)
  exact aC (i + 1) rfl ⟨by rw [Gw]; rfl, by rw [hst]; rfl, trivial⟩ (by omega) (by omega) (fun _ _ h => h)
 have hil : i = g.Deltas.length := by have := Gy hh; omega
 subst hil
 rw [List.take_length]
 clear hh hi
 repeat' (first|refine ah ?_|refine a7 ?_|refine aR ?_|refine a8 ?_|refine av ?_|refine aB ?_|refine ay ?_|refine ae a6 rfl rfl ?_|(apply bA;refine bh ?_)|fail)
 refine it rfl rfl (by (try simp only [Gv, bl]); omega) rfl ?_
 repeat' (first|refine ar ?_|refine a8 ?_|refine aa ?_|refine ae a6 rfl rfl ?_)
 exact aA rfl rfl rfl
class Fx (l : b9) : Prop where
 ok : EA l
class Fw (f : aJ) : Prop where
 ok : zN f
theorem tX {α β : Type} {w : α → Option β} : ∀ {l : List α}, (∀ x ∈ l, (w x).isSome = true) → (l.filterMap w).length = l.length ∧ ∀ (i : Nat) x, l[i]? = some x → (l.filterMap w)[i]? = w x
 | [], _ => ⟨rfl, fun i x h => by cases h⟩
 | a :: r, h => by
  obtain ⟨h1, h2⟩ := tX (w := w) (l := r) fun x hx => h x (Gt _ hx)
  have h0 := h a (List.mem_cons_self ..)
  obtain ⟨b, hb⟩ := Option.isSome_iff_exists.1 h0
  have e : (a :: r).filterMap w = b :: r.filterMap w := by rw [List.filterMap_cons, hb]
  rw [e]
  refine ⟨by simp [h1], fun i x hx => ?_⟩
  cases i with
  | zero =>
   rw [List.getElem?_cons_zero] at hx ⊢
   cases hx
   exact hb.symm
  | succ i =>
   rw [List.getElem?_cons_succ] at hx ⊢
   exact h2 i x hx
theorem E3 {α β : Type} {w : α → Option β} {l : List α} {i : Nat} {x : α} {y : β} (h : l[i]? = some x) (hw : w x = some y) : (l.filterMap w)[((l.take i).filterMap w).length]? = some y := by
 obtain ⟨hi, hx⟩ := Gn h
 have e : l = l.take i ++ x :: l.drop (i + 1) := by
  rw [← hx, List.getElem_cons_drop, List.take_append_drop]
 have e2 : l.filterMap w = (l.take i).filterMap w ++ y :: (l.drop (i + 1)).filterMap w := by
  conv => lhs; rw [e]
  rw [List.filterMap_append, List.filterMap_cons, hw]
 rw [e2, List.getElem?_append_right (Nat.le_refl _), Nat.sub_self]
 rfl
theorem Bo (l : List Int) (n : Nat) : (lb l n).Pairwise (· < ·) := by
  unfold lb
  refine List.Pairwise.filter _ (List.pairwise_map.2 ?_)
  exact List.pairwise_lt_range.imp fun h => Int.ofNat_lt.2 h
theorem yp (f : aJ) (rs : List Int) (fs : List ByteArray) : (gI f rs fs).Pairwise (· < ·) := by
  unfold gI
  rw [lc (lM (f := f) rs fs).ok]
  exact Bo _ _
theorem nS {G : List Int} {z : Int} (h : z ∈ G) : ec G z = some (G.idxOf z : Int) ∧ G[G.idxOf z]? = some z := by
 refine ⟨by unfold ec; rw [if_pos h], ?_⟩
 have := List.idxOf_lt_length_of_mem h
 rw [Ds this, List.getElem_idxOf]
section
variable {f : aJ} (h : eH f) {rs : List Int} {fs : List ByteArray}
include h
theorem wA {z : Int} {g : bf} {p : cB} (hz : z ∈ gI f rs fs) (hg : f.Glyphs[z.toNat]? = some g) (hp : p ∈ g.Parts) : p.Glyph ∈ gI f rs fs := by
 rw [mH] at hz ⊢
 have hk := lM (f := f) rs fs
 refine hk.closed _ ?_
 unfold eK
 rw [qy]
 refine ⟨.inl ?_, ?_⟩
 ·unfold eL
  rw [List.mem_flatMap]
  refine ⟨z, eX.2 (.inr ⟨hz, hk.ok.dom z hz⟩), Gt _ ?_⟩
  unfold lX
  rw [hg]
  exact List.mem_map_of_mem hp
 ·have hN := h.glyN
  rcases (h.gly _ _ hg).parts with e | ⟨_, x, y, e, _⟩
  ·rw [e] at hp; cases hp
  ·rw [e] at hp
   rw [Gk hp]
   dsimp only
   omega
theorem wz {c : dO} (hc : c ∈ f.Chars) (hr : c.Rune ∈ rs) : c.Glyph ∈ gI f rs fs := by
 rw [mH]
 refine (lM (f := f) rs fs).start _ ?_
 unfold eu xJ
 refine eX.2 (.inr ⟨Gt _ (List.mem_map.2 ⟨c, List.mem_filter.2 ⟨hc, decide_eq_true hr⟩, rfl⟩), h.charG c hc⟩)
end
theorem w7 {f : aJ} {rs : List Int} {fs : List ByteArray} {G K : List Int} (hG : ce f.Glyphs.length G) : (pC f rs fs G K).Glyphs.length = G.length ∧ ∀ (i : Nat) z, G[i]? = some z → ∃ y, f.Glyphs[z.toNat]? = some y ∧ (pC f rs fs G K).Glyphs[i]? = some (dC G y) := by
 obtain ⟨h1, h2⟩ := tX (w := fun n : Int => f.Glyphs[n.toNat]?.map (dC G)) (l := G) fun x hx => by
  have := hG.dom x hx
  rw [Ds (by omega)]
  rfl
 refine ⟨h1, fun i z hz => ?_⟩
 have hd := hG.dom z (Gx hz)
 refine ⟨f.Glyphs[z.toNat]'(by omega), Ds (by omega), ?_⟩
 have h3 := h2 i z hz
 have h4 : f.Glyphs[z.toNat]? = some (f.Glyphs[z.toNat]'(by omega)) := Ds _
 rw [h4] at h3
 exact h3
theorem w8 {G : List Int} {y : bf} (h : ∀ p ∈ y.Parts, p.Glyph ∈ G) : (dC G y).Parts.length = y.Parts.length ∧ ∀ (k : Nat) p, y.Parts[k]? = some p → ∃ n : Nat, n < G.length ∧ G[n]? = some p.Glyph ∧ (dC G y).Parts[k]? = some { p with Glyph := (n : Int) } := by
 obtain ⟨h1, h2⟩ := tX (w := iq G) (l := y.Parts) fun x hx => by
  unfold iq
  rw [(nS (h x hx)).1]
  rfl
 refine ⟨h1, fun k p hp => ?_⟩
 have hm := h p (Gx hp)
 refine ⟨G.idxOf p.Glyph, List.idxOf_lt_length_of_mem hm, (nS hm).2, ?_⟩
 have := h2 k p hp
 unfold iq at this
 rw [(nS hm).1] at this
 exact this
end Go.Proofs.YtjjpkibjffmceaaGreat
namespace Go.Proofs.YtjjpkibjffmceaaGreat
open Go.RowKit
attribute [local irreducible] AT bT AX AO Av Kt bk ej DA cX
theorem yj (l : List Int) (n : Int) : bO Tryz.prog 19 [.imm 1 (aU l), .sc (.int .i64 n)] (.sc (.bool (l.contains n))) := by
 refine aP Tryz.func19 rfl Tryz.ntmps19 rfl fun B => ?_
 refine cz 0 rfl rfl fun hlen => ?_
 rw [aQ] at hlen
 repeat' (first|refine ah ?_|refine a7 ?_|refine aq ?_|refine a8 ?_|refine aa ?_|refine ae a6 rfl rfl ?_)
 refine aN [0, 1] (α := Nat) (fun i => [(5, .sc (.int .i64 i))]) (fun i => i ≤ l.length ∧ (l.take i).contains n = false) (fun _ => []) (fun i => l.length - i) 0 rfl ⟨rfl, trivial⟩ ⟨Nat.zero_le _, by simp⟩ (fun _ _ h => h) fun i hi => ?_
 try dsimp only [Gr, Gq, Gp, Gj]
 repeat' (first|refine ah ?_|refine a7 ?_|refine a8 ?_|refine aa ?_|refine ae a6 rfl rfl ?_)
 refine aw rfl (fun h => ?_) (fun h => ?_)
 ·have hil : i < l.length := by have := Gz h; rw [aQ] at this; omega
  obtain ⟨z, hz⟩ : ∃ z, l[i]? = some z := ⟨_, Ds hil⟩
  have hzg := bN hz
  repeat' (first|refine ah ?_|refine a7 ?_|refine aq ?_|refine au ?_|refine a8 ?_|refine aa ?_|refine ae a6 rfl rfl ?_|(apply aY; first|refine aX a6 ?_|refine aS a6 ?_)|fail)
  refine aw rfl (fun h2 => ?_) (fun h2 => ?_)
  ·have h2' := Gz h2
   repeat' (first|refine ah ?_|refine a7 ?_|refine ar ?_|refine a8 ?_|refine aF ?_|refine aT ?_|refine bE ?_|refine aa ?_|refine ae a6 rfl rfl ?_)
   refine aA rfl rfl ?_
   subst h2'
   rw [show l.contains z = true by simpa using Gx hz]
  ·have h2' := Gy h2
   repeat' (first|refine a7 ?_|refine au ?_|refine a8 ?_|refine aI ?_|refine aa ?_|refine ae a6 rfl rfl ?_|(apply aW; refine aV ?_)|fail)
   refine aC (i + 1) rfl ⟨by rw [Gw]; rfl, trivial⟩ ⟨by omega, ?_⟩ (by omega) (fun _ _ h => h)
   rw [List.take_add_one, hz]
   have := hi.2
   simp_all
   omega
 ·have hil : i = l.length := by have := Gy h; rw [aQ] at this; omega
  subst hil
  rw [List.take_length] at hi
  repeat' (first|refine ah ?_|refine a7 ?_|refine ar ?_|refine aR ?_|refine a8 ?_|refine av ?_|refine aB ?_|refine ay ?_|refine aa ?_|refine ae a6 rfl rfl ?_)
  refine aA rfl rfl ?_
  rw [hi.2]
instance (l : List Int) (n : Int) : AD Tryz.prog 19 [.imm 1 (aU l), .sc (.int .i64 n)] (.sc (.bool (l.contains n))) := ⟨yj l n⟩
theorem x9 (l k : List Int) : bO Tryz.prog 15 [.imm 1 (aU l), .imm 1 (aU k)] (.sc (.bool (l == k))) := by
 refine aP Tryz.func15 rfl Tryz.ntmps15 rfl fun B => ?_
 refine cz 0 rfl rfl fun hlen => ?_
 rw [aQ] at hlen
 repeat' (first|refine ah ?_|refine a7 ?_|refine a8 ?_|refine aa ?_|refine ae a6 rfl rfl ?_)
 refine aw rfl (fun h => ?_) (fun h => ?_)
 ·have h' := Gz h
  simp only [aQ] at h'
  repeat' (first|refine ah ?_|refine a7 ?_|refine ar ?_|refine a8 ?_|refine aF ?_|refine aa ?_|refine ae a6 rfl rfl ?_)
  refine aA rfl rfl ?_
  rw [show (l == k) = false by rw [beq_eq_false_iff_ne]; intro e; subst e; simp at h']
 ·have h' := Gy h
  simp only [aQ] at h'
  have hlk : l.length = k.length := by omega
  repeat' (first|refine ah ?_|refine a7 ?_|refine aq ?_|refine au ?_|refine a8 ?_|refine aa ?_|refine ae a6 rfl rfl ?_)
  refine aN [0, 1] (α := Nat) (fun i => [(5, .sc (.int .i64 i))]) (fun i => i ≤ l.length ∧ l.take i = k.take i) (fun _ => []) (fun i => l.length - i) 0 rfl ⟨rfl, trivial⟩ ⟨Nat.zero_le _, by simp⟩ (fun _ _ h => h) fun i hi => ?_
  try dsimp only [Gr, Gq, Gp, Gj]
  repeat' (first|refine ah ?_|refine a7 ?_|refine a8 ?_|refine aa ?_|refine ae a6 rfl rfl ?_)
  refine aw rfl (fun h => ?_) (fun h => ?_)
  ·have hil : i < l.length := by have := Gz h; rw [aQ] at this; omega
   obtain ⟨z, hz⟩ : ∃ z, l[i]? = some z := ⟨_, Ds hil⟩
   obtain ⟨y, hy⟩ : ∃ z, k[i]? = some z := ⟨_, Ds (by omega)⟩
   have hzg := bN hz
   have hyg := bN hy
   repeat' (first|refine ah ?_|refine aq ?_|refine au ?_|refine a8 ?_)
   refine bt 8 [(0, .v), (1, .v), (2, .v), (3, .v), (4, .v), (5, .v), (6, .v), (7, .v)] none ?_ trivial rfl (by kernel_rfl) (by kernel_rfl) (by kernel_rfl) mixed (by kernel_rfl) rfl
   repeat' (first|refine aE ?_|refine aZ a6 ?_|(apply bP;refine c8 a6 ?_)|fail)
   refine br [0, 1, 5, 20, 24] rfl rfl ?_
   repeat' (first|refine a8 ?_|refine aa ?_|refine ae a6 rfl rfl ?_)
   refine aw rfl (fun h2 => ?_) (fun h2 => ?_)
   ·have h2' := Gz h2
    repeat' (first|refine ah ?_|refine a7 ?_|refine ar ?_|refine a8 ?_|refine aF ?_|refine aT ?_|refine bE ?_|refine aa ?_|refine ae a6 rfl rfl ?_)
    refine aA rfl rfl ?_
    rw [show (l == k) = false by rw [beq_eq_false_iff_ne]; intro e; subst e; rw [hz] at hy; injection hy with hy; exact h2' hy]
   ·have h2' := Gy h2
    repeat' (first|refine a7 ?_|refine au ?_|refine a8 ?_|refine aI ?_|refine aa ?_|refine ae a6 rfl rfl ?_|(apply aW; refine aV ?_)|fail)
    refine aC (i + 1) rfl ⟨by rw [Gw]; rfl, trivial⟩ ⟨by omega, ?_⟩ (by omega) (fun _ _ h => h)
    rw [List.take_add_one, List.take_add_one, hz, hy, hi.2, Decidable.not_not.1 h2']
  ·have hil : i = l.length := by have := Gy h; rw [aQ] at this; omega
   subst hil
   rw [List.take_length, hlk, List.take_length] at hi
   repeat' (first|refine ah ?_|refine a7 ?_|refine ar ?_|refine aR ?_|refine a8 ?_|refine av ?_|refine aB ?_|refine ay ?_|refine aa ?_|refine ae a6 rfl rfl ?_)
   refine aA rfl rfl ?_
   rw [hi.2, beq_self_eq_true]
theorem sW (l : List Int) (n : Int) (hu : l.Pairwise (· < ·)) (hd : ∀ z ∈ l, 0 ≤ z ∧ z < n) : bO Tryz.prog 14 [.imm 1 (aU l), aM n] (cF true) := by
  refine aP Tryz.func14 rfl Tryz.ntmps14 rfl fun B => ?_
  have hil := aQ l
  refine cz 0 rfl rfl fun hlen => ?_
  repeat' (first|refine ah ?_|refine a7 ?_|refine aq ?_|refine a8 ?_|refine aa ?_|refine ae a6 rfl rfl ?_)
  refine aN [0, 1] (α := Nat) (fun i => [(5, aM i)]) (fun i => i ≤ l.length) (fun _ => []) (fun i => l.length - i) 0 rfl ⟨rfl, trivial⟩ (Nat.zero_le _) (fun _ _ h => h) fun i hi => ?_
  try dsimp only [Gr, Gq, Gp, Gj]
  repeat' (first|refine ah ?_|refine a7 ?_|refine a8 ?_|refine aa ?_|refine ae a6 rfl rfl ?_)
  refine aw rfl (fun h => ?_) (fun h => ?_)
  · have hil : i < l.length := by have := Gz h; omega
    obtain ⟨z, hz⟩ : ∃ z, l[i]? = some z := ⟨_, Ds hil⟩
    have hzg := bN hz
    have hzd := hd z (Gx hz)
    clear h
    repeat' (first|refine ah ?_|refine aq ?_|refine au ?_|refine a8 ?_)
    by_cases h0 : i = 0
    · subst h0
      refine bt 27 [(0, .v), (1, .v), (2, .v), (3, .v), (4, .v), (5, .v), (6, .v), (7, .v), (8, .v), (9, .v), (10, .v), (11, .v), (12, .v), (13, .v), (14, .v), (15, .v), (16, .v), (17, .v), (18, .v), (19, .v), (20, .v), (21, .v), (22, .v), (23, .v), (24, .v), (25, .v), (26, .v)] none ?_ trivial rfl (by kernel_rfl) (by kernel_rfl) (by kernel_rfl) mixed (by kernel_rfl) rfl
      repeat' (first|refine aE ?_|refine aZ a6 ?_|(apply bP;refine c8 a6 ?_)|fail)
      rw [decide_eq_false (show ¬ z < 0 by omega)]
      repeat' (first|refine aE ?_|refine aZ a6 ?_|(apply bP;refine c8 a6 ?_)|fail)
      rw [decide_eq_false (show ¬ n ≤ z by omega)]
      repeat' (first|refine aE ?_|refine aZ a6 ?_|refine kD rfl rfl ?_)
      refine br [0, 1, 5, 25, 28, 38] rfl rfl ?_
      repeat' (first|refine a7 ?_|refine au ?_|refine a8 ?_|refine aI ?_|refine aa ?_|refine ae a6 rfl rfl ?_|refine aG rfl rfl ?_|(apply aW; refine aV ?_)|refine bv rfl ?_)
      exact aC 1 rfl ⟨rfl, trivial⟩ (by omega) (by omega) (fun _ _ h => h)
    · obtain ⟨y, hy⟩ : ∃ z, l[((i : Int) - 1).toNat]? = some z := ⟨_, Ds (by omega)⟩
      have hyg := bN hy
      have hyz : y < z := by
        obtain ⟨a1, a2⟩ := Gn hz
        obtain ⟨b1, b2⟩ := Gn hy
        have := List.pairwise_iff_getElem.1 hu _ _ b1 a1 (by omega)
        rwa [a2, b2] at this
      refine bt 27 [(0, .v), (1, .v), (2, .v), (3, .v), (4, .v), (5, .v), (6, .v), (7, .v), (8, .v), (9, .v), (10, .v), (11, .v), (12, .v), (13, .v), (14, .v), (15, .v), (16, .v), (17, .v), (18, .v), (19, .v), (20, .v), (21, .v), (22, .v), (23, .v), (24, .v), (25, .v), (26, .v)] none ?_ trivial rfl (by kernel_rfl) (by kernel_rfl) (by kernel_rfl) mixed (by kernel_rfl) rfl
      repeat' (first|refine aE ?_|refine aZ a6 ?_|(apply bP;refine c8 a6 ?_)|fail)
      rw [decide_eq_false (show ¬ z < 0 by omega)]
      repeat' (first|refine aE ?_|refine aZ a6 ?_|(apply bP;refine c8 a6 ?_)|fail)
      rw [decide_eq_false (show ¬ n ≤ z by omega)]
      repeat' (first|refine aE ?_|refine aZ a6 ?_|fail)
      rw [decide_eq_true (show (0 : Int) < (i : Int) by omega)]
      repeat' (first|refine aE ?_|refine aZ a6 ?_|(apply eP;refine fU ?_)|(apply bP;refine c8 a6 ?_)|fail)
      rw [decide_eq_false (show ¬ z ≤ y by omega)]
      repeat' (first|fail)
      refine br [0, 1, 5, 25, 28, 38] rfl rfl ?_
      repeat' (first|refine a7 ?_|refine au ?_|refine a8 ?_|refine aI ?_|refine aa ?_|refine ae a6 rfl rfl ?_|refine aG rfl rfl ?_|(apply aW; refine aV ?_)|refine bv rfl ?_)
      exact aC (i + 1) rfl ⟨by rw [Gw]; rfl, trivial⟩ (by omega) (by omega) (fun _ _ h => h)
  have hil : i = l.length := by have := Gy h; omega
  subst hil
  repeat' (first|refine ah ?_|refine a7 ?_|refine ar ?_|refine aR ?_|refine a8 ?_|refine av ?_|refine aB ?_|refine ay ?_|refine aa ?_|refine ae a6 rfl rfl ?_)
  exact aA rfl rfl rfl
def Dc (c : UInt8) : bf := ⟨⟨#[c]⟩, 0, false, [], [], [], [], [], []⟩
def nU : aJ := ⟨1000, [Dc 97, Dc 98, Dc 99], [⟨97, 2⟩], [], [], [], [], [], []⟩
theorem vw : dZ nU := by
 unfold dZ
 decide
theorem Es (z : Int) : prt nU z = [] := by
 unfold prt nU
 dsimp only
 generalize z.toNat = n
 rcases n with _ | _ | _ | n <;> rfl
theorem zB : jA nU.Glyphs.length (prt nU) := ⟨fun _ => 0, fun g _ _ p hp => by rw [Es] at hp; cases hp⟩
theorem t8 : (ck 400 nU.Glyphs (dU nU)).1 = 0 := by decide
theorem Dd : lJ nU = 0 := by decide
theorem Bp : (ck 1000 nU.Chars (gN nU)).1 = 0 := by decide
theorem Db : iW nU (fun _ => 0) (fun _ => 0) := by
 intro z h0 h1 gl hgl
 have h1 : z < 3 := h1
 have : z = 0 ∨ z = 1 ∨ z = 2 := by omega
 rcases this with rfl | rfl | rfl <;> (injection hgl with e; subst e; exact ⟨by decide, by decide⟩)
theorem Bq : (kE nU).1 = 0 := by
 refine dI.2 fun x hx => ?_
 have hc : (lC nU).1 = 0 := by
  rw [oh (iy t8) zB Db]
  decide
 simp only [yh, List.mem_cons, List.not_mem_nil, or_false] at hx
 rcases hx with rfl | rfl | rfl | rfl | rfl | rfl | rfl | rfl | rfl | rfl
 ·exact Dd
 ·exact t8
 ·exact hc
 ·exact Bp
 ·rfl
 ·rfl
 ·rfl
 ·rfl
 ·rfl
 ·rfl
theorem vv (fs : List ByteArray) : dx nU fs = [] := rfl
theorem De : dM (oG nU [97] []) = [0, 2] := by
 rw [lc (lM (f := nU) [97] []).ok]
 unfold oG
 rw [vv]
 decide
theorem Er : zN nU := by
 have hn : NB 0 := ⟨by decide, by decide⟩
 have hG : ∀ c, rE (Dc c) := fun c => ⟨by show 1 ≤ 50; decide, hn, ⟨Nat.zero_le _, fun p hp => by cases hp⟩, ⟨Nat.zero_le _, fun p hp => by cases hp⟩, ⟨Nat.zero_le _, fun p hp => by cases hp⟩, ⟨Nat.zero_le _, fun p hp => by cases hp⟩, ⟨Nat.zero_le _, fun p hp => by cases hp⟩, ⟨Nat.zero_le _, fun p hp => by cases hp⟩⟩
 refine ⟨⟨by decide, by decide⟩, ⟨by decide, fun g hg => ?_⟩, ⟨by decide, fun c hc => ?_⟩, ⟨Nat.zero_le _, fun p hp => by cases hp⟩, ⟨Nat.zero_le _, fun p hp => by cases hp⟩, ⟨Nat.zero_le _, fun p hp => by cases hp⟩, ⟨Nat.zero_le _, fun p hp => by cases hp⟩, ⟨Nat.zero_le _, fun p hp => by cases hp⟩, ⟨Nat.zero_le _, fun p hp => by cases hp⟩⟩
 ·simp only [nU, List.mem_cons, List.not_mem_nil, or_false] at hg
  rcases hg with rfl | rfl | rfl <;> exact hG _
 ·rw [Gk hc]
  exact ⟨⟨by decide, by decide⟩, ⟨by decide, by decide⟩⟩
def vu : aJ := ⟨1000, [Dc 97, Dc 99], [⟨97, 1⟩], [], [], [], [], [], []⟩
theorem zC : pC nU [97] [] [0, 2] (dx nU []) = vu := by
 rw [vv]
 rfl
theorem Df : bO Tryz.prog 11 [cr nU, nD [97] []] (.tup [cr vu, .imm 1 (aU [0, 2]), aM 0]) := by
 have hg := pP nU vw (fun _ => zB) [97] []
 unfold lI at hg
 rw [if_pos Bq, if_neg (by decide), De] at hg
 have h := po nU Er vw [97] [] [0, 2] ⟨by decide, by decide⟩ hg
 rw [zC] at h
 exact h
theorem Ew : iE Tryz.prog 68 := ⟨⟨_, _, Tryz.underlying68, ⟨by decide, by decide⟩, ⟨rfl, rfl⟩, Tryz.underlying3, Tryz.underlying3⟩, by kernel_rfl⟩
set_option maxHeartbeats 2000000 in
theorem xd : bO Tryz.prog 7 [] (cF true) := by
 refine aP Tryz.func7 rfl Tryz.ntmps7 rfl fun B => ?_
 repeat' (first|refine ah ?_|refine a7 ?_|refine a8 ?_|refine aa ?_|refine ae a6 rfl rfl ?_|(apply aH; first|refine ai 1 a6 0 rfl rfl rfl rfl rfl rfl rfl rfl ?_|refine ai 1 a6 1 rfl rfl rfl rfl rfl rfl rfl rfl ?_|refine ai 1 a6 2 rfl rfl rfl rfl rfl rfl rfl rfl ?_|refine ai 2 a6 0 rfl rfl rfl rfl rfl rfl rfl rfl ?_|refine ai 2 a6 1 rfl rfl rfl rfl rfl rfl rfl rfl ?_|refine ai 2 a6 2 rfl rfl rfl rfl rfl rfl rfl rfl ?_|refine aj a6 0 rfl rfl rfl rfl rfl rfl rfl ?_|refine aj a6 1 rfl rfl rfl rfl rfl rfl rfl ?_|refine aj a6 2 rfl rfl rfl rfl rfl rfl rfl ?_|refine aj a6 3 rfl rfl rfl rfl rfl rfl rfl ?_|fail)|refine b5 a6 fun _=>?_|refine bz a6 ?_|fail)
 refine aO (bg (t := 13) (c' := cr nU) rfl fun σ v h => ?_) ?_
 ·refine dw.agg ?_ σ v h
  repeat' first | exact dw.refl _ | exact dw.nil _ | exact True.intro | refine dw.agg ?_ | refine dw.imm ?_ | refine And.intro ?_ ?_
 refine aO (bg (t := 15) (c' := nD [97] []) rfl fun σ v h => ?_) ?_
 ·refine dw.agg ?_ σ v h
  repeat' first | exact dw.refl _ | exact dw.nil _ | exact True.intro | refine dw.agg ?_ | refine dw.imm ?_ | refine And.intro ?_ ?_
 refine bh (hc := ⟨Df⟩) ?_
 have g1 : (vu.Glyphs.map bb)[1]? = some (bb (Dc 99)) := rfl
 have g2 : (vu.Chars.map ci)[0]? = some (ci ⟨97, 1⟩) := rfl
 repeat' (first|refine ah ?_|refine a7 ?_|refine a8 ?_|refine aa ?_|refine ae a6 rfl rfl ?_|refine aG rfl rfl ?_|(apply aY; first|refine aX a6 ?_|refine aS a6 ?_)|(apply aH; first|refine ai 1 a6 0 rfl rfl rfl rfl rfl rfl rfl rfl ?_|refine ai 1 a6 1 rfl rfl rfl rfl rfl rfl rfl rfl ?_|refine ai 1 a6 2 rfl rfl rfl rfl rfl rfl rfl rfl ?_|refine ai 2 a6 0 rfl rfl rfl rfl rfl rfl rfl rfl ?_|refine ai 2 a6 1 rfl rfl rfl rfl rfl rfl rfl rfl ?_|refine ai 2 a6 2 rfl rfl rfl rfl rfl rfl rfl rfl ?_|refine aj a6 0 rfl rfl rfl rfl rfl rfl rfl ?_|refine aj a6 1 rfl rfl rfl rfl rfl rfl rfl ?_|refine aj a6 2 rfl rfl rfl rfl rfl rfl rfl ?_|refine aj a6 3 rfl rfl rfl rfl rfl rfl rfl ?_|fail)|refine b5 a6 fun _=>?_|fail)
 refine yR Ew (by kernel_rfl) rfl rfl rfl ?_
 repeat' (first|refine ae a6 rfl rfl ?_|refine aG rfl rfl ?_|refine bz a6 ?_|fail)
 refine bh (u := cF true) (hc := ⟨x9 [0, 2] [0, 2]⟩) ?_
 repeat' (first|refine ar ?_|refine a8 ?_|refine aa ?_|refine ae a6 rfl rfl ?_)
 exact aA rfl rfl rfl
theorem sC {f : aJ} (h : eH f) (rs : List Int) (fs : List ByteArray) (hr : rs.any rX = false) : bO Tryz.prog 11 [cr f, nD rs fs] (.tup [cr (pC f rs fs (gI f rs fs) (dx f fs)), .imm 1 (aU (gI f rs fs)), aM 0]) := by
 have hg := pP f h.small (fun _ => h.acyc) rs fs
 unfold lI at hg
 rw [if_pos h.right, if_neg (by rw [hr]; exact fun e => by cases e)] at hg
 exact po f h.fpr h.small rs fs (gI f rs fs) (kq f rs fs) hg
end Go.Proofs.YtjjpkibjffmceaaGreat
