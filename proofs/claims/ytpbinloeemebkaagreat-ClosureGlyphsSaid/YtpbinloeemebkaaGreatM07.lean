/-
  The document's answer: is a font big?
-/
import Derived.Test.YtpbinloeemebkaaGreatM06
import Derived.Test.YtpbinloeemebkaaGreatRows
import Derived.WalkKit
import Derived.ProofKit
import Derived.OpenShut
import Derived.ShutString
import Derived.ChangeOld
import Derived.Below
import Derived.Deep.Slices
import Derived.Deep.SlicePairs
import Derived.Lib.SmallJoins
import Derived.SizedLaws
import Derived.Test.YtpbinloeemebkaaGreatM05
namespace Go.Proofs.YtpbinloeemebkaaGreat
open Go.RowKit
attribute [local irreducible] AT bN AX AO Av Kt bi dE DA d6
theorem x6 (n m : Nat) : ((n : Int).tdiv (m : Int)) = ((n / m : Nat) : Int) := by
 rw [Int.ofNat_tdiv]
theorem xf {n : Nat} (h : n ≤ 9223372036854775807) : IntKind.i64.wrap (n : Int) = n := ly (by omega)
section
variable {P : Program} {fr : c9} {d : Option Tmp} {ty t t' : TypeId} {pos : String} {af : Array Edge} {g : Option (Nat × Bool)} {x y : Operand}
theorem vv {n m : Nat} (hx : bB fr x = some (aQ n)) (hy : bB fr y = some (aQ m)) (hm : m ≠ 0) (hn : n ≤ 9223372036854775807) : Av P ⟨d, .binOp .quo t x y t', ty, pos, af, g⟩ fr (aQ ((n / m : Nat) : Int)) := by
 have h := vu (P := P) (d := d) (ty := ty) (pos := pos) (af := af) (g := g) (t := t) (t' := t') hx hy (by omega)
 rw [x6, xf (Nat.le_trans (Nat.div_le_self _ _) hn)] at h
 exact h
end
structure eX (f : aH) : Prop where
 top : f.Glyphs.length ≤ 140737488355328 ∧ f.Chars.length ≤ 140737488355328 ∧ f.Lookups.length ≤ 140737488355328 ∧ f.Features.length ≤ 140737488355328 ∧ f.Axes.length ≤ 140737488355328 ∧ f.Regions.length ≤ 140737488355328 ∧ f.Funcs.length ≤ 140737488355328 ∧ f.Cvt.length ≤ 140737488355328
 glyph : ∀ g ∈ f.Glyphs, g.Points.length ≤ 140737488355328 ∧ g.Parts.length ≤ 140737488355328 ∧ g.Anchors.length ≤ 140737488355328 ∧ g.Deltas.length ≤ 140737488355328 ∧ g.Hint.length ≤ 140737488355328 ∧ g.Name.size ≤ 140737488355328
 rules : ∀ l ∈ f.Lookups, l.Rules.length ≤ 140737488355328 ∧ ∀ r ∈ l.Rules, mN r
 funcs : ∀ c ∈ f.Funcs, c.length ≤ 140737488355328
 feats : ∀ t ∈ f.Features, t.Lookups.length ≤ 140737488355328 ∧ t.Name.size ≤ 140737488355328
 regions : ∀ r ∈ f.Regions, r.length ≤ 140737488355328
 axes : ∀ a ∈ f.Axes, a.Name.size ≤ 140737488355328
theorem sA {l : List bJ} {n : Nat} (hn : n ≤ 3 * 140737488355328) (hf : ∀ r ∈ l, mN r) : eM n l ≤ 3 * 140737488355328 := by
 induction l generalizing n with
 | nil => exact hn
 | cons r l ih =>
  show (if n ≤ 2000 then _ else _) ≤ _
  split
  ·rename_i h2
   refine ih ?_ fun r' h' => hf r' (List.mem_cons_of_mem _ h')
   have hr := hf r (List.mem_cons_self ..)
   have h1 := hr.out
   have h3 := hr.calls
   unfold fM at h1 h3
   have hm : 2000 + 1 + fM ≤ 3 * 140737488355328 := by unfold fM; omega
   exact lO hm (lO hm (lO hm (by omega) (hr.sets _ (by simp)).2) (hr.sets _ (by simp)).2) (hr.sets _ (by simp)).2
  ·exact hn
def ko (l : bC) : Nat := eM l.Rules.length l.Rules
def q4 (f : aH) : Nat := f.Glyphs.length + f.Chars.length + f.Lookups.length + f.Features.length + f.Axes.length + f.Regions.length + f.Funcs.length + f.Cvt.length
set_option maxHeartbeats 2000000 in
theorem xF (f : aH) (hf : eX f) : bo Tryz.prog 10 [bw f] (c8 (decide (2000 < gE f))) := by
 refine aU Tryz.func10 rfl Tryz.ntmps10 rfl fun B => ?_
 obtain ⟨t1, t2, t3, t4, t5, t6, t7, t8⟩ := hf.top
 have t1' : (f.Glyphs.map bz).length ≤ 140737488355328 := by rw [List.length_map]; exact t1
 have t2' : (f.Chars.map dY).length ≤ 140737488355328 := by rw [List.length_map]; exact t2
 have t3' : (f.Lookups.map bq).length ≤ 140737488355328 := by rw [List.length_map]; exact t3
 have t4' : (f.Features.map bS).length ≤ 140737488355328 := by rw [List.length_map]; exact t4
 have t5' : (f.Axes.map dP).length ≤ 140737488355328 := by rw [List.length_map]; exact t5
 have t6' : (f.Regions.map cI).length ≤ 140737488355328 := by rw [List.length_map]; exact t6
 have t7' : (f.Funcs.map g9).length ≤ 140737488355328 := by rw [List.length_map]; exact t7
 have t8' : (aV f.Cvt).length ≤ 140737488355328 := by rw [aM]; exact t8
 (repeat' (first|refine ah ?_|refine a6 ?_|refine am ?_|refine a8 ?_|refine aa ?_|refine ae a7 rfl rfl ?_|(apply aX; refine aW ?_)|refine b6 ?_|fail))
 have htop : ((f.Glyphs.map bz).length : Int) + ((f.Chars.map dY).length : Int) + ((f.Lookups.map bq).length : Int) + ((f.Features.map bS).length : Int) + ((f.Axes.map dP).length : Int) + ((f.Regions.map cI).length : Int) + ((f.Funcs.map g9).length : Int) + ((aV f.Cvt).length : Int) = ((q4 f : Nat) : Int) := by
  unfold q4
  simp only [List.length_map, aM]
  omega
 rw [htop]
 have htl : q4 f ≤ 8 * 140737488355328 := by unfold q4; omega
 refine aL [1] (α := Nat × Nat) (fun x => [(3, aQ x.1), (4, aQ x.2)]) (fun x => x.2 ≤ f.Glyphs.length ∧ x.1 ≤ 8 * 140737488355328 ∧ fR fm x.1 (f.Glyphs.drop x.2) = fR fm (q4 f) f.Glyphs) (fun _ => []) (fun x => f.Glyphs.length - x.2) (q4 f, 0) rfl ⟨rfl, rfl, trivial⟩ ⟨Nat.zero_le _, htl, rfl⟩ (fun _ _ h => h) ?_
 rintro ⟨n, i⟩ ⟨hi, hn, hg⟩
 dsimp only at hi hn hg ⊢
 try dsimp only [List.cons_append, List.nil_append, List.map_cons, List.map_nil]
 (repeat' (first|refine ah ?_|refine a6 ?_|refine ae a7 rfl rfl ?_|fail))
 refine ci [1, 3, 4] (i < f.Glyphs.length ∧ n ≤ 2000) rfl (fun Q' K => ?_) (fun hC => ?_) (fun hC => ?_)
 ·(repeat' (first|refine aa ?_|refine ae a7 rfl rfl ?_|refine aw rfl rfl ?_|refine aD rfl rfl rfl rfl ?_|refine aS rfl rfl rfl (fun _ => ?_) (fun _ => ?_)|fail))
  all_goals exact K _ _ rfl rfl (by simp_all <;> omega)
 ·obtain ⟨hil, hn2⟩ := hC
  obtain ⟨g, hgi⟩ : ∃ g, f.Glyphs[i]? = some g := ⟨_, List.getElem?_eq_getElem hil⟩
  have hgg := b5 (c := bz) hgi
  obtain ⟨g1, g2, g3, g4, g5, g6⟩ := hf.glyph g (List.mem_of_getElem? hgi)
  have g1' : (g.Points.map dv).length ≤ 140737488355328 := by rw [List.length_map]; exact g1
  have g2' : (g.Parts.map d7).length ≤ 140737488355328 := by rw [List.length_map]; exact g2
  have g3' : (g.Anchors.map dx).length ≤ 140737488355328 := by rw [List.length_map]; exact g3
  have g4' : (g.Deltas.map e8).length ≤ 140737488355328 := by rw [List.length_map]; exact g4
  have g5' : (g.Hint.map ga).length ≤ 140737488355328 := by rw [List.length_map]; exact g5
  (repeat' (first|refine ah ?_|refine a6 ?_|refine am ?_|refine ak ?_|refine a8 ?_|refine aa ?_|refine ae a7 rfl rfl ?_|(apply aX; refine aW ?_)|(apply aP; first|refine aO a7 ?_|refine aI a7 ?_)|(apply aT; first|refine ai 5 a7 0 rfl rfl rfl rfl rfl rfl rfl rfl ?_|refine ai 5 a7 1 rfl rfl rfl rfl rfl rfl rfl rfl ?_|refine ai 5 a7 2 rfl rfl rfl rfl rfl rfl rfl rfl ?_|refine aj a7 0 rfl rfl rfl rfl rfl rfl rfl ?_|refine aj a7 1 rfl rfl rfl rfl rfl rfl rfl ?_|refine aj a7 2 rfl rfl rfl rfl rfl rfl rfl ?_|refine aj a7 3 rfl rfl rfl rfl rfl rfl rfl ?_|fail)|refine bb a7 fun _=>?_|fail))
  refine aW ?_ (vv (n := g.Name.size) (m := 100) rfl rfl (by omega) (by omega))
  (repeat' (first|refine a6 ?_|refine a8 ?_|refine aJ ?_|refine aa ?_|refine ae a7 rfl rfl ?_|(apply aX; refine aW ?_)|fail))
  refine aE (n + fm g, i + 1) rfl ⟨?_, by rw [Int.natCast_add]; rfl, trivial⟩ ⟨by dsimp only; omega, by dsimp only; unfold fm; omega, by dsimp only; rw [← gy hgi hn2]; exact hg⟩ (by dsimp only; omega) (fun _ _ h => h)
  show some (aQ _) = some (aQ _)
  unfold fm
  simp only [List.length_map]
  congr 2
  omega
 ·have hfin := i8 (g := fm) hi hC
  rw [hfin] at hg
  (repeat' (first|refine ah ?_|refine a6 ?_|refine am ?_|refine aR ?_|refine a8 ?_|refine az ?_|refine aC ?_|refine aA ?_|refine aa ?_|refine ae a7 rfl rfl ?_|fail))
  refine aL [1] (α := Nat × Nat) (fun x => [(3, aQ x.1), (6, aQ x.2)]) (fun x => x.2 ≤ f.Lookups.length ∧ x.1 ≤ 8 * 140737488355328 ∧ fR ko x.1 (f.Lookups.drop x.2) = fR ko n f.Lookups) (fun _ => []) (fun x => f.Lookups.length - x.2) (n, 0) rfl ⟨rfl, rfl, trivial⟩ ⟨Nat.zero_le _, hn, rfl⟩ (fun _ _ h => h) ?_
  clear hi hC hfin
  rintro ⟨n2, i2⟩ ⟨hi2, hn2, hg2⟩
  dsimp only at hi2 hn2 hg2 ⊢
  try dsimp only [List.cons_append, List.nil_append, List.map_cons, List.map_nil]
  (repeat' (first|refine ah ?_|refine a6 ?_|refine ae a7 rfl rfl ?_|fail))
  refine ci [1, 3, 6] (i2 < f.Lookups.length ∧ n2 ≤ 2000) rfl (fun Q' K => ?_) (fun hC => ?_) (fun hC => ?_)
  ·clear hg
   (repeat' (first|refine aa ?_|refine ae a7 rfl rfl ?_|refine aw rfl rfl ?_|refine aD rfl rfl rfl rfl ?_|refine aS rfl rfl rfl (fun _ => ?_) (fun _ => ?_)|fail))
   all_goals exact K _ _ rfl rfl (by simp_all <;> omega)
  ·obtain ⟨hil, hn3⟩ := hC
   obtain ⟨l, hl⟩ : ∃ g, f.Lookups[i2]? = some g := ⟨_, List.getElem?_eq_getElem hil⟩
   have hlg := b5 (c := bq) hl
   obtain ⟨r1, r2⟩ := hf.rules l (List.mem_of_getElem? hl)
   have hro := AD.mk (P := Tryz.prog) (re l.Rules r1 r2)
   have hle : eM l.Rules.length l.Rules ≤ 3 * 140737488355328 := sA (by omega) r2
   (repeat' (first|refine ah ?_|refine a6 ?_|refine am ?_|refine ak ?_|refine a8 ?_|refine aJ ?_|refine aa ?_|refine ae a7 rfl rfl ?_|(apply aX; refine aW ?_)|(apply aP; first|refine aO a7 ?_|refine aI a7 ?_)|(apply ba;refine aY ?_)|fail))
   refine aE (n2 + ko l, i2 + 1) rfl ⟨by rw [Int.natCast_add]; rfl, by rw [Int.natCast_add]; rfl, trivial⟩ ⟨by dsimp only; omega, by dsimp only; unfold ko; omega, by dsimp only; rw [← gy hl hn3]; exact hg2⟩ (by dsimp only; omega) (fun _ _ h => h)
  ·have hfin := i8 (g := ko) hi2 hC
   rw [hfin] at hg2
   (repeat' (first|refine ah ?_|refine a6 ?_|refine am ?_|refine aR ?_|refine a8 ?_|refine az ?_|refine aC ?_|refine aA ?_|refine aa ?_|refine ae a7 rfl rfl ?_|fail))
   refine aL [1] (α := Nat × Nat) (fun x => [(3, aQ x.1), (7, aQ x.2)]) (fun x => x.2 ≤ f.Funcs.length ∧ x.1 ≤ 8 * 140737488355328 ∧ fR (·.length) x.1 (f.Funcs.drop x.2) = fR (·.length) n2 f.Funcs) (fun _ => []) (fun x => f.Funcs.length - x.2) (n2, 0) rfl ⟨rfl, rfl, trivial⟩ ⟨Nat.zero_le _, hn2, rfl⟩ (fun _ _ h => h) ?_
   clear hi2 hC hfin
   rintro ⟨n3, i3⟩ ⟨hi3, hn3, hg3⟩
   dsimp only at hi3 hn3 hg3 ⊢
   try dsimp only [List.cons_append, List.nil_append, List.map_cons, List.map_nil]
   (repeat' (first|refine ah ?_|refine a6 ?_|refine ae a7 rfl rfl ?_|fail))
   refine ci [1, 3, 7] (i3 < f.Funcs.length ∧ n3 ≤ 2000) rfl (fun Q' K => ?_) (fun hC => ?_) (fun hC => ?_)
   ·clear hg hg2
    (repeat' (first|refine aa ?_|refine ae a7 rfl rfl ?_|refine aw rfl rfl ?_|refine aD rfl rfl rfl rfl ?_|refine aS rfl rfl rfl (fun _ => ?_) (fun _ => ?_)|fail))
    all_goals exact K _ _ rfl rfl (by simp_all <;> omega)
   ·obtain ⟨hil, hn4⟩ := hC
    obtain ⟨l, hl⟩ : ∃ g, f.Funcs[i3]? = some g := ⟨_, List.getElem?_eq_getElem hil⟩
    have hlg := b5 (c := g9) hl
    have r1 := hf.funcs l (List.mem_of_getElem? hl)
    have r1' : (l.map ga).length ≤ 140737488355328 := by rw [List.length_map]; exact r1
    (repeat' (first|refine ah ?_|refine a6 ?_|refine am ?_|refine ak ?_|refine a8 ?_|refine aJ ?_|refine aa ?_|refine ae a7 rfl rfl ?_|(apply aX; refine aW ?_)|(apply aP; first|refine aO a7 ?_|refine aI a7 ?_)|fail))
    refine aE (n3 + l.length, i3 + 1) rfl ⟨by rw [Int.natCast_add, List.length_map]; rfl, by rw [Int.natCast_add]; rfl, trivial⟩ ⟨by dsimp only; omega, by dsimp only; omega, by dsimp only; rw [← gy (g := (·.length)) hl hn4]; exact hg3⟩ (by dsimp only; omega) (fun _ _ h => h)
   ·have hfin := i8 (g := (·.length)) hi3 hC
    rw [hfin] at hg3
    (repeat' (first|refine ah ?_|refine a6 ?_|refine am ?_|refine aR ?_|refine a8 ?_|refine az ?_|refine aC ?_|refine aA ?_|refine aa ?_|refine ae a7 rfl rfl ?_|fail))
    refine aL [1] (α := Nat × Nat) (fun x => [(3, aQ x.1), (8, aQ x.2)]) (fun x => x.2 ≤ f.Features.length ∧ x.1 ≤ 8 * 140737488355328 ∧ fR iK x.1 (f.Features.drop x.2) = fR iK n3 f.Features) (fun _ => []) (fun x => f.Features.length - x.2) (n3, 0) rfl ⟨rfl, rfl, trivial⟩ ⟨Nat.zero_le _, hn3, rfl⟩ (fun _ _ h => h) ?_
    clear hi3 hC hfin
    rintro ⟨n4, i4⟩ ⟨hi4, hn4, hg4⟩
    dsimp only at hi4 hn4 hg4 ⊢
    try dsimp only [List.cons_append, List.nil_append, List.map_cons, List.map_nil]
    (repeat' (first|refine ah ?_|refine a6 ?_|refine ae a7 rfl rfl ?_|fail))
    refine ci [1, 3, 8] (i4 < f.Features.length ∧ n4 ≤ 2000) rfl (fun Q' K => ?_) (fun hC => ?_) (fun hC => ?_)
    ·clear hg hg2 hg3
     (repeat' (first|refine aa ?_|refine ae a7 rfl rfl ?_|refine aw rfl rfl ?_|refine aD rfl rfl rfl rfl ?_|refine aS rfl rfl rfl (fun _ => ?_) (fun _ => ?_)|fail))
     all_goals exact K _ _ rfl rfl (by simp_all <;> omega)
    ·obtain ⟨hil, hn5⟩ := hC
     obtain ⟨l, hl⟩ : ∃ g, f.Features[i4]? = some g := ⟨_, List.getElem?_eq_getElem hil⟩
     have hlg := b5 (c := bS) hl
     obtain ⟨r1, r2⟩ := hf.feats l (List.mem_of_getElem? hl)
     have r1' : (aV l.Lookups).length ≤ 140737488355328 := by rw [aM]; exact r1
     (repeat' (first|refine ah ?_|refine am ?_|refine ak ?_|refine a8 ?_|fail))
     refine bj 18 [(0, .v), (1, .v), (2, .v), (3, .v), (4, .v), (5, .v), (6, .v), (7, .v), (8, .v), (9, .v), (10, .v), (11, .v), (12, .v), (13, .v), (14, .v), (15, .v), (16, .v), (17, .v)] none ?_ trivial rfl (by kernel_rfl) (by kernel_rfl) (by kernel_rfl) mixed (by kernel_rfl) rfl
     (repeat' (first|refine aN ?_|refine bf a7 ?_|(apply ey;refine fH ?_)|(apply bs;refine bH a7 ?_)|fail))
     refine fH ?_ (vv (n := l.Name.size) (m := 100) rfl rfl (by omega) (by omega))
     (repeat' (first|refine aN ?_|(apply ey;refine fH ?_)|fail))
     refine bl [1, 8, 151] rfl rfl ?_
     (repeat' (first|refine a6 ?_|refine a8 ?_|refine aJ ?_|refine aa ?_|refine ae a7 rfl rfl ?_|(apply aX; refine aW ?_)|fail))
     refine aE (n4 + iK l, i4 + 1) rfl ⟨?_, by rw [Int.natCast_add]; rfl, trivial⟩ ⟨by dsimp only; omega, by dsimp only; unfold iK; omega, by dsimp only; rw [← gy hl hn5]; exact hg4⟩ (by dsimp only; omega) (fun _ _ h => h)
     show some (aQ _) = some (aQ _)
     unfold iK
     simp only [aM]
     congr 2
     omega
    ·have hfin := i8 (g := iK) hi4 hC
     rw [hfin] at hg4
     (repeat' (first|refine ah ?_|refine a6 ?_|refine am ?_|refine aR ?_|refine a8 ?_|refine az ?_|refine aC ?_|refine aA ?_|refine aa ?_|refine ae a7 rfl rfl ?_|fail))
     refine aL [1] (α := Nat × Nat) (fun x => [(3, aQ x.1), (9, aQ x.2)]) (fun x => x.2 ≤ f.Regions.length ∧ x.1 ≤ 8 * 140737488355328 ∧ fR (·.length) x.1 (f.Regions.drop x.2) = fR (·.length) n4 f.Regions) (fun _ => []) (fun x => f.Regions.length - x.2) (n4, 0) rfl ⟨rfl, rfl, trivial⟩ ⟨Nat.zero_le _, hn4, rfl⟩ (fun _ _ h => h) ?_
     clear hi4 hC hfin
     rintro ⟨n5, i5⟩ ⟨hi5, hn5, hg5⟩
     dsimp only at hi5 hn5 hg5 ⊢
     try dsimp only [List.cons_append, List.nil_append, List.map_cons, List.map_nil]
     (repeat' (first|refine ah ?_|refine a6 ?_|refine ae a7 rfl rfl ?_|fail))
     refine ci [1, 3, 9] (i5 < f.Regions.length ∧ n5 ≤ 2000) rfl (fun Q' K => ?_) (fun hC => ?_) (fun hC => ?_)
     ·clear hg hg2 hg3 hg4
      (repeat' (first|refine aa ?_|refine ae a7 rfl rfl ?_|refine aw rfl rfl ?_|refine aD rfl rfl rfl rfl ?_|refine aS rfl rfl rfl (fun _ => ?_) (fun _ => ?_)|fail))
      all_goals exact K _ _ rfl rfl (by simp_all <;> omega)
     ·obtain ⟨hil, hn6⟩ := hC
      obtain ⟨l, hl⟩ : ∃ g, f.Regions[i5]? = some g := ⟨_, List.getElem?_eq_getElem hil⟩
      have hlg := b5 (c := cI) hl
      have r1 := hf.regions l (List.mem_of_getElem? hl)
      have r1' : (l.map gO).length ≤ 140737488355328 := by rw [List.length_map]; exact r1
      (repeat' (first|refine ah ?_|refine a6 ?_|refine am ?_|refine ak ?_|refine a8 ?_|refine aJ ?_|refine aa ?_|refine ae a7 rfl rfl ?_|(apply aX; refine aW ?_)|(apply aP; first|refine aO a7 ?_|refine aI a7 ?_)|fail))
      refine aE (n5 + l.length, i5 + 1) rfl ⟨by rw [Int.natCast_add, List.length_map]; rfl, by rw [Int.natCast_add]; rfl, trivial⟩ ⟨by dsimp only; omega, by dsimp only; omega, by dsimp only; rw [← gy (g := (·.length)) hl hn6]; exact hg5⟩ (by dsimp only; omega) (fun _ _ h => h)
     ·have hfin := i8 (g := (·.length)) hi5 hC
      rw [hfin] at hg5
      (repeat' (first|refine ah ?_|refine a6 ?_|refine au ?_|refine aR ?_|refine a8 ?_|refine az ?_|refine aC ?_|refine aA ?_|refine aa ?_|refine ae a7 rfl rfl ?_|fail))
      refine aB rfl rfl ?_
      have g0 : ∀ {β : Type} (a : List β), dM a.length 0 a.length := fun a => by unfold dM; omega
      have e1 := gz (g := fm) (k := fm) (fun a => by unfold dM; omega) (q4 f) f.Glyphs
      have e2 := gz (g := ko) (k := fun l => jh l.Rules) (fun a => by have := pV a.Rules.length a.Rules; unfold ko jh; unfold dM at *; omega) n f.Lookups
      have e3 := gz (g := fun c : List ew => c.length) (k := (·.length)) g0 n2 f.Funcs
      have e4 := gz (g := iK) (k := iK) (fun a => by unfold dM; omega) n3 f.Features
      have e5 := gz (g := fun c : List dB => c.length) (k := (·.length)) g0 n4 f.Regions
      rw [← hg] at e1
      rw [← hg2] at e2
      rw [← hg3] at e3
      rw [← hg4] at e4
      rw [← hg5] at e5
      have e := ((((e1.trans e2).trans e3).trans e4).trans e5).iff
      have ef : q4 f + ((((f.Glyphs.map fm).sum + (f.Lookups.map fun l => jh l.Rules).sum) + (f.Funcs.map (·.length)).sum) + (f.Features.map iK).sum + (f.Regions.map (·.length)).sum) = gE f := by unfold gE q4; omega
      rw [ef] at e
      refine congrArg c8 ?_
      rw [decide_eq_decide]
      omega
end Go.Proofs.YtpbinloeemebkaaGreat

namespace Go.Proofs.YtpbinloeemebkaaGreat
open Go.ChangeShapes Go.WideShapes Go.ChangeAt Go.RowKit Go.Deep Go.Joins
def gV (W : World) : ce := fun b off => W.cell? ⟨b, off, none⟩
theorem wA (W : World) : cK ⟨W, gV W, []⟩ (gV W) [] W := ⟨rfl, rfl, rfl, Nat.le_refl _, fun _ _ _ => rfl, by simp, by simp, by simp, fun _ _ _ h => h, by simp, ce.le_refl _, fun _ _ _ _ => rfl⟩
theorem d4.app {σ : ce} : ∀ {a b : List AV} {u v : List Value}, d4 σ a u → d4 σ b v → d4 σ (a ++ b) (u ++ v)
 | [], b, u, v, h, k => by
  have : u = [] := List.eq_nil_of_length_eq_zero h.1.symm
  subst this
  exact k
 | c :: a, b, u, v, h, k => by
  obtain ⟨x, u', rfl, h1, h2⟩ := h.inv
  exact d4.cons h1 (h2.app k)
section
variable {H : Type} {enc : TypeId × Value → H} {P : Program} {W : World}
def q8 (P : Program) (t : TypeId) (d : DataW H) : Prop := ∀ n ∈ d.weights P t, n ≤ reachBytes
def fU (enc : TypeId × Value → H) (P : Program) (W : World) (t : TypeId) {α : Type} (c : α → List AV) (fits : α → Prop) : Prop :=
 ∀ fuel cs x, DataW.trod enc P W 0 (fun _ => true) true fuel t cs = some x → q8 P t x.1 → ∃ a, d4 (gV W) (c a) cs ∧ (∀ u ∈ cs, u.oneCell' = true) ∧ fits a
theorem fU.map {t : TypeId} {α β : Type} {c : α → List AV} {c' : β → List AV} {fits : α → Prop} {fits' : β → Prop} (h : fU enc P W t c fits) (g : α → β) (hc : ∀ a, c a = c' (g a)) (hf : ∀ a, fits a → fits' (g a)) : fU enc P W t c' fits' := fun fuel cs x h1 h2 => by
 obtain ⟨a, k1, k2, k3⟩ := h fuel cs x h1 h2
 exact ⟨g a, by rw [← hc]; exact k1, k2, hf a k3⟩
theorem yl {t : TypeId} (ht : P.underlying t = some (.int .i64)) : fU enc P W t (fun z : Int => [aQ z]) (fun _ => True) := fun fuel cs x h _ => by
 obtain ⟨z, rfl, -, -⟩ := DataW.trod_int ht h
 exact ⟨z, d4.cons (.sc _) d4.nil, by intro u hu; rw [List.mem_singleton.1 hu]; rfl, trivial⟩
theorem wJ {t : TypeId} (ht : P.underlying t = some .bool) : fU enc P W t (fun z : Bool => [c8 z]) (fun _ => True) := fun fuel cs x h _ => by
 obtain ⟨z, rfl, -⟩ := DataW.trod_bool ht h
 exact ⟨z, d4.cons (.sc _) d4.nil, by intro u hu; rw [List.mem_singleton.1 hu]; rfl, trivial⟩
theorem ym {t : TypeId} (ht : P.underlying t = some .string) : fU enc P W t (fun z : ByteArray => [ph z]) (fun z => z.size ≤ reachBytes) := fun fuel cs x h hl => by
 obtain ⟨z, rfl, rfl, -⟩ := DataW.trod_string ht h
 refine ⟨z, d4.cons (.sc _) d4.nil, by intro u hu; rw [List.mem_singleton.1 hu]; rfl, ?_⟩
 have := hl z.data.toList.length (by simp [DataW.weights])
 simpa using this
theorem nC {e : TypeId} {l : List (DataW H)} {d : DataW H} (hd : d ∈ l) {n : Nat} (hn : n ∈ d.weights P e) : n ∈ DataW.weightsAll P e l := by
 induction l with
 | nil => cases hd
 | cons y l ih =>
  rw [DataW.weightsAll, List.mem_append]
  rcases List.mem_cons.1 hd with rfl | h
  ·exact .inl hn
  ·exact .inr (ih h)
theorem cz {t e : TypeId} {sz : Nat} {α : Type} [Inhabited α] {c : α → List AV} {fits : α → Prop} (ht : P.underlying t = some (.slice e)) (hb : 0 < P.bytesOf e) (hs : P.cellsOf e = sz) (h0 : 0 < sz) (he : fU enc P W e c fits) (hc : ∀ a, (c a).length = sz) :
  fU enc P W t (fun l : List α => [.imm sz (l.map c)]) (fun l => l.length ≤ reachBytes ∧ ∀ a ∈ l, fits a) := fun fuel cs x h hl => by
 rcases open_slice ht h with ⟨rfl, rfl⟩ | ⟨a, len, cap, m, n, D, Pl, rfl, _, hlc, hm, hmm, rfl, hx⟩
 ·exact ⟨[], d4.cons (iG sz (.sc _)) d4.nil, by intro u hu; rw [List.mem_singleton.1 hu]; rfl, Nat.zero_le _, by simp⟩
 have hmle : len ≤ m := by rw [hmm]; split <;> omega
 have hw : ∀ n ∈ (len + (m - len)) * P.bytesOf e :: (DataW.weightsAll P e ((List.range len).map D) ++ DataW.weightsAll P e ((List.range (m - len)).map fun j => D (len + j))), n ≤ reachBytes := by
  intro n hn
  refine hl n ?_
  show n ∈ DataW.weights P t (.slice _ _)
  rw [DataW.weights, ht]
  simpa using hn
 have hlen : len ≤ reachBytes := by
  have h1 := hw _ (List.mem_cons_self ..)
  have h2 : len ≤ (len + (m - len)) * P.bytesOf e := Nat.le_trans (Nat.le_add_right _ _) (Nat.le_mul_of_pos_right _ hb)
  omega
 have each : ∀ i, i < len → ∃ q : α × List Value, W.cells? 0 (a.add (i * sz)) sz = some q.2 ∧ d4 (gV W) (c q.1) q.2 ∧ (∀ u ∈ q.2, u.oneCell' = true) ∧ fits q.1 := by
  intro i hi
  obtain ⟨cs', h1, h2⟩ := hx i (by omega)
  rw [hs] at h1
  obtain ⟨a', k1, k2, k3⟩ := he n cs' _ h2 (fun n hn => hw n (List.mem_cons_of_mem _ (List.mem_append_left _ (nC (List.mem_map.2 ⟨i, List.mem_range.2 hi, rfl⟩) hn))))
  exact ⟨(a', cs'), h1, k1, k2, k3⟩
 obtain ⟨f, hf⟩ := choose_lt each
 refine ⟨(List.range len).map fun i => (f i).1, d4.cons ?_ d4.nil, by intro u hu; rw [List.mem_singleton.1 hu]; rfl, by simpa using hlen, ?_⟩
 ·have hll : (((List.range len).map fun i => (f i).1).map c).length = len := by simp
  have hcell : ∀ i, i < len → ∀ j, j < sz → W.cell? (a.add (i * sz + j)) = (f i).2[j]? := by
   intro i hi j hj
   have := (World.cells?_some (hf i hi).1).2.2 j hj
   rw [add_add] at this
   exact this
  have hcl : ∀ i, i < len → (f i).2.length = sz := fun i hi => (World.cells?_some (hf i hi).1).2.1
  have hnone : 0 < len → ∃ b off, a = ⟨b, off, none⟩ := by
   intro hp
   have h1 := hcell 0 hp 0 h0
   rw [Nat.zero_mul, Nat.zero_add, List.getElem?_eq_getElem (by rw [hcl 0 hp]; exact h0)] at h1
   obtain ⟨b, off, sp⟩ := a
   have e : (⟨b, off, sp⟩ : Addr).add 0 = ⟨b, off, sp⟩ := by simp [Addr.add]
   rw [e] at h1
   cases sp with
   | some s =>
    simp only [World.cell?] at h1
    split at h1
    ·simp at h1
    ·cases h1
   | none => exact ⟨b, off, rfl⟩
  have hmem : ∀ b off, a = ⟨b, off, none⟩ → ∀ i, i < len → ∀ j, j < sz → gV W b (off + i * sz + j) = (f i).2[j]? := by
   intro b off ha i hi j hj
   have := hcell i hi j hj
   rw [ha] at this
   show W.cell? ⟨b, off + i * sz + j, none⟩ = _
   rw [← this]
   have e : (⟨b, off, none⟩ : Addr).add (i * sz + j) = ⟨b, off + (i * sz + j), none⟩ := by
    unfold Addr.add
    by_cases h : i * sz + j = 0
    ·rw [if_pos h, h, Nat.add_zero]
    ·rw [if_neg h]
   rw [e, Nat.add_assoc]
  have hgo := VR.imm (σ := gV W) sz (((List.range len).map fun i => (f i).1).map c) (some a) cap (by rw [hll]; exact hlc) hm (fun e he => by
    obtain ⟨y, _, rfl⟩ := List.mem_map.1 he
    exact hc y) (fun hne => by
    have : 0 < len := by
     rcases Nat.eq_zero_or_pos len with h | h
     ·subst h; exact absurd rfl hne
     ·exact h
    obtain ⟨b, off, rfl⟩ := hnone this
    exact ⟨b, off, rfl⟩) (fun i b off j hA hi hj => by
    rw [hll] at hi
    injection hA with hA
    have h1 := hmem b off hA i hi j hj
    have h2 : j < (f i).2.length := by rw [hcl i hi]; exact hj
    rw [List.getElem?_eq_getElem h2] at h1
    exact ⟨_, h1, (hf i hi).2.2.1 _ (List.getElem_mem h2)⟩) (fun i e b off j c' u hi hA hj hu => by
    injection hA with hA
    have hil : i < len := by have := (List.getElem?_eq_some_iff.1 hi).1; simpa using this
    rw [List.getElem?_map, List.getElem?_map, List.getElem?_range hil] at hi
    simp only [Option.map_some, Option.some.injEq] at hi
    subst hi
    have hjs : j < sz := by rw [← hc (f i).1]; exact (List.getElem?_eq_some_iff.1 hj).1
    rw [hmem b off hA i hil j hjs] at hu
    exact (hf i hil).2.1.2 j c' u hj hu)
  rw [hll] at hgo
  exact hgo
 ·intro y hy
  obtain ⟨i, hi, rfl⟩ := List.mem_map.1 hy
  exact (hf i (List.mem_range.1 hi)).2.2.2
def xl (enc : TypeId × Value → H) (P : Program) (W : World) (N o : Nat) (fs : List Field) {β : Type} (c : β → List AV) (fits : β → Prop) : Prop :=
 ∀ (n : Nat) (cs : List Value) (xs : List (DataW H × List MemPlace)), cs.length = N → xs.length = fs.length → (∀ (i : Nat) (f : Field), fs[i]? = some f → DataW.trod enc P W 0 (fun _ => true) true n f.type ((cs.drop f.offset).take (P.cellsOf f.type)) = xs[i]?) →
  (∀ k ∈ DataW.weightsEach P (fs.map (·.type)) (xs.map (·.1)), k ≤ reachBytes) → ∃ b, d4 (gV W) (c b) (cs.drop o) ∧ (∀ u ∈ cs.drop o, u.oneCell' = true) ∧ fits b
theorem d5 {N : Nat} : xl enc P W N N [] (fun _ : Unit => []) (fun _ => True) := fun n cs xs hN _ _ _ => by
 have : cs.drop N = [] := List.drop_eq_nil_of_le (by omega)
 rw [this]
 exact ⟨(), d4.nil, by simp, trivial⟩
theorem b8 {N o s : Nat} {f : Field} {fs : List Field} {α β : Type} {c : α → List AV} {d : β → List AV} {fits : α → Prop} {fits' : β → Prop} (ho : f.offset = o) (hs : P.cellsOf f.type = s) (h : fU enc P W f.type c fits) (hr : xl enc P W N (o + s) fs d fits') : xl enc P W N o (f :: fs) (fun p : α × β => c p.1 ++ d p.2) (fun p => fits p.1 ∧ fits' p.2) := fun n cs xs hN hl hx hw => by
 match xs, hl with
 | x :: xs, hl =>
  have h0 := hx 0 f rfl
  rw [ho, hs] at h0
  obtain ⟨a, k1, k2, k3⟩ := h n _ x h0 (fun k hk => hw k (by
   simp only [List.map_cons, DataW.weightsEach, List.mem_append]
   exact .inl hk))
  obtain ⟨b, m1, m2, m3⟩ := hr n cs xs hN (by simpa using hl) (fun i g hg => hx (i + 1) g hg) (fun k hk => hw k (by
   simp only [List.map_cons, DataW.weightsEach, List.mem_append]
   exact .inr hk))
  have e : cs.drop o = (cs.drop o).take s ++ cs.drop (o + s) := by
   rw [← List.drop_drop, List.take_append_drop]
  refine ⟨(a, b), by rw [e]; exact k1.app m1, fun u hu => ?_, k3, m3⟩
  rw [e] at hu
  rcases List.mem_append.1 hu with h | h
  ·exact k2 u h
  ·exact m2 u h
theorem ct {t : TypeId} {fs : Array Field} {N : Nat} {β : Type} {c : β → List AV} {fits : β → Prop} (ht : P.underlying t = some (.struct fs)) (hN : P.cellsOf t = N) (h : xl enc P W N 0 fs.toList c fits) : fU enc P W t c fits := fun fuel cs x hx hl => by
 obtain ⟨xs, n, _, rfl, h1, h2, h3⟩ := DataW.trod_struct ht hx
 have := h n cs xs (h1.trans hN) (by simpa using h2) (fun i f hf => h3 i f (by simpa using hf)) (fun k hk => hl k (by
  show k ∈ DataW.weights P t (.agg _)
  rw [DataW.weights, ht]
  exact hk))
 simpa using this
end
end Go.Proofs.YtpbinloeemebkaaGreat

namespace Go.Proofs.YtpbinloeemebkaaGreat
open Go.ChangeShapes Go.WideShapes Go.ChangeAt Go.RowKit Go.Deep Go.Joins
section
variable {H : Type} {enc : TypeId × Value → H} {W : World}
instance : Inhabited e7 := ⟨⟨0, 0, false⟩⟩
instance : Inhabited bE := ⟨⟨0, 0, 0⟩⟩
instance : Inhabited cU := ⟨⟨0, 0, 0, 0⟩⟩
instance : Inhabited dh := ⟨⟨0, 0, 0, 0⟩⟩
instance : Inhabited ew := ⟨⟨0, 0⟩⟩
instance : Inhabited be := ⟨⟨default, 0, false, [], [], [], [], [], []⟩⟩
instance : Inhabited eS := ⟨⟨0, 0⟩⟩
instance : Inhabited iQ := ⟨⟨0, 0⟩⟩
instance : Inhabited bJ := ⟨⟨[], [], [], [], [], 0⟩⟩
instance : Inhabited bC := ⟨⟨0, false, []⟩⟩
instance : Inhabited bA := ⟨⟨default, []⟩⟩
instance : Inhabited dG := ⟨⟨default, 0, 0, 0⟩⟩
instance : Inhabited dB := ⟨⟨0, 0, 0⟩⟩
abbrev xg {α : Type} : α → Prop := fun _ => True
abbrev cX {α : Type} (l : List α) : Prop := l.length ≤ reachBytes
theorem o3 : fU enc Tryz.prog W 3 (fun z : Int => [aQ z]) xg := yl Tryz.underlying3
theorem o4 : fU enc Tryz.prog W 4 (fun z : Bool => [c8 z]) xg := wJ Tryz.underlying4
theorem o9 : fU enc Tryz.prog W 9 (fun z : ByteArray => [ph z]) (fun z => z.size ≤ reachBytes) := ym Tryz.underlying9
theorem AF : fU enc Tryz.prog W 29 (fun l : List Int => [.imm 1 (aV l)]) cX := (cz Tryz.underlying29 (of_decide_eq_true (by kernel_rfl)) (by kernel_rfl) Nat.one_pos o3 (fun _ => rfl)).map id (fun _ => rfl) fun _ h => h.1
theorem Cw : fU enc Tryz.prog W 32 (fun l : List ByteArray => [.imm 1 (jJ l)]) cX := (cz Tryz.underlying32 (of_decide_eq_true (by kernel_rfl)) (by kernel_rfl) Nat.one_pos o9 (fun _ => rfl)).map id (fun _ => rfl) fun _ h => h.1
structure lE (g : be) : Prop where
 points : cX g.Points
 parts : cX g.Parts
 anchors : cX g.Anchors
 deltas : cX g.Deltas
 hint : cX g.Hint
 name : g.Name.size ≤ reachBytes
structure jg (r : bJ) : Prop where
 out : cX r.Out
 calls : cX r.Calls
 back : cX r.Back ∧ ∀ q ∈ r.Back, cX q
 inn : cX r.In ∧ ∀ q ∈ r.In, cX q
 ahead : cX r.Ahead ∧ ∀ q ∈ r.Ahead, cX q
theorem C3 : fU enc Tryz.prog W 282 dv xg := (ct (N := 3) Tryz.underlying282 (by kernel_rfl) (b8 (s := 1) rfl (by kernel_rfl) o3 (b8 (s := 1) rfl (by kernel_rfl) o3 (b8 (s := 1) rfl (by kernel_rfl) o4 d5)))).map (fun p => ⟨p.1, p.2.1, p.2.2.1⟩) (fun _ => rfl) (fun _ _ => trivial)
theorem Cz : fU enc Tryz.prog W 56 (fun l => [.imm 3 (l.map dv)] : List (e7) → List AV) (cX) := (cz Tryz.underlying56 (of_decide_eq_true (by kernel_rfl)) (by kernel_rfl) (by decide) C3 (fun _ => rfl)).map id (fun _ => rfl) (fun _ h => h.1)
theorem CA : fU enc Tryz.prog W 58 (fun p : List e7 × List Int × Unit => [.imm 3 (p.1.map dv), .imm 1 (aV p.2.1)]) (fun p => cX p.1 ∧ cX p.2.1) := (ct (N := 2) Tryz.underlying58 (by kernel_rfl) (b8 (s := 1) rfl (by kernel_rfl) Cz (b8 (s := 1) rfl (by kernel_rfl) AF d5))).map id (fun _ => rfl) fun _ h => ⟨h.1, h.2.1⟩
theorem CF : fU enc Tryz.prog W 66 d7 xg := (ct (N := 3) Tryz.underlying66 (by kernel_rfl) (b8 (s := 1) rfl (by kernel_rfl) o3 (b8 (s := 1) rfl (by kernel_rfl) o3 (b8 (s := 1) rfl (by kernel_rfl) o3 d5)))).map (fun p => ⟨p.1, p.2.1, p.2.2.1⟩) (fun _ => rfl) (fun _ _ => trivial)
theorem CB : fU enc Tryz.prog W 59 (fun l => [.imm 3 (l.map d7)] : List (bE) → List AV) (cX) := (cz Tryz.underlying59 (of_decide_eq_true (by kernel_rfl)) (by kernel_rfl) (by decide) CF (fun _ => rfl)).map id (fun _ => rfl) (fun _ h => h.1)
theorem C0 : fU enc Tryz.prog W 210 dx xg := (ct (N := 4) Tryz.underlying210 (by kernel_rfl) (b8 (s := 1) rfl (by kernel_rfl) o3 (b8 (s := 1) rfl (by kernel_rfl) o3 (b8 (s := 1) rfl (by kernel_rfl) o3 (b8 (s := 1) rfl (by kernel_rfl) o3 d5))))).map (fun p => ⟨p.1, p.2.1, p.2.2.1, p.2.2.2.1⟩) (fun _ => rfl) (fun _ _ => trivial)
theorem CC : fU enc Tryz.prog W 60 (fun l => [.imm 4 (l.map dx)] : List (cU) → List AV) (cX) := (cz Tryz.underlying60 (of_decide_eq_true (by kernel_rfl)) (by kernel_rfl) (by decide) C0 (fun _ => rfl)).map id (fun _ => rfl) (fun _ h => h.1)
theorem C1 : fU enc Tryz.prog W 212 e8 xg := (ct (N := 4) Tryz.underlying212 (by kernel_rfl) (b8 (s := 1) rfl (by kernel_rfl) o3 (b8 (s := 1) rfl (by kernel_rfl) o3 (b8 (s := 1) rfl (by kernel_rfl) o3 (b8 (s := 1) rfl (by kernel_rfl) o3 d5))))).map (fun p => ⟨p.1, p.2.1, p.2.2.1, p.2.2.2.1⟩) (fun _ => rfl) (fun _ _ => trivial)
theorem CD : fU enc Tryz.prog W 61 (fun l => [.imm 4 (l.map e8)] : List (dh) → List AV) (cX) := (cz Tryz.underlying61 (of_decide_eq_true (by kernel_rfl)) (by kernel_rfl) (by decide) C1 (fun _ => rfl)).map id (fun _ => rfl) (fun _ h => h.1)
theorem C2 : fU enc Tryz.prog W 273 ga xg := (ct (N := 2) Tryz.underlying273 (by kernel_rfl) (b8 (s := 1) rfl (by kernel_rfl) o3 (b8 (s := 1) rfl (by kernel_rfl) o3 d5))).map (fun p => ⟨p.1, p.2.1⟩) (fun _ => rfl) (fun _ _ => trivial)
theorem Ce : fU enc Tryz.prog W 62 (fun l => [.imm 2 (l.map ga)] : List (ew) → List AV) (cX) := (cz Tryz.underlying62 (of_decide_eq_true (by kernel_rfl)) (by kernel_rfl) (by decide) C2 (fun _ => rfl)).map id (fun _ => rfl) (fun _ h => h.1)
theorem CE : fU enc Tryz.prog W 64 bz lE := (ct (N := 9) Tryz.underlying64 (by kernel_rfl) (b8 (s := 1) rfl (by kernel_rfl) o9 (b8 (s := 1) rfl (by kernel_rfl) o3 (b8 (s := 1) rfl (by kernel_rfl) o4 (b8 (s := 2) rfl (by kernel_rfl) CA (b8 (s := 1) rfl (by kernel_rfl) CB (b8 (s := 1) rfl (by kernel_rfl) CC (b8 (s := 1) rfl (by kernel_rfl) CD (b8 (s := 1) rfl (by kernel_rfl) Ce d5))))))))).map (fun p => ⟨p.1, p.2.1, p.2.2.1, p.2.2.2.1.1, p.2.2.2.1.2.1, p.2.2.2.2.1, p.2.2.2.2.2.1, p.2.2.2.2.2.2.1, p.2.2.2.2.2.2.2.1⟩) (fun _ => rfl) (fun p h => ⟨h.2.2.2.1.1, h.2.2.2.2.1, h.2.2.2.2.2.1, h.2.2.2.2.2.2.1, h.2.2.2.2.2.2.2.1, h.1⟩)
theorem Co : fU enc Tryz.prog W 22 (fun l => [.imm 9 (l.map bz)] : List (be) → List AV) (fun l => cX l ∧ ∀ g ∈ l, lE g) := (cz Tryz.underlying22 (of_decide_eq_true (by kernel_rfl)) (by kernel_rfl) (by decide) CE (fun _ => rfl)).map id (fun _ => rfl) (fun _ h => h)
theorem Cy : fU enc Tryz.prog W 50 dY xg := (ct (N := 2) Tryz.underlying50 (by kernel_rfl) (b8 (s := 1) rfl (by kernel_rfl) o3 (b8 (s := 1) rfl (by kernel_rfl) o3 d5))).map (fun p => ⟨p.1, p.2.1⟩) (fun _ => rfl) (fun _ _ => trivial)
theorem Cp : fU enc Tryz.prog W 23 (fun l => [.imm 2 (l.map dY)] : List (eS) → List AV) (cX) := (cz Tryz.underlying23 (of_decide_eq_true (by kernel_rfl)) (by kernel_rfl) (by decide) Cy (fun _ => rfl)).map id (fun _ => rfl) (fun _ h => h.1)
theorem C4 : fU enc Tryz.prog W 86 (fun l => [.imm 1 (c7 l)] : List (List Int) → List AV) (fun l => cX l ∧ ∀ q ∈ l, cX q) := (cz Tryz.underlying86 (of_decide_eq_true (by kernel_rfl)) (by kernel_rfl) (by decide) AF (fun _ => rfl)).map id (fun _ => rfl) (fun _ h => h)
theorem CN : fU enc Tryz.prog W 91 g8 xg := (ct (N := 2) Tryz.underlying91 (by kernel_rfl) (b8 (s := 1) rfl (by kernel_rfl) o3 (b8 (s := 1) rfl (by kernel_rfl) o3 d5))).map (fun p => ⟨p.1, p.2.1⟩) (fun _ => rfl) (fun _ _ => trivial)
theorem CL : fU enc Tryz.prog W 87 (fun l => [.imm 2 (l.map g8)] : List (iQ) → List AV) (cX) := (cz Tryz.underlying87 (of_decide_eq_true (by kernel_rfl)) (by kernel_rfl) (by decide) CN (fun _ => rfl)).map id (fun _ => rfl) (fun _ h => h.1)
theorem CM : fU enc Tryz.prog W 89 ca jg := (ct (N := 6) Tryz.underlying89 (by kernel_rfl) (b8 (s := 1) rfl (by kernel_rfl) C4 (b8 (s := 1) rfl (by kernel_rfl) C4 (b8 (s := 1) rfl (by kernel_rfl) C4 (b8 (s := 1) rfl (by kernel_rfl) AF (b8 (s := 1) rfl (by kernel_rfl) CL (b8 (s := 1) rfl (by kernel_rfl) o3 d5))))))).map (fun p => ⟨p.1, p.2.1, p.2.2.1, p.2.2.2.1, p.2.2.2.2.1, p.2.2.2.2.2.1⟩) (fun _ => rfl) (fun p h => ⟨h.2.2.2.1, h.2.2.2.2.1, h.1, h.2.1, h.2.2.1⟩)
theorem CG : fU enc Tryz.prog W 68 (fun l => [.imm 6 (l.map ca)] : List (bJ) → List AV) (fun l => cX l ∧ ∀ r ∈ l, jg r) := (cz Tryz.underlying68 (of_decide_eq_true (by kernel_rfl)) (by kernel_rfl) (by decide) CM (fun _ => rfl)).map id (fun _ => rfl) (fun _ h => h)
theorem CH : fU enc Tryz.prog W 70 bq (fun l => cX l.Rules ∧ ∀ r ∈ l.Rules, jg r) := (ct (N := 3) Tryz.underlying70 (by kernel_rfl) (b8 (s := 1) rfl (by kernel_rfl) o3 (b8 (s := 1) rfl (by kernel_rfl) o4 (b8 (s := 1) rfl (by kernel_rfl) CG d5)))).map (fun p => ⟨p.1, p.2.1, p.2.2.1⟩) (fun _ => rfl) (fun p h => h.2.2.1)
theorem Cq : fU enc Tryz.prog W 24 (fun l => [.imm 3 (l.map bq)] : List (bC) → List AV) (fun l => cX l ∧ ∀ q ∈ l, cX q.Rules ∧ ∀ r ∈ q.Rules, jg r) := (cz Tryz.underlying24 (of_decide_eq_true (by kernel_rfl)) (by kernel_rfl) (by decide) CH (fun _ => rfl)).map id (fun _ => rfl) (fun _ h => h)
theorem CI : fU enc Tryz.prog W 72 bS (fun t => cX t.Lookups ∧ t.Name.size ≤ reachBytes) := (ct (N := 2) Tryz.underlying72 (by kernel_rfl) (b8 (s := 1) rfl (by kernel_rfl) o9 (b8 (s := 1) rfl (by kernel_rfl) AF d5))).map (fun p => ⟨p.1, p.2.1⟩) (fun _ => rfl) (fun p h => ⟨h.2.1, h.1⟩)
theorem Cr : fU enc Tryz.prog W 25 (fun l => [.imm 2 (l.map bS)] : List (bA) → List AV) (fun l => cX l ∧ ∀ t ∈ l, cX t.Lookups ∧ t.Name.size ≤ reachBytes) := (cz Tryz.underlying25 (of_decide_eq_true (by kernel_rfl)) (by kernel_rfl) (by decide) CI (fun _ => rfl)).map id (fun _ => rfl) (fun _ h => h)
theorem BY : fU enc Tryz.prog W 149 dP (fun a => a.Name.size ≤ reachBytes) := (ct (N := 4) Tryz.underlying149 (by kernel_rfl) (b8 (s := 1) rfl (by kernel_rfl) o9 (b8 (s := 1) rfl (by kernel_rfl) o3 (b8 (s := 1) rfl (by kernel_rfl) o3 (b8 (s := 1) rfl (by kernel_rfl) o3 d5))))).map (fun p => ⟨p.1, p.2.1, p.2.2.1, p.2.2.2.1⟩) (fun _ => rfl) (fun p h => h.1)
theorem Cs : fU enc Tryz.prog W 26 (fun l => [.imm 4 (l.map dP)] : List (dG) → List AV) (fun l => cX l ∧ ∀ a ∈ l, a.Name.size ≤ reachBytes) := (cz Tryz.underlying26 (of_decide_eq_true (by kernel_rfl)) (by kernel_rfl) (by decide) BY (fun _ => rfl)).map id (fun _ => rfl) (fun _ h => h)
theorem BZ : fU enc Tryz.prog W 151 gO xg := (ct (N := 3) Tryz.underlying151 (by kernel_rfl) (b8 (s := 1) rfl (by kernel_rfl) o3 (b8 (s := 1) rfl (by kernel_rfl) o3 (b8 (s := 1) rfl (by kernel_rfl) o3 d5)))).map (fun p => ⟨p.1, p.2.1, p.2.2.1⟩) (fun _ => rfl) (fun _ _ => trivial)
theorem CJ : fU enc Tryz.prog W 73 (fun l => [.imm 3 (l.map gO)] : List (dB) → List AV) (cX) := (cz Tryz.underlying73 (of_decide_eq_true (by kernel_rfl)) (by kernel_rfl) (by decide) BZ (fun _ => rfl)).map id (fun _ => rfl) (fun _ h => h.1)
theorem CK : fU enc Tryz.prog W 75 cI cX := (ct (N := 1) Tryz.underlying75 (by kernel_rfl) (b8 (s := 1) rfl (by kernel_rfl) CJ d5)).map (fun p => p.1) (fun _ => rfl) (fun _ h => h.1)
theorem Ct : fU enc Tryz.prog W 27 (fun l => [.imm 1 (l.map cI)] : List (List dB) → List AV) (fun l => cX l ∧ ∀ r ∈ l, cX r) := (cz Tryz.underlying27 (of_decide_eq_true (by kernel_rfl)) (by kernel_rfl) (by decide) CK (fun _ => rfl)).map id (fun _ => rfl) (fun _ h => h)
theorem Cu : fU enc Tryz.prog W 28 (fun l => [.imm 1 (l.map g9)] : List (List ew) → List AV) (fun l => cX l ∧ ∀ r ∈ l, cX r) := (cz Tryz.underlying28 (of_decide_eq_true (by kernel_rfl)) (by kernel_rfl) (by decide) Ce (fun _ => rfl)).map id (fun _ => rfl) (fun _ h => h)
theorem up {n : Nat} (h : n ≤ reachBytes) : n ≤ 140737488355328 := Nat.le_trans h (by decide)
theorem y4 {f : aH} (h1 : cX f.Glyphs ∧ ∀ g ∈ f.Glyphs, lE g) (h2 : cX f.Chars) (h3 : cX f.Lookups ∧ ∀ q ∈ f.Lookups, cX q.Rules ∧ ∀ r ∈ q.Rules, jg r) (h4 : cX f.Features ∧ ∀ t ∈ f.Features, cX t.Lookups ∧ t.Name.size ≤ reachBytes) (h5 : cX f.Axes ∧ ∀ a ∈ f.Axes, a.Name.size ≤ reachBytes) (h6 : cX f.Regions ∧ ∀ r ∈ f.Regions, cX r) (h7 : cX f.Funcs ∧ ∀ r ∈ f.Funcs, cX r) (h8 : cX f.Cvt) : eX f where
 top := ⟨up h1.1, up h2, up h3.1, up h4.1, up h5.1, up h6.1, up h7.1, up h8⟩
 glyph g hg := ⟨up (h1.2 g hg).points, up (h1.2 g hg).parts, up (h1.2 g hg).anchors, up (h1.2 g hg).deltas, up (h1.2 g hg).hint, up (h1.2 g hg).name⟩
 rules l hl := ⟨up (h3.2 l hl).1, fun r hr => by
  have k := (h3.2 l hl).2 r hr
  refine ⟨up k.out, up k.calls, fun s hs => ?_⟩
  simp only [List.mem_cons, List.not_mem_nil, or_false] at hs
  rcases hs with rfl | rfl | rfl
  ·exact ⟨up k.back.1, fun q hq => up (k.back.2 q hq)⟩
  ·exact ⟨up k.inn.1, fun q hq => up (k.inn.2 q hq)⟩
  ·exact ⟨up k.ahead.1, fun q hq => up (k.ahead.2 q hq)⟩⟩
 funcs c hc := up (h7.2 c hc)
 feats t ht := ⟨up (h4.2 t ht).1, up (h4.2 t ht).2⟩
 regions r hr := up (h6.2 r hr)
 axes a ha := up (h5.2 a ha)
theorem Cv : fU enc Tryz.prog W 31 bO eX := (ct (N := 9) Tryz.underlying31 (by kernel_rfl) (b8 (s := 1) rfl (by kernel_rfl) o3 (b8 (s := 1) rfl (by kernel_rfl) Co (b8 (s := 1) rfl (by kernel_rfl) Cp (b8 (s := 1) rfl (by kernel_rfl) Cq (b8 (s := 1) rfl (by kernel_rfl) Cr (b8 (s := 1) rfl (by kernel_rfl) Cs (b8 (s := 1) rfl (by kernel_rfl) Ct (b8 (s := 1) rfl (by kernel_rfl) Cu (b8 (s := 1) rfl (by kernel_rfl) AF d5)))))))))).map (fun p => ⟨p.1, p.2.1, p.2.2.1, p.2.2.2.1, p.2.2.2.2.1, p.2.2.2.2.2.1, p.2.2.2.2.2.2.1, p.2.2.2.2.2.2.2.1, p.2.2.2.2.2.2.2.2.1⟩) (fun _ => rfl) (fun p h => y4 h.2.1 h.2.2.1 h.2.2.2.1 h.2.2.2.2.1 h.2.2.2.2.2.1 h.2.2.2.2.2.2.1 h.2.2.2.2.2.2.2.1 h.2.2.2.2.2.2.2.2.1)
set_option maxRecDepth 100000 in
theorem sq {base : Nat} {v : Value} {d : DataW H} {p : List MemPlace} (hok : Value.okWide Tryz.prog W .any base 31 v) (h : DataW.Trod enc Tryz.prog W 0 (fun _ => true) true 31 v d p) (hl : q8 Tryz.prog 31 d) : ∃ f, VR (gV W) (bw f) v ∧ eX f := by
 obtain ⟨cs, rfl, hsz⟩ := okWide_struct Tryz.underlying31 hok
 obtain ⟨fuel, hf⟩ := h
 obtain ⟨f, h1, h2, h3⟩ := Cv (enc := enc) fuel cs.toList _ (by simpa [Value.cells] using hf) hl
 have := VR.agg (σ := gV W) _ _ h1.1 h1.2 h2
 exact ⟨f, by simpa using this, h3⟩
end
end Go.Proofs.YtpbinloeemebkaaGreat

namespace Go.Proofs.YtpbinloeemebkaaGreat
open Go.ChangeShapes Go.WideShapes Go.ChangeAt Go.RowKit Go.Deep Go.Joins
theorem Tryz.own : ownKnob Tryz.prog.godebug = none := by kernel_rfl
theorem Tryz.laidOut : laidOutB Tryz.prog = true := by kernel_rfl
theorem ua {P : Program} {f : FuncId} {args : List AV} {u : Value} (h : bo P f args (.sc u)) (W : World) (vs : List Value) (hv : d4 (gV W) args vs) : Calls P f vs.toArray W fun e W' => ∃ v, e = .returned v ∧ Below W.heap.size W W' ∧ v = u :=
 (h (gV W) W vs hv (wA W)).mono fun e W' ⟨v, τ, c, L', he, hr, hst, hc⟩ => by
  subst hc
  exact ⟨v, he, ⟨hst.os, hst.tape, hst.output, hst.size, fun k hk => hst.old k hk (by simp)⟩, hr.sc_inv⟩
end Go.Proofs.YtpbinloeemebkaaGreat

namespace Go.Proofs.YtpbinloeemebkaaGreat
open Go.RowKit
def iL (u : AV) : Option (FuncId × List AV) := match u with
 | .fn f cs => some (f, cs)
 | .sc (.func (.func f) a b) => match a.toList with
  | [] => match b.toList with
   | [] => some (f, [])
   | _ => none
  | _ => none
 | _ => none
theorem w8 {u : AV} {f : FuncId} {cs : List AV} (h : iL u = some (f, cs)) {σ : ce} {v : Value} (hv : VR σ u v) : VR σ (.fn f cs) v := by
 unfold iL at h
 split at h
 ·cases h; exact hv
 ·rename_i a b
  split at h
  ·rename_i ha
   split at h
   ·rename_i hb
    cases h
    have e1 : a = #[] := by apply Array.toList_inj.1; simpa using ha
    have e2 : b = #[] := by apply Array.toList_inj.1; simpa using hb
    subst e1; subst e2
    rw [hv.sc_inv]
    exact .fn f [] [] rfl (fun i c u h => by simp at h)
   ·cases h
  ·cases h
 ·cases h
section
variable {P : Program} {r : Option Nat} {ops : Array Oper} {Q : Exit → Act → World → Prop} {nt : Nat} {D : List Deferred} {fr : c9} {B : Bs} {L : AL} {rest : List Oper} {d : Nat} {ty t : TypeId} {pos : String} {af : Array Edge} {x y z : Operand} {u : AV} {g : Option (Nat × Bool)}
theorem vD (Lc Lf : AL) {d : Option Tmp} {f : FuncId} {args : Array Operand} {ts : Array TypeId} {cs caps : List AV} {Post : AV → AL → Prop} [hf : bt P f] (hx : bB fr x = some u) (hu : iL u = some (f, caps)) (hv : eU fr args.toList = some cs) (hL : L.Perm (Lc ++ Lf)) (h : AC P f (cs ++ caps) Lc Post) :
  AO P ⟨d, .call ⟨.value x, args, ts⟩, ty, pos, af, g⟩ fr B L (fun c L' => ∃ L1, Post c L1 ∧ L' = L1 ++ Lf) := by
 intro σ ρ w hρ hw0
 have hw := hw0.perm hL
 obtain ⟨ws, hw1, hw2⟩ := (w8 hu (hρ x _ hx)).fn_inv
 have hvs := fG hρ _ _ hv
 have e : args.map ρ = (args.toList.map ρ).toArray := by apply Array.toList_inj.1; simp
 unfold ia
 rw [show (execOp ρ ⟨d, .call ⟨.value x, args, ts⟩, ty, pos, af, g⟩).run P w = .ok (.enter f (args.toList.map ρ ++ ws).toArray) w by
  simp [execOp, resolve, hw1, Deferred.ofValue, invoke, hf.enters]]
 have hall : d4 σ (cs ++ caps) (args.toList.map ρ ++ ws) := by
  refine ⟨by rw [List.length_append, List.length_append, hvs.1, hw2.1], fun i c u hc hu => ?_⟩
  have hq := hvs.1
  by_cases hi : i < cs.length
  ·rw [List.getElem?_append_left hi] at hc
   rw [List.getElem?_append_left (by omega)] at hu
   exact hvs.2 i c u hc hu
  ·rw [List.getElem?_append_right (by omega)] at hc
   rw [List.getElem?_append_right (by omega), ← hq] at hu
   exact hw2.2 _ c u hc hu
 refine (h σ w _ hall hw.enter).mono fun en w' ⟨v, τ, c, L', h1, h2, h3, h4⟩ => ⟨v, h1, τ, c, L' ++ Lf, h3.grow, h2, hw.leave h3, L', h4, rfl⟩
theorem cy {f : FuncId} {args : Array Operand} {ts : Array TypeId} {cs caps : List AV} {Post : AV → AL → Prop} [bt P f] (Lc Lf : AL) (hc : AC P f (cs ++ caps) Lc Post) (hx : bB fr x = some u) (hu : iL u = some (f, caps)) (hv : eU fr args.toList = some cs) (hL : L.Perm (Lc ++ Lf)) (hn : Oper.noDefer ⟨some d, .call ⟨.value x, args, ts⟩, ty, pos, af, none⟩ = true) (hd : Nat.ble nt d = false) (h : ∀ c L1, Post c L1 → bN P r ops Q nt D rest ((d, c) :: fr) B (L1 ++ Lf)) :
  bN P r ops Q nt D (⟨some d, .call ⟨.value x, args, ts⟩, ty, pos, af, none⟩ :: rest) fr B L :=
 cT hd hn (vD Lc Lf hx hu hv hL hc) fun c L' ⟨L1, h1, h2⟩ => by subst h2; exact h c L1 h1
end
theorem gI.shadow2 {σ : ce} {nt : Nat} {D : List Deferred} {fr : c9} {a : Act} {t : Nat} {v : AV} (h : gI σ nt D fr a) (hl : VR σ v (a.tmps.getD t undef)) : gI σ nt D ((t, v) :: fr) a :=
 ⟨h.size, h.defers, fun t' v' hl' => by
  rw [cf] at hl'
  by_cases e : t = t'
  ·subst e; simp only [if_true, Option.some.injEq] at hl'; subst hl'; exact hl
  ·rw [if_neg e] at hl'; exact h.look t' v' hl'⟩
theorem bv {P : Program} {r : Option Nat} {ops : Array Oper} {Q : Exit → Act → World → Prop} {nt : Nat} {D : List Deferred} {fr fr0 : c9} {B : Bs} {L : AL} {rest : List Oper} {t : Nat} (ks : List Nat) (C : Prop) [Decidable C] (hks : fO fr ks = some fr0) (h : ∀ Q', (∀ fr' b, fO fr' ks = some fr0 → bZ fr' t = some (.sc (.bool b)) → (b = true ↔ C) → AX P .normal Q' nt D fr' B L) → bN P r ops Q' nt D rest fr B L) (k : AX P .normal Q nt D ((t, .sc (.bool (decide C))) :: fr0) B L) : bN P r ops Q nt D rest fr B L := by
 refine h Q fun fr' b hk hb hC => fun σ a w ha hw => k σ a w ?_ hw
 have hb' : b = decide C := by
  by_cases hc : C
  ·rw [decide_eq_true hc, hC.2 hc]
  ·rw [decide_eq_false hc]
   cases b with
   | true => exact absurd (hC.1 rfl) hc
   | false => rfl
 subst hb'
 exact (ha.weak (di _ hk)).shadow2 (ha.look t _ hb)
theorem AC.frame {P : Program} {f : FuncId} {args : List AV} {L Lf : AL} {Post : AV → AL → Prop} (h : AC P f args L Post) : AC P f args (L ++ Lf) fun c L' => ∃ L1, Post c L1 ∧ L' = L1 ++ Lf := by
 intro σ w vs hv hs
 refine (h σ w vs hv hs.enter).mono fun en w' ⟨v, τ, c, L', h1, h2, h3, h4⟩ => ⟨v, τ, c, L' ++ Lf, h1, h2, hs.leave h3, L', h4, rfl⟩
theorem vf.perm {P : Program} {σ0 : ce} {f : FuncId} {args : List AV} {L L2 : AL} {Post : AV → AL → Prop} (h : vf P σ0 f args L Post) (hp : L2.Perm L) : vf P σ0 f args L2 Post := by
 intro σ w vs hle hv hs
 refine (h σ w vs hle hv ?_).mono fun en w' ⟨v, τ, c, L', h1, h2, h3, h4⟩ => ⟨v, τ, c, L', h1, h2, ?_, h4⟩
 ·have := hs.perm hp
  exact ⟨this.os, this.tape, this.output, this.size, fun k h1 h2 => this.old k h1 (fun h3 => h2 ((hp.map _).mem_iff.1 h3)), this.here, fun p hp' => (this.mine p hp').imp id (fun h3 => (hp.map _).mem_iff.1 h3), this.apart, this.froz, this.free, this.grow, fun b h1 h2 => this.same b h1 (fun h3 => h2 ((hp.map _).mem_iff.1 h3))⟩
 ·exact ⟨h3.os, h3.tape, h3.output, h3.size, fun k h1 h2 => h3.old k h1 (fun h3 => h2 ((hp.map _).mem_iff.2 h3)), h3.here, fun p hp' => (h3.mine p hp').imp id (fun h3 => (hp.map _).mem_iff.2 h3), h3.apart, h3.froz, h3.free, h3.grow, fun b h1 h2 => h3.same b h1 (fun h3 => h2 ((hp.map _).mem_iff.2 h3))⟩
theorem dA {nt : Nat} {D : List Deferred} {B : Bs} {fr : c9} {L L' : AL} (h : L'.Sublist L) : oh nt D B fr L fr L' := fun σ _ _ ha hw => ⟨σ, ha, hw.sublist h⟩
section
variable {P : Program} {l : List Oper} {fr : c9} {fin : lj} {sk : mx} {acc : c9} {L : AL} {k : Nat} {dd : Option Tmp} {ty : TypeId} {pos : String} {af : Array Edge} {g : Option (Nat × Bool)} {x : Operand} {u : AV}
theorem fB {f : FuncId} {args : Array Operand} {ts : Array TypeId} {cs ds : List AV} {Post : AV → AL → Prop} [bt P f] (Lc Lf : AL) (hc : AC P f ds Lc Post) (hv : eU (dp l.toArray acc fr af.toList) args.toList = some cs) (hi : lF cs = some ds) (hL : L.Perm (Lc ++ Lf)) (hg : mp ⟨dd, .call ⟨.value (.func f), args, ts⟩, ty, pos, af, g⟩ acc) (h : ∀ c L1, Post c L1 → DA P l fr fin sk ((k, c) :: acc) (L1 ++ Lf)) :
  d6 P l fr fin k .e ⟨dd, .call ⟨.value (.func f), args, ts⟩, ty, pos, af, g⟩ sk acc L := by
 have hc' := hc
 rw [← gF hi] at hc'
 exact io hg (fun B => mA Lc Lf hv (fun σ vs h => h.im) hL hc') fun c L' ⟨L1, h1, h2⟩ => by subst h2; exact h c L1 h1
end
theorem bo.any {P : Program} {f : FuncId} {args : List AV} {u : AV} (h : bo P f args u) (L : AL) : AC P f args L fun c L' => c = u ∧ ∃ L1, L' = L1 ++ L := (AC.frame (Lf := L) h).mono fun c L' ⟨L1, h1, h2⟩ => ⟨h1, L1, h2⟩
end Go.Proofs.YtpbinloeemebkaaGreat
