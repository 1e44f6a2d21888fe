/-
  The program: glyphs in a line.
-/
import Derived.Test.YtpmdfoaadejmkaaGreatDoorM22
import Derived.Shelf.Slices.In.SortNone
import Derived.Shelf.Slices.In.SortAlone
import Derived.Ground.NamesProg
import Derived.Test.YtpmdfoaadejmkaaGreatDoorProg
import Derived.Lib.SortBridge
namespace Go.Proofs.YtpmdfoaadejmkaaGreatDoor
open Go.RowKit
attribute [local irreducible] AT bh AX AO Av Kt b6 dh DA cE
open Go.MapKept
attribute [local irreducible] mx
def prt (f : aN) (g : Int) : List Int := match f.Glyphs[g.toNat]? with
 | some gl => (gl.Parts.map cT.Glyph).filter (jc f)
 | none => []
def ro (f : aN) (gl : b9) (i : Nat) : List Int := ((gl.Parts.take i).map cT.Glyph).filter (jc f)
theorem tF {f : aN} {gl : b9} {i : Nat} {p : cT} (h : gl.Parts[i]? = some p) (hg : jc f p.Glyph = true) : ro f gl (i + 1) = ro f gl i ++ [p.Glyph] := by
 unfold ro
 rw [List.take_add_one, h, Option.toList_some, List.map_append, List.filter_append]
 simp [hg]
theorem x7 {f : aN} {gl : b9} {i : Nat} {p : cT} (h : gl.Parts[i]? = some p) (hg : jc f p.Glyph = false) : ro f gl (i + 1) = ro f gl i := by
 unfold ro
 rw [List.take_add_one, h, Option.toList_some, List.map_append, List.filter_append]
 simp [hg]
theorem tD {f : aN} {g : Nat} {gl : b9} (hg : f.Glyphs[g]? = some gl) : ro f gl gl.Parts.length = prt f g := by
 unfold ro prt
 rw [Int.toNat_natCast, hg, List.take_length]
theorem tE (f : aN) (gl : b9) (i : Nat) : (ro f gl i).length ≤ gl.Parts.length := by
 unfold ro
 refine Nat.le_trans (List.length_filter_le _ _) ?_
 rw [Du, List.length_take]
 omega
theorem mr {f : aN} {z : Int} : jc f z = true ↔ 0 ≤ z ∧ z < f.Glyphs.length := by unfold jc; simp
theorem B7 {f : aN} {g p : Int} (h : p ∈ prt f g) : 0 ≤ p ∧ p < f.Glyphs.length := by
 unfold prt at h
 split at h
 ·rw [List.mem_filter] at h; exact mr.1 h.2
 ·cases h
structure Few (f : aN) : Prop where
 n : f.Glyphs.length ≤ 1000
 parts : ∀ gl ∈ f.Glyphs, gl.Parts.length ≤ 1000
theorem Few.prt {f : aN} (h : Few f) (g : Int) : (prt f g).length ≤ 1000 := by
 unfold Go.Proofs.YtpmdfoaadejmkaaGreatDoor.prt
 split
 ·rename_i gl hgl
  refine Nat.le_trans (List.length_filter_le _ _) ?_
  rw [Du]
  exact h.parts gl (Dw hgl)
 ·exact Nat.zero_le _
theorem lu {pr : Int → List Int} (h : ∀ g, (pr g).length ≤ 1000) (z : Int) : ∀ gs : List Int, (bN pr gs z).length ≤ 1000 * gs.length
 | [] => by simp [bN]
 | g :: gs => by
  have ih := lu h z gs
  unfold bN at ih ⊢
  rw [List.flatMap_cons, List.length_append, Du, List.length_cons]
  have h1 := List.length_filter_le (fun p => decide (p = z)) (pr g)
  have h2 := h g
  omega
theorem vk {pr : Int → List Int} {gs : List Int} {z g : Int} (h : g ∈ bN pr gs z) : g ∈ gs := by
 unfold bN at h
 obtain ⟨y, hy, h1⟩ := List.mem_flatMap.1 h
 obtain ⟨_, _, rfl⟩ := List.mem_map.1 h1
 exact hy
theorem wP (pr : Int → List Int) (T : List Int) (g : Int) : jh pr T g ≤ (pr g).length := List.length_filter_le _ _
def Mi (f : aN) (gl : b9) (g i : Nat) : Int → Int := fun z => if z = g then (ro f gl i).length else if 0 ≤ z ∧ z < g then (prt f z).length else 0
def Ui (f : aN) (gl : b9) (g i : Nat) : Int → List Int := fun z => bN (prt f) (bS g) z ++ ((ro f gl i).filter fun p => decide (p = z)).map fun _ => (g : Int)
def Mb (f : aN) (g : Nat) : Int → Int := fun z => if 0 ≤ z ∧ z < g then (prt f z).length else 0
def Rb (f : aN) (g : Nat) : List Int := (bS g).filter fun z => decide ((prt f z).length = 0)
theorem xM (f : aN) (gl : b9) (g : Nat) : Mi f gl g 0 = Mb f g := by
 funext z
 unfold Mi Mb ro
 by_cases e : z = g
 ·subst e; rw [if_pos rfl, if_neg (by omega)]; rfl
 ·rw [if_neg e]
theorem sR (f : aN) (gl : b9) (g : Nat) : Ui f gl g 0 = bN (prt f) (bS g) := by
 funext z
 unfold Ui ro
 simp
theorem zT {f : aN} {g : Nat} {gl : b9} (hg : f.Glyphs[g]? = some gl) : Mi f gl g gl.Parts.length = Mb f (g + 1) := by
 funext z
 unfold Mi Mb
 rw [tD hg]
 by_cases e : z = g
 ·subst e; rw [if_pos rfl, if_pos (by omega)]
 ·rw [if_neg e]
  by_cases h : 0 ≤ z ∧ z < g
  ·rw [if_pos h, if_pos (by omega)]
  ·rw [if_neg h, if_neg (by omega)]
theorem zV {f : aN} {g : Nat} {gl : b9} (hg : f.Glyphs[g]? = some gl) : Ui f gl g gl.Parts.length = bN (prt f) (bS (g + 1)) := by
 funext z
 unfold Ui
 rw [tD hg, oT]
 unfold bN
 rw [List.flatMap_append]
 simp
theorem zU {f : aN} {gl : b9} {g i : Nat} {p : cT} (h : gl.Parts[i]? = some p) (hg : jc f p.Glyph = true) : (fun q => if q = (g : Int) then Mi f gl g i g + 1 else Mi f gl g i q) = Mi f gl g (i + 1) := by
 funext q
 unfold Mi
 rw [tF h hg]
 by_cases e : q = g
 ·rw [if_pos e, if_pos e, if_pos rfl]; simp
 ·rw [if_neg e, if_neg e, if_neg e]
theorem zX {f : aN} {gl : b9} {g i : Nat} {p : cT} (h : gl.Parts[i]? = some p) (hg : jc f p.Glyph = true) : (fun q => if q = p.Glyph then Ui f gl g i p.Glyph ++ [(g : Int)] else Ui f gl g i q) = Ui f gl g (i + 1) := by
 funext q
 unfold Ui
 rw [tF h hg, List.filter_append, List.map_append]
 by_cases e : q = p.Glyph
 ·subst e; rw [if_pos rfl]; simp
 ·have e' : ¬ p.Glyph = q := fun h => e h.symm
  rw [if_neg e]; simp [e']
theorem Bl {f : aN} {gl : b9} {g i : Nat} {p : cT} (h : gl.Parts[i]? = some p) (hg : jc f p.Glyph = false) : Mi f gl g (i + 1) = Mi f gl g i := by unfold Mi; rw [x7 h hg]
theorem Bn {f : aN} {gl : b9} {g i : Nat} {p : cT} (h : gl.Parts[i]? = some p) (hg : jc f p.Glyph = false) : Ui f gl g (i + 1) = Ui f gl g i := by unfold Ui; rw [x7 h hg]
theorem zW {f : aN} (hf : Few f) (gl : b9) (hgl : gl ∈ f.Glyphs) {g : Nat} (hg : g ≤ 1000) (i : Nat) (z : Int) : (Ui f gl g i z).length ≤ 1001000 := by
 unfold Ui
 have h1 := lu hf.prt z (bS g)
 have h2 := tE f gl i
 have h3 := List.length_filter_le (fun p => decide (p = z)) (ro f gl i)
 have h4 := hf.parts gl hgl
 rw [dm] at h1
 rw [List.length_append, Du]
 omega
theorem iQ (f : aN) (g : Nat) : Rb f (g + 1) = if (prt f g).length = 0 then Rb f g ++ [(g : Int)] else Rb f g := by
 unfold Rb
 rw [oT, List.filter_append]
 by_cases h : (prt f g).length = 0
 ·rw [if_pos h, List.filter_cons_of_pos (by simpa using h)]; rfl
 ·rw [if_neg h, List.filter_cons_of_neg (by simpa using h)]; simp
theorem vo (f : aN) (g : Nat) : (Rb f g).length ≤ g := by
 unfold Rb
 refine Nat.le_trans (List.length_filter_le _ _) ?_
 rw [dm]
 exact Nat.le_refl _
theorem kw {a b : Nat × AB} {T T' t H R : AL} (h : T.Perm (t ++ T')) : (a :: b :: (H ++ (T ++ R))).Perm (t ++ (a :: b :: (H ++ (T' ++ R)))) := by
 have h1 : (a :: b :: (H ++ (T ++ R))).Perm (a :: b :: (H ++ (t ++ (T' ++ R)))) := by
  refine List.Perm.cons _ (List.Perm.cons _ (List.Perm.append_left _ ?_))
  rw [← List.append_assoc]
  exact h.append_right _
 refine h1.trans ?_
 have h2 : (a :: b :: (H ++ (t ++ (T' ++ R)))) = ((a :: b :: H) ++ t) ++ (T' ++ R) := by simp
 have h3 : t ++ (a :: b :: (H ++ (T' ++ R))) = (t ++ (a :: b :: H)) ++ (T' ++ R) := by simp
 rw [h2, h3]
 exact List.Perm.append_right _ List.perm_append_comm
theorem x9 {rec : Loop} (h1 : rec.state = .ready) (h2 : rec.pending = none) : ({ ({ rec with state := .busy } : Loop) with state := .ready, pending := none } : Loop) = rec := by cases rec; simp_all
abbrev KI : TypeDesc := .int .i64
theorem xK (f : aN) : Mb f 0 = fun _ => 0 := by
 funext z
 unfold Mb
 rw [if_neg (by omega)]
abbrev KT := Int → Option (Nat × Nat)
abbrev VM := Value → Option AV
abbrev LX := VM × VM × KT × (Int → List Int)
theorem qW {a b c d e : Nat × AB} {T M : AL} : (d :: a :: b :: c :: (T ++ (M ++ [e]))).Perm (a :: b :: c :: d :: (T ++ (e :: M))) := by
 refine (List.perm_middle (l₁ := [a, b, c])).symm.trans ?_
 exact List.Perm.cons _ (List.Perm.cons _ (List.Perm.cons _ (List.Perm.cons _ (List.Perm.append_left T (List.perm_append_singleton e M)))))
def pf (bm bu p n : Nat) (kh : Option (Nat × List AV)) (R : List Int) (rest : AL) (x : LX) : AL := (bm, cg KI x.1) :: (bu, cg KI x.2.1) :: (hst p kh R ++ (jK 3 x.2.2.1 x.2.2.2 (bS n) ++ rest))
abbrev LS := Nat × List Nat × VM × VM × KT × Option (Nat × List AV)
def qO (dbs : List Nat) : AL := dbs.map fun b => (b, pW)
theorem li {a b : Nat × AB} {H X : AL} : (a :: b :: (H ++ X)).Perm (H ++ (a :: b :: X)) := by
 have h1 : (a :: b :: (H ++ X)) = (a :: b :: H) ++ X := rfl
 have h2 : H ++ (a :: b :: X) = (H ++ [a, b]) ++ X := by simp
 rw [h1, h2]
 exact (List.perm_append_comm (l₁ := [a, b]) (l₂ := H)).append_right X
structure KS where
 T : List Int
 R : List Int
 M : Int → Int
 mm : VM
 kh : Option (Nat × List AV)
 kt : Option (Nat × Nat)
def Cd (bm bu p : Nat) (mu : VM) (X : AL) (x : KS) : AL := (bm, cg KI x.mm) :: (bu, cg KI mu) :: (hst p x.kh x.R ++ (tok x.kt 3 1 (aR x.T).length ++ X))
set_option maxHeartbeats 8000000 in
theorem yR (f : aN) (hf : Few f) : AC Tryz.prog 210 [cA f, .imm 1 (aR (bS f.Glyphs.length))] [] fun c _ => ∃ T, c = .imm 1 (aR T) ∧ fT f.Glyphs.length (prt f) T := by
 refine vC Tryz.func210 rfl Tryz.ntmps210 rfl fun B => ?_
 have hn := hf.n
 have hil : (aR (bS f.Glyphs.length)).length = f.Glyphs.length := by rw [aX, dm]
 generalize hN : f.Glyphs.length = n at *
 repeat' (first|refine a8 ?_|refine a0 ?_|refine a5 ?_|refine a6 ?_|refine a7 a4 rfl rfl ?_|refine aY ?_|fail)
 refine ei KI fun bm => ?_
 repeat' (first|refine a8 ?_|refine a0 ?_|refine a5 ?_|refine a6 ?_|(apply aO; first|refine a9 5 a4 0 rfl rfl rfl rfl rfl rfl rfl rfl ?_|refine a9 5 a4 1 rfl rfl rfl rfl rfl rfl rfl rfl ?_|refine a9 5 a4 2 rfl rfl rfl rfl rfl rfl rfl rfl ?_|refine a9 6 a4 0 rfl rfl rfl rfl rfl rfl rfl rfl ?_|refine a9 6 a4 1 rfl rfl rfl rfl rfl rfl rfl rfl ?_|refine a9 6 a4 2 rfl rfl rfl rfl rfl rfl rfl rfl ?_|refine a9 9 a4 0 rfl rfl rfl rfl rfl rfl rfl rfl ?_|refine a9 9 a4 1 rfl rfl rfl rfl rfl rfl rfl rfl ?_|refine a9 9 a4 2 rfl rfl rfl rfl rfl rfl rfl rfl ?_|refine a9 10 a4 0 rfl rfl rfl rfl rfl rfl rfl rfl ?_|refine a9 10 a4 1 rfl rfl rfl rfl rfl rfl rfl rfl ?_|refine a9 10 a4 2 rfl rfl rfl rfl rfl rfl rfl rfl ?_|refine aa a4 0 rfl rfl rfl rfl rfl rfl rfl ?_|refine aa a4 1 rfl rfl rfl rfl rfl rfl rfl ?_|refine aa a4 2 rfl rfl rfl rfl rfl rfl rfl ?_|refine aa a4 3 rfl rfl rfl rfl rfl rfl rfl ?_|fail)|refine aZ a4 fun _=>?_|fail)
 refine ei KI fun bu => ?_
 repeat' (first|refine a8 ?_|refine a0 ?_|refine aj ?_|refine a5 ?_|refine a6 ?_|refine a7 a4 rfl rfl ?_|(apply aO; first|refine a9 5 a4 0 rfl rfl rfl rfl rfl rfl rfl rfl ?_|refine a9 5 a4 1 rfl rfl rfl rfl rfl rfl rfl rfl ?_|refine a9 5 a4 2 rfl rfl rfl rfl rfl rfl rfl rfl ?_|refine a9 6 a4 0 rfl rfl rfl rfl rfl rfl rfl rfl ?_|refine a9 6 a4 1 rfl rfl rfl rfl rfl rfl rfl rfl ?_|refine a9 6 a4 2 rfl rfl rfl rfl rfl rfl rfl rfl ?_|refine a9 9 a4 0 rfl rfl rfl rfl rfl rfl rfl rfl ?_|refine a9 9 a4 1 rfl rfl rfl rfl rfl rfl rfl rfl ?_|refine a9 9 a4 2 rfl rfl rfl rfl rfl rfl rfl rfl ?_|refine a9 10 a4 0 rfl rfl rfl rfl rfl rfl rfl rfl ?_|refine a9 10 a4 1 rfl rfl rfl rfl rfl rfl rfl rfl ?_|refine a9 10 a4 2 rfl rfl rfl rfl rfl rfl rfl rfl ?_|refine aa a4 0 rfl rfl rfl rfl rfl rfl rfl ?_|refine aa a4 1 rfl rfl rfl rfl rfl rfl rfl ?_|refine aa a4 2 rfl rfl rfl rfl rfl rfl rfl ?_|refine aa a4 3 rfl rfl rfl rfl rfl rfl rfl ?_|fail)|refine aZ a4 fun _=>?_|fail)
 rename_i p
 refine vN [2, 5, 6, 7, 17, 18] (α := LS) (fun x => wL x.2.1) (fun x => [(19, az x.1)]) (fun x => x.1 ≤ n ∧ kN x.2.2.1 (Mb f x.1) ∧ my x.2.2.2.1 x.2.2.2.2.1 (bN (prt f) (bS x.1)) ∧ ly x.2.2.2.2.2 (Rb f x.1)) (fun x => pf bm bu p n x.2.2.2.2.2 (Rb f x.1) (qO x.2.1) (x.2.2.1, x.2.2.2.1, x.2.2.2.2.1, bN (prt f) (bS x.1))) (fun x => n - x.1) (0, [], (fun _ => none), (fun _ => none), (fun _ => none), none) rfl ⟨rfl, trivial⟩ rfl ⟨Nat.zero_le _, ?_, ?_, rfl⟩ (fun σ w h => ?_) ?_
 ·intro z; exact .inl ⟨rfl, by rw [xK]⟩
 ·intro z; exact .inl ⟨rfl, rfl, rfl⟩
 ·have h1 := cm.perm (L := [(p, .box [.sc (.slice none 0 0)] 339), (bu, cg KI fun _ => none), (bm, cg KI fun _ => none)]) h (List.reverse_perm _).symm
  have h2 : pf bm bu p n none (Rb f 0) (qO []) ((fun _ => none), (fun _ => none), (fun _ => none), bN (prt f) (bS 0)) = [(bm, cg KI fun _ => none), (bu, cg KI fun _ => none), (p, .box [.sc (.slice none 0 0)] 339)] := by
   unfold pf
   rw [vg]
   rfl
  show cm B σ (pf bm bu p n none (Rb f 0) (qO []) ((fun _ => none), (fun _ => none), (fun _ => none), bN (prt f) (bS 0))) w
  rw [h2]
  exact h1
 rintro ⟨g, dbs, mm, mu, K, kh⟩ ⟨hg, hM, hU, hR⟩
 dsimp only at hg hM hU hR ⊢
 try dsimp only [Ds, Dr, Dq, Dn]
 repeat' (first|refine a8 ?_|refine a0 ?_|refine a5 ?_|refine a6 ?_|refine a7 a4 rfl rfl ?_)
 rw [hil]
 refine aq rfl (fun h => ?_) (fun h => ?_)
 ·have hgl : g < n := by have := Dz h; omega
  obtain ⟨gl, hgg⟩ : ∃ z, f.Glyphs[g]? = some z := ⟨_, Bg (by omega)⟩
  have hgm := Dw hgg
  have hgi := bI (gy hgl)
  clear h
  unfold pf
  dsimp only
  repeat' (first|refine a8 ?_|refine a0 ?_|refine aj ?_|refine ah ?_|refine a5 ?_|refine a6 ?_|refine a7 a4 rfl rfl ?_|(apply aE; first|refine aD a4 ?_|refine aA a4 ?_)|(apply aO; first|refine a9 5 a4 0 rfl rfl rfl rfl rfl rfl rfl rfl ?_|refine a9 5 a4 1 rfl rfl rfl rfl rfl rfl rfl rfl ?_|refine a9 5 a4 2 rfl rfl rfl rfl rfl rfl rfl rfl ?_|refine a9 6 a4 0 rfl rfl rfl rfl rfl rfl rfl rfl ?_|refine a9 6 a4 1 rfl rfl rfl rfl rfl rfl rfl rfl ?_|refine a9 6 a4 2 rfl rfl rfl rfl rfl rfl rfl rfl ?_|refine a9 9 a4 0 rfl rfl rfl rfl rfl rfl rfl rfl ?_|refine a9 9 a4 1 rfl rfl rfl rfl rfl rfl rfl rfl ?_|refine a9 9 a4 2 rfl rfl rfl rfl rfl rfl rfl rfl ?_|refine a9 10 a4 0 rfl rfl rfl rfl rfl rfl rfl rfl ?_|refine a9 10 a4 1 rfl rfl rfl rfl rfl rfl rfl rfl ?_|refine a9 10 a4 2 rfl rfl rfl rfl rfl rfl rfl rfl ?_|refine aa a4 0 rfl rfl rfl rfl rfl rfl rfl ?_|refine aa a4 1 rfl rfl rfl rfl rfl rfl rfl ?_|refine aa a4 2 rfl rfl rfl rfl rfl rfl rfl ?_|refine aa a4 3 rfl rfl rfl rfl rfl rfl rfl ?_|fail)|refine aZ a4 fun _=>?_|(apply bb;refine b4 ?_)|fail)
  refine ml (fr' := [(2, .iptr (bU f)), (5, .iptr [.sc (.map (some bm))]), (6, .iptr [.sc (.map (some bu))]), (7, .sc (.pointer (some ⟨p, 0, none⟩))), (9, .iptr [az g]), (17, .imm 1 (aR (bS n))), (18, az n), (19, az g), (25, .fn 287 [.iptr (bU f), .iptr [az g]])]) (L' := pf bm bu p n kh (Rb f g) (qO dbs) (mm, mu, K, Ui f gl g 0)) ⟨rfl, rfl, rfl, rfl, rfl, rfl, rfl, rfl, rfl, trivial⟩ (fun _ _ h => by rw [sR]; exact h) ?_
  refine qi (ps := [26]) rfl fun σ0 l db rec hrec => ?_
  have hy : ∀ (i : Nat) (x : LX) (q : cT), (kN x.1 (Mi f gl g i) ∧ my x.2.1 x.2.2.1 x.2.2.2 ∧ x.2.2.2 = Ui f gl g i) → gl.Parts[i]? = some q → jc f q.Glyph = true → AY Tryz.prog σ0 l [.agg (f3 q)] (pf bm bu p n kh (Rb f g) (qO dbs) x ++ [(db, pW)] ++ [(l, kJ rec)]) fun c L => c = dB true ∧ ∃ x' : LX, (kN x'.1 (Mi f gl g (i + 1)) ∧ my x'.2.1 x'.2.2.1 x'.2.2.2 ∧ x'.2.2.2 = Ui f gl g (i + 1)) ∧ L = pf bm bu p n kh (Rb f g) (qO dbs) x' ++ [(db, pW)] ++ [(l, kJ rec)] := by
   rintro i ⟨mm, mu, K, U⟩ q ⟨hM, hU, rfl⟩ hq hG
   dsimp only at hM hU ⊢
   refine zF hrec rfl rfl fun B1 hB1 => ?_
   repeat' (first|refine a0 ?_|refine a6 ?_|(apply aO; first|refine a9 5 a4 0 rfl rfl rfl rfl rfl rfl rfl rfl ?_|refine a9 5 a4 1 rfl rfl rfl rfl rfl rfl rfl rfl ?_|refine a9 5 a4 2 rfl rfl rfl rfl rfl rfl rfl rfl ?_|refine a9 6 a4 0 rfl rfl rfl rfl rfl rfl rfl rfl ?_|refine a9 6 a4 1 rfl rfl rfl rfl rfl rfl rfl rfl ?_|refine a9 6 a4 2 rfl rfl rfl rfl rfl rfl rfl rfl ?_|refine a9 9 a4 0 rfl rfl rfl rfl rfl rfl rfl rfl ?_|refine a9 9 a4 1 rfl rfl rfl rfl rfl rfl rfl rfl ?_|refine a9 9 a4 2 rfl rfl rfl rfl rfl rfl rfl rfl ?_|refine a9 10 a4 0 rfl rfl rfl rfl rfl rfl rfl rfl ?_|refine a9 10 a4 1 rfl rfl rfl rfl rfl rfl rfl rfl ?_|refine a9 10 a4 2 rfl rfl rfl rfl rfl rfl rfl rfl ?_|refine aa a4 0 rfl rfl rfl rfl rfl rfl rfl ?_|refine aa a4 1 rfl rfl rfl rfl rfl rfl rfl ?_|refine aa a4 2 rfl rfl rfl rfl rfl rfl rfl ?_|refine aa a4 3 rfl rfl rfl rfl rfl rfl rfl ?_|fail)|refine aZ a4 fun _=>?_|fail)
   refine qj hrec.state ?_
   unfold pf
   dsimp only
   have hqr := mr.1 hG
   have hcnt := tE f gl i
   have hpl := hf.parts gl hgm
   have hMg : Mi f gl g i g = (ro f gl i).length := by unfold Mi; rw [if_pos rfl]
   simp only [Ds, List.append_assoc]
   have hUl := zW hf gl hgm (g := g) (by omega) i q.Glyph
   have hUi : (aR (Ui f gl g i q.Glyph)).length = (Ui f gl g i q.Glyph).length := aX _
   have hz : q.Glyph ∈ bS n := dI.2 (by omega)
   repeat' (first|refine a8 ?_|refine a0 ?_|refine aj ?_|refine a7 a4 rfl rfl ?_)
   refine gn 0 (.int .i64 0) (az (Mi f gl g i g)) Tryz.underlying257 Tryz.underlying3 rfl rfl rfl rfl (by kernel_rfl) (hM.at g) rfl ?_
   repeat' (first|(apply aT; refine aS ?_)|fail)
   refine d5 0 (lh mm (.int .i64 g) (az (Mi f gl g i g + 1))) Tryz.underlying257 Tryz.underlying3 rfl rfl rfl rfl rfl gk (fun q h => fJ q h) ?_
   repeat' (first|refine a5 ?_|refine a6 ?_)
   refine bj 10 [(0, .v), (1, .v), (2, .v), (3, .v), (4, .v), (5, .v), (7, .v), (8, .v), (6, .e), (9, .e)] none ?_ trivial rfl (by kernel_rfl) (by kernel_rfl) (by kernel_rfl) ce (by kernel_rfl) rfl
   repeat' (first|refine aC ?_|refine bf a4 ?_|refine lL a4 ?_|fail)
   refine ui 1 (.slice none 0 0) (.vec (K q.Glyph) 1 (aR (Ui f gl g i q.Glyph))) Tryz.underlying338 Tryz.underlying3 rfl rfl rfl rfl (by kernel_rfl) (hU.at q.Glyph) trivial ?_
   repeat' (first|refine aC ?_|fail)
   refine jX a4 _ rfl rfl rfl rfl (kw (lq hz)) (by rw [hUi]; show _ + 1 ≤ _; omega) (by rw [hUi]; show (_ + 1) * 8 ≤ _; omega) trivial fun k' => ?_
   repeat' (first|fail)
   refine bv [2, 5, 6, 7, 9, 17, 18, 19, 26, 31, 33, 40] rfl rfl ?_
   have hput := xA (e := 3) (K := K) (U := Ui f gl g i) (k := k') (l := Ui f gl g i q.Glyph ++ [(g : Int)]) (gZ n) hz
   rw [show aR (Ui f gl g i q.Glyph) ++ [[AV.sc (.int .i64 (g : Int))]] = aR (Ui f gl g i q.Glyph ++ [(g : Int)]) from qK _ [(g : Int)]]
   refine aP (aV (kw hput.symm).symm) ?_
   repeat' (first|fail)
   refine d5 1 (lh mu (.int .i64 q.Glyph) (.vec k' 1 (aR (Ui f gl g i q.Glyph ++ [(g : Int)])))) Tryz.underlying338 Tryz.underlying3 rfl rfl rfl rfl rfl gk (fun q h => fJ q h) ?_
   repeat' (first|refine aG ?_|refine a6 ?_)
   refine bA (L' := pf bm bu p n kh (Rb f g) (qO dbs) (lh mm (.int .i64 g) (az (Mi f gl g i g + 1)), lh mu (.int .i64 q.Glyph) (.vec k' 1 (aR (Ui f gl g i q.Glyph ++ [(g : Int)]))), (fun y => if y = q.Glyph then k' else K y), fun y => if y = q.Glyph then Ui f gl g i q.Glyph ++ [(g : Int)] else Ui f gl g i y) ++ [(db, pW)] ++ [(l, kJ { rec with state := .busy })]) (aV (List.Perm.of_eq (by simp only [pf, eR, Ds, List.append_assoc, Dr]))) (As ?_)
   rw [x9 hrec.state hrec.pending]
   refine ⟨rfl, (lh mm (.int .i64 g) (az (Mi f gl g i g + 1)), lh mu (.int .i64 q.Glyph) (.vec k' 1 (aR (Ui f gl g i q.Glyph ++ [(g : Int)]))), (fun y => if y = q.Glyph then k' else K y), fun y => if y = q.Glyph then Ui f gl g i q.Glyph ++ [(g : Int)] else Ui f gl g i y), ⟨?_, hU.put q.Glyph k' _, zX hq hG⟩, ?_⟩
   ·have := hM.put g (Mi f gl g i g + 1)
    rw [zU hq hG] at this
    exact this
   ·simp only [pf, Ds, List.append_assoc, Dr]
  have hsk : ∀ (i : Nat) (x : LX) (q : cT), (kN x.1 (Mi f gl g i) ∧ my x.2.1 x.2.2.1 x.2.2.2 ∧ x.2.2.2 = Ui f gl g i) → gl.Parts[i]? = some q → jc f q.Glyph = false → (kN x.1 (Mi f gl g (i + 1)) ∧ my x.2.1 x.2.2.1 x.2.2.2 ∧ x.2.2.2 = Ui f gl g (i + 1)) := by
   intro i x q h hq hG
   rw [Bl hq hG, Bn hq hG]
   exact h
  have hit := yY (σ0 := σ0) (l := l) f g gl hgg (fun x => pf bm bu p n kh (Rb f g) (qO dbs) x ++ [(db, pW)] ++ [(l, kJ rec)]) (fun i x => kN x.1 (Mi f gl g i) ∧ my x.2.1 x.2.2.1 x.2.2.2 ∧ x.2.2.2 = Ui f gl g i) hy hsk (mm, mu, K, Ui f gl g 0) ⟨by rw [xM]; exact hM, by rw [sR]; exact hU, rfl⟩ (by have := hf.parts gl hgm; omega)
  refine ⟨_, hit, ?_⟩
  rintro c L' ⟨⟨mm', mu', K', U'⟩, ⟨hM', hU', rfl⟩, rfl⟩
  dsimp only at hM' hU' ⊢
  refine ⟨rec, _, Do _, (by rw [hrec.state]; intro h; cases h), ?_⟩
  rw [hrec.pending]
  show AX _ _ _ _ _ _ _ _
  rw [zT hgg] at hM'
  rw [zV hgg] at hU' ⊢
  clear hy hsk hit hM hU
  unfold pf
  dsimp only
  simp only [Ds, List.append_assoc, Dr]
  repeat' (first|refine a8 ?_|refine a0 ?_|refine a5 ?_|refine aG ?_|refine a7 a4 rfl rfl ?_)
  refine gn 0 (.int .i64 0) (az (Mb f (g + 1) g)) Tryz.underlying257 Tryz.underlying3 rfl rfl rfl rfl (by kernel_rfl) (hM'.at g) rfl ?_
  rw [show Mb f (g + 1) g = (prt f g).length by unfold Mb; rw [if_pos (by omega)]]
  repeat' (first|refine a5 ?_|refine a6 ?_|refine a7 a4 rfl rfl ?_)
  refine aq rfl (fun h => ?_) (fun h => ?_)
  ·have h0 : (prt f g).length = 0 := by have := Dz h; omega
   cases kh with
   | none =>
    have hR0 : Rb f g = [] := hR
    unfold hst mZ vm
    dsimp only
    simp only [Ds, Dr]
    repeat' (first|refine a0 ?_|refine a7 a4 rfl rfl ?_|(apply bD; first|refine ai a4 0 rfl rfl rfl rfl rfl ?_|refine ai a4 1 rfl rfl rfl rfl rfl ?_|refine ai a4 2 rfl rfl rfl rfl rfl ?_|refine ai a4 3 rfl rfl rfl rfl rfl ?_|refine ax a4 0 rfl rfl rfl rfl rfl ?_|refine ax a4 1 rfl rfl rfl rfl rfl ?_|refine ax a4 2 rfl rfl rfl rfl rfl ?_|refine ai a4 1 rfl rfl rfl (by assumption) rfl ?_|refine ai a4 0 rfl rfl rfl (by assumption) rfl ?_|fail)|refine c6 a4 ?_|fail)
    refine uH a4 rfl rfl rfl rfl rfl rfl rfl fun b' cs' h1 h2 => ?_
    repeat' (first|refine a0 ?_|refine a5 ?_|refine aG ?_|refine a6 ?_|refine a7 a4 rfl rfl ?_|(apply aT; refine aS ?_)|(apply aO; first|refine a9 5 a4 0 rfl rfl rfl rfl rfl rfl rfl rfl ?_|refine a9 5 a4 1 rfl rfl rfl rfl rfl rfl rfl rfl ?_|refine a9 5 a4 2 rfl rfl rfl rfl rfl rfl rfl rfl ?_|refine a9 6 a4 0 rfl rfl rfl rfl rfl rfl rfl rfl ?_|refine a9 6 a4 1 rfl rfl rfl rfl rfl rfl rfl rfl ?_|refine a9 6 a4 2 rfl rfl rfl rfl rfl rfl rfl rfl ?_|refine a9 9 a4 0 rfl rfl rfl rfl rfl rfl rfl rfl ?_|refine a9 9 a4 1 rfl rfl rfl rfl rfl rfl rfl rfl ?_|refine a9 9 a4 2 rfl rfl rfl rfl rfl rfl rfl rfl ?_|refine a9 10 a4 0 rfl rfl rfl rfl rfl rfl rfl rfl ?_|refine a9 10 a4 1 rfl rfl rfl rfl rfl rfl rfl rfl ?_|refine a9 10 a4 2 rfl rfl rfl rfl rfl rfl rfl rfl ?_|refine aa a4 0 rfl rfl rfl rfl rfl rfl rfl ?_|refine aa a4 1 rfl rfl rfl rfl rfl rfl rfl ?_|refine aa a4 2 rfl rfl rfl rfl rfl rfl rfl ?_|refine aa a4 3 rfl rfl rfl rfl rfl rfl rfl ?_|fail))
    refine kS (g + 1, db :: dbs, mm', mu', K', some (b', cs')) rfl ⟨by rw [Dv]; rfl, trivial⟩ rfl ⟨by dsimp only; omega, hM', hU', ?_⟩ (by dsimp only; omega) (fun σ w h => ?_)
    ·rw [iQ, if_pos h0, hR0]
     exact ⟨h1, h2, h2⟩
    ·have h := cm.perm (L := (b', .box cs' 3) :: (bm, cg KI mm') :: (bu, cg KI mu') :: (p, .box [.sc (.slice (some ⟨b', 0, none⟩) 1 cs'.length)] 339) :: (jK 3 K' (bN (prt f) (bS (g + 1))) (bS n) ++ (qO dbs ++ [(db, pW)]))) h qW
     show cm B σ (pf bm bu p n (some (b', cs')) (Rb f (g + 1)) (qO (db :: dbs)) (mm', mu', K', bN (prt f) (bS (g + 1)))) w
     rw [iQ, if_pos h0, hR0]
     exact h
   | some kk =>
    obtain ⟨b, cs⟩ := kk
    rw [fG]
    simp only [Ds, Dr]
    repeat' (first|refine a0 ?_|refine a7 a4 rfl rfl ?_|(apply bD; first|refine ai a4 0 rfl rfl rfl rfl rfl ?_|refine ai a4 1 rfl rfl rfl rfl rfl ?_|refine ai a4 2 rfl rfl rfl rfl rfl ?_|refine ai a4 3 rfl rfl rfl rfl rfl ?_|refine ax a4 0 rfl rfl rfl rfl rfl ?_|refine ax a4 1 rfl rfl rfl rfl rfl ?_|refine ax a4 2 rfl rfl rfl rfl rfl ?_|refine ai a4 1 rfl rfl rfl (by assumption) rfl ?_|refine ai a4 0 rfl rfl rfl (by assumption) rfl ?_|fail)|refine c6 a4 ?_|fail)
    have hRl := vo f g
    refine uG a4 3 rfl rfl rfl rfl rfl rfl rfl hR.2.1 (by omega) (by omega) rfl fun b' cs' h1 h2 => ?_
    repeat' (first|refine a0 ?_|refine a5 ?_|refine aG ?_|refine a6 ?_|refine a7 a4 rfl rfl ?_|(apply aT; refine aS ?_)|(apply aO; first|refine a9 5 a4 0 rfl rfl rfl rfl rfl rfl rfl rfl ?_|refine a9 5 a4 1 rfl rfl rfl rfl rfl rfl rfl rfl ?_|refine a9 5 a4 2 rfl rfl rfl rfl rfl rfl rfl rfl ?_|refine a9 6 a4 0 rfl rfl rfl rfl rfl rfl rfl rfl ?_|refine a9 6 a4 1 rfl rfl rfl rfl rfl rfl rfl rfl ?_|refine a9 6 a4 2 rfl rfl rfl rfl rfl rfl rfl rfl ?_|refine a9 9 a4 0 rfl rfl rfl rfl rfl rfl rfl rfl ?_|refine a9 9 a4 1 rfl rfl rfl rfl rfl rfl rfl rfl ?_|refine a9 9 a4 2 rfl rfl rfl rfl rfl rfl rfl rfl ?_|refine a9 10 a4 0 rfl rfl rfl rfl rfl rfl rfl rfl ?_|refine a9 10 a4 1 rfl rfl rfl rfl rfl rfl rfl rfl ?_|refine a9 10 a4 2 rfl rfl rfl rfl rfl rfl rfl rfl ?_|refine aa a4 0 rfl rfl rfl rfl rfl rfl rfl ?_|refine aa a4 1 rfl rfl rfl rfl rfl rfl rfl ?_|refine aa a4 2 rfl rfl rfl rfl rfl rfl rfl ?_|refine aa a4 3 rfl rfl rfl rfl rfl rfl rfl ?_|fail))
    refine kS (g + 1, db :: dbs, mm', mu', K', some (b', cs')) rfl ⟨by rw [Dv]; rfl, trivial⟩ rfl ⟨by dsimp only; omega, hM', hU', ?_⟩ (by dsimp only; omega) (fun σ w h => ?_)
    ·rw [iQ, if_pos h0]
     refine ⟨?_, by rw [List.length_append]; exact h2, by omega⟩
     rw [List.length_append, List.map_append, ← hR.1]
     exact h1
    ·have h := cm.perm (L := (b', .box cs' 3) :: (bm, cg KI mm') :: (bu, cg KI mu') :: (p, .box [.sc (.slice (some ⟨b', 0, none⟩) ((Rb f g).length + 1) cs'.length)] 339) :: (jK 3 K' (bN (prt f) (bS (g + 1))) (bS n) ++ (qO dbs ++ [(db, pW)]))) h qW
     show cm B σ (pf bm bu p n (some (b', cs')) (Rb f (g + 1)) (qO (db :: dbs)) (mm', mu', K', bN (prt f) (bS (g + 1)))) w
     rw [iQ, if_pos h0]
     unfold pf
     rw [fG, List.length_append]
     exact h
  ·have h0 : ¬ (prt f g).length = 0 := by have := Dy h; omega
   repeat' (first|refine a0 ?_|refine ah ?_|refine a5 ?_|refine aG ?_|refine a6 ?_|refine a7 a4 rfl rfl ?_|(apply aT; refine aS ?_)|fail)
   refine kS (g + 1, db :: dbs, mm', mu', K', kh) rfl ⟨by rw [Dv]; rfl, trivial⟩ rfl ⟨by dsimp only; omega, hM', hU', by rw [iQ, if_neg h0]; exact hR⟩ (by dsimp only; omega) (fun σ w h => ?_)
   show cm B σ (pf bm bu p n kh (Rb f (g + 1)) (qO (db :: dbs)) (mm', mu', K', bN (prt f) (bS (g + 1)))) w
   rw [iQ, if_neg h0]
   refine h.perm (List.Perm.cons _ (List.Perm.cons _ (List.Perm.append_left _ (List.Perm.append_left _ ?_))))
   exact List.perm_append_singleton _ _
 have hgn : g = n := by have := Dy h; omega
 subst hgn
 clear h
 have hst0 : kM g (prt f) [] (Rb f g) (Mb f g) := by
  have h1 := kM.start (n := g) (pr := prt f) (M := Mb f g) fun z h0 h1 => by unfold Mb; rw [if_pos ⟨h0, h1⟩]
  have h2 : (bS g).filter (fun z => decide (Mb f g z = 0)) = Rb f g := by
   unfold Rb
   refine List.filter_congr fun z hz => ?_
   unfold Mb
   rw [if_pos (dI.1 hz)]
   exact decide_eq_decide.2 (by omega)
  rw [h2] at h1
  exact h1
 have hRl := vo f g
 unfold pf
 dsimp only
 repeat' (first|refine a8 ?_|refine a0 ?_|refine aM ?_|refine a5 ?_|refine ar ?_|refine aw ?_|refine nL ?_)
 refine kl (by kernel_rfl) rfl rfl ?_
 repeat' (first|fail)
 refine aL (hst p kh (Rb f g)) _ (wA p kh (Rb f g) hR (by omega)) rfl rfl li rfl fun c L1 ⟨kh', R', hL, hR', hpm⟩ => ?_
 subst hL
 refine aP (aV li.symm) ?_
 repeat' (first|refine a8 ?_|refine a0 ?_|refine aj ?_|refine a5 ?_|refine a6 ?_|refine a7 a4 rfl rfl ?_)
 refine cZ (bR (t := 11) (c' := .vec none 1 (aR [])) rfl fun σ v h => eG 1 h) ?_
 refine aK [5, 6, 7] (α := KS) (fun x => [(11, .vec x.kt 1 (aR x.T))]) (fun x => kM g (prt f) x.T x.R x.M ∧ kN x.mm x.M ∧ ly x.kh x.R) (fun x => Cd bm bu p mu (jK 3 K (bN (prt f) (bS g)) (bS g) ++ qO dbs) x) (fun x => g - x.T.length) ⟨[], R', Mb f g, mm, kh', none⟩ rfl ⟨rfl, trivial⟩ ⟨hst0.perm hpm, hM, hR'⟩ (fun σ w h => ?_) ?_
 ·exact h
 rintro ⟨T, R, M, mm, kh, kt⟩ ⟨hK, hM, hR⟩
 dsimp only at hK hM hR ⊢
 unfold Cd
 dsimp only
 try dsimp only [Ds, Dr, Dq, Dn]
 cases kh with
 | none =>
  have hR0 : R = [] := hR
  subst hR0
  unfold hst mZ vm
  dsimp only
  repeat' (first|refine a8 ?_|refine a0 ?_|refine ae ?_|refine aM ?_|refine a5 ?_|refine ar ?_|refine aw ?_|refine au ?_|refine a6 ?_|refine a7 a4 rfl rfl ?_|(apply bD; first|refine ai a4 0 rfl rfl rfl rfl rfl ?_|refine ai a4 1 rfl rfl rfl rfl rfl ?_|refine ai a4 2 rfl rfl rfl rfl rfl ?_|refine ai a4 3 rfl rfl rfl rfl rfl ?_|refine ax a4 0 rfl rfl rfl rfl rfl ?_|refine ax a4 1 rfl rfl rfl rfl rfl ?_|refine ax a4 2 rfl rfl rfl rfl rfl ?_|refine ai a4 1 rfl rfl rfl (by assumption) rfl ?_|refine ai a4 0 rfl rfl rfl (by assumption) rfl ?_|fail)|refine bB rfl ?_)
  refine bA (bR (t := 4) (c' := .imm 1 (aR T)) rfl fun σ v h => VR.im h) ?_
  refine dK (L' := qO dbs) (((((List.sublist_append_right _ _).trans (List.sublist_append_right _ _)).trans (List.sublist_append_right _ _)).cons _).cons _) ?_
  exact mo (cs := [.imm 1 (aR T)]) dbs [] rfl (Do _) ⟨rfl, trivial⟩ ⟨T, rfl, hK.fin⟩
 | some kk =>
  obtain ⟨b, cs⟩ := kk
  rw [fG]
  have hTR := dS hK.nodup hK.dom
  rw [List.length_append] at hTR
  repeat' (first|refine a8 ?_|refine a0 ?_|refine a5 ?_|refine a6 ?_|refine a7 a4 rfl rfl ?_|(apply bD; first|refine ai a4 0 rfl rfl rfl rfl rfl ?_|refine ai a4 1 rfl rfl rfl rfl rfl ?_|refine ai a4 2 rfl rfl rfl rfl rfl ?_|refine ai a4 3 rfl rfl rfl rfl rfl ?_|refine ax a4 0 rfl rfl rfl rfl rfl ?_|refine ax a4 1 rfl rfl rfl rfl rfl ?_|refine ax a4 2 rfl rfl rfl rfl rfl ?_|refine ai a4 1 rfl rfl rfl (by assumption) rfl ?_|refine ai a4 0 rfl rfl rfl (by assumption) rfl ?_|fail)|fail)
  refine aq rfl (fun h => ?_) (fun h => ?_)
  ·have h0 : 0 < R.length := by have := Dz h; omega
   clear h
   repeat' (first|refine a8 ?_|refine a0 ?_|refine aj ?_|refine ah ?_|refine a5 ?_)
   refine kl (by kernel_rfl) rfl rfl ?_
   repeat' (first|fail)
   refine aL (hst p (some (b, cs)) R) _ (yN p b cs R hR h0 (by omega)) rfl rfl li rfl fun c L1 ⟨z, cs', R', hc, hL, hR', hpm⟩ => ?_
   subst hc; subst hL
   refine aP (aV li.symm) ?_
   repeat' (first|fail)
   refine wR (by kernel_rfl) rfl rfl ?_
   repeat' (first|refine a8 ?_|refine a0 ?_|refine a5 ?_|refine a6 ?_|refine a7 a4 rfl rfl ?_|refine c6 a4 ?_|fail)
   have hKm := (hK.perm hpm).pop
   have hz := hKm.dom z (by simp)
   have hTz : z ∉ T := fun hm => by
    have := hKm.nodup
    rw [List.append_assoc, List.nodup_append] at this
    exact this.2.2 z hm z (by simp) rfl
   have hTl := dS (List.nodup_append.1 hKm.nodup).1 (fun y hy => hKm.dom y (List.mem_append_left _ hy))
   rw [List.length_append] at hTl
   have hTi := aX T
   have hall : ∀ q : Int, 0 ≤ q → q < g → (bN (prt f) (bS g) z).count q = (prt f q).count z := fun q q0 q1 => by rw [jm _ _ _ _ (gZ g), if_pos (dI.2 ⟨q0, q1⟩)]
   have hUl := lu hf.prt z (bS g)
   rw [dm] at hUl
   refine c5 a4 _ rfl rfl rfl rfl (kw (T := tok kt 3 1 (aR T).length) (T' := []) (by rw [List.append_nil])) (by rw [hTi]; show _ + 1 ≤ _; simp at hTl; omega) (by rw [hTi]; show (_ + 1) * 8 ≤ _; simp at hTl; omega) rfl fun k' => ?_
   rw [show aR T ++ [[AV.sc (.int .i64 z)]] = aR (T ++ [z]) from qK T [z]]
   refine aP (aV (kw (T := tok k' 3 1 (aR (T ++ [z])).length) (T' := []) (by rw [List.append_nil])).symm) ?_
   repeat' (first|refine a8 ?_|refine a0 ?_|refine a5 ?_|refine a6 ?_|refine a7 a4 rfl rfl ?_)
   refine gn 1 (.slice none 0 0) (.vec (K z) 1 (aR (bN (prt f) (bS g) z))) Tryz.underlying338 Tryz.underlying3 rfl rfl rfl rfl (by kernel_rfl) (hU.at z) rfl ?_
   repeat' (first|refine aj ?_|refine a5 ?_|refine a6 ?_|refine a7 a4 rfl rfl ?_)
   have hUi := aX (bN (prt f) (bS g) z)
   refine aK [5, 6, 7, 11, 64, 65] (α := Nat × KS) (fun x => [(66, az x.1)]) (fun x => x.2.T = T ++ [z] ∧ x.2.kt = k' ∧ x.1 ≤ (bN (prt f) (bS g) z).length ∧ nJ g (prt f) T z ((bN (prt f) (bS g) z).take x.1) x.2.R x.2.M ∧ kN x.2.mm x.2.M ∧ ly x.2.kh x.2.R) (fun x => Cd bm bu p mu (jK 3 K (bN (prt f) (bS g)) (bS g) ++ qO dbs) x.2) (fun x => (bN (prt f) (bS g) z).length - x.1) (0, ⟨T ++ [z], R', M, mm, some (b, cs'), k'⟩) rfl ⟨rfl, trivial⟩ ⟨rfl, rfl, Nat.zero_le _, hKm, hM, hR'⟩ (fun σ w h => h) ?_
   clear hM hR hK hR' hKm hpm
   rintro ⟨j, ⟨T', R, M, mm, kh, kt'⟩⟩ ⟨hT', hk', hj, hK, hM, hR⟩
   dsimp only at hT' hk' hj hK hM hR ⊢
   subst hT'; subst hk'
   unfold Cd
   dsimp only
   try dsimp only [Ds, Dr, Dq, Dn]
   repeat' (first|refine a8 ?_|refine a0 ?_|refine a5 ?_|refine a6 ?_|refine a7 a4 rfl rfl ?_)
   refine aq rfl (fun h => ?_) (fun h => ?_)
   ·have hjl : j < (bN (prt f) (bS g) z).length := by have := Dz h; rw [hUi] at this; omega
    obtain ⟨u, hu⟩ : ∃ u, (bN (prt f) (bS g) z)[j]? = some u := ⟨_, Bg hjl⟩
    have hug := bI hu
    have hur := dI.1 (vk (Dw hu))
    obtain ⟨hpos, hK'⟩ := hK.step hall hTz hu hur.1 hur.2
    have hmu := hK.miss u hur.1 hur.2
    have hml := wP (prt f) T u
    have hpl := hf.prt u
    have hRl2 := dS hK.nodup hK.dom
    rw [List.length_append, List.length_append] at hRl2
    clear h
    repeat' (first|refine a8 ?_|refine a0 ?_|refine aj ?_|refine ah ?_|refine a5 ?_|refine a6 ?_|refine a7 a4 rfl rfl ?_|(apply aE; first|refine aD a4 ?_|refine aA a4 ?_)|fail)
    refine gn 0 (.int .i64 0) (az (M u)) Tryz.underlying257 Tryz.underlying3 rfl rfl rfl rfl (by kernel_rfl) (hM.at u) rfl ?_
    repeat' (first|(apply aT; refine aS ?_)|fail)
    refine d5 0 (lh mm (.int .i64 u) (az (M u - 1))) Tryz.underlying257 Tryz.underlying3 rfl rfl rfl rfl rfl gk (fun q h => fJ q h) ?_
    repeat' (first|refine a8 ?_|refine a0 ?_|refine a5 ?_|refine a6 ?_|refine a7 a4 rfl rfl ?_)
    refine gn 0 (.int .i64 0) (az (M u - 1)) Tryz.underlying257 Tryz.underlying3 rfl rfl rfl rfl (by kernel_rfl) (fun σ v h => ?_) rfl ?_
    ·have := (hM.put u (M u - 1)).at u σ v h
     simpa using this
    repeat' (first|refine a5 ?_|refine a6 ?_|refine a7 a4 rfl rfl ?_)
    refine aq rfl (fun h => ?_) (fun h => ?_)
    ·have h1 := Dz h
     rw [if_pos h1] at hK'
     repeat' (first|refine a0 ?_)
     refine kl (by kernel_rfl) rfl rfl ?_
     repeat' (first|refine a7 a4 rfl rfl ?_)
     refine kl (by kernel_rfl) rfl rfl ?_
     repeat' (first|fail)
     refine aL (hst p kh R) _ (wB p kh R u hR (by omega)) rfl rfl li rfl fun c L1 ⟨b2, cs2, R2, hL, hR2, hpm⟩ => ?_
     subst hL
     refine aP (aV li.symm) ?_
     repeat' (first|refine a0 ?_|refine a5 ?_|refine aG ?_|refine a6 ?_|refine a7 a4 rfl rfl ?_|(apply aT; refine aS ?_)|fail)
     exact ay (j + 1, ⟨T ++ [z], R2, _, _, some (b2, cs2), kt'⟩) rfl ⟨by rw [Dv]; rfl, trivial⟩ ⟨rfl, rfl, by dsimp only; omega, hK'.perm hpm, hM.put u (M u - 1), hR2⟩ (by dsimp only; omega) (fun _ _ h => h)
    ·have h1 := Dy h
     rw [if_neg h1] at hK'
     repeat' (first|refine a0 ?_|refine ah ?_|refine a5 ?_|refine aG ?_|refine a6 ?_|refine a7 a4 rfl rfl ?_|(apply aT; refine aS ?_)|fail)
     exact ay (j + 1, ⟨T ++ [z], R, _, _, kh, kt'⟩) rfl ⟨by rw [Dv]; rfl, trivial⟩ ⟨rfl, rfl, by dsimp only; omega, hK', hM.put u (M u - 1), hR⟩ (by dsimp only; omega) (fun _ _ h => h)
   ·have hjl : j = (bN (prt f) (bS g) z).length := by have := Dy h; rw [hUi] at this; omega
    subst hjl
    rw [List.take_length] at hK
    repeat' (first|refine aM ?_|refine ar ?_|refine aG ?_|refine aw ?_|refine au ?_)
    exact ay ⟨T ++ [z], R, M, mm, kh, kt'⟩ rfl ⟨rfl, trivial⟩ ⟨hK.done hall hTz, hM, hR⟩ (by dsimp only; simp at hTl ⊢; omega) (fun _ _ h => h)
  ·have hR0 : R = [] := List.eq_nil_of_length_eq_zero (by have := Dy h; omega)
   subst hR0
   repeat' (first|refine a8 ?_|refine a0 ?_|refine ae ?_|refine aM ?_|refine a5 ?_|refine ar ?_|refine aw ?_|refine au ?_|refine a6 ?_|refine a7 a4 rfl rfl ?_)
   refine bA (bR (t := 4) (c' := .imm 1 (aR T)) rfl fun σ v h => VR.im h) ?_
   refine dK (L' := qO dbs) (((((List.sublist_append_right _ _).trans (List.sublist_append_right _ _)).trans (List.sublist_append_right _ _)).cons _).cons _) ?_
   exact mo (cs := [.imm 1 (aR T)]) dbs [] rfl (Do _) ⟨rfl, trivial⟩ ⟨T, rfl, hK.fin⟩
end Go.Proofs.YtpmdfoaadejmkaaGreatDoor
namespace Go.Proofs
open Go.Shelf
def Tryz.laysSort_ren : Go.Shelf.Ren := ⟨fun | 189 => 283 | 125 => 300 | 257 => 299 | 128 => 312 | 129 => 313 | 294 => 304 | 295 => 305 | 296 => 306 | 297 => 307 | 298 => 308 | 299 => 309 | 216 => 276 | 300 => 310 | 301 => 311 | 328 => 315 | 329 => 316 | 330 => 317 | 331 => 318 | 332 => 319 | 215 => 294 | 343 => 320 | n => n, fun | 28 => 22 | 3 => 3 | 46 => 312 | 0 => 0 | 51 => 393 | 53 => 246 | 4 => 4 | 183 => 387 | 182 => 386 | 131 => 197 | 5 => 5 | 9 => 9 | 218 => 395 | 222 => 399 | 228 => 401 | 229 => 402 | n => n, fun | n => n⟩
end Go.Proofs
namespace Go.Proofs.YtpmdfoaadejmkaaGreatDoor
open Go.RowKit Go.Shelf Go.Sort
def CH (l : List Int) : List Int := l.mergeSort fun x y => decide (x ≤ y)
end Go.Proofs.YtpmdfoaadejmkaaGreatDoor
namespace Go.Proofs.YtpmdfoaadejmkaaGreatDoor
open Go.RowKit
attribute [local irreducible] AT bh AX AO Av Kt b6 dh DA cE
def dY (l : List Int) (i : Nat) : List AV := (l.take i ++ List.replicate (l.length - i) 0).map az
theorem yG (l : List Int) {i : Nat} (h : i ≤ l.length) : (dY l i).length = l.length := by simp [dY]; omega
theorem te (l : List Int) (m : Nat) (hm : m = l.length) : (List.replicate m [az 0]).flatten = dY l 0 := by
 subst hm
 unfold dY
 rw [List.take_zero, Dr, Nat.sub_zero, List.map_replicate]
 generalize l.length = m
 induction m with
 | zero => rfl
 | succ m ih => rw [List.replicate_succ, List.flatten_cons, ih, List.replicate_succ]; rfl
theorem yH {l : List Int} {i : Nat} {z : Int} (h : l[i]? = some z) : (dY l i).set (0 + (i : Int).toNat * 1) (az z) = dY l (i + 1) := by
 have hi := (Dp h).1
 rw [Nat.zero_add, Nat.mul_one, Int.toNat_natCast]
 unfold dY
 rw [← List.map_set (f := az)]
 congr 1
 rw [List.set_append_right _ _ (by simp; omega), List.take_add_one, h, List.append_assoc]
 congr 1
 rw [show l.length - i = (l.length - (i + 1)) + 1 by omega, List.replicate_succ, show i - (l.take i).length = 0 by simp; omega]
 rfl
theorem yF (l : List Int) : dY l l.length = l.map az := by simp [dY]
theorem ox (l : List Int) : (aR l).flatten = l.map az := by
 unfold aR
 induction l with
 | nil => rfl
 | cons z l ih => rw [Dq, List.flatten_cons, ih]; rfl
theorem C5 {n i : Nat} (h : i < n) : (dY (bS n) i).set (0 + (i : Int).toNat * 1) (az i) = dY (bS n) (i + 1) := yH (gy h)
set_option maxHeartbeats 1000000 in
theorem x3 (f : aN) (hf : Few f) (hr : jb f.Glyphs.length (prt f) ∨ AC Tryz.prog 211 [cA f] [] fun c _ => ∃ z : Int, c = az z) : AC Tryz.prog 126 [cA f] [] fun c _ => (∃ T, c = .tup [.imm 1 (aR T), az 0, az 0] ∧ fT f.Glyphs.length (prt f) T ∧ T.length = f.Glyphs.length) ∨ (¬ jb f.Glyphs.length (prt f) ∧ ∃ z : Int, c = .tup [.imm 1 [], az z, az 33]) := by
 refine aB Tryz.func126 rfl Tryz.ntmps126 rfl fun B => ?_
 have hn := hf.n
 have hln := yR f hf
 have hml : (f.Glyphs.map c9).length = f.Glyphs.length := Du ..
 generalize hN : f.Glyphs.length = n at *
 repeat' (first|refine a8 ?_|refine a0 ?_|refine a5 ?_|refine a6 ?_|refine a7 a4 rfl rfl ?_|refine aY ?_|fail)
 rw [hml]
 refine iE a4 n rfl rfl rfl rfl rfl rfl rfl (by omega) (by omega) rfl fun b => ?_
 rw [show (List.replicate n (List.map AV.sc [Value.int .i64 0])).flatten = dY (bS n) 0 from te (bS n) n (dm n).symm]
 have hul := dm n
 repeat' (first|refine a8 ?_|refine a0 ?_|refine aj ?_|refine a5 ?_|refine a6 ?_|refine a7 a4 rfl rfl ?_)
 refine aK [1, 5, 13] (α := Nat) (fun i => [(14, az i)]) (fun i => i ≤ n) (fun i => [(b, .box (dY (bS n) i) 3)]) (fun i => n - i) 0 rfl ⟨rfl, trivial⟩ (Nat.zero_le _) (fun _ _ h => h) fun i hi => ?_
 try dsimp only [Ds, Dr, Dq, Dn]
 repeat' (first|refine a8 ?_|refine a0 ?_|refine a5 ?_|refine a6 ?_|refine a7 a4 rfl rfl ?_)
 refine aq rfl (fun h => ?_) (fun h => ?_)
 ·have hil : i < n := by have := Dz h; omega
  repeat' (first|refine a8 ?_|refine a0 ?_|refine aj ?_|refine ah ?_|refine a5 ?_|refine a6 ?_|refine a7 a4 rfl rfl ?_|(apply aE; first|refine aD a4 ?_|refine aA a4 ?_)|fail)
  refine aa a4 0 rfl rfl rfl rfl rfl rfl (by rw [Nat.ble_eq, yG (bS n) (by omega), hul]; show _ + 1 ≤ n; omega) ?_
  rw [fN, C5 hil]
  repeat' (first|refine a0 ?_|refine a5 ?_|refine aG ?_|refine a6 ?_|refine a7 a4 rfl rfl ?_|(apply aT; refine aS ?_)|fail)
  exact ay (i + 1) rfl ⟨by rw [Dv]; rfl, trivial⟩ (by omega) (by omega) (fun _ _ h => h)
 ·have hil : i = n := by have := Dy h; omega
  subst hil
  clear h
  rw [show dY (bS i) i = (bS i).map az by have := yF (bS i); rw [hul] at this; exact this]
  refine cZ (xB (t := 5) (sz := 1) (l := aR (bS i)) 0 rfl rfl (ox _).symm (by simp [aR]) (by rw [aX, hul]) (by omega)) ?_
  repeat' (first|refine a8 ?_|refine a0 ?_|refine aM ?_|refine a5 ?_|refine ar ?_|refine aw ?_|refine au ?_|refine a7 a4 rfl rfl ?_)
  refine aL [] _ hln rfl rfl (Do _) rfl fun c L1 ⟨T, hc, hT⟩ => ?_
  subst hc
  have hTl := aX T
  have hIl := aX (bS i)
  have hTn := hT.len
  rw [hul] at hIl
  refine aP (bT (List.nil_sublist _)) ?_
  repeat' (first|refine a8 ?_|refine a0 ?_|refine a5 ?_|refine a6 ?_|refine a7 a4 rfl rfl ?_)
  refine aq rfl (fun h => ?_) (fun h => ?_)
  ·have hlt := Dz h
   rw [hTl, hIl] at hlt
   have hna : ¬ jb i (prt f) := fun ha => by
    have := hT.len_all (hT.all ha fun g p hp => by have := B7 hp; rw [hN] at this; exact this)
    omega
   rcases hr with hr | hr
   ·exact absurd hr hna
   repeat' (first|refine a8 ?_|refine a0 ?_|refine a7 a4 rfl rfl ?_)
   refine aL [] [] hr rfl rfl (Do _) rfl fun c L1 ⟨z, hc⟩ => ?_
   subst hc
   repeat' (first|refine ae ?_|refine a5 ?_|refine an ?_|refine a6 ?_|refine a7 a4 rfl rfl ?_)
   refine bA (bR (t := 2) (c' := .imm 1 []) rfl fun σ v h => j9 1 h) ?_
   exact t1 (cs := [.imm 1 [], az z, az 33]) ⟨rfl, rfl, rfl, trivial⟩ (.inr ⟨hna, z, rfl⟩)
  ·have hlt := Dy h
   rw [hTl, hIl] at hlt
   repeat' (first|refine a8 ?_|refine a0 ?_|refine ah ?_|refine ae ?_|refine a5 ?_|refine a6 ?_|refine a7 a4 rfl rfl ?_)
   exact t1 (cs := [.imm 1 (aR T), az 0, az 0]) ⟨rfl, rfl, rfl, trivial⟩ (.inl ⟨T, rfl, hT, by omega⟩)
end Go.Proofs.YtpmdfoaadejmkaaGreatDoor
