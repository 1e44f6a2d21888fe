/-
  The program: glyphs in a line.
-/
import Derived.Test.YtpmdfoaadejmkaaGreatDoorM22
import Derived.Shelf.Slices.In.SortNone
import Derived.Shelf.Slices.In.SortAlone
import Derived.Ground.NamesProg
import Derived.Test.YtpmdfoaadejmkaaGreatDoorProg
import Derived.Lib.SortBridge
namespace Go.Proofs.YtpmdfoaadejmkaaGreatDoor
open Go.RowKit
attribute [local irreducible] AT bf AX AO Av Kt aZ df DA cA
open Go.MapKept
attribute [local irreducible] mg
def prt (f : aM) (g : Int) : List Int := match f.Glyphs[g.toNat]? with
 | some gl => (gl.Parts.map cQ.Glyph).filter (j7 f)
 | none => []
def rn (f : aM) (gl : b9) (i : Nat) : List Int := ((gl.Parts.take i).map cQ.Glyph).filter (j7 f)
theorem tD {f : aM} {gl : b9} {i : Nat} {p : cQ} (h : gl.Parts[i]? = some p) (hg : j7 f p.Glyph = true) : rn f gl (i + 1) = rn f gl i ++ [p.Glyph] := by
 unfold rn
 rw [List.take_add_one, h, Option.toList_some, List.map_append, List.filter_append]
 simp [hg]
theorem x7 {f : aM} {gl : b9} {i : Nat} {p : cQ} (h : gl.Parts[i]? = some p) (hg : j7 f p.Glyph = false) : rn f gl (i + 1) = rn f gl i := by
 unfold rn
 rw [List.take_add_one, h, Option.toList_some, List.map_append, List.filter_append]
 simp [hg]
theorem tB {f : aM} {g : Nat} {gl : b9} (hg : f.Glyphs[g]? = some gl) : rn f gl gl.Parts.length = prt f g := by
 unfold rn prt
 rw [Int.toNat_natCast, hg, List.take_length]
theorem tC (f : aM) (gl : b9) (i : Nat) : (rn f gl i).length ≤ gl.Parts.length := by
 unfold rn
 refine Nat.le_trans (List.length_filter_le _ _) ?_
 rw [Du, List.length_take]
 omega
theorem md {f : aM} {z : Int} : j7 f z = true ↔ 0 ≤ z ∧ z < f.Glyphs.length := by unfold j7; simp
theorem Ba {f : aM} {g p : Int} (h : p ∈ prt f g) : 0 ≤ p ∧ p < f.Glyphs.length := by
 unfold prt at h
 split at h
 ·rw [List.mem_filter] at h; exact md.1 h.2
 ·cases h
structure Few (f : aM) : Prop where
 n : f.Glyphs.length ≤ 1000
 parts : ∀ gl ∈ f.Glyphs, gl.Parts.length ≤ 1000
theorem Few.prt {f : aM} (h : Few f) (g : Int) : (prt f g).length ≤ 1000 := by
 unfold Go.Proofs.YtpmdfoaadejmkaaGreatDoor.prt
 split
 ·rename_i gl hgl
  refine Nat.le_trans (List.length_filter_le _ _) ?_
  rw [Du]
  exact h.parts gl (Dw hgl)
 ·exact Nat.zero_le _
theorem lf {pr : Int → List Int} (h : ∀ g, (pr g).length ≤ 1000) (z : Int) : ∀ gs : List Int, (bN pr gs z).length ≤ 1000 * gs.length
 | [] => by simp [bN]
 | g :: gs => by
  have ih := lf h z gs
  unfold bN at ih ⊢
  rw [List.flatMap_cons, List.length_append, Du, List.length_cons]
  have h1 := List.length_filter_le (fun p => decide (p = z)) (pr g)
  have h2 := h g
  omega
theorem vi {pr : Int → List Int} {gs : List Int} {z g : Int} (h : g ∈ bN pr gs z) : g ∈ gs := by
 unfold bN at h
 obtain ⟨y, hy, h1⟩ := List.mem_flatMap.1 h
 obtain ⟨_, _, rfl⟩ := List.mem_map.1 h1
 exact hy
theorem wP (pr : Int → List Int) (T : List Int) (g : Int) : jb pr T g ≤ (pr g).length := List.length_filter_le _ _
def Mi (f : aM) (gl : b9) (g i : Nat) : Int → Int := fun z => if z = g then (rn f gl i).length else if 0 ≤ z ∧ z < g then (prt f z).length else 0
def Ui (f : aM) (gl : b9) (g i : Nat) : Int → List Int := fun z => bN (prt f) (bS g) z ++ ((rn f gl i).filter fun p => decide (p = z)).map fun _ => (g : Int)
def Mb (f : aM) (g : Nat) : Int → Int := fun z => if 0 ≤ z ∧ z < g then (prt f z).length else 0
def Rb (f : aM) (g : Nat) : List Int := (bS g).filter fun z => decide ((prt f z).length = 0)
theorem xL (f : aM) (gl : b9) (g : Nat) : Mi f gl g 0 = Mb f g := by
 funext z
 unfold Mi Mb rn
 by_cases e : z = g
 ·subst e; rw [if_pos rfl, if_neg (by omega)]; rfl
 ·rw [if_neg e]
theorem sQ (f : aM) (gl : b9) (g : Nat) : Ui f gl g 0 = bN (prt f) (bS g) := by
 funext z
 unfold Ui rn
 simp
theorem zW {f : aM} {g : Nat} {gl : b9} (hg : f.Glyphs[g]? = some gl) : Mi f gl g gl.Parts.length = Mb f (g + 1) := by
 funext z
 unfold Mi Mb
 rw [tB hg]
 by_cases e : z = g
 ·subst e; rw [if_pos rfl, if_pos (by omega)]
 ·rw [if_neg e]
  by_cases h : 0 ≤ z ∧ z < g
  ·rw [if_pos h, if_pos (by omega)]
  ·rw [if_neg h, if_neg (by omega)]
theorem zY {f : aM} {g : Nat} {gl : b9} (hg : f.Glyphs[g]? = some gl) : Ui f gl g gl.Parts.length = bN (prt f) (bS (g + 1)) := by
 funext z
 unfold Ui
 rw [tB hg, oM]
 unfold bN
 rw [List.flatMap_append]
 simp
theorem zX {f : aM} {gl : b9} {g i : Nat} {p : cQ} (h : gl.Parts[i]? = some p) (hg : j7 f p.Glyph = true) : (fun q => if q = (g : Int) then Mi f gl g i g + 1 else Mi f gl g i q) = Mi f gl g (i + 1) := by
 funext q
 unfold Mi
 rw [tD h hg]
 by_cases e : q = g
 ·rw [if_pos e, if_pos e, if_pos rfl]; simp
 ·rw [if_neg e, if_neg e, if_neg e]
theorem A3 {f : aM} {gl : b9} {g i : Nat} {p : cQ} (h : gl.Parts[i]? = some p) (hg : j7 f p.Glyph = true) : (fun q => if q = p.Glyph then Ui f gl g i p.Glyph ++ [(g : Int)] else Ui f gl g i q) = Ui f gl g (i + 1) := by
 funext q
 unfold Ui
 rw [tD h hg, List.filter_append, List.map_append]
 by_cases e : q = p.Glyph
 ·subst e; rw [if_pos rfl]; simp
 ·have e' : ¬ p.Glyph = q := fun h => e h.symm
  rw [if_neg e]; simp [e']
theorem Bo {f : aM} {gl : b9} {g i : Nat} {p : cQ} (h : gl.Parts[i]? = some p) (hg : j7 f p.Glyph = false) : Mi f gl g (i + 1) = Mi f gl g i := by unfold Mi; rw [x7 h hg]
theorem Bq {f : aM} {gl : b9} {g i : Nat} {p : cQ} (h : gl.Parts[i]? = some p) (hg : j7 f p.Glyph = false) : Ui f gl g (i + 1) = Ui f gl g i := by unfold Ui; rw [x7 h hg]
theorem zZ {f : aM} (hf : Few f) (gl : b9) (hgl : gl ∈ f.Glyphs) {g : Nat} (hg : g ≤ 1000) (i : Nat) (z : Int) : (Ui f gl g i z).length ≤ 1001000 := by
 unfold Ui
 have h1 := lf hf.prt z (bS g)
 have h2 := tC f gl i
 have h3 := List.length_filter_le (fun p => decide (p = z)) (rn f gl i)
 have h4 := hf.parts gl hgl
 rw [dk] at h1
 rw [List.length_append, Du]
 omega
theorem iL (f : aM) (g : Nat) : Rb f (g + 1) = if (prt f g).length = 0 then Rb f g ++ [(g : Int)] else Rb f g := by
 unfold Rb
 rw [oM, List.filter_append]
 by_cases h : (prt f g).length = 0
 ·rw [if_pos h, List.filter_cons_of_pos (by simpa using h)]; rfl
 ·rw [if_neg h, List.filter_cons_of_neg (by simpa using h)]; simp
theorem vm (f : aM) (g : Nat) : (Rb f g).length ≤ g := by
 unfold Rb
 refine Nat.le_trans (List.length_filter_le _ _) ?_
 rw [dk]
 exact Nat.le_refl _
theorem km {a b : Nat × AB} {T T' t H R : AL} (h : T.Perm (t ++ T')) : (a :: b :: (H ++ (T ++ R))).Perm (t ++ (a :: b :: (H ++ (T' ++ R)))) := by
 have h1 : (a :: b :: (H ++ (T ++ R))).Perm (a :: b :: (H ++ (t ++ (T' ++ R)))) := by
  refine List.Perm.cons _ (List.Perm.cons _ (List.Perm.append_left _ ?_))
  rw [← List.append_assoc]
  exact h.append_right _
 refine h1.trans ?_
 have h2 : (a :: b :: (H ++ (t ++ (T' ++ R)))) = ((a :: b :: H) ++ t) ++ (T' ++ R) := by simp
 have h3 : t ++ (a :: b :: (H ++ (T' ++ R))) = (t ++ (a :: b :: H)) ++ (T' ++ R) := by simp
 rw [h2, h3]
 exact List.Perm.append_right _ List.perm_append_comm
theorem x9 {rec : Loop} (h1 : rec.state = .ready) (h2 : rec.pending = none) : ({ ({ rec with state := .busy } : Loop) with state := .ready, pending := none } : Loop) = rec := by cases rec; simp_all
abbrev KI : TypeDesc := .int .i64
theorem xJ (f : aM) : Mb f 0 = fun _ => 0 := by
 funext z
 unfold Mb
 rw [if_neg (by omega)]
abbrev KT := Int → Option (Nat × Nat)
abbrev VM := Value → Option AV
abbrev LX := VM × VM × KT × (Int → List Int)
theorem qS {a b c d e : Nat × AB} {T M : AL} : (d :: a :: b :: c :: (T ++ (M ++ [e]))).Perm (a :: b :: c :: d :: (T ++ (e :: M))) := by
 refine (List.perm_middle (l₁ := [a, b, c])).symm.trans ?_
 exact List.Perm.cons _ (List.Perm.cons _ (List.Perm.cons _ (List.Perm.cons _ (List.Perm.append_left T (List.perm_append_singleton e M)))))
def p9 (bm bu p n : Nat) (kh : Option (Nat × List AV)) (R : List Int) (rest : AL) (x : LX) : AL := (bm, ce KI x.1) :: (bu, ce KI x.2.1) :: (hst p kh R ++ (jC 3 x.2.2.1 x.2.2.2 (bS n) ++ rest))
abbrev LS := Nat × List Nat × VM × VM × KT × Option (Nat × List AV)
def qJ (dbs : List Nat) : AL := dbs.map fun b => (b, pR)
theorem l8 {a b : Nat × AB} {H X : AL} : (a :: b :: (H ++ X)).Perm (H ++ (a :: b :: X)) := by
 have h1 : (a :: b :: (H ++ X)) = (a :: b :: H) ++ X := rfl
 have h2 : H ++ (a :: b :: X) = (H ++ [a, b]) ++ X := by simp
 rw [h1, h2]
 exact (List.perm_append_comm (l₁ := [a, b]) (l₂ := H)).append_right X
structure KS where
 T : List Int
 R : List Int
 M : Int → Int
 mm : VM
 kh : Option (Nat × List AV)
 kt : Option (Nat × Nat)
def Cd (bm bu p : Nat) (mu : VM) (X : AL) (x : KS) : AL := (bm, ce KI x.mm) :: (bu, ce KI mu) :: (hst p x.kh x.R ++ (tok x.kt 3 1 (aU x.T).length ++ X))
set_option maxHeartbeats 8000000 in
theorem yQ (f : aM) (hf : Few f) : AC Tryz.prog 210 [cx f, .imm 1 (aU (bS f.Glyphs.length))] [] fun c _ => ∃ T, c = .imm 1 (aU T) ∧ fP f.Glyphs.length (prt f) T := by
 refine vA Tryz.func210 rfl Tryz.ntmps210 rfl fun B => ?_
 have hn := hf.n
 have hil : (aU (bS f.Glyphs.length)).length = f.Glyphs.length := by rw [b6, dk]
 generalize hN : f.Glyphs.length = n at *
 repeat' (first|refine a8 ?_|refine a0 ?_|refine a5 ?_|refine a6 ?_|refine a7 a4 rfl rfl ?_|refine aX ?_|fail)
 refine ea KI fun bm => ?_
 repeat' (first|refine a8 ?_|refine a0 ?_|refine a5 ?_|refine a6 ?_|(apply aO; first|refine a9 5 a4 0 rfl rfl rfl rfl rfl rfl rfl rfl ?_|refine a9 5 a4 1 rfl rfl rfl rfl rfl rfl rfl rfl ?_|refine a9 5 a4 2 rfl rfl rfl rfl rfl rfl rfl rfl ?_|refine a9 6 a4 0 rfl rfl rfl rfl rfl rfl rfl rfl ?_|refine a9 6 a4 1 rfl rfl rfl rfl rfl rfl rfl rfl ?_|refine a9 6 a4 2 rfl rfl rfl rfl rfl rfl rfl rfl ?_|refine a9 9 a4 0 rfl rfl rfl rfl rfl rfl rfl rfl ?_|refine a9 9 a4 1 rfl rfl rfl rfl rfl rfl rfl rfl ?_|refine a9 9 a4 2 rfl rfl rfl rfl rfl rfl rfl rfl ?_|refine a9 10 a4 0 rfl rfl rfl rfl rfl rfl rfl rfl ?_|refine a9 10 a4 1 rfl rfl rfl rfl rfl rfl rfl rfl ?_|refine a9 10 a4 2 rfl rfl rfl rfl rfl rfl rfl rfl ?_|refine aa a4 0 rfl rfl rfl rfl rfl rfl rfl ?_|refine aa a4 1 rfl rfl rfl rfl rfl rfl rfl ?_|refine aa a4 2 rfl rfl rfl rfl rfl rfl rfl ?_|refine aa a4 3 rfl rfl rfl rfl rfl rfl rfl ?_|fail)|refine aY a4 fun _=>?_|fail)
 refine ea KI fun bu => ?_
 repeat' (first|refine a8 ?_|refine a0 ?_|refine aj ?_|refine a5 ?_|refine a6 ?_|refine a7 a4 rfl rfl ?_|(apply aO; first|refine a9 5 a4 0 rfl rfl rfl rfl rfl rfl rfl rfl ?_|refine a9 5 a4 1 rfl rfl rfl rfl rfl rfl rfl rfl ?_|refine a9 5 a4 2 rfl rfl rfl rfl rfl rfl rfl rfl ?_|refine a9 6 a4 0 rfl rfl rfl rfl rfl rfl rfl rfl ?_|refine a9 6 a4 1 rfl rfl rfl rfl rfl rfl rfl rfl ?_|refine a9 6 a4 2 rfl rfl rfl rfl rfl rfl rfl rfl ?_|refine a9 9 a4 0 rfl rfl rfl rfl rfl rfl rfl rfl ?_|refine a9 9 a4 1 rfl rfl rfl rfl rfl rfl rfl rfl ?_|refine a9 9 a4 2 rfl rfl rfl rfl rfl rfl rfl rfl ?_|refine a9 10 a4 0 rfl rfl rfl rfl rfl rfl rfl rfl ?_|refine a9 10 a4 1 rfl rfl rfl rfl rfl rfl rfl rfl ?_|refine a9 10 a4 2 rfl rfl rfl rfl rfl rfl rfl rfl ?_|refine aa a4 0 rfl rfl rfl rfl rfl rfl rfl ?_|refine aa a4 1 rfl rfl rfl rfl rfl rfl rfl ?_|refine aa a4 2 rfl rfl rfl rfl rfl rfl rfl ?_|refine aa a4 3 rfl rfl rfl rfl rfl rfl rfl ?_|fail)|refine aY a4 fun _=>?_|fail)
 rename_i p
 refine vL [2, 5, 6, 7, 17, 18] (α := LS) (fun x => wL x.2.1) (fun x => [(19, az x.1)]) (fun x => x.1 ≤ n ∧ kF x.2.2.1 (Mb f x.1) ∧ mh x.2.2.2.1 x.2.2.2.2.1 (bN (prt f) (bS x.1)) ∧ li x.2.2.2.2.2 (Rb f x.1)) (fun x => p9 bm bu p n x.2.2.2.2.2 (Rb f x.1) (qJ x.2.1) (x.2.2.1, x.2.2.2.1, x.2.2.2.2.1, bN (prt f) (bS x.1))) (fun x => n - x.1) (0, [], (fun _ => none), (fun _ => none), (fun _ => none), none) rfl ⟨rfl, trivial⟩ rfl ⟨Nat.zero_le _, ?_, ?_, rfl⟩ (fun σ w h => ?_) ?_
 ·intro z; exact .inl ⟨rfl, by rw [xJ]⟩
 ·intro z; exact .inl ⟨rfl, rfl, rfl⟩
 ·have h1 := ck.perm (L := [(p, .box [.sc (.slice none 0 0)] 339), (bu, ce KI fun _ => none), (bm, ce KI fun _ => none)]) h (List.reverse_perm _).symm
  have h2 : p9 bm bu p n none (Rb f 0) (qJ []) ((fun _ => none), (fun _ => none), (fun _ => none), bN (prt f) (bS 0)) = [(bm, ce KI fun _ => none), (bu, ce KI fun _ => none), (p, .box [.sc (.slice none 0 0)] 339)] := by
   unfold p9
   rw [ve]
   rfl
  show ck B σ (p9 bm bu p n none (Rb f 0) (qJ []) ((fun _ => none), (fun _ => none), (fun _ => none), bN (prt f) (bS 0))) w
  rw [h2]
  exact h1
 rintro ⟨g, dbs, mm, mu, K, kh⟩ ⟨hg, hM, hU, hR⟩
 dsimp only at hg hM hU hR ⊢
 try dsimp only [Ds, Dr, Dq, Dn]
 repeat' (first|refine a8 ?_|refine a0 ?_|refine a5 ?_|refine a6 ?_|refine a7 a4 rfl rfl ?_)
 rw [hil]
 refine aq rfl (fun h => ?_) (fun h => ?_)
 ·have hgl : g < n := by have := Dz h; omega
  obtain ⟨gl, hgg⟩ : ∃ z, f.Glyphs[g]? = some z := ⟨_, Bj (by omega)⟩
  have hgm := Dw hgg
  have hgi := bI (gu hgl)
  clear h
  unfold p9
  dsimp only
  repeat' (first|refine a8 ?_|refine a0 ?_|refine aj ?_|refine ah ?_|refine a5 ?_|refine a6 ?_|refine a7 a4 rfl rfl ?_|(apply aE; first|refine aD a4 ?_|refine aA a4 ?_)|(apply aO; first|refine a9 5 a4 0 rfl rfl rfl rfl rfl rfl rfl rfl ?_|refine a9 5 a4 1 rfl rfl rfl rfl rfl rfl rfl rfl ?_|refine a9 5 a4 2 rfl rfl rfl rfl rfl rfl rfl rfl ?_|refine a9 6 a4 0 rfl rfl rfl rfl rfl rfl rfl rfl ?_|refine a9 6 a4 1 rfl rfl rfl rfl rfl rfl rfl rfl ?_|refine a9 6 a4 2 rfl rfl rfl rfl rfl rfl rfl rfl ?_|refine a9 9 a4 0 rfl rfl rfl rfl rfl rfl rfl rfl ?_|refine a9 9 a4 1 rfl rfl rfl rfl rfl rfl rfl rfl ?_|refine a9 9 a4 2 rfl rfl rfl rfl rfl rfl rfl rfl ?_|refine a9 10 a4 0 rfl rfl rfl rfl rfl rfl rfl rfl ?_|refine a9 10 a4 1 rfl rfl rfl rfl rfl rfl rfl rfl ?_|refine a9 10 a4 2 rfl rfl rfl rfl rfl rfl rfl rfl ?_|refine aa a4 0 rfl rfl rfl rfl rfl rfl rfl ?_|refine aa a4 1 rfl rfl rfl rfl rfl rfl rfl ?_|refine aa a4 2 rfl rfl rfl rfl rfl rfl rfl ?_|refine aa a4 3 rfl rfl rfl rfl rfl rfl rfl ?_|fail)|refine aY a4 fun _=>?_|(apply bb;refine b4 ?_)|fail)
  refine m7 (fr' := [(2, .iptr (bU f)), (5, .iptr [.sc (.map (some bm))]), (6, .iptr [.sc (.map (some bu))]), (7, .sc (.pointer (some ⟨p, 0, none⟩))), (9, .iptr [az g]), (17, .imm 1 (aU (bS n))), (18, az n), (19, az g), (25, .fn 287 [.iptr (bU f), .iptr [az g]])]) (L' := p9 bm bu p n kh (Rb f g) (qJ dbs) (mm, mu, K, Ui f gl g 0)) ⟨rfl, rfl, rfl, rfl, rfl, rfl, rfl, rfl, rfl, trivial⟩ (fun _ _ h => by rw [sQ]; exact h) ?_
  refine qc (ps := [26]) rfl fun σ0 l db rec hrec => ?_
  have hy : ∀ (i : Nat) (x : LX) (q : cQ), (kF x.1 (Mi f gl g i) ∧ mh x.2.1 x.2.2.1 x.2.2.2 ∧ x.2.2.2 = Ui f gl g i) → gl.Parts[i]? = some q → j7 f q.Glyph = true → AY Tryz.prog σ0 l [.agg (eX q)] (p9 bm bu p n kh (Rb f g) (qJ dbs) x ++ [(db, pR)] ++ [(l, kB rec)]) fun c L => c = dx true ∧ ∃ x' : LX, (kF x'.1 (Mi f gl g (i + 1)) ∧ mh x'.2.1 x'.2.2.1 x'.2.2.2 ∧ x'.2.2.2 = Ui f gl g (i + 1)) ∧ L = p9 bm bu p n kh (Rb f g) (qJ dbs) x' ++ [(db, pR)] ++ [(l, kB rec)] := by
   rintro i ⟨mm, mu, K, U⟩ q ⟨hM, hU, rfl⟩ hq hG
   dsimp only at hM hU ⊢
   refine zG hrec rfl rfl fun B1 hB1 => ?_
   repeat' (first|refine a0 ?_|refine a6 ?_|(apply aO; first|refine a9 5 a4 0 rfl rfl rfl rfl rfl rfl rfl rfl ?_|refine a9 5 a4 1 rfl rfl rfl rfl rfl rfl rfl rfl ?_|refine a9 5 a4 2 rfl rfl rfl rfl rfl rfl rfl rfl ?_|refine a9 6 a4 0 rfl rfl rfl rfl rfl rfl rfl rfl ?_|refine a9 6 a4 1 rfl rfl rfl rfl rfl rfl rfl rfl ?_|refine a9 6 a4 2 rfl rfl rfl rfl rfl rfl rfl rfl ?_|refine a9 9 a4 0 rfl rfl rfl rfl rfl rfl rfl rfl ?_|refine a9 9 a4 1 rfl rfl rfl rfl rfl rfl rfl rfl ?_|refine a9 9 a4 2 rfl rfl rfl rfl rfl rfl rfl rfl ?_|refine a9 10 a4 0 rfl rfl rfl rfl rfl rfl rfl rfl ?_|refine a9 10 a4 1 rfl rfl rfl rfl rfl rfl rfl rfl ?_|refine a9 10 a4 2 rfl rfl rfl rfl rfl rfl rfl rfl ?_|refine aa a4 0 rfl rfl rfl rfl rfl rfl rfl ?_|refine aa a4 1 rfl rfl rfl rfl rfl rfl rfl ?_|refine aa a4 2 rfl rfl rfl rfl rfl rfl rfl ?_|refine aa a4 3 rfl rfl rfl rfl rfl rfl rfl ?_|fail)|refine aY a4 fun _=>?_|fail)
   refine qd hrec.state ?_
   unfold p9
   dsimp only
   have hqr := md.1 hG
   have hcnt := tC f gl i
   have hpl := hf.parts gl hgm
   have hMg : Mi f gl g i g = (rn f gl i).length := by unfold Mi; rw [if_pos rfl]
   simp only [Ds, List.append_assoc]
   have hUl := zZ hf gl hgm (g := g) (by omega) i q.Glyph
   have hUi : (aU (Ui f gl g i q.Glyph)).length = (Ui f gl g i q.Glyph).length := b6 _
   have hz : q.Glyph ∈ bS n := dD.2 (by omega)
   repeat' (first|refine a8 ?_|refine a0 ?_|refine aj ?_|refine a7 a4 rfl rfl ?_)
   refine gi 0 (.int .i64 0) (az (Mi f gl g i g)) Tryz.underlying257 Tryz.underlying3 rfl rfl rfl rfl (by kernel_rfl) (hM.at g) rfl ?_
   repeat' (first|(apply aS; refine aR ?_)|fail)
   refine d3 0 (l7 mm (.int .i64 g) (az (Mi f gl g i g + 1))) Tryz.underlying257 Tryz.underlying3 rfl rfl rfl rfl rfl gg (fun q h => fE q h) ?_
   repeat' (first|refine a5 ?_|refine a6 ?_)
   refine bj 10 [(0, .v), (1, .v), (2, .v), (3, .v), (4, .v), (5, .v), (7, .v), (8, .v), (6, .e), (9, .e)] none ?_ trivial rfl (by kernel_rfl) (by kernel_rfl) (by kernel_rfl) c9 (by kernel_rfl) rfl
   repeat' (first|refine aC ?_|refine bh a4 ?_|refine ly a4 ?_|fail)
   refine uh 1 (.slice none 0 0) (.vec (K q.Glyph) 1 (aU (Ui f gl g i q.Glyph))) Tryz.underlying338 Tryz.underlying3 rfl rfl rfl rfl (by kernel_rfl) (hU.at q.Glyph) trivial ?_
   repeat' (first|refine aC ?_|fail)
   refine jP a4 _ rfl rfl rfl rfl (km (lc hz)) (by rw [hUi]; show _ + 1 ≤ _; omega) (by rw [hUi]; show (_ + 1) * 8 ≤ _; omega) trivial fun k' => ?_
   repeat' (first|fail)
   refine bv [2, 5, 6, 7, 9, 17, 18, 19, 26, 31, 33, 40] rfl rfl ?_
   have hput := xz (e := 3) (K := K) (U := Ui f gl g i) (k := k') (l := Ui f gl g i q.Glyph ++ [(g : Int)]) (gU n) hz
   rw [show aU (Ui f gl g i q.Glyph) ++ [[AV.sc (.int .i64 (g : Int))]] = aU (Ui f gl g i q.Glyph ++ [(g : Int)]) from qF _ [(g : Int)]]
   refine aP (aV (km hput.symm).symm) ?_
   repeat' (first|fail)
   refine d3 1 (l7 mu (.int .i64 q.Glyph) (.vec k' 1 (aU (Ui f gl g i q.Glyph ++ [(g : Int)])))) Tryz.underlying338 Tryz.underlying3 rfl rfl rfl rfl rfl gg (fun q h => fE q h) ?_
   repeat' (first|refine aH ?_|refine a6 ?_)
   refine bA (L' := p9 bm bu p n kh (Rb f g) (qJ dbs) (l7 mm (.int .i64 g) (az (Mi f gl g i g + 1)), l7 mu (.int .i64 q.Glyph) (.vec k' 1 (aU (Ui f gl g i q.Glyph ++ [(g : Int)]))), (fun y => if y = q.Glyph then k' else K y), fun y => if y = q.Glyph then Ui f gl g i q.Glyph ++ [(g : Int)] else Ui f gl g i y) ++ [(db, pR)] ++ [(l, kB { rec with state := .busy })]) (aV (List.Perm.of_eq (by simp only [p9, eM, Ds, List.append_assoc, Dr]))) (Ax ?_)
   rw [x9 hrec.state hrec.pending]
   refine ⟨rfl, (l7 mm (.int .i64 g) (az (Mi f gl g i g + 1)), l7 mu (.int .i64 q.Glyph) (.vec k' 1 (aU (Ui f gl g i q.Glyph ++ [(g : Int)]))), (fun y => if y = q.Glyph then k' else K y), fun y => if y = q.Glyph then Ui f gl g i q.Glyph ++ [(g : Int)] else Ui f gl g i y), ⟨?_, hU.put q.Glyph k' _, A3 hq hG⟩, ?_⟩
   ·have := hM.put g (Mi f gl g i g + 1)
    rw [zX hq hG] at this
    exact this
   ·simp only [p9, Ds, List.append_assoc, Dr]
  have hsk : ∀ (i : Nat) (x : LX) (q : cQ), (kF x.1 (Mi f gl g i) ∧ mh x.2.1 x.2.2.1 x.2.2.2 ∧ x.2.2.2 = Ui f gl g i) → gl.Parts[i]? = some q → j7 f q.Glyph = false → (kF x.1 (Mi f gl g (i + 1)) ∧ mh x.2.1 x.2.2.1 x.2.2.2 ∧ x.2.2.2 = Ui f gl g (i + 1)) := by
   intro i x q h hq hG
   rw [Bo hq hG, Bq hq hG]
   exact h
  have hit := yX (σ0 := σ0) (l := l) f g gl hgg (fun x => p9 bm bu p n kh (Rb f g) (qJ dbs) x ++ [(db, pR)] ++ [(l, kB rec)]) (fun i x => kF x.1 (Mi f gl g i) ∧ mh x.2.1 x.2.2.1 x.2.2.2 ∧ x.2.2.2 = Ui f gl g i) hy hsk (mm, mu, K, Ui f gl g 0) ⟨by rw [xL]; exact hM, by rw [sQ]; exact hU, rfl⟩ (by have := hf.parts gl hgm; omega)
  refine ⟨_, hit, ?_⟩
  rintro c L' ⟨⟨mm', mu', K', U'⟩, ⟨hM', hU', rfl⟩, rfl⟩
  dsimp only at hM' hU' ⊢
  refine ⟨rec, _, Do _, (by rw [hrec.state]; intro h; cases h), ?_⟩
  rw [hrec.pending]
  show AX _ _ _ _ _ _ _ _
  rw [zW hgg] at hM'
  rw [zY hgg] at hU' ⊢
  clear hy hsk hit hM hU
  unfold p9
  dsimp only
  simp only [Ds, List.append_assoc, Dr]
  repeat' (first|refine a8 ?_|refine a0 ?_|refine a5 ?_|refine aH ?_|refine a7 a4 rfl rfl ?_)
  refine gi 0 (.int .i64 0) (az (Mb f (g + 1) g)) Tryz.underlying257 Tryz.underlying3 rfl rfl rfl rfl (by kernel_rfl) (hM'.at g) rfl ?_
  rw [show Mb f (g + 1) g = (prt f g).length by unfold Mb; rw [if_pos (by omega)]]
  repeat' (first|refine a5 ?_|refine a6 ?_|refine a7 a4 rfl rfl ?_)
  refine aq rfl (fun h => ?_) (fun h => ?_)
  ·have h0 : (prt f g).length = 0 := by have := Dz h; omega
   cases kh with
   | none =>
    have hR0 : Rb f g = [] := hR
    unfold hst mO vk
    dsimp only
    simp only [Ds, Dr]
    repeat' (first|refine a0 ?_|refine a7 a4 rfl rfl ?_|(apply bD; first|refine ai a4 0 rfl rfl rfl rfl rfl ?_|refine ai a4 1 rfl rfl rfl rfl rfl ?_|refine ai a4 2 rfl rfl rfl rfl rfl ?_|refine ai a4 3 rfl rfl rfl rfl rfl ?_|refine ax a4 0 rfl rfl rfl rfl rfl ?_|refine ax a4 1 rfl rfl rfl rfl rfl ?_|refine ax a4 2 rfl rfl rfl rfl rfl ?_|refine ai a4 1 rfl rfl rfl (by assumption) rfl ?_|refine ai a4 0 rfl rfl rfl (by assumption) rfl ?_|fail)|refine cj a4 ?_|fail)
    refine uG a4 rfl rfl rfl rfl rfl rfl rfl fun b' cs' h1 h2 => ?_
    repeat' (first|refine a0 ?_|refine a5 ?_|refine aH ?_|refine a6 ?_|refine a7 a4 rfl rfl ?_|(apply aS; refine aR ?_)|(apply aO; first|refine a9 5 a4 0 rfl rfl rfl rfl rfl rfl rfl rfl ?_|refine a9 5 a4 1 rfl rfl rfl rfl rfl rfl rfl rfl ?_|refine a9 5 a4 2 rfl rfl rfl rfl rfl rfl rfl rfl ?_|refine a9 6 a4 0 rfl rfl rfl rfl rfl rfl rfl rfl ?_|refine a9 6 a4 1 rfl rfl rfl rfl rfl rfl rfl rfl ?_|refine a9 6 a4 2 rfl rfl rfl rfl rfl rfl rfl rfl ?_|refine a9 9 a4 0 rfl rfl rfl rfl rfl rfl rfl rfl ?_|refine a9 9 a4 1 rfl rfl rfl rfl rfl rfl rfl rfl ?_|refine a9 9 a4 2 rfl rfl rfl rfl rfl rfl rfl rfl ?_|refine a9 10 a4 0 rfl rfl rfl rfl rfl rfl rfl rfl ?_|refine a9 10 a4 1 rfl rfl rfl rfl rfl rfl rfl rfl ?_|refine a9 10 a4 2 rfl rfl rfl rfl rfl rfl rfl rfl ?_|refine aa a4 0 rfl rfl rfl rfl rfl rfl rfl ?_|refine aa a4 1 rfl rfl rfl rfl rfl rfl rfl ?_|refine aa a4 2 rfl rfl rfl rfl rfl rfl rfl ?_|refine aa a4 3 rfl rfl rfl rfl rfl rfl rfl ?_|fail))
    refine kK (g + 1, db :: dbs, mm', mu', K', some (b', cs')) rfl ⟨by rw [Dv]; rfl, trivial⟩ rfl ⟨by dsimp only; omega, hM', hU', ?_⟩ (by dsimp only; omega) (fun σ w h => ?_)
    ·rw [iL, if_pos h0, hR0]
     exact ⟨h1, h2, h2⟩
    ·have h := ck.perm (L := (b', .box cs' 3) :: (bm, ce KI mm') :: (bu, ce KI mu') :: (p, .box [.sc (.slice (some ⟨b', 0, none⟩) 1 cs'.length)] 339) :: (jC 3 K' (bN (prt f) (bS (g + 1))) (bS n) ++ (qJ dbs ++ [(db, pR)]))) h qS
     show ck B σ (p9 bm bu p n (some (b', cs')) (Rb f (g + 1)) (qJ (db :: dbs)) (mm', mu', K', bN (prt f) (bS (g + 1)))) w
     rw [iL, if_pos h0, hR0]
     exact h
   | some kk =>
    obtain ⟨b, cs⟩ := kk
    rw [fB]
    simp only [Ds, Dr]
    repeat' (first|refine a0 ?_|refine a7 a4 rfl rfl ?_|(apply bD; first|refine ai a4 0 rfl rfl rfl rfl rfl ?_|refine ai a4 1 rfl rfl rfl rfl rfl ?_|refine ai a4 2 rfl rfl rfl rfl rfl ?_|refine ai a4 3 rfl rfl rfl rfl rfl ?_|refine ax a4 0 rfl rfl rfl rfl rfl ?_|refine ax a4 1 rfl rfl rfl rfl rfl ?_|refine ax a4 2 rfl rfl rfl rfl rfl ?_|refine ai a4 1 rfl rfl rfl (by assumption) rfl ?_|refine ai a4 0 rfl rfl rfl (by assumption) rfl ?_|fail)|refine cj a4 ?_|fail)
    have hRl := vm f g
    refine uF a4 3 rfl rfl rfl rfl rfl rfl rfl hR.2.1 (by omega) (by omega) rfl fun b' cs' h1 h2 => ?_
    repeat' (first|refine a0 ?_|refine a5 ?_|refine aH ?_|refine a6 ?_|refine a7 a4 rfl rfl ?_|(apply aS; refine aR ?_)|(apply aO; first|refine a9 5 a4 0 rfl rfl rfl rfl rfl rfl rfl rfl ?_|refine a9 5 a4 1 rfl rfl rfl rfl rfl rfl rfl rfl ?_|refine a9 5 a4 2 rfl rfl rfl rfl rfl rfl rfl rfl ?_|refine a9 6 a4 0 rfl rfl rfl rfl rfl rfl rfl rfl ?_|refine a9 6 a4 1 rfl rfl rfl rfl rfl rfl rfl rfl ?_|refine a9 6 a4 2 rfl rfl rfl rfl rfl rfl rfl rfl ?_|refine a9 9 a4 0 rfl rfl rfl rfl rfl rfl rfl rfl ?_|refine a9 9 a4 1 rfl rfl rfl rfl rfl rfl rfl rfl ?_|refine a9 9 a4 2 rfl rfl rfl rfl rfl rfl rfl rfl ?_|refine a9 10 a4 0 rfl rfl rfl rfl rfl rfl rfl rfl ?_|refine a9 10 a4 1 rfl rfl rfl rfl rfl rfl rfl rfl ?_|refine a9 10 a4 2 rfl rfl rfl rfl rfl rfl rfl rfl ?_|refine aa a4 0 rfl rfl rfl rfl rfl rfl rfl ?_|refine aa a4 1 rfl rfl rfl rfl rfl rfl rfl ?_|refine aa a4 2 rfl rfl rfl rfl rfl rfl rfl ?_|refine aa a4 3 rfl rfl rfl rfl rfl rfl rfl ?_|fail))
    refine kK (g + 1, db :: dbs, mm', mu', K', some (b', cs')) rfl ⟨by rw [Dv]; rfl, trivial⟩ rfl ⟨by dsimp only; omega, hM', hU', ?_⟩ (by dsimp only; omega) (fun σ w h => ?_)
    ·rw [iL, if_pos h0]
     refine ⟨?_, by rw [List.length_append]; exact h2, by omega⟩
     rw [List.length_append, List.map_append, ← hR.1]
     exact h1
    ·have h := ck.perm (L := (b', .box cs' 3) :: (bm, ce KI mm') :: (bu, ce KI mu') :: (p, .box [.sc (.slice (some ⟨b', 0, none⟩) ((Rb f g).length + 1) cs'.length)] 339) :: (jC 3 K' (bN (prt f) (bS (g + 1))) (bS n) ++ (qJ dbs ++ [(db, pR)]))) h qS
     show ck B σ (p9 bm bu p n (some (b', cs')) (Rb f (g + 1)) (qJ (db :: dbs)) (mm', mu', K', bN (prt f) (bS (g + 1)))) w
     rw [iL, if_pos h0]
     unfold p9
     rw [fB, List.length_append]
     exact h
  ·have h0 : ¬ (prt f g).length = 0 := by have := Dy h; omega
   repeat' (first|refine a0 ?_|refine ah ?_|refine a5 ?_|refine aH ?_|refine a6 ?_|refine a7 a4 rfl rfl ?_|(apply aS; refine aR ?_)|fail)
   refine kK (g + 1, db :: dbs, mm', mu', K', kh) rfl ⟨by rw [Dv]; rfl, trivial⟩ rfl ⟨by dsimp only; omega, hM', hU', by rw [iL, if_neg h0]; exact hR⟩ (by dsimp only; omega) (fun σ w h => ?_)
   show ck B σ (p9 bm bu p n kh (Rb f (g + 1)) (qJ (db :: dbs)) (mm', mu', K', bN (prt f) (bS (g + 1)))) w
   rw [iL, if_neg h0]
   refine h.perm (List.Perm.cons _ (List.Perm.cons _ (List.Perm.append_left _ (List.Perm.append_left _ ?_))))
   exact List.perm_append_singleton _ _
 have hgn : g = n := by have := Dy h; omega
 subst hgn
 clear h
 have hst0 : kE g (prt f) [] (Rb f g) (Mb f g) := by
  have h1 := kE.start (n := g) (pr := prt f) (M := Mb f g) fun z h0 h1 => by unfold Mb; rw [if_pos ⟨h0, h1⟩]
  have h2 : (bS g).filter (fun z => decide (Mb f g z = 0)) = Rb f g := by
   unfold Rb
   refine List.filter_congr fun z hz => ?_
   unfold Mb
   rw [if_pos (dD.1 hz)]
   exact decide_eq_decide.2 (by omega)
  rw [h2] at h1
  exact h1
 have hRl := vm f g
 unfold p9
 dsimp only
 repeat' (first|refine a8 ?_|refine a0 ?_|refine aL ?_|refine a5 ?_|refine ar ?_|refine av ?_|refine nD ?_)
 refine ka (by kernel_rfl) rfl rfl ?_
 repeat' (first|fail)
 refine aN (hst p kh (Rb f g)) _ (wA p kh (Rb f g) hR (by omega)) rfl rfl l8 rfl fun c L1 ⟨kh', R', hL, hR', hpm⟩ => ?_
 subst hL
 refine aP (aV l8.symm) ?_
 repeat' (first|refine a8 ?_|refine a0 ?_|refine aj ?_|refine a5 ?_|refine a6 ?_|refine a7 a4 rfl rfl ?_)
 refine cX (bR (t := 11) (c' := .vec none 1 (aU [])) rfl fun σ v h => eB 1 h) ?_
 refine aK [5, 6, 7] (α := KS) (fun x => [(11, .vec x.kt 1 (aU x.T))]) (fun x => kE g (prt f) x.T x.R x.M ∧ kF x.mm x.M ∧ li x.kh x.R) (fun x => Cd bm bu p mu (jC 3 K (bN (prt f) (bS g)) (bS g) ++ qJ dbs) x) (fun x => g - x.T.length) ⟨[], R', Mb f g, mm, kh', none⟩ rfl ⟨rfl, trivial⟩ ⟨hst0.perm hpm, hM, hR'⟩ (fun σ w h => ?_) ?_
 ·exact h
 rintro ⟨T, R, M, mm, kh, kt⟩ ⟨hK, hM, hR⟩
 dsimp only at hK hM hR ⊢
 unfold Cd
 dsimp only
 try dsimp only [Ds, Dr, Dq, Dn]
 cases kh with
 | none =>
  have hR0 : R = [] := hR
  subst hR0
  unfold hst mO vk
  dsimp only
  repeat' (first|refine a8 ?_|refine a0 ?_|refine ae ?_|refine aL ?_|refine a5 ?_|refine ar ?_|refine av ?_|refine au ?_|refine a6 ?_|refine a7 a4 rfl rfl ?_|(apply bD; first|refine ai a4 0 rfl rfl rfl rfl rfl ?_|refine ai a4 1 rfl rfl rfl rfl rfl ?_|refine ai a4 2 rfl rfl rfl rfl rfl ?_|refine ai a4 3 rfl rfl rfl rfl rfl ?_|refine ax a4 0 rfl rfl rfl rfl rfl ?_|refine ax a4 1 rfl rfl rfl rfl rfl ?_|refine ax a4 2 rfl rfl rfl rfl rfl ?_|refine ai a4 1 rfl rfl rfl (by assumption) rfl ?_|refine ai a4 0 rfl rfl rfl (by assumption) rfl ?_|fail)|refine bB rfl ?_)
  refine bA (bR (t := 4) (c' := .imm 1 (aU T)) rfl fun σ v h => VR.im h) ?_
  refine du (L' := qJ dbs) (((((List.sublist_append_right _ _).trans (List.sublist_append_right _ _)).trans (List.sublist_append_right _ _)).cons _).cons _) ?_
  exact m9 (cs := [.imm 1 (aU T)]) dbs [] rfl (Do _) ⟨rfl, trivial⟩ ⟨T, rfl, hK.fin⟩
 | some kk =>
  obtain ⟨b, cs⟩ := kk
  rw [fB]
  have hTR := dO hK.nodup hK.dom
  rw [List.length_append] at hTR
  repeat' (first|refine a8 ?_|refine a0 ?_|refine a5 ?_|refine a6 ?_|refine a7 a4 rfl rfl ?_|(apply bD; first|refine ai a4 0 rfl rfl rfl rfl rfl ?_|refine ai a4 1 rfl rfl rfl rfl rfl ?_|refine ai a4 2 rfl rfl rfl rfl rfl ?_|refine ai a4 3 rfl rfl rfl rfl rfl ?_|refine ax a4 0 rfl rfl rfl rfl rfl ?_|refine ax a4 1 rfl rfl rfl rfl rfl ?_|refine ax a4 2 rfl rfl rfl rfl rfl ?_|refine ai a4 1 rfl rfl rfl (by assumption) rfl ?_|refine ai a4 0 rfl rfl rfl (by assumption) rfl ?_|fail)|fail)
  refine aq rfl (fun h => ?_) (fun h => ?_)
  ·have h0 : 0 < R.length := by have := Dz h; omega
   clear h
   repeat' (first|refine a8 ?_|refine a0 ?_|refine aj ?_|refine ah ?_|refine a5 ?_)
   refine ka (by kernel_rfl) rfl rfl ?_
   repeat' (first|fail)
   refine aN (hst p (some (b, cs)) R) _ (yM p b cs R hR h0 (by omega)) rfl rfl l8 rfl fun c L1 ⟨z, cs', R', hc, hL, hR', hpm⟩ => ?_
   subst hc; subst hL
   refine aP (aV l8.symm) ?_
   repeat' (first|fail)
   refine wR (by kernel_rfl) rfl rfl ?_
   repeat' (first|refine a8 ?_|refine a0 ?_|refine a5 ?_|refine a6 ?_|refine a7 a4 rfl rfl ?_|refine cj a4 ?_|fail)
   have hKm := (hK.perm hpm).pop
   have hz := hKm.dom z (by simp)
   have hTz : z ∉ T := fun hm => by
    have := hKm.nodup
    rw [List.append_assoc, List.nodup_append] at this
    exact this.2.2 z hm z (by simp) rfl
   have hTl := dO (List.nodup_append.1 hKm.nodup).1 (fun y hy => hKm.dom y (List.mem_append_left _ hy))
   rw [List.length_append] at hTl
   have hTi := b6 T
   have hall : ∀ q : Int, 0 ≤ q → q < g → (bN (prt f) (bS g) z).count q = (prt f q).count z := fun q q0 q1 => by rw [jf _ _ _ _ (gU g), if_pos (dD.2 ⟨q0, q1⟩)]
   have hUl := lf hf.prt z (bS g)
   rw [dk] at hUl
   refine cu a4 _ rfl rfl rfl rfl (km (T := tok kt 3 1 (aU T).length) (T' := []) (by rw [List.append_nil])) (by rw [hTi]; show _ + 1 ≤ _; simp at hTl; omega) (by rw [hTi]; show (_ + 1) * 8 ≤ _; simp at hTl; omega) rfl fun k' => ?_
   rw [show aU T ++ [[AV.sc (.int .i64 z)]] = aU (T ++ [z]) from qF T [z]]
   refine aP (aV (km (T := tok k' 3 1 (aU (T ++ [z])).length) (T' := []) (by rw [List.append_nil])).symm) ?_
   repeat' (first|refine a8 ?_|refine a0 ?_|refine a5 ?_|refine a6 ?_|refine a7 a4 rfl rfl ?_)
   refine gi 1 (.slice none 0 0) (.vec (K z) 1 (aU (bN (prt f) (bS g) z))) Tryz.underlying338 Tryz.underlying3 rfl rfl rfl rfl (by kernel_rfl) (hU.at z) rfl ?_
   repeat' (first|refine aj ?_|refine a5 ?_|refine a6 ?_|refine a7 a4 rfl rfl ?_)
   have hUi := b6 (bN (prt f) (bS g) z)
   refine aK [5, 6, 7, 11, 64, 65] (α := Nat × KS) (fun x => [(66, az x.1)]) (fun x => x.2.T = T ++ [z] ∧ x.2.kt = k' ∧ x.1 ≤ (bN (prt f) (bS g) z).length ∧ nB g (prt f) T z ((bN (prt f) (bS g) z).take x.1) x.2.R x.2.M ∧ kF x.2.mm x.2.M ∧ li x.2.kh x.2.R) (fun x => Cd bm bu p mu (jC 3 K (bN (prt f) (bS g)) (bS g) ++ qJ dbs) x.2) (fun x => (bN (prt f) (bS g) z).length - x.1) (0, ⟨T ++ [z], R', M, mm, some (b, cs'), k'⟩) rfl ⟨rfl, trivial⟩ ⟨rfl, rfl, Nat.zero_le _, hKm, hM, hR'⟩ (fun σ w h => h) ?_
   clear hM hR hK hR' hKm hpm
   rintro ⟨j, ⟨T', R, M, mm, kh, kt'⟩⟩ ⟨hT', hk', hj, hK, hM, hR⟩
   dsimp only at hT' hk' hj hK hM hR ⊢
   subst hT'; subst hk'
   unfold Cd
   dsimp only
   try dsimp only [Ds, Dr, Dq, Dn]
   repeat' (first|refine a8 ?_|refine a0 ?_|refine a5 ?_|refine a6 ?_|refine a7 a4 rfl rfl ?_)
   refine aq rfl (fun h => ?_) (fun h => ?_)
   ·have hjl : j < (bN (prt f) (bS g) z).length := by have := Dz h; rw [hUi] at this; omega
    obtain ⟨u, hu⟩ : ∃ u, (bN (prt f) (bS g) z)[j]? = some u := ⟨_, Bj hjl⟩
    have hug := bI hu
    have hur := dD.1 (vi (Dw hu))
    obtain ⟨hpos, hK'⟩ := hK.step hall hTz hu hur.1 hur.2
    have hmu := hK.miss u hur.1 hur.2
    have hml := wP (prt f) T u
    have hpl := hf.prt u
    have hRl2 := dO hK.nodup hK.dom
    rw [List.length_append, List.length_append] at hRl2
    clear h
    repeat' (first|refine a8 ?_|refine a0 ?_|refine aj ?_|refine ah ?_|refine a5 ?_|refine a6 ?_|refine a7 a4 rfl rfl ?_|(apply aE; first|refine aD a4 ?_|refine aA a4 ?_)|fail)
    refine gi 0 (.int .i64 0) (az (M u)) Tryz.underlying257 Tryz.underlying3 rfl rfl rfl rfl (by kernel_rfl) (hM.at u) rfl ?_
    repeat' (first|(apply aS; refine aR ?_)|fail)
    refine d3 0 (l7 mm (.int .i64 u) (az (M u - 1))) Tryz.underlying257 Tryz.underlying3 rfl rfl rfl rfl rfl gg (fun q h => fE q h) ?_
    repeat' (first|refine a8 ?_|refine a0 ?_|refine a5 ?_|refine a6 ?_|refine a7 a4 rfl rfl ?_)
    refine gi 0 (.int .i64 0) (az (M u - 1)) Tryz.underlying257 Tryz.underlying3 rfl rfl rfl rfl (by kernel_rfl) (fun σ v h => ?_) rfl ?_
    ·have := (hM.put u (M u - 1)).at u σ v h
     simpa using this
    repeat' (first|refine a5 ?_|refine a6 ?_|refine a7 a4 rfl rfl ?_)
    refine aq rfl (fun h => ?_) (fun h => ?_)
    ·have h1 := Dz h
     rw [if_pos h1] at hK'
     repeat' (first|refine a0 ?_)
     refine ka (by kernel_rfl) rfl rfl ?_
     repeat' (first|refine a7 a4 rfl rfl ?_)
     refine ka (by kernel_rfl) rfl rfl ?_
     repeat' (first|fail)
     refine aN (hst p kh R) _ (wB p kh R u hR (by omega)) rfl rfl l8 rfl fun c L1 ⟨b2, cs2, R2, hL, hR2, hpm⟩ => ?_
     subst hL
     refine aP (aV l8.symm) ?_
     repeat' (first|refine a0 ?_|refine a5 ?_|refine aH ?_|refine a6 ?_|refine a7 a4 rfl rfl ?_|(apply aS; refine aR ?_)|fail)
     exact ay (j + 1, ⟨T ++ [z], R2, _, _, some (b2, cs2), kt'⟩) rfl ⟨by rw [Dv]; rfl, trivial⟩ ⟨rfl, rfl, by dsimp only; omega, hK'.perm hpm, hM.put u (M u - 1), hR2⟩ (by dsimp only; omega) (fun _ _ h => h)
    ·have h1 := Dy h
     rw [if_neg h1] at hK'
     repeat' (first|refine a0 ?_|refine ah ?_|refine a5 ?_|refine aH ?_|refine a6 ?_|refine a7 a4 rfl rfl ?_|(apply aS; refine aR ?_)|fail)
     exact ay (j + 1, ⟨T ++ [z], R, _, _, kh, kt'⟩) rfl ⟨by rw [Dv]; rfl, trivial⟩ ⟨rfl, rfl, by dsimp only; omega, hK', hM.put u (M u - 1), hR⟩ (by dsimp only; omega) (fun _ _ h => h)
   ·have hjl : j = (bN (prt f) (bS g) z).length := by have := Dy h; rw [hUi] at this; omega
    subst hjl
    rw [List.take_length] at hK
    repeat' (first|refine aL ?_|refine ar ?_|refine aH ?_|refine av ?_|refine au ?_)
    exact ay ⟨T ++ [z], R, M, mm, kh, kt'⟩ rfl ⟨rfl, trivial⟩ ⟨hK.done hall hTz, hM, hR⟩ (by dsimp only; simp at hTl ⊢; omega) (fun _ _ h => h)
  ·have hR0 : R = [] := List.eq_nil_of_length_eq_zero (by have := Dy h; omega)
   subst hR0
   repeat' (first|refine a8 ?_|refine a0 ?_|refine ae ?_|refine aL ?_|refine a5 ?_|refine ar ?_|refine av ?_|refine au ?_|refine a6 ?_|refine a7 a4 rfl rfl ?_)
   refine bA (bR (t := 4) (c' := .imm 1 (aU T)) rfl fun σ v h => VR.im h) ?_
   refine du (L' := qJ dbs) (((((List.sublist_append_right _ _).trans (List.sublist_append_right _ _)).trans (List.sublist_append_right _ _)).cons _).cons _) ?_
   exact m9 (cs := [.imm 1 (aU T)]) dbs [] rfl (Do _) ⟨rfl, trivial⟩ ⟨T, rfl, hK.fin⟩
end Go.Proofs.YtpmdfoaadejmkaaGreatDoor
namespace Go.Proofs
open Go.Shelf
def Tryz.laysSort_ren : Go.Shelf.Ren := ⟨fun | 189 => 283 | 125 => 300 | 257 => 299 | 128 => 312 | 129 => 313 | 294 => 304 | 295 => 305 | 296 => 306 | 297 => 307 | 298 => 308 | 299 => 309 | 216 => 276 | 300 => 310 | 301 => 311 | 328 => 315 | 329 => 316 | 330 => 317 | 331 => 318 | 332 => 319 | 215 => 294 | 343 => 320 | n => n, fun | 28 => 22 | 3 => 3 | 46 => 312 | 0 => 0 | 51 => 393 | 53 => 246 | 4 => 4 | 183 => 387 | 182 => 386 | 131 => 197 | 5 => 5 | 9 => 9 | 218 => 395 | 222 => 399 | 228 => 401 | 229 => 402 | n => n, fun | n => n⟩
end Go.Proofs
namespace Go.Proofs.YtpmdfoaadejmkaaGreatDoor
open Go.RowKit Go.Shelf Go.Sort
def CI (l : List Int) : List Int := l.mergeSort fun x y => decide (x ≤ y)
end Go.Proofs.YtpmdfoaadejmkaaGreatDoor
namespace Go.Proofs.YtpmdfoaadejmkaaGreatDoor
open Go.RowKit
attribute [local irreducible] AT bf AX AO Av Kt aZ df DA cA
def dU (l : List Int) (i : Nat) : List AV := (l.take i ++ List.replicate (l.length - i) 0).map az
theorem yF (l : List Int) {i : Nat} (h : i ≤ l.length) : (dU l i).length = l.length := by simp [dU]; omega
theorem td (l : List Int) (m : Nat) (hm : m = l.length) : (List.replicate m [az 0]).flatten = dU l 0 := by
 subst hm
 unfold dU
 rw [List.take_zero, Dr, Nat.sub_zero, List.map_replicate]
 generalize l.length = m
 induction m with
 | zero => rfl
 | succ m ih => rw [List.replicate_succ, List.flatten_cons, ih, List.replicate_succ]; rfl
theorem yG {l : List Int} {i : Nat} {z : Int} (h : l[i]? = some z) : (dU l i).set (0 + (i : Int).toNat * 1) (az z) = dU l (i + 1) := by
 have hi := (Dp h).1
 rw [Nat.zero_add, Nat.mul_one, Int.toNat_natCast]
 unfold dU
 rw [← List.map_set (f := az)]
 congr 1
 rw [List.set_append_right _ _ (by simp; omega), List.take_add_one, h, List.append_assoc]
 congr 1
 rw [show l.length - i = (l.length - (i + 1)) + 1 by omega, List.replicate_succ, show i - (l.take i).length = 0 by simp; omega]
 rfl
theorem yE (l : List Int) : dU l l.length = l.map az := by simp [dU]
theorem ol (l : List Int) : (aU l).flatten = l.map az := by
 unfold aU
 induction l with
 | nil => rfl
 | cons z l ih => rw [Dq, List.flatten_cons, ih]; rfl
theorem C6 {n i : Nat} (h : i < n) : (dU (bS n) i).set (0 + (i : Int).toNat * 1) (az i) = dU (bS n) (i + 1) := yG (gu h)
set_option maxHeartbeats 1000000 in
theorem x3 (f : aM) (hf : Few f) (hr : j6 f.Glyphs.length (prt f) ∨ AC Tryz.prog 211 [cx f] [] fun c _ => ∃ z : Int, c = az z) : AC Tryz.prog 126 [cx f] [] fun c _ => (∃ T, c = .tup [.imm 1 (aU T), az 0, az 0] ∧ fP f.Glyphs.length (prt f) T ∧ T.length = f.Glyphs.length) ∨ (¬ j6 f.Glyphs.length (prt f) ∧ ∃ z : Int, c = .tup [.imm 1 [], az z, az 33]) := by
 refine aB Tryz.func126 rfl Tryz.ntmps126 rfl fun B => ?_
 have hn := hf.n
 have hln := yQ f hf
 have hml : (f.Glyphs.map c7).length = f.Glyphs.length := Du ..
 generalize hN : f.Glyphs.length = n at *
 repeat' (first|refine a8 ?_|refine a0 ?_|refine a5 ?_|refine a6 ?_|refine a7 a4 rfl rfl ?_|refine aX ?_|fail)
 rw [hml]
 refine gP a4 n rfl rfl rfl rfl rfl rfl rfl (by omega) (by omega) rfl fun b => ?_
 rw [show (List.replicate n (List.map AV.sc [Value.int .i64 0])).flatten = dU (bS n) 0 from td (bS n) n (dk n).symm]
 have hul := dk n
 repeat' (first|refine a8 ?_|refine a0 ?_|refine aj ?_|refine a5 ?_|refine a6 ?_|refine a7 a4 rfl rfl ?_)
 refine aK [1, 5, 13] (α := Nat) (fun i => [(14, az i)]) (fun i => i ≤ n) (fun i => [(b, .box (dU (bS n) i) 3)]) (fun i => n - i) 0 rfl ⟨rfl, trivial⟩ (Nat.zero_le _) (fun _ _ h => h) fun i hi => ?_
 try dsimp only [Ds, Dr, Dq, Dn]
 repeat' (first|refine a8 ?_|refine a0 ?_|refine a5 ?_|refine a6 ?_|refine a7 a4 rfl rfl ?_)
 refine aq rfl (fun h => ?_) (fun h => ?_)
 ·have hil : i < n := by have := Dz h; omega
  repeat' (first|refine a8 ?_|refine a0 ?_|refine aj ?_|refine ah ?_|refine a5 ?_|refine a6 ?_|refine a7 a4 rfl rfl ?_|(apply aE; first|refine aD a4 ?_|refine aA a4 ?_)|fail)
  refine aa a4 0 rfl rfl rfl rfl rfl rfl (by rw [Nat.ble_eq, yF (bS n) (by omega), hul]; show _ + 1 ≤ n; omega) ?_
  rw [fI, C6 hil]
  repeat' (first|refine a0 ?_|refine a5 ?_|refine aH ?_|refine a6 ?_|refine a7 a4 rfl rfl ?_|(apply aS; refine aR ?_)|fail)
  exact ay (i + 1) rfl ⟨by rw [Dv]; rfl, trivial⟩ (by omega) (by omega) (fun _ _ h => h)
 ·have hil : i = n := by have := Dy h; omega
  subst hil
  clear h
  rw [show dU (bS i) i = (bS i).map az by have := yE (bS i); rw [hul] at this; exact this]
  refine cX (xA (t := 5) (sz := 1) (l := aU (bS i)) 0 rfl rfl (ol _).symm (by simp [aU]) (by rw [b6, hul]) (by omega)) ?_
  repeat' (first|refine a8 ?_|refine a0 ?_|refine aL ?_|refine a5 ?_|refine ar ?_|refine av ?_|refine au ?_|refine a7 a4 rfl rfl ?_)
  refine aN [] _ hln rfl rfl (Do _) rfl fun c L1 ⟨T, hc, hT⟩ => ?_
  subst hc
  have hTl := b6 T
  have hIl := b6 (bS i)
  have hTn := hT.len
  rw [hul] at hIl
  refine aP (bZ (List.nil_sublist _)) ?_
  repeat' (first|refine a8 ?_|refine a0 ?_|refine a5 ?_|refine a6 ?_|refine a7 a4 rfl rfl ?_)
  refine aq rfl (fun h => ?_) (fun h => ?_)
  ·have hlt := Dz h
   rw [hTl, hIl] at hlt
   have hna : ¬ j6 i (prt f) := fun ha => by
    have := hT.len_all (hT.all ha fun g p hp => by have := Ba hp; rw [hN] at this; exact this)
    omega
   rcases hr with hr | hr
   ·exact absurd hr hna
   repeat' (first|refine a8 ?_|refine a0 ?_|refine a7 a4 rfl rfl ?_)
   refine aN [] [] hr rfl rfl (Do _) rfl fun c L1 ⟨z, hc⟩ => ?_
   subst hc
   repeat' (first|refine ae ?_|refine a5 ?_|refine am ?_|refine a6 ?_|refine a7 a4 rfl rfl ?_)
   refine bA (bR (t := 2) (c' := .imm 1 []) rfl fun σ v h => j4 1 h) ?_
   exact t0 (cs := [.imm 1 [], az z, az 33]) ⟨rfl, rfl, rfl, trivial⟩ (.inr ⟨hna, z, rfl⟩)
  ·have hlt := Dy h
   rw [hTl, hIl] at hlt
   repeat' (first|refine a8 ?_|refine a0 ?_|refine ah ?_|refine ae ?_|refine a5 ?_|refine a6 ?_|refine a7 a4 rfl rfl ?_)
   exact t0 (cs := [.imm 1 (aU T), az 0, az 0]) ⟨rfl, rfl, rfl, trivial⟩ (.inl ⟨T, rfl, hT, by omega⟩)
end Go.Proofs.YtpmdfoaadejmkaaGreatDoor
