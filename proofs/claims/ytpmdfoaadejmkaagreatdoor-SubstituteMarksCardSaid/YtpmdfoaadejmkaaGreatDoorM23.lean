/-
  The program: glyphs in a line.
-/
import Derived.Test.YtpmdfoaadejmkaaGreatDoorM22
import Derived.Shelf.Slices.In.SortNone
import Derived.Shelf.Slices.In.SortAlone
import Derived.Ground.NamesProg
import Derived.Test.YtpmdfoaadejmkaaGreatDoorProg
import Derived.Lib.SortBridge
namespace Go.Proofs.YtpmdfoaadejmkaaGreatDoor
open Go.RowKit
attribute [local irreducible] AT bh AX AO Av Kt b6 di DA cC
open Go.MapKept
attribute [local irreducible] mp
def prt (f : aN) (g : Int) : List Int := match f.Glyphs[g.toNat]? with
 | some gl => (gl.Parts.map cS.Glyph).filter (jd f)
 | none => []
def rn (f : aN) (gl : bb) (i : Nat) : List Int := ((gl.Parts.take i).map cS.Glyph).filter (jd f)
theorem tJ {f : aN} {gl : bb} {i : Nat} {p : cS} (h : gl.Parts[i]? = some p) (hg : jd f p.Glyph = true) : rn f gl (i + 1) = rn f gl i ++ [p.Glyph] := by
 unfold rn
 rw [List.take_add_one, h, Option.toList_some, List.map_append, List.filter_append]
 simp [hg]
theorem xf {f : aN} {gl : bb} {i : Nat} {p : cS} (h : gl.Parts[i]? = some p) (hg : jd f p.Glyph = false) : rn f gl (i + 1) = rn f gl i := by
 unfold rn
 rw [List.take_add_one, h, Option.toList_some, List.map_append, List.filter_append]
 simp [hg]
theorem tH {f : aN} {g : Nat} {gl : bb} (hg : f.Glyphs[g]? = some gl) : rn f gl gl.Parts.length = prt f g := by
 unfold rn prt
 rw [Int.toNat_natCast, hg, List.take_length]
theorem tI (f : aN) (gl : bb) (i : Nat) : (rn f gl i).length ≤ gl.Parts.length := by
 unfold rn
 refine Nat.le_trans (List.length_filter_le _ _) ?_
 rw [Du, List.length_take]
 omega
theorem ml {f : aN} {z : Int} : jd f z = true ↔ 0 ≤ z ∧ z < f.Glyphs.length := by unfold jd; simp
theorem Be {f : aN} {g p : Int} (h : p ∈ prt f g) : 0 ≤ p ∧ p < f.Glyphs.length := by
 unfold prt at h
 split at h
 ·rw [List.mem_filter] at h; exact ml.1 h.2
 ·cases h
structure Few (f : aN) : Prop where
 n : f.Glyphs.length ≤ 1000
 parts : ∀ gl ∈ f.Glyphs, gl.Parts.length ≤ 1000
theorem Few.prt {f : aN} (h : Few f) (g : Int) : (prt f g).length ≤ 1000 := by
 unfold Go.Proofs.YtpmdfoaadejmkaaGreatDoor.prt
 split
 ·rename_i gl hgl
  refine Nat.le_trans (List.length_filter_le _ _) ?_
  rw [Du]
  exact h.parts gl (Dw hgl)
 ·exact Nat.zero_le _
theorem lk {pr : Int → List Int} (h : ∀ g, (pr g).length ≤ 1000) (z : Int) : ∀ gs : List Int, (bP pr gs z).length ≤ 1000 * gs.length
 | [] => by simp [bP]
 | g :: gs => by
  have ih := lk h z gs
  unfold bP at ih ⊢
  rw [List.flatMap_cons, List.length_append, Du, List.length_cons]
  have h1 := List.length_filter_le (fun p => decide (p = z)) (pr g)
  have h2 := h g
  omega
theorem vp {pr : Int → List Int} {gs : List Int} {z g : Int} (h : g ∈ bP pr gs z) : g ∈ gs := by
 unfold bP at h
 obtain ⟨y, hy, h1⟩ := List.mem_flatMap.1 h
 obtain ⟨_, _, rfl⟩ := List.mem_map.1 h1
 exact hy
theorem wX (pr : Int → List Int) (T : List Int) (g : Int) : jh pr T g ≤ (pr g).length := List.length_filter_le _ _
def Mi (f : aN) (gl : bb) (g i : Nat) : Int → Int := fun z => if z = g then (rn f gl i).length else if 0 ≤ z ∧ z < g then (prt f z).length else 0
def Ui (f : aN) (gl : bb) (g i : Nat) : Int → List Int := fun z => bP (prt f) (bU g) z ++ ((rn f gl i).filter fun p => decide (p = z)).map fun _ => (g : Int)
def Mb (f : aN) (g : Nat) : Int → Int := fun z => if 0 ≤ z ∧ z < g then (prt f z).length else 0
def Rb (f : aN) (g : Nat) : List Int := (bU g).filter fun z => decide ((prt f z).length = 0)
theorem xT (f : aN) (gl : bb) (g : Nat) : Mi f gl g 0 = Mb f g := by
 funext z
 unfold Mi Mb rn
 by_cases e : z = g
 ·subst e; rw [if_pos rfl, if_neg (by omega)]; rfl
 ·rw [if_neg e]
theorem sS (f : aN) (gl : bb) (g : Nat) : Ui f gl g 0 = bP (prt f) (bU g) := by
 funext z
 unfold Ui rn
 simp
theorem A3 {f : aN} {g : Nat} {gl : bb} (hg : f.Glyphs[g]? = some gl) : Mi f gl g gl.Parts.length = Mb f (g + 1) := by
 funext z
 unfold Mi Mb
 rw [tH hg]
 by_cases e : z = g
 ·subst e; rw [if_pos rfl, if_pos (by omega)]
 ·rw [if_neg e]
  by_cases h : 0 ≤ z ∧ z < g
  ·rw [if_pos h, if_pos (by omega)]
  ·rw [if_neg h, if_neg (by omega)]
theorem A5 {f : aN} {g : Nat} {gl : bb} (hg : f.Glyphs[g]? = some gl) : Ui f gl g gl.Parts.length = bP (prt f) (bU (g + 1)) := by
 funext z
 unfold Ui
 rw [tH hg, oO]
 unfold bP
 rw [List.flatMap_append]
 simp
theorem A4 {f : aN} {gl : bb} {g i : Nat} {p : cS} (h : gl.Parts[i]? = some p) (hg : jd f p.Glyph = true) : (fun q => if q = (g : Int) then Mi f gl g i g + 1 else Mi f gl g i q) = Mi f gl g (i + 1) := by
 funext q
 unfold Mi
 rw [tJ h hg]
 by_cases e : q = g
 ·rw [if_pos e, if_pos e, if_pos rfl]; simp
 ·rw [if_neg e, if_neg e, if_neg e]
theorem A7 {f : aN} {gl : bb} {g i : Nat} {p : cS} (h : gl.Parts[i]? = some p) (hg : jd f p.Glyph = true) : (fun q => if q = p.Glyph then Ui f gl g i p.Glyph ++ [(g : Int)] else Ui f gl g i q) = Ui f gl g (i + 1) := by
 funext q
 unfold Ui
 rw [tJ h hg, List.filter_append, List.map_append]
 by_cases e : q = p.Glyph
 ·subst e; rw [if_pos rfl]; simp
 ·have e' : ¬ p.Glyph = q := fun h => e h.symm
  rw [if_neg e]; simp [e']
theorem Bt {f : aN} {gl : bb} {g i : Nat} {p : cS} (h : gl.Parts[i]? = some p) (hg : jd f p.Glyph = false) : Mi f gl g (i + 1) = Mi f gl g i := by unfold Mi; rw [xf h hg]
theorem Bv {f : aN} {gl : bb} {g i : Nat} {p : cS} (h : gl.Parts[i]? = some p) (hg : jd f p.Glyph = false) : Ui f gl g (i + 1) = Ui f gl g i := by unfold Ui; rw [xf h hg]
theorem A6 {f : aN} (hf : Few f) (gl : bb) (hgl : gl ∈ f.Glyphs) {g : Nat} (hg : g ≤ 1000) (i : Nat) (z : Int) : (Ui f gl g i z).length ≤ 1001000 := by
 unfold Ui
 have h1 := lk hf.prt z (bU g)
 have h2 := tI f gl i
 have h3 := List.length_filter_le (fun p => decide (p = z)) (rn f gl i)
 have h4 := hf.parts gl hgl
 rw [dq] at h1
 rw [List.length_append, Du]
 omega
theorem iR (f : aN) (g : Nat) : Rb f (g + 1) = if (prt f g).length = 0 then Rb f g ++ [(g : Int)] else Rb f g := by
 unfold Rb
 rw [oO, List.filter_append]
 by_cases h : (prt f g).length = 0
 ·rw [if_pos h, List.filter_cons_of_pos (by simpa using h)]; rfl
 ·rw [if_neg h, List.filter_cons_of_neg (by simpa using h)]; simp
theorem vu (f : aN) (g : Nat) : (Rb f g).length ≤ g := by
 unfold Rb
 refine Nat.le_trans (List.length_filter_le _ _) ?_
 rw [dq]
 exact Nat.le_refl _
theorem ku {a b : Nat × AB} {T T' t H R : AL} (h : T.Perm (t ++ T')) : (a :: b :: (H ++ (T ++ R))).Perm (t ++ (a :: b :: (H ++ (T' ++ R)))) := by
 have h1 : (a :: b :: (H ++ (T ++ R))).Perm (a :: b :: (H ++ (t ++ (T' ++ R)))) := by
  refine List.Perm.cons _ (List.Perm.cons _ (List.Perm.append_left _ ?_))
  rw [← List.append_assoc]
  exact h.append_right _
 refine h1.trans ?_
 have h2 : (a :: b :: (H ++ (t ++ (T' ++ R)))) = ((a :: b :: H) ++ t) ++ (T' ++ R) := by simp
 have h3 : t ++ (a :: b :: (H ++ (T' ++ R))) = (t ++ (a :: b :: H)) ++ (T' ++ R) := by simp
 rw [h2, h3]
 exact List.Perm.append_right _ List.perm_append_comm
theorem xh {rec : Loop} (h1 : rec.state = .ready) (h2 : rec.pending = none) : ({ ({ rec with state := .busy } : Loop) with state := .ready, pending := none } : Loop) = rec := by cases rec; simp_all
abbrev KI : TypeDesc := .int .i64
theorem xR (f : aN) : Mb f 0 = fun _ => 0 := by
 funext z
 unfold Mb
 rw [if_neg (by omega)]
abbrev KT := Int → Option (Nat × Nat)
abbrev VM := Value → Option AV
abbrev LX := VM × VM × KT × (Int → List Int)
theorem qS {a b c d e : Nat × AB} {T M : AL} : (d :: a :: b :: c :: (T ++ (M ++ [e]))).Perm (a :: b :: c :: d :: (T ++ (e :: M))) := by
 refine (List.perm_middle (l₁ := [a, b, c])).symm.trans ?_
 exact List.Perm.cons _ (List.Perm.cons _ (List.Perm.cons _ (List.Perm.cons _ (List.Perm.append_left T (List.perm_append_singleton e M)))))
def pa (bm bu p n : Nat) (kh : Option (Nat × List AV)) (R : List Int) (rest : AL) (x : LX) : AL := (bm, cg KI x.1) :: (bu, cg KI x.2.1) :: (hst p kh R ++ (jI 3 x.2.2.1 x.2.2.2 (bU n) ++ rest))
abbrev LS := Nat × List Nat × VM × VM × KT × Option (Nat × List AV)
def qL (dbs : List Nat) : AL := dbs.map fun b => (b, pT)
theorem ld {a b : Nat × AB} {H X : AL} : (a :: b :: (H ++ X)).Perm (H ++ (a :: b :: X)) := by
 have h1 : (a :: b :: (H ++ X)) = (a :: b :: H) ++ X := rfl
 have h2 : H ++ (a :: b :: X) = (H ++ [a, b]) ++ X := by simp
 rw [h1, h2]
 exact (List.perm_append_comm (l₁ := [a, b]) (l₂ := H)).append_right X
structure KS where
 T : List Int
 R : List Int
 M : Int → Int
 mm : VM
 kh : Option (Nat × List AV)
 kt : Option (Nat × Nat)
def Ck (bm bu p : Nat) (mu : VM) (X : AL) (x : KS) : AL := (bm, cg KI x.mm) :: (bu, cg KI mu) :: (hst p x.kh x.R ++ (tok x.kt 3 1 (aT x.T).length ++ X))
set_option maxHeartbeats 8000000 in
theorem yW (f : aN) (hf : Few f) : AC Tryz.prog 210 [cz f, .imm 1 (aT (bU f.Glyphs.length))] [] fun c _ => ∃ T, c = .imm 1 (aT T) ∧ fT f.Glyphs.length (prt f) T := by
 refine vH Tryz.func210 rfl Tryz.ntmps210 rfl fun B => ?_
 have hn := hf.n
 have hil : (aT (bU f.Glyphs.length)).length = f.Glyphs.length := by rw [aW, dq]
 generalize hN : f.Glyphs.length = n at *
 repeat' (first|refine a9 ?_|refine a4 ?_|refine a6 ?_|refine a7 ?_|refine a8 a5 rfl rfl ?_|refine aZ ?_|fail)
 refine eg KI fun bm => ?_
 repeat' (first|refine a9 ?_|refine a4 ?_|refine a6 ?_|refine a7 ?_|(apply aP; first|refine aa 5 a5 0 rfl rfl rfl rfl rfl rfl rfl rfl ?_|refine aa 5 a5 1 rfl rfl rfl rfl rfl rfl rfl rfl ?_|refine aa 5 a5 2 rfl rfl rfl rfl rfl rfl rfl rfl ?_|refine aa 6 a5 0 rfl rfl rfl rfl rfl rfl rfl rfl ?_|refine aa 6 a5 1 rfl rfl rfl rfl rfl rfl rfl rfl ?_|refine aa 6 a5 2 rfl rfl rfl rfl rfl rfl rfl rfl ?_|refine aa 9 a5 0 rfl rfl rfl rfl rfl rfl rfl rfl ?_|refine aa 9 a5 1 rfl rfl rfl rfl rfl rfl rfl rfl ?_|refine aa 9 a5 2 rfl rfl rfl rfl rfl rfl rfl rfl ?_|refine aa 10 a5 0 rfl rfl rfl rfl rfl rfl rfl rfl ?_|refine aa 10 a5 1 rfl rfl rfl rfl rfl rfl rfl rfl ?_|refine aa 10 a5 2 rfl rfl rfl rfl rfl rfl rfl rfl ?_|refine ad a5 0 rfl rfl rfl rfl rfl rfl rfl ?_|refine ad a5 1 rfl rfl rfl rfl rfl rfl rfl ?_|refine ad a5 2 rfl rfl rfl rfl rfl rfl rfl ?_|refine ad a5 3 rfl rfl rfl rfl rfl rfl rfl ?_|fail)|refine b4 a5 fun _=>?_|fail)
 refine eg KI fun bu => ?_
 repeat' (first|refine a9 ?_|refine a4 ?_|refine ak ?_|refine a6 ?_|refine a7 ?_|refine a8 a5 rfl rfl ?_|(apply aP; first|refine aa 5 a5 0 rfl rfl rfl rfl rfl rfl rfl rfl ?_|refine aa 5 a5 1 rfl rfl rfl rfl rfl rfl rfl rfl ?_|refine aa 5 a5 2 rfl rfl rfl rfl rfl rfl rfl rfl ?_|refine aa 6 a5 0 rfl rfl rfl rfl rfl rfl rfl rfl ?_|refine aa 6 a5 1 rfl rfl rfl rfl rfl rfl rfl rfl ?_|refine aa 6 a5 2 rfl rfl rfl rfl rfl rfl rfl rfl ?_|refine aa 9 a5 0 rfl rfl rfl rfl rfl rfl rfl rfl ?_|refine aa 9 a5 1 rfl rfl rfl rfl rfl rfl rfl rfl ?_|refine aa 9 a5 2 rfl rfl rfl rfl rfl rfl rfl rfl ?_|refine aa 10 a5 0 rfl rfl rfl rfl rfl rfl rfl rfl ?_|refine aa 10 a5 1 rfl rfl rfl rfl rfl rfl rfl rfl ?_|refine aa 10 a5 2 rfl rfl rfl rfl rfl rfl rfl rfl ?_|refine ad a5 0 rfl rfl rfl rfl rfl rfl rfl ?_|refine ad a5 1 rfl rfl rfl rfl rfl rfl rfl ?_|refine ad a5 2 rfl rfl rfl rfl rfl rfl rfl ?_|refine ad a5 3 rfl rfl rfl rfl rfl rfl rfl ?_|fail)|refine b4 a5 fun _=>?_|fail)
 rename_i p
 refine vT [2, 5, 6, 7, 17, 18] (α := LS) (fun x => wT x.2.1) (fun x => [(19, aA x.1)]) (fun x => x.1 ≤ n ∧ kK x.2.2.1 (Mb f x.1) ∧ mq x.2.2.2.1 x.2.2.2.2.1 (bP (prt f) (bU x.1)) ∧ lp x.2.2.2.2.2 (Rb f x.1)) (fun x => pa bm bu p n x.2.2.2.2.2 (Rb f x.1) (qL x.2.1) (x.2.2.1, x.2.2.2.1, x.2.2.2.2.1, bP (prt f) (bU x.1))) (fun x => n - x.1) (0, [], (fun _ => none), (fun _ => none), (fun _ => none), none) rfl ⟨rfl, trivial⟩ rfl ⟨Nat.zero_le _, ?_, ?_, rfl⟩ (fun σ w h => ?_) ?_
 ·intro z; exact .inl ⟨rfl, by rw [xR]⟩
 ·intro z; exact .inl ⟨rfl, rfl, rfl⟩
 ·have h1 := cm.perm (L := [(p, .box [.sc (.slice none 0 0)] 339), (bu, cg KI fun _ => none), (bm, cg KI fun _ => none)]) h (List.reverse_perm _).symm
  have h2 : pa bm bu p n none (Rb f 0) (qL []) ((fun _ => none), (fun _ => none), (fun _ => none), bP (prt f) (bU 0)) = [(bm, cg KI fun _ => none), (bu, cg KI fun _ => none), (p, .box [.sc (.slice none 0 0)] 339)] := by
   unfold pa
   rw [vl]
   rfl
  show cm B σ (pa bm bu p n none (Rb f 0) (qL []) ((fun _ => none), (fun _ => none), (fun _ => none), bP (prt f) (bU 0))) w
  rw [h2]
  exact h1
 rintro ⟨g, dbs, mm, mu, K, kh⟩ ⟨hg, hM, hU, hR⟩
 dsimp only at hg hM hU hR ⊢
 try dsimp only [Ds, Dr, Dq, Dn]
 repeat' (first|refine a9 ?_|refine a4 ?_|refine a6 ?_|refine a7 ?_|refine a8 a5 rfl rfl ?_)
 rw [hil]
 refine ar rfl (fun h => ?_) (fun h => ?_)
 ·have hgl : g < n := by have := Dz h; omega
  obtain ⟨gl, hgg⟩ : ∃ z, f.Glyphs[g]? = some z := ⟨_, Bn (by omega)⟩
  have hgm := Dw hgg
  have hgi := bJ (gz hgl)
  clear h
  unfold pa
  dsimp only
  repeat' (first|refine a9 ?_|refine a4 ?_|refine ak ?_|refine ai ?_|refine a6 ?_|refine a7 ?_|refine a8 a5 rfl rfl ?_|(apply aF; first|refine aE a5 ?_|refine aB a5 ?_)|(apply aP; first|refine aa 5 a5 0 rfl rfl rfl rfl rfl rfl rfl rfl ?_|refine aa 5 a5 1 rfl rfl rfl rfl rfl rfl rfl rfl ?_|refine aa 5 a5 2 rfl rfl rfl rfl rfl rfl rfl rfl ?_|refine aa 6 a5 0 rfl rfl rfl rfl rfl rfl rfl rfl ?_|refine aa 6 a5 1 rfl rfl rfl rfl rfl rfl rfl rfl ?_|refine aa 6 a5 2 rfl rfl rfl rfl rfl rfl rfl rfl ?_|refine aa 9 a5 0 rfl rfl rfl rfl rfl rfl rfl rfl ?_|refine aa 9 a5 1 rfl rfl rfl rfl rfl rfl rfl rfl ?_|refine aa 9 a5 2 rfl rfl rfl rfl rfl rfl rfl rfl ?_|refine aa 10 a5 0 rfl rfl rfl rfl rfl rfl rfl rfl ?_|refine aa 10 a5 1 rfl rfl rfl rfl rfl rfl rfl rfl ?_|refine aa 10 a5 2 rfl rfl rfl rfl rfl rfl rfl rfl ?_|refine ad a5 0 rfl rfl rfl rfl rfl rfl rfl ?_|refine ad a5 1 rfl rfl rfl rfl rfl rfl rfl ?_|refine ad a5 2 rfl rfl rfl rfl rfl rfl rfl ?_|refine ad a5 3 rfl rfl rfl rfl rfl rfl rfl ?_|fail)|refine b4 a5 fun _=>?_|(apply bc;refine b7 ?_)|fail)
  refine mf (fr' := [(2, .iptr (bV f)), (5, .iptr [.sc (.map (some bm))]), (6, .iptr [.sc (.map (some bu))]), (7, .sc (.pointer (some ⟨p, 0, none⟩))), (9, .iptr [aA g]), (17, .imm 1 (aT (bU n))), (18, aA n), (19, aA g), (25, .fn 287 [.iptr (bV f), .iptr [aA g]])]) (L' := pa bm bu p n kh (Rb f g) (qL dbs) (mm, mu, K, Ui f gl g 0)) ⟨rfl, rfl, rfl, rfl, rfl, rfl, rfl, rfl, rfl, trivial⟩ (fun _ _ h => by rw [sS]; exact h) ?_
  refine qf (ps := [26]) rfl fun σ0 l db rec hrec => ?_
  have hy : ∀ (i : Nat) (x : LX) (q : cS), (kK x.1 (Mi f gl g i) ∧ mq x.2.1 x.2.2.1 x.2.2.2 ∧ x.2.2.2 = Ui f gl g i) → gl.Parts[i]? = some q → jd f q.Glyph = true → AY Tryz.prog σ0 l [.agg (eZ q)] (pa bm bu p n kh (Rb f g) (qL dbs) x ++ [(db, pT)] ++ [(l, kG rec)]) fun c L => c = dx true ∧ ∃ x' : LX, (kK x'.1 (Mi f gl g (i + 1)) ∧ mq x'.2.1 x'.2.2.1 x'.2.2.2 ∧ x'.2.2.2 = Ui f gl g (i + 1)) ∧ L = pa bm bu p n kh (Rb f g) (qL dbs) x' ++ [(db, pT)] ++ [(l, kG rec)] := by
   rintro i ⟨mm, mu, K, U⟩ q ⟨hM, hU, rfl⟩ hq hG
   dsimp only at hM hU ⊢
   refine zN hrec rfl rfl fun B1 hB1 => ?_
   repeat' (first|refine a4 ?_|refine a7 ?_|(apply aP; first|refine aa 5 a5 0 rfl rfl rfl rfl rfl rfl rfl rfl ?_|refine aa 5 a5 1 rfl rfl rfl rfl rfl rfl rfl rfl ?_|refine aa 5 a5 2 rfl rfl rfl rfl rfl rfl rfl rfl ?_|refine aa 6 a5 0 rfl rfl rfl rfl rfl rfl rfl rfl ?_|refine aa 6 a5 1 rfl rfl rfl rfl rfl rfl rfl rfl ?_|refine aa 6 a5 2 rfl rfl rfl rfl rfl rfl rfl rfl ?_|refine aa 9 a5 0 rfl rfl rfl rfl rfl rfl rfl rfl ?_|refine aa 9 a5 1 rfl rfl rfl rfl rfl rfl rfl rfl ?_|refine aa 9 a5 2 rfl rfl rfl rfl rfl rfl rfl rfl ?_|refine aa 10 a5 0 rfl rfl rfl rfl rfl rfl rfl rfl ?_|refine aa 10 a5 1 rfl rfl rfl rfl rfl rfl rfl rfl ?_|refine aa 10 a5 2 rfl rfl rfl rfl rfl rfl rfl rfl ?_|refine ad a5 0 rfl rfl rfl rfl rfl rfl rfl ?_|refine ad a5 1 rfl rfl rfl rfl rfl rfl rfl ?_|refine ad a5 2 rfl rfl rfl rfl rfl rfl rfl ?_|refine ad a5 3 rfl rfl rfl rfl rfl rfl rfl ?_|fail)|refine b4 a5 fun _=>?_|fail)
   refine qg hrec.state ?_
   unfold pa
   dsimp only
   have hqr := ml.1 hG
   have hcnt := tI f gl i
   have hpl := hf.parts gl hgm
   have hMg : Mi f gl g i g = (rn f gl i).length := by unfold Mi; rw [if_pos rfl]
   simp only [Ds, List.append_assoc]
   have hUl := A6 hf gl hgm (g := g) (by omega) i q.Glyph
   have hUi : (aT (Ui f gl g i q.Glyph)).length = (Ui f gl g i q.Glyph).length := aW _
   have hz : q.Glyph ∈ bU n := dH.2 (by omega)
   repeat' (first|refine a9 ?_|refine a4 ?_|refine ak ?_|refine a8 a5 rfl rfl ?_)
   refine gp 0 (.int .i64 0) (aA (Mi f gl g i g)) Tryz.underlying257 Tryz.underlying3 rfl rfl rfl rfl (by kernel_rfl) (hM.at g) rfl ?_
   repeat' (first|(apply aU; refine aS ?_)|fail)
   refine d5 0 (lc mm (.int .i64 g) (aA (Mi f gl g i g + 1))) Tryz.underlying257 Tryz.underlying3 rfl rfl rfl rfl rfl gm (fun q h => fI q h) ?_
   repeat' (first|refine a6 ?_|refine a7 ?_)
   refine bk 10 [(0, .v), (1, .v), (2, .v), (3, .v), (4, .v), (5, .v), (7, .v), (8, .v), (6, .e), (9, .e)] none ?_ trivial rfl (by kernel_rfl) (by kernel_rfl) (by kernel_rfl) c9 (by kernel_rfl) rfl
   repeat' (first|refine aD ?_|refine bi a5 ?_|refine lF a5 ?_|fail)
   refine um 1 (.slice none 0 0) (.vec (K q.Glyph) 1 (aT (Ui f gl g i q.Glyph))) Tryz.underlying338 Tryz.underlying3 rfl rfl rfl rfl (by kernel_rfl) (hU.at q.Glyph) trivial ?_
   repeat' (first|refine aD ?_|fail)
   refine jV a5 _ rfl rfl rfl rfl (ku (li hz)) (by rw [hUi]; show _ + 1 ≤ _; omega) (by rw [hUi]; show (_ + 1) * 8 ≤ _; omega) trivial fun k' => ?_
   repeat' (first|fail)
   refine bz [2, 5, 6, 7, 9, 17, 18, 19, 26, 31, 33, 40] rfl rfl ?_
   have hput := xI (e := 3) (K := K) (U := Ui f gl g i) (k := k') (l := Ui f gl g i q.Glyph ++ [(g : Int)]) (gY n) hz
   rw [show aT (Ui f gl g i q.Glyph) ++ [[AV.sc (.int .i64 (g : Int))]] = aT (Ui f gl g i q.Glyph ++ [(g : Int)]) from qH _ [(g : Int)]]
   refine aR (aY (ku hput.symm).symm) ?_
   repeat' (first|fail)
   refine d5 1 (lc mu (.int .i64 q.Glyph) (.vec k' 1 (aT (Ui f gl g i q.Glyph ++ [(g : Int)])))) Tryz.underlying338 Tryz.underlying3 rfl rfl rfl rfl rfl gm (fun q h => fI q h) ?_
   repeat' (first|refine aH ?_|refine a7 ?_)
   refine bB (L' := pa bm bu p n kh (Rb f g) (qL dbs) (lc mm (.int .i64 g) (aA (Mi f gl g i g + 1)), lc mu (.int .i64 q.Glyph) (.vec k' 1 (aT (Ui f gl g i q.Glyph ++ [(g : Int)]))), (fun y => if y = q.Glyph then k' else K y), fun y => if y = q.Glyph then Ui f gl g i q.Glyph ++ [(g : Int)] else Ui f gl g i y) ++ [(db, pT)] ++ [(l, kG { rec with state := .busy })]) (aY (List.Perm.of_eq (by simp only [pa, eQ, Ds, List.append_assoc, Dr]))) (AE ?_)
   rw [xh hrec.state hrec.pending]
   refine ⟨rfl, (lc mm (.int .i64 g) (aA (Mi f gl g i g + 1)), lc mu (.int .i64 q.Glyph) (.vec k' 1 (aT (Ui f gl g i q.Glyph ++ [(g : Int)]))), (fun y => if y = q.Glyph then k' else K y), fun y => if y = q.Glyph then Ui f gl g i q.Glyph ++ [(g : Int)] else Ui f gl g i y), ⟨?_, hU.put q.Glyph k' _, A7 hq hG⟩, ?_⟩
   ·have := hM.put g (Mi f gl g i g + 1)
    rw [A4 hq hG] at this
    exact this
   ·simp only [pa, Ds, List.append_assoc, Dr]
  have hsk : ∀ (i : Nat) (x : LX) (q : cS), (kK x.1 (Mi f gl g i) ∧ mq x.2.1 x.2.2.1 x.2.2.2 ∧ x.2.2.2 = Ui f gl g i) → gl.Parts[i]? = some q → jd f q.Glyph = false → (kK x.1 (Mi f gl g (i + 1)) ∧ mq x.2.1 x.2.2.1 x.2.2.2 ∧ x.2.2.2 = Ui f gl g (i + 1)) := by
   intro i x q h hq hG
   rw [Bt hq hG, Bv hq hG]
   exact h
  have hit := z4 (σ0 := σ0) (l := l) f g gl hgg (fun x => pa bm bu p n kh (Rb f g) (qL dbs) x ++ [(db, pT)] ++ [(l, kG rec)]) (fun i x => kK x.1 (Mi f gl g i) ∧ mq x.2.1 x.2.2.1 x.2.2.2 ∧ x.2.2.2 = Ui f gl g i) hy hsk (mm, mu, K, Ui f gl g 0) ⟨by rw [xT]; exact hM, by rw [sS]; exact hU, rfl⟩ (by have := hf.parts gl hgm; omega)
  refine ⟨_, hit, ?_⟩
  rintro c L' ⟨⟨mm', mu', K', U'⟩, ⟨hM', hU', rfl⟩, rfl⟩
  dsimp only at hM' hU' ⊢
  refine ⟨rec, _, Do _, (by rw [hrec.state]; intro h; cases h), ?_⟩
  rw [hrec.pending]
  show AX _ _ _ _ _ _ _ _
  rw [A3 hgg] at hM'
  rw [A5 hgg] at hU' ⊢
  clear hy hsk hit hM hU
  unfold pa
  dsimp only
  simp only [Ds, List.append_assoc, Dr]
  repeat' (first|refine a9 ?_|refine a4 ?_|refine a6 ?_|refine aH ?_|refine a8 a5 rfl rfl ?_)
  refine gp 0 (.int .i64 0) (aA (Mb f (g + 1) g)) Tryz.underlying257 Tryz.underlying3 rfl rfl rfl rfl (by kernel_rfl) (hM'.at g) rfl ?_
  rw [show Mb f (g + 1) g = (prt f g).length by unfold Mb; rw [if_pos (by omega)]]
  repeat' (first|refine a6 ?_|refine a7 ?_|refine a8 a5 rfl rfl ?_)
  refine ar rfl (fun h => ?_) (fun h => ?_)
  ·have h0 : (prt f g).length = 0 := by have := Dz h; omega
   cases kh with
   | none =>
    have hR0 : Rb f g = [] := hR
    unfold hst mU vr
    dsimp only
    simp only [Ds, Dr]
    repeat' (first|refine a4 ?_|refine a8 a5 rfl rfl ?_|(apply bE; first|refine aj a5 0 rfl rfl rfl rfl rfl ?_|refine aj a5 1 rfl rfl rfl rfl rfl ?_|refine aj a5 2 rfl rfl rfl rfl rfl ?_|refine aj a5 3 rfl rfl rfl rfl rfl ?_|refine ay a5 0 rfl rfl rfl rfl rfl ?_|refine ay a5 1 rfl rfl rfl rfl rfl ?_|refine ay a5 2 rfl rfl rfl rfl rfl ?_|refine aj a5 1 rfl rfl rfl (by assumption) rfl ?_|refine aj a5 0 rfl rfl rfl (by assumption) rfl ?_|fail)|refine ce a5 ?_|fail)
    refine uN a5 rfl rfl rfl rfl rfl rfl rfl fun b' cs' h1 h2 => ?_
    repeat' (first|refine a4 ?_|refine a6 ?_|refine aH ?_|refine a7 ?_|refine a8 a5 rfl rfl ?_|(apply aU; refine aS ?_)|(apply aP; first|refine aa 5 a5 0 rfl rfl rfl rfl rfl rfl rfl rfl ?_|refine aa 5 a5 1 rfl rfl rfl rfl rfl rfl rfl rfl ?_|refine aa 5 a5 2 rfl rfl rfl rfl rfl rfl rfl rfl ?_|refine aa 6 a5 0 rfl rfl rfl rfl rfl rfl rfl rfl ?_|refine aa 6 a5 1 rfl rfl rfl rfl rfl rfl rfl rfl ?_|refine aa 6 a5 2 rfl rfl rfl rfl rfl rfl rfl rfl ?_|refine aa 9 a5 0 rfl rfl rfl rfl rfl rfl rfl rfl ?_|refine aa 9 a5 1 rfl rfl rfl rfl rfl rfl rfl rfl ?_|refine aa 9 a5 2 rfl rfl rfl rfl rfl rfl rfl rfl ?_|refine aa 10 a5 0 rfl rfl rfl rfl rfl rfl rfl rfl ?_|refine aa 10 a5 1 rfl rfl rfl rfl rfl rfl rfl rfl ?_|refine aa 10 a5 2 rfl rfl rfl rfl rfl rfl rfl rfl ?_|refine ad a5 0 rfl rfl rfl rfl rfl rfl rfl ?_|refine ad a5 1 rfl rfl rfl rfl rfl rfl rfl ?_|refine ad a5 2 rfl rfl rfl rfl rfl rfl rfl ?_|refine ad a5 3 rfl rfl rfl rfl rfl rfl rfl ?_|fail))
    refine kP (g + 1, db :: dbs, mm', mu', K', some (b', cs')) rfl ⟨by rw [Dv]; rfl, trivial⟩ rfl ⟨by dsimp only; omega, hM', hU', ?_⟩ (by dsimp only; omega) (fun σ w h => ?_)
    ·rw [iR, if_pos h0, hR0]
     exact ⟨h1, h2, h2⟩
    ·have h := cm.perm (L := (b', .box cs' 3) :: (bm, cg KI mm') :: (bu, cg KI mu') :: (p, .box [.sc (.slice (some ⟨b', 0, none⟩) 1 cs'.length)] 339) :: (jI 3 K' (bP (prt f) (bU (g + 1))) (bU n) ++ (qL dbs ++ [(db, pT)]))) h qS
     show cm B σ (pa bm bu p n (some (b', cs')) (Rb f (g + 1)) (qL (db :: dbs)) (mm', mu', K', bP (prt f) (bU (g + 1)))) w
     rw [iR, if_pos h0, hR0]
     exact h
   | some kk =>
    obtain ⟨b, cs⟩ := kk
    rw [fF]
    simp only [Ds, Dr]
    repeat' (first|refine a4 ?_|refine a8 a5 rfl rfl ?_|(apply bE; first|refine aj a5 0 rfl rfl rfl rfl rfl ?_|refine aj a5 1 rfl rfl rfl rfl rfl ?_|refine aj a5 2 rfl rfl rfl rfl rfl ?_|refine aj a5 3 rfl rfl rfl rfl rfl ?_|refine ay a5 0 rfl rfl rfl rfl rfl ?_|refine ay a5 1 rfl rfl rfl rfl rfl ?_|refine ay a5 2 rfl rfl rfl rfl rfl ?_|refine aj a5 1 rfl rfl rfl (by assumption) rfl ?_|refine aj a5 0 rfl rfl rfl (by assumption) rfl ?_|fail)|refine ce a5 ?_|fail)
    have hRl := vu f g
    refine uM a5 3 rfl rfl rfl rfl rfl rfl rfl hR.2.1 (by omega) (by omega) rfl fun b' cs' h1 h2 => ?_
    repeat' (first|refine a4 ?_|refine a6 ?_|refine aH ?_|refine a7 ?_|refine a8 a5 rfl rfl ?_|(apply aU; refine aS ?_)|(apply aP; first|refine aa 5 a5 0 rfl rfl rfl rfl rfl rfl rfl rfl ?_|refine aa 5 a5 1 rfl rfl rfl rfl rfl rfl rfl rfl ?_|refine aa 5 a5 2 rfl rfl rfl rfl rfl rfl rfl rfl ?_|refine aa 6 a5 0 rfl rfl rfl rfl rfl rfl rfl rfl ?_|refine aa 6 a5 1 rfl rfl rfl rfl rfl rfl rfl rfl ?_|refine aa 6 a5 2 rfl rfl rfl rfl rfl rfl rfl rfl ?_|refine aa 9 a5 0 rfl rfl rfl rfl rfl rfl rfl rfl ?_|refine aa 9 a5 1 rfl rfl rfl rfl rfl rfl rfl rfl ?_|refine aa 9 a5 2 rfl rfl rfl rfl rfl rfl rfl rfl ?_|refine aa 10 a5 0 rfl rfl rfl rfl rfl rfl rfl rfl ?_|refine aa 10 a5 1 rfl rfl rfl rfl rfl rfl rfl rfl ?_|refine aa 10 a5 2 rfl rfl rfl rfl rfl rfl rfl rfl ?_|refine ad a5 0 rfl rfl rfl rfl rfl rfl rfl ?_|refine ad a5 1 rfl rfl rfl rfl rfl rfl rfl ?_|refine ad a5 2 rfl rfl rfl rfl rfl rfl rfl ?_|refine ad a5 3 rfl rfl rfl rfl rfl rfl rfl ?_|fail))
    refine kP (g + 1, db :: dbs, mm', mu', K', some (b', cs')) rfl ⟨by rw [Dv]; rfl, trivial⟩ rfl ⟨by dsimp only; omega, hM', hU', ?_⟩ (by dsimp only; omega) (fun σ w h => ?_)
    ·rw [iR, if_pos h0]
     refine ⟨?_, by rw [List.length_append]; exact h2, by omega⟩
     rw [List.length_append, List.map_append, ← hR.1]
     exact h1
    ·have h := cm.perm (L := (b', .box cs' 3) :: (bm, cg KI mm') :: (bu, cg KI mu') :: (p, .box [.sc (.slice (some ⟨b', 0, none⟩) ((Rb f g).length + 1) cs'.length)] 339) :: (jI 3 K' (bP (prt f) (bU (g + 1))) (bU n) ++ (qL dbs ++ [(db, pT)]))) h qS
     show cm B σ (pa bm bu p n (some (b', cs')) (Rb f (g + 1)) (qL (db :: dbs)) (mm', mu', K', bP (prt f) (bU (g + 1)))) w
     rw [iR, if_pos h0]
     unfold pa
     rw [fF, List.length_append]
     exact h
  ·have h0 : ¬ (prt f g).length = 0 := by have := Dy h; omega
   repeat' (first|refine a4 ?_|refine ai ?_|refine a6 ?_|refine aH ?_|refine a7 ?_|refine a8 a5 rfl rfl ?_|(apply aU; refine aS ?_)|fail)
   refine kP (g + 1, db :: dbs, mm', mu', K', kh) rfl ⟨by rw [Dv]; rfl, trivial⟩ rfl ⟨by dsimp only; omega, hM', hU', by rw [iR, if_neg h0]; exact hR⟩ (by dsimp only; omega) (fun σ w h => ?_)
   show cm B σ (pa bm bu p n kh (Rb f (g + 1)) (qL (db :: dbs)) (mm', mu', K', bP (prt f) (bU (g + 1)))) w
   rw [iR, if_neg h0]
   refine h.perm (List.Perm.cons _ (List.Perm.cons _ (List.Perm.append_left _ (List.Perm.append_left _ ?_))))
   exact List.perm_append_singleton _ _
 have hgn : g = n := by have := Dy h; omega
 subst hgn
 clear h
 have hst0 : kJ g (prt f) [] (Rb f g) (Mb f g) := by
  have h1 := kJ.start (n := g) (pr := prt f) (M := Mb f g) fun z h0 h1 => by unfold Mb; rw [if_pos ⟨h0, h1⟩]
  have h2 : (bU g).filter (fun z => decide (Mb f g z = 0)) = Rb f g := by
   unfold Rb
   refine List.filter_congr fun z hz => ?_
   unfold Mb
   rw [if_pos (dH.1 hz)]
   exact decide_eq_decide.2 (by omega)
  rw [h2] at h1
  exact h1
 have hRl := vu f g
 unfold pa
 dsimp only
 repeat' (first|refine a9 ?_|refine a4 ?_|refine aM ?_|refine a6 ?_|refine au ?_|refine aw ?_|refine nH ?_)
 refine ki (by kernel_rfl) rfl rfl ?_
 repeat' (first|fail)
 refine aO (hst p kh (Rb f g)) _ (wI p kh (Rb f g) hR (by omega)) rfl rfl ld rfl fun c L1 ⟨kh', R', hL, hR', hpm⟩ => ?_
 subst hL
 refine aR (aY ld.symm) ?_
 repeat' (first|refine a9 ?_|refine a4 ?_|refine ak ?_|refine a6 ?_|refine a7 ?_|refine a8 a5 rfl rfl ?_)
 refine cY (bT (t := 11) (c' := .vec none 1 (aT [])) rfl fun σ v h => eF 1 h) ?_
 refine aL [5, 6, 7] (α := KS) (fun x => [(11, .vec x.kt 1 (aT x.T))]) (fun x => kJ g (prt f) x.T x.R x.M ∧ kK x.mm x.M ∧ lp x.kh x.R) (fun x => Ck bm bu p mu (jI 3 K (bP (prt f) (bU g)) (bU g) ++ qL dbs) x) (fun x => g - x.T.length) ⟨[], R', Mb f g, mm, kh', none⟩ rfl ⟨rfl, trivial⟩ ⟨hst0.perm hpm, hM, hR'⟩ (fun σ w h => ?_) ?_
 ·exact h
 rintro ⟨T, R, M, mm, kh, kt⟩ ⟨hK, hM, hR⟩
 dsimp only at hK hM hR ⊢
 unfold Ck
 dsimp only
 try dsimp only [Ds, Dr, Dq, Dn]
 cases kh with
 | none =>
  have hR0 : R = [] := hR
  subst hR0
  unfold hst mU vr
  dsimp only
  repeat' (first|refine a9 ?_|refine a4 ?_|refine ah ?_|refine aM ?_|refine a6 ?_|refine au ?_|refine aw ?_|refine av ?_|refine a7 ?_|refine a8 a5 rfl rfl ?_|(apply bE; first|refine aj a5 0 rfl rfl rfl rfl rfl ?_|refine aj a5 1 rfl rfl rfl rfl rfl ?_|refine aj a5 2 rfl rfl rfl rfl rfl ?_|refine aj a5 3 rfl rfl rfl rfl rfl ?_|refine ay a5 0 rfl rfl rfl rfl rfl ?_|refine ay a5 1 rfl rfl rfl rfl rfl ?_|refine ay a5 2 rfl rfl rfl rfl rfl ?_|refine aj a5 1 rfl rfl rfl (by assumption) rfl ?_|refine aj a5 0 rfl rfl rfl (by assumption) rfl ?_|fail)|refine bC rfl ?_)
  refine bB (bT (t := 4) (c' := .imm 1 (aT T)) rfl fun σ v h => VR.im h) ?_
  refine dk (L' := qL dbs) (((((List.sublist_append_right _ _).trans (List.sublist_append_right _ _)).trans (List.sublist_append_right _ _)).cons _).cons _) ?_
  exact mh (cs := [.imm 1 (aT T)]) dbs [] rfl (Do _) ⟨rfl, trivial⟩ ⟨T, rfl, hK.fin⟩
 | some kk =>
  obtain ⟨b, cs⟩ := kk
  rw [fF]
  have hTR := dR hK.nodup hK.dom
  rw [List.length_append] at hTR
  repeat' (first|refine a9 ?_|refine a4 ?_|refine a6 ?_|refine a7 ?_|refine a8 a5 rfl rfl ?_|(apply bE; first|refine aj a5 0 rfl rfl rfl rfl rfl ?_|refine aj a5 1 rfl rfl rfl rfl rfl ?_|refine aj a5 2 rfl rfl rfl rfl rfl ?_|refine aj a5 3 rfl rfl rfl rfl rfl ?_|refine ay a5 0 rfl rfl rfl rfl rfl ?_|refine ay a5 1 rfl rfl rfl rfl rfl ?_|refine ay a5 2 rfl rfl rfl rfl rfl ?_|refine aj a5 1 rfl rfl rfl (by assumption) rfl ?_|refine aj a5 0 rfl rfl rfl (by assumption) rfl ?_|fail)|fail)
  refine ar rfl (fun h => ?_) (fun h => ?_)
  ·have h0 : 0 < R.length := by have := Dz h; omega
   clear h
   repeat' (first|refine a9 ?_|refine a4 ?_|refine ak ?_|refine ai ?_|refine a6 ?_)
   refine ki (by kernel_rfl) rfl rfl ?_
   repeat' (first|fail)
   refine aO (hst p (some (b, cs)) R) _ (yS p b cs R hR h0 (by omega)) rfl rfl ld rfl fun c L1 ⟨z, cs', R', hc, hL, hR', hpm⟩ => ?_
   subst hc; subst hL
   refine aR (aY ld.symm) ?_
   repeat' (first|fail)
   refine wZ (by kernel_rfl) rfl rfl ?_
   repeat' (first|refine a9 ?_|refine a4 ?_|refine a6 ?_|refine a7 ?_|refine a8 a5 rfl rfl ?_|refine ce a5 ?_|fail)
   have hKm := (hK.perm hpm).pop
   have hz := hKm.dom z (by simp)
   have hTz : z ∉ T := fun hm => by
    have := hKm.nodup
    rw [List.append_assoc, List.nodup_append] at this
    exact this.2.2 z hm z (by simp) rfl
   have hTl := dR (List.nodup_append.1 hKm.nodup).1 (fun y hy => hKm.dom y (List.mem_append_left _ hy))
   rw [List.length_append] at hTl
   have hTi := aW T
   have hall : ∀ q : Int, 0 ≤ q → q < g → (bP (prt f) (bU g) z).count q = (prt f q).count z := fun q q0 q1 => by rw [jl _ _ _ _ (gY g), if_pos (dH.2 ⟨q0, q1⟩)]
   have hUl := lk hf.prt z (bU g)
   rw [dq] at hUl
   refine cj a5 _ rfl rfl rfl rfl (ku (T := tok kt 3 1 (aT T).length) (T' := []) (by rw [List.append_nil])) (by rw [hTi]; show _ + 1 ≤ _; simp at hTl; omega) (by rw [hTi]; show (_ + 1) * 8 ≤ _; simp at hTl; omega) rfl fun k' => ?_
   rw [show aT T ++ [[AV.sc (.int .i64 z)]] = aT (T ++ [z]) from qH T [z]]
   refine aR (aY (ku (T := tok k' 3 1 (aT (T ++ [z])).length) (T' := []) (by rw [List.append_nil])).symm) ?_
   repeat' (first|refine a9 ?_|refine a4 ?_|refine a6 ?_|refine a7 ?_|refine a8 a5 rfl rfl ?_)
   refine gp 1 (.slice none 0 0) (.vec (K z) 1 (aT (bP (prt f) (bU g) z))) Tryz.underlying338 Tryz.underlying3 rfl rfl rfl rfl (by kernel_rfl) (hU.at z) rfl ?_
   repeat' (first|refine ak ?_|refine a6 ?_|refine a7 ?_|refine a8 a5 rfl rfl ?_)
   have hUi := aW (bP (prt f) (bU g) z)
   refine aL [5, 6, 7, 11, 64, 65] (α := Nat × KS) (fun x => [(66, aA x.1)]) (fun x => x.2.T = T ++ [z] ∧ x.2.kt = k' ∧ x.1 ≤ (bP (prt f) (bU g) z).length ∧ nF g (prt f) T z ((bP (prt f) (bU g) z).take x.1) x.2.R x.2.M ∧ kK x.2.mm x.2.M ∧ lp x.2.kh x.2.R) (fun x => Ck bm bu p mu (jI 3 K (bP (prt f) (bU g)) (bU g) ++ qL dbs) x.2) (fun x => (bP (prt f) (bU g) z).length - x.1) (0, ⟨T ++ [z], R', M, mm, some (b, cs'), k'⟩) rfl ⟨rfl, trivial⟩ ⟨rfl, rfl, Nat.zero_le _, hKm, hM, hR'⟩ (fun σ w h => h) ?_
   clear hM hR hK hR' hKm hpm
   rintro ⟨j, ⟨T', R, M, mm, kh, kt'⟩⟩ ⟨hT', hk', hj, hK, hM, hR⟩
   dsimp only at hT' hk' hj hK hM hR ⊢
   subst hT'; subst hk'
   unfold Ck
   dsimp only
   try dsimp only [Ds, Dr, Dq, Dn]
   repeat' (first|refine a9 ?_|refine a4 ?_|refine a6 ?_|refine a7 ?_|refine a8 a5 rfl rfl ?_)
   refine ar rfl (fun h => ?_) (fun h => ?_)
   ·have hjl : j < (bP (prt f) (bU g) z).length := by have := Dz h; rw [hUi] at this; omega
    obtain ⟨u, hu⟩ : ∃ u, (bP (prt f) (bU g) z)[j]? = some u := ⟨_, Bn hjl⟩
    have hug := bJ hu
    have hur := dH.1 (vp (Dw hu))
    obtain ⟨hpos, hK'⟩ := hK.step hall hTz hu hur.1 hur.2
    have hmu := hK.miss u hur.1 hur.2
    have hml := wX (prt f) T u
    have hpl := hf.prt u
    have hRl2 := dR hK.nodup hK.dom
    rw [List.length_append, List.length_append] at hRl2
    clear h
    repeat' (first|refine a9 ?_|refine a4 ?_|refine ak ?_|refine ai ?_|refine a6 ?_|refine a7 ?_|refine a8 a5 rfl rfl ?_|(apply aF; first|refine aE a5 ?_|refine aB a5 ?_)|fail)
    refine gp 0 (.int .i64 0) (aA (M u)) Tryz.underlying257 Tryz.underlying3 rfl rfl rfl rfl (by kernel_rfl) (hM.at u) rfl ?_
    repeat' (first|(apply aU; refine aS ?_)|fail)
    refine d5 0 (lc mm (.int .i64 u) (aA (M u - 1))) Tryz.underlying257 Tryz.underlying3 rfl rfl rfl rfl rfl gm (fun q h => fI q h) ?_
    repeat' (first|refine a9 ?_|refine a4 ?_|refine a6 ?_|refine a7 ?_|refine a8 a5 rfl rfl ?_)
    refine gp 0 (.int .i64 0) (aA (M u - 1)) Tryz.underlying257 Tryz.underlying3 rfl rfl rfl rfl (by kernel_rfl) (fun σ v h => ?_) rfl ?_
    ·have := (hM.put u (M u - 1)).at u σ v h
     simpa using this
    repeat' (first|refine a6 ?_|refine a7 ?_|refine a8 a5 rfl rfl ?_)
    refine ar rfl (fun h => ?_) (fun h => ?_)
    ·have h1 := Dz h
     rw [if_pos h1] at hK'
     repeat' (first|refine a4 ?_)
     refine ki (by kernel_rfl) rfl rfl ?_
     repeat' (first|refine a8 a5 rfl rfl ?_)
     refine ki (by kernel_rfl) rfl rfl ?_
     repeat' (first|fail)
     refine aO (hst p kh R) _ (wJ p kh R u hR (by omega)) rfl rfl ld rfl fun c L1 ⟨b2, cs2, R2, hL, hR2, hpm⟩ => ?_
     subst hL
     refine aR (aY ld.symm) ?_
     repeat' (first|refine a4 ?_|refine a6 ?_|refine aH ?_|refine a7 ?_|refine a8 a5 rfl rfl ?_|(apply aU; refine aS ?_)|fail)
     exact az (j + 1, ⟨T ++ [z], R2, _, _, some (b2, cs2), kt'⟩) rfl ⟨by rw [Dv]; rfl, trivial⟩ ⟨rfl, rfl, by dsimp only; omega, hK'.perm hpm, hM.put u (M u - 1), hR2⟩ (by dsimp only; omega) (fun _ _ h => h)
    ·have h1 := Dy h
     rw [if_neg h1] at hK'
     repeat' (first|refine a4 ?_|refine ai ?_|refine a6 ?_|refine aH ?_|refine a7 ?_|refine a8 a5 rfl rfl ?_|(apply aU; refine aS ?_)|fail)
     exact az (j + 1, ⟨T ++ [z], R, _, _, kh, kt'⟩) rfl ⟨by rw [Dv]; rfl, trivial⟩ ⟨rfl, rfl, by dsimp only; omega, hK', hM.put u (M u - 1), hR⟩ (by dsimp only; omega) (fun _ _ h => h)
   ·have hjl : j = (bP (prt f) (bU g) z).length := by have := Dy h; rw [hUi] at this; omega
    subst hjl
    rw [List.take_length] at hK
    repeat' (first|refine aM ?_|refine au ?_|refine aH ?_|refine aw ?_|refine av ?_)
    exact az ⟨T ++ [z], R, M, mm, kh, kt'⟩ rfl ⟨rfl, trivial⟩ ⟨hK.done hall hTz, hM, hR⟩ (by dsimp only; simp at hTl ⊢; omega) (fun _ _ h => h)
  ·have hR0 : R = [] := List.eq_nil_of_length_eq_zero (by have := Dy h; omega)
   subst hR0
   repeat' (first|refine a9 ?_|refine a4 ?_|refine ah ?_|refine aM ?_|refine a6 ?_|refine au ?_|refine aw ?_|refine av ?_|refine a7 ?_|refine a8 a5 rfl rfl ?_)
   refine bB (bT (t := 4) (c' := .imm 1 (aT T)) rfl fun σ v h => VR.im h) ?_
   refine dk (L' := qL dbs) (((((List.sublist_append_right _ _).trans (List.sublist_append_right _ _)).trans (List.sublist_append_right _ _)).cons _).cons _) ?_
   exact mh (cs := [.imm 1 (aT T)]) dbs [] rfl (Do _) ⟨rfl, trivial⟩ ⟨T, rfl, hK.fin⟩
end Go.Proofs.YtpmdfoaadejmkaaGreatDoor
namespace Go.Proofs
open Go.Shelf
def Tryz.laysSort_ren : Go.Shelf.Ren := ⟨fun | 189 => 283 | 125 => 300 | 257 => 299 | 128 => 312 | 129 => 313 | 294 => 304 | 295 => 305 | 296 => 306 | 297 => 307 | 298 => 308 | 299 => 309 | 216 => 276 | 300 => 310 | 301 => 311 | 328 => 315 | 329 => 316 | 330 => 317 | 331 => 318 | 332 => 319 | 215 => 294 | 343 => 320 | n => n, fun | 28 => 22 | 3 => 3 | 46 => 312 | 0 => 0 | 51 => 393 | 53 => 246 | 4 => 4 | 183 => 387 | 182 => 386 | 131 => 197 | 5 => 5 | 9 => 9 | 218 => 395 | 222 => 399 | 228 => 401 | 229 => 402 | n => n, fun | n => n⟩
end Go.Proofs
namespace Go.Proofs.YtpmdfoaadejmkaaGreatDoor
open Go.RowKit Go.Shelf Go.Sort
def CO (l : List Int) : List Int := l.mergeSort fun x y => decide (x ≤ y)
end Go.Proofs.YtpmdfoaadejmkaaGreatDoor
namespace Go.Proofs.YtpmdfoaadejmkaaGreatDoor
open Go.RowKit
attribute [local irreducible] AT bh AX AO Av Kt b6 di DA cC
def dX (l : List Int) (i : Nat) : List AV := (l.take i ++ List.replicate (l.length - i) 0).map aA
theorem yL (l : List Int) {i : Nat} (h : i ≤ l.length) : (dX l i).length = l.length := by simp [dX]; omega
theorem th (l : List Int) (m : Nat) (hm : m = l.length) : (List.replicate m [aA 0]).flatten = dX l 0 := by
 subst hm
 unfold dX
 rw [List.take_zero, Dr, Nat.sub_zero, List.map_replicate]
 generalize l.length = m
 induction m with
 | zero => rfl
 | succ m ih => rw [List.replicate_succ, List.flatten_cons, ih, List.replicate_succ]; rfl
theorem yM {l : List Int} {i : Nat} {z : Int} (h : l[i]? = some z) : (dX l i).set (0 + (i : Int).toNat * 1) (aA z) = dX l (i + 1) := by
 have hi := (Dp h).1
 rw [Nat.zero_add, Nat.mul_one, Int.toNat_natCast]
 unfold dX
 rw [← List.map_set (f := aA)]
 congr 1
 rw [List.set_append_right _ _ (by simp; omega), List.take_add_one, h, List.append_assoc]
 congr 1
 rw [show l.length - i = (l.length - (i + 1)) + 1 by omega, List.replicate_succ, show i - (l.take i).length = 0 by simp; omega]
 rfl
theorem yK (l : List Int) : dX l l.length = l.map aA := by simp [dX]
theorem oo (l : List Int) : (aT l).flatten = l.map aA := by
 unfold aT
 induction l with
 | nil => rfl
 | cons z l ih => rw [Dq, List.flatten_cons, ih]; rfl
theorem Cc {n i : Nat} (h : i < n) : (dX (bU n) i).set (0 + (i : Int).toNat * 1) (aA i) = dX (bU n) (i + 1) := yM (gz h)
set_option maxHeartbeats 1000000 in
theorem xb (f : aN) (hf : Few f) (hr : jc f.Glyphs.length (prt f) ∨ AC Tryz.prog 211 [cz f] [] fun c _ => ∃ z : Int, c = aA z) : AC Tryz.prog 126 [cz f] [] fun c _ => (∃ T, c = .tup [.imm 1 (aT T), aA 0, aA 0] ∧ fT f.Glyphs.length (prt f) T ∧ T.length = f.Glyphs.length) ∨ (¬ jc f.Glyphs.length (prt f) ∧ ∃ z : Int, c = .tup [.imm 1 [], aA z, aA 33]) := by
 refine aC Tryz.func126 rfl Tryz.ntmps126 rfl fun B => ?_
 have hn := hf.n
 have hln := yW f hf
 have hml : (f.Glyphs.map c7).length = f.Glyphs.length := Du ..
 generalize hN : f.Glyphs.length = n at *
 repeat' (first|refine a9 ?_|refine a4 ?_|refine a6 ?_|refine a7 ?_|refine a8 a5 rfl rfl ?_|refine aZ ?_|fail)
 rw [hml]
 refine iE a5 n rfl rfl rfl rfl rfl rfl rfl (by omega) (by omega) rfl fun b => ?_
 rw [show (List.replicate n (List.map AV.sc [Value.int .i64 0])).flatten = dX (bU n) 0 from th (bU n) n (dq n).symm]
 have hul := dq n
 repeat' (first|refine a9 ?_|refine a4 ?_|refine ak ?_|refine a6 ?_|refine a7 ?_|refine a8 a5 rfl rfl ?_)
 refine aL [1, 5, 13] (α := Nat) (fun i => [(14, aA i)]) (fun i => i ≤ n) (fun i => [(b, .box (dX (bU n) i) 3)]) (fun i => n - i) 0 rfl ⟨rfl, trivial⟩ (Nat.zero_le _) (fun _ _ h => h) fun i hi => ?_
 try dsimp only [Ds, Dr, Dq, Dn]
 repeat' (first|refine a9 ?_|refine a4 ?_|refine a6 ?_|refine a7 ?_|refine a8 a5 rfl rfl ?_)
 refine ar rfl (fun h => ?_) (fun h => ?_)
 ·have hil : i < n := by have := Dz h; omega
  repeat' (first|refine a9 ?_|refine a4 ?_|refine ak ?_|refine ai ?_|refine a6 ?_|refine a7 ?_|refine a8 a5 rfl rfl ?_|(apply aF; first|refine aE a5 ?_|refine aB a5 ?_)|fail)
  refine ad a5 0 rfl rfl rfl rfl rfl rfl (by rw [Nat.ble_eq, yL (bU n) (by omega), hul]; show _ + 1 ≤ n; omega) ?_
  rw [fM, Cc hil]
  repeat' (first|refine a4 ?_|refine a6 ?_|refine aH ?_|refine a7 ?_|refine a8 a5 rfl rfl ?_|(apply aU; refine aS ?_)|fail)
  exact az (i + 1) rfl ⟨by rw [Dv]; rfl, trivial⟩ (by omega) (by omega) (fun _ _ h => h)
 ·have hil : i = n := by have := Dy h; omega
  subst hil
  clear h
  rw [show dX (bU i) i = (bU i).map aA by have := yK (bU i); rw [hul] at this; exact this]
  refine cY (xJ (t := 5) (sz := 1) (l := aT (bU i)) 0 rfl rfl (oo _).symm (by simp [aT]) (by rw [aW, hul]) (by omega)) ?_
  repeat' (first|refine a9 ?_|refine a4 ?_|refine aM ?_|refine a6 ?_|refine au ?_|refine aw ?_|refine av ?_|refine a8 a5 rfl rfl ?_)
  refine aO [] _ hln rfl rfl (Do _) rfl fun c L1 ⟨T, hc, hT⟩ => ?_
  subst hc
  have hTl := aW T
  have hIl := aW (bU i)
  have hTn := hT.len
  rw [hul] at hIl
  refine aR (cf (List.nil_sublist _)) ?_
  repeat' (first|refine a9 ?_|refine a4 ?_|refine a6 ?_|refine a7 ?_|refine a8 a5 rfl rfl ?_)
  refine ar rfl (fun h => ?_) (fun h => ?_)
  ·have hlt := Dz h
   rw [hTl, hIl] at hlt
   have hna : ¬ jc i (prt f) := fun ha => by
    have := hT.len_all (hT.all ha fun g p hp => by have := Be hp; rw [hN] at this; exact this)
    omega
   rcases hr with hr | hr
   ·exact absurd hr hna
   repeat' (first|refine a9 ?_|refine a4 ?_|refine a8 a5 rfl rfl ?_)
   refine aO [] [] hr rfl rfl (Do _) rfl fun c L1 ⟨z, hc⟩ => ?_
   subst hc
   repeat' (first|refine ah ?_|refine a6 ?_|refine aq ?_|refine a7 ?_|refine a8 a5 rfl rfl ?_)
   refine bB (bT (t := 2) (c' := .imm 1 []) rfl fun σ v h => ja 1 h) ?_
   exact t4 (cs := [.imm 1 [], aA z, aA 33]) ⟨rfl, rfl, rfl, trivial⟩ (.inr ⟨hna, z, rfl⟩)
  ·have hlt := Dy h
   rw [hTl, hIl] at hlt
   repeat' (first|refine a9 ?_|refine a4 ?_|refine ai ?_|refine ah ?_|refine a6 ?_|refine a7 ?_|refine a8 a5 rfl rfl ?_)
   exact t4 (cs := [.imm 1 (aT T), aA 0, aA 0]) ⟨rfl, rfl, rfl, trivial⟩ (.inl ⟨T, rfl, hT, by omega⟩)
end Go.Proofs.YtpmdfoaadejmkaaGreatDoor
