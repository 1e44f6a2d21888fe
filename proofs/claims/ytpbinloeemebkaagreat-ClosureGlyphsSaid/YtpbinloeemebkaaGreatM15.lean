/-
  The program: glyphs in a line (the walk).
-/
import Derived.Test.YtpbinloeemebkaaGreatM14
import Derived.Shelf.Slices.In.SortNone
import Derived.Shelf.Slices.In.SortAlone
import Derived.Ground.NamesProg
import Derived.Test.YtpbinloeemebkaaGreatProg
import Derived.Test.YtpbinloeemebkaaGreatM13
import Derived.Lib.SortBridge
namespace Go.Proofs.YtpbinloeemebkaaGreat
open Go.RowKit
attribute [local irreducible] AT bN AX AO Av Kt bi dE DA d6
open Go.MapKept
attribute [local irreducible] lh
theorem f9 {rec : Loop} (h1 : rec.state = .ready) (h2 : rec.pending = none) : ({ ({ rec with state := .busy } : Loop) with state := .ready, pending := none } : Loop) = rec := by cases rec; simp_all
abbrev KI : TypeDesc := .int .i64
theorem xj (f : aH) : Mb f 0 = fun _ => 0 := by
 funext z
 unfold Mb
 rw [if_neg (by omega)]
abbrev KT := Int → Option (Nat × Nat)
abbrev VM := Value → Option AV
abbrev LX := VM × VM × KT × (Int → List Int)
theorem r4 {a b c d e : Nat × AB} {T M : AL} : (d :: a :: b :: c :: (T ++ (M ++ [e]))).Perm (a :: b :: c :: d :: (T ++ (e :: M))) := by
 refine (List.perm_middle (l₁ := [a, b, c])).symm.trans ?_
 exact List.Perm.cons _ (List.Perm.cons _ (List.Perm.cons _ (List.Perm.cons _ (List.Perm.append_left T (List.perm_append_singleton e M)))))
def pH (bm bu p n : Nat) (kh : Option (Nat × List AV)) (R : List Int) (rest : AL) (x : LX) : AL := (bm, c6 KI x.1) :: (bu, c6 KI x.2.1) :: (hst p kh R ++ (iP 3 x.2.2.1 x.2.2.2 (bP n) ++ rest))
abbrev LS := Nat × List Nat × VM × VM × KT × Option (Nat × List AV)
def jM (dbs : List Nat) : AL := dbs.map fun b => (b, dO)
theorem lK {a b : Nat × AB} {H X : AL} : (a :: b :: (H ++ X)).Perm (H ++ (a :: b :: X)) := by
 have h1 : (a :: b :: (H ++ X)) = (a :: b :: H) ++ X := rfl
 have h2 : H ++ (a :: b :: X) = (H ++ [a, b]) ++ X := by simp
 rw [h1, h2]
 exact (List.perm_append_comm (l₁ := [a, b]) (l₂ := H)).append_right X
structure KS where
 T : List Int
 R : List Int
 M : Int → Int
 mm : VM
 kh : Option (Nat × List AV)
 kt : Option (Nat × Nat)
def BE (bm bu p : Nat) (mu : VM) (X : AL) (x : KS) : AL := (bm, c6 KI x.mm) :: (bu, c6 KI mu) :: (hst p x.kh x.R ++ (tok x.kt 3 1 (aV x.T).length ++ X))
set_option maxHeartbeats 8000000 in
theorem ye (f : aH) (hf : Few f) : AC Tryz.prog 234 [bw f, .imm 1 (aV (bP f.Glyphs.length))] [] fun c _ => ∃ T, c = .imm 1 (aV T) ∧ gC f.Glyphs.length (prt f) T := by
 refine iS Tryz.func234 rfl Tryz.ntmps234 rfl fun B => ?_
 have hn := hf.n
 have hil : (aV (bP f.Glyphs.length)).length = f.Glyphs.length := by rw [aM, d9]
 generalize hN : f.Glyphs.length = n at *
 (repeat' (first|refine ah ?_|refine a6 ?_|refine a8 ?_|refine aa ?_|refine ae a7 rfl rfl ?_|refine b6 ?_|fail))
 refine dW KI fun bm => ?_
 (repeat' (first|refine ah ?_|refine a6 ?_|refine a8 ?_|refine aa ?_|(apply aT; first|refine ai 5 a7 0 rfl rfl rfl rfl rfl rfl rfl rfl ?_|refine ai 5 a7 1 rfl rfl rfl rfl rfl rfl rfl rfl ?_|refine ai 5 a7 2 rfl rfl rfl rfl rfl rfl rfl rfl ?_|refine ai 6 a7 0 rfl rfl rfl rfl rfl rfl rfl rfl ?_|refine ai 6 a7 1 rfl rfl rfl rfl rfl rfl rfl rfl ?_|refine ai 6 a7 2 rfl rfl rfl rfl rfl rfl rfl rfl ?_|refine ai 9 a7 0 rfl rfl rfl rfl rfl rfl rfl rfl ?_|refine ai 9 a7 1 rfl rfl rfl rfl rfl rfl rfl rfl ?_|refine ai 9 a7 2 rfl rfl rfl rfl rfl rfl rfl rfl ?_|refine ai 10 a7 0 rfl rfl rfl rfl rfl rfl rfl rfl ?_|refine ai 10 a7 1 rfl rfl rfl rfl rfl rfl rfl rfl ?_|refine ai 10 a7 2 rfl rfl rfl rfl rfl rfl rfl rfl ?_|refine aj a7 0 rfl rfl rfl rfl rfl rfl rfl ?_|refine aj a7 1 rfl rfl rfl rfl rfl rfl rfl ?_|refine aj a7 2 rfl rfl rfl rfl rfl rfl rfl ?_|refine aj a7 3 rfl rfl rfl rfl rfl rfl rfl ?_|fail)|refine bb a7 fun _=>?_|fail))
 refine dW KI fun bu => ?_
 (repeat' (first|refine ah ?_|refine a6 ?_|refine am ?_|refine a8 ?_|refine aa ?_|refine ae a7 rfl rfl ?_|(apply aT; first|refine ai 5 a7 0 rfl rfl rfl rfl rfl rfl rfl rfl ?_|refine ai 5 a7 1 rfl rfl rfl rfl rfl rfl rfl rfl ?_|refine ai 5 a7 2 rfl rfl rfl rfl rfl rfl rfl rfl ?_|refine ai 6 a7 0 rfl rfl rfl rfl rfl rfl rfl rfl ?_|refine ai 6 a7 1 rfl rfl rfl rfl rfl rfl rfl rfl ?_|refine ai 6 a7 2 rfl rfl rfl rfl rfl rfl rfl rfl ?_|refine ai 9 a7 0 rfl rfl rfl rfl rfl rfl rfl rfl ?_|refine ai 9 a7 1 rfl rfl rfl rfl rfl rfl rfl rfl ?_|refine ai 9 a7 2 rfl rfl rfl rfl rfl rfl rfl rfl ?_|refine ai 10 a7 0 rfl rfl rfl rfl rfl rfl rfl rfl ?_|refine ai 10 a7 1 rfl rfl rfl rfl rfl rfl rfl rfl ?_|refine ai 10 a7 2 rfl rfl rfl rfl rfl rfl rfl rfl ?_|refine aj a7 0 rfl rfl rfl rfl rfl rfl rfl ?_|refine aj a7 1 rfl rfl rfl rfl rfl rfl rfl ?_|refine aj a7 2 rfl rfl rfl rfl rfl rfl rfl ?_|refine aj a7 3 rfl rfl rfl rfl rfl rfl rfl ?_|fail)|refine bb a7 fun _=>?_|fail))
 rename_i p
 refine qk [2, 5, 6, 7, 17, 18] (α := LS) (fun x => tp x.2.1) (fun x => [(19, aQ x.1)]) (fun x => x.1 ≤ n ∧ lp x.2.2.1 (Mb f x.1) ∧ iO x.2.2.2.1 x.2.2.2.2.1 (bQ (prt f) (bP x.1)) ∧ lU x.2.2.2.2.2 (Rb f x.1)) (fun x => pH bm bu p n x.2.2.2.2.2 (Rb f x.1) (jM x.2.1) (x.2.2.1, x.2.2.2.1, x.2.2.2.2.1, bQ (prt f) (bP x.1))) (fun x => n - x.1) (0, [], (fun _ => none), (fun _ => none), (fun _ => none), none) rfl ⟨rfl, trivial⟩ rfl ⟨Nat.zero_le _, ?_, ?_, rfl⟩ (fun σ w h => ?_) ?_
 ·intro z; exact .inl ⟨rfl, by rw [xj]⟩
 ·intro z; exact .inl ⟨rfl, rfl, rfl⟩
 ·have h1 := cK.perm (L := [(p, .box [.sc (.slice none 0 0)] 328), (bu, c6 KI fun _ => none), (bm, c6 KI fun _ => none)]) h (List.reverse_perm _).symm
  have h2 : pH bm bu p n none (Rb f 0) (jM []) ((fun _ => none), (fun _ => none), (fun _ => none), bQ (prt f) (bP 0)) = [(bm, c6 KI fun _ => none), (bu, c6 KI fun _ => none), (p, .box [.sc (.slice none 0 0)] 328)] := by
   unfold pH
   rw [pb]
   rfl
  show cK B σ (pH bm bu p n none (Rb f 0) (jM []) ((fun _ => none), (fun _ => none), (fun _ => none), bQ (prt f) (bP 0))) w
  rw [h2]
  exact h1
 rintro ⟨g, dbs, mm, mu, K, kh⟩ ⟨hg, hM, hU, hR⟩
 dsimp only at hg hM hU hR ⊢
 try dsimp only [List.cons_append, List.nil_append, List.map_cons, List.map_nil]
 (repeat' (first|refine ah ?_|refine a6 ?_|refine a8 ?_|refine aa ?_|refine ae a7 rfl rfl ?_|fail))
 rw [hil]
 refine av rfl (fun h => ?_) (fun h => ?_)
 ·have hgl : g < n := by have := of_decide_eq_true h; omega
  obtain ⟨gl, hgg⟩ : ∃ z, f.Glyphs[g]? = some z := ⟨_, List.getElem?_eq_getElem (by omega)⟩
  have hgm := List.mem_of_getElem? hgg
  have hgi := bk (fK hgl)
  clear h
  unfold pH
  dsimp only
  (repeat' (first|refine ah ?_|refine a6 ?_|refine am ?_|refine ak ?_|refine a8 ?_|refine aa ?_|refine ae a7 rfl rfl ?_|(apply aP; first|refine aO a7 ?_|refine aI a7 ?_)|(apply aT; first|refine ai 5 a7 0 rfl rfl rfl rfl rfl rfl rfl rfl ?_|refine ai 5 a7 1 rfl rfl rfl rfl rfl rfl rfl rfl ?_|refine ai 5 a7 2 rfl rfl rfl rfl rfl rfl rfl rfl ?_|refine ai 6 a7 0 rfl rfl rfl rfl rfl rfl rfl rfl ?_|refine ai 6 a7 1 rfl rfl rfl rfl rfl rfl rfl rfl ?_|refine ai 6 a7 2 rfl rfl rfl rfl rfl rfl rfl rfl ?_|refine ai 9 a7 0 rfl rfl rfl rfl rfl rfl rfl rfl ?_|refine ai 9 a7 1 rfl rfl rfl rfl rfl rfl rfl rfl ?_|refine ai 9 a7 2 rfl rfl rfl rfl rfl rfl rfl rfl ?_|refine ai 10 a7 0 rfl rfl rfl rfl rfl rfl rfl rfl ?_|refine ai 10 a7 1 rfl rfl rfl rfl rfl rfl rfl rfl ?_|refine ai 10 a7 2 rfl rfl rfl rfl rfl rfl rfl rfl ?_|refine aj a7 0 rfl rfl rfl rfl rfl rfl rfl ?_|refine aj a7 1 rfl rfl rfl rfl rfl rfl rfl ?_|refine aj a7 2 rfl rfl rfl rfl rfl rfl rfl ?_|refine aj a7 3 rfl rfl rfl rfl rfl rfl rfl ?_|fail)|refine bb a7 fun _=>?_|(apply ba;refine aY ?_)|fail))
  refine fA (fr' := [(2, .iptr (bO f)), (5, .iptr [.sc (.map (some bm))]), (6, .iptr [.sc (.map (some bu))]), (7, .sc (.pointer (some ⟨p, 0, none⟩))), (9, .iptr [aQ g]), (17, .imm 1 (aV (bP n))), (18, aQ n), (19, aQ g), (25, .fn 280 [.iptr (bO f), .iptr [aQ g]])]) (L' := pH bm bu p n kh (Rb f g) (jM dbs) (mm, mu, K, Ui f gl g 0)) ⟨rfl, rfl, rfl, rfl, rfl, rfl, rfl, rfl, rfl, trivial⟩ (fun _ _ h => by rw [mz]; exact h) ?_
  refine eY (ps := [26]) rfl fun σ0 l db rec hrec => ?_
  have hy : ∀ (i : Nat) (x : LX) (q : bE), (lp x.1 (Mi f gl g i) ∧ iO x.2.1 x.2.2.1 x.2.2.2 ∧ x.2.2.2 = Ui f gl g i) → gl.Parts[i]? = some q → eG f q.Glyph = true → AY Tryz.prog σ0 l [.agg (d7 q)] (pH bm bu p n kh (Rb f g) (jM dbs) x ++ [(db, dO)] ++ [(l, dV rec)]) fun c L => c = c8 true ∧ ∃ x' : LX, (lp x'.1 (Mi f gl g (i + 1)) ∧ iO x'.2.1 x'.2.2.1 x'.2.2.2 ∧ x'.2.2.2 = Ui f gl g (i + 1)) ∧ L = pH bm bu p n kh (Rb f g) (jM dbs) x' ++ [(db, dO)] ++ [(l, dV rec)] := by
   rintro i ⟨mm, mu, K, U⟩ q ⟨hM, hU, rfl⟩ hq hG
   dsimp only at hM hU ⊢
   refine kE hrec rfl rfl fun B1 hB1 => ?_
   (repeat' (first|refine a6 ?_|refine aa ?_|(apply aT; first|refine ai 5 a7 0 rfl rfl rfl rfl rfl rfl rfl rfl ?_|refine ai 5 a7 1 rfl rfl rfl rfl rfl rfl rfl rfl ?_|refine ai 5 a7 2 rfl rfl rfl rfl rfl rfl rfl rfl ?_|refine ai 6 a7 0 rfl rfl rfl rfl rfl rfl rfl rfl ?_|refine ai 6 a7 1 rfl rfl rfl rfl rfl rfl rfl rfl ?_|refine ai 6 a7 2 rfl rfl rfl rfl rfl rfl rfl rfl ?_|refine ai 9 a7 0 rfl rfl rfl rfl rfl rfl rfl rfl ?_|refine ai 9 a7 1 rfl rfl rfl rfl rfl rfl rfl rfl ?_|refine ai 9 a7 2 rfl rfl rfl rfl rfl rfl rfl rfl ?_|refine ai 10 a7 0 rfl rfl rfl rfl rfl rfl rfl rfl ?_|refine ai 10 a7 1 rfl rfl rfl rfl rfl rfl rfl rfl ?_|refine ai 10 a7 2 rfl rfl rfl rfl rfl rfl rfl rfl ?_|refine aj a7 0 rfl rfl rfl rfl rfl rfl rfl ?_|refine aj a7 1 rfl rfl rfl rfl rfl rfl rfl ?_|refine aj a7 2 rfl rfl rfl rfl rfl rfl rfl ?_|refine aj a7 3 rfl rfl rfl rfl rfl rfl rfl ?_|fail)|refine bb a7 fun _=>?_|fail))
   refine eZ hrec.state ?_
   unfold pH
   dsimp only
   have hqr := iw.1 hG
   have hcnt := tw f gl i
   have hpl := hf.parts gl hgm
   have hMg : Mi f gl g i g = (rx f gl i).length := by unfold Mi; rw [if_pos rfl]
   simp only [List.cons_append, List.append_assoc]
   have hUl := vl hf gl hgm (g := g) (by omega) i q.Glyph
   have hUi : (aV (Ui f gl g i q.Glyph)).length = (Ui f gl g i q.Glyph).length := aM _
   have hz : q.Glyph ∈ bP n := d8.2 (by omega)
   (repeat' (first|refine ah ?_|refine a6 ?_|refine am ?_|refine ae a7 rfl rfl ?_|fail))
   refine gY 0 (.int .i64 0) (aQ (Mi f gl g i g)) Tryz.underlying326 Tryz.underlying3 rfl rfl rfl rfl (by kernel_rfl) (hM.at g) rfl ?_
   (repeat' (first|(apply aX; refine aW ?_)|fail))
   refine cG 0 (ja mm (.int .i64 g) (aQ (Mi f gl g i g + 1))) Tryz.underlying326 Tryz.underlying3 rfl rfl rfl rfl rfl fW (fun q h => fo q h) ?_
   (repeat' (first|refine a8 ?_|refine aa ?_|fail))
   refine bj 10 [(0, .v), (1, .v), (2, .v), (3, .v), (4, .v), (5, .v), (7, .v), (8, .v), (6, .e), (9, .e)] none ?_ trivial rfl (by kernel_rfl) (by kernel_rfl) (by kernel_rfl) mixed (by kernel_rfl) rfl
   (repeat' (first|refine aN ?_|refine bf a7 ?_|refine m7 a7 ?_|fail))
   refine lu 1 (.slice none 0 0) (.vec (K q.Glyph) 1 (aV (Ui f gl g i q.Glyph))) Tryz.underlying327 Tryz.underlying3 rfl rfl rfl rfl (by kernel_rfl) (hU.at q.Glyph) trivial ?_
   (repeat' (first|refine aN ?_|fail))
   refine iW a7 _ rfl rfl rfl rfl (gt (jF hz)) (by rw [hUi]; show _ + 1 ≤ _; omega) (by rw [hUi]; show (_ + 1) * 8 ≤ _; omega) trivial fun k' => ?_
   (repeat' (first|fail))
   refine bl [2, 5, 6, 7, 9, 17, 18, 19, 26, 31, 33, 40] rfl rfl ?_
   have hput := rr (e := 3) (K := K) (U := Ui f gl g i) (k := k') (l := Ui f gl g i q.Glyph ++ [(g : Int)]) (fx n) hz
   rw [show aV (Ui f gl g i q.Glyph) ++ [[AV.sc (.int .i64 (g : Int))]] = aV (Ui f gl g i q.Glyph ++ [(g : Int)]) from cE _ [(g : Int)]]
   refine bh (bc (gt hput.symm).symm) ?_
   (repeat' (first|fail))
   refine cG 1 (ja mu (.int .i64 q.Glyph) (.vec k' 1 (aV (Ui f gl g i q.Glyph ++ [(g : Int)])))) Tryz.underlying327 Tryz.underlying3 rfl rfl rfl rfl rfl fW (fun q h => fo q h) ?_
   (repeat' (first|refine aJ ?_|refine aa ?_|fail))
   refine bU (L' := pH bm bu p n kh (Rb f g) (jM dbs) (ja mm (.int .i64 g) (aQ (Mi f gl g i g + 1)), ja mu (.int .i64 q.Glyph) (.vec k' 1 (aV (Ui f gl g i q.Glyph ++ [(g : Int)]))), (fun y => if y = q.Glyph then k' else K y), fun y => if y = q.Glyph then Ui f gl g i q.Glyph ++ [(g : Int)] else Ui f gl g i y) ++ [(db, dO)] ++ [(l, dV { rec with state := .busy })]) (bc (List.Perm.of_eq (by simp only [pH, gA, List.cons_append, List.append_assoc, List.nil_append]))) (g7 ?_)
   rw [f9 hrec.state hrec.pending]
   refine ⟨rfl, (ja mm (.int .i64 g) (aQ (Mi f gl g i g + 1)), ja mu (.int .i64 q.Glyph) (.vec k' 1 (aV (Ui f gl g i q.Glyph ++ [(g : Int)]))), (fun y => if y = q.Glyph then k' else K y), fun y => if y = q.Glyph then Ui f gl g i q.Glyph ++ [(g : Int)] else Ui f gl g i y), ⟨?_, hU.put q.Glyph k' _, vm hq hG⟩, ?_⟩
   ·have := hM.put g (Mi f gl g i g + 1)
    rw [zk hq hG] at this
    exact this
   ·simp only [pH, List.cons_append, List.append_assoc, List.nil_append]
  have hsk : ∀ (i : Nat) (x : LX) (q : bE), (lp x.1 (Mi f gl g i) ∧ iO x.2.1 x.2.2.1 x.2.2.2 ∧ x.2.2.2 = Ui f gl g i) → gl.Parts[i]? = some q → eG f q.Glyph = false → (lp x.1 (Mi f gl g (i + 1)) ∧ iO x.2.1 x.2.2.1 x.2.2.2 ∧ x.2.2.2 = Ui f gl g (i + 1)) := by
   intro i x q h hq hG
   rw [AH hq hG, yT hq hG]
   exact h
  have hit := tu (σ0 := σ0) (l := l) f g gl hgg (fun x => pH bm bu p n kh (Rb f g) (jM dbs) x ++ [(db, dO)] ++ [(l, dV rec)]) (fun i x => lp x.1 (Mi f gl g i) ∧ iO x.2.1 x.2.2.1 x.2.2.2 ∧ x.2.2.2 = Ui f gl g i) hy hsk (mm, mu, K, Ui f gl g 0) ⟨by rw [xk]; exact hM, by rw [mz]; exact hU, rfl⟩ (by have := hf.parts gl hgm; omega)
  refine ⟨_, hit, ?_⟩
  rintro c L' ⟨⟨mm', mu', K', U'⟩, ⟨hM', hU', rfl⟩, rfl⟩
  dsimp only at hM' hU' ⊢
  refine ⟨rec, _, List.Perm.refl _, (by rw [hrec.state]; intro h; cases h), ?_⟩
  rw [hrec.pending]
  show AX _ _ _ _ _ _ _ _
  rw [zj hgg] at hM'
  rw [vk hgg] at hU' ⊢
  clear hy hsk hit hM hU
  unfold pH
  dsimp only
  simp only [List.cons_append, List.append_assoc]
  (repeat' (first|refine ah ?_|refine a6 ?_|refine a8 ?_|refine aJ ?_|refine ae a7 rfl rfl ?_|fail))
  refine gY 0 (.int .i64 0) (aQ (Mb f (g + 1) g)) Tryz.underlying326 Tryz.underlying3 rfl rfl rfl rfl (by kernel_rfl) (hM'.at g) rfl ?_
  rw [show Mb f (g + 1) g = (prt f g).length by unfold Mb; rw [if_pos (by omega)]]
  (repeat' (first|refine a8 ?_|refine aa ?_|refine ae a7 rfl rfl ?_|fail))
  refine av rfl (fun h => ?_) (fun h => ?_)
  ·have h0 : (prt f g).length = 0 := by have := of_decide_eq_true h; omega
   cases kh with
   | none =>
    have hR0 : Rb f g = [] := hR
    unfold hst nm qN
    dsimp only
    simp only [List.cons_append, List.nil_append]
    (repeat' (first|refine a6 ?_|refine ae a7 rfl rfl ?_|(apply bn; first|refine aq a7 0 rfl rfl rfl rfl rfl ?_|refine aq a7 1 rfl rfl rfl rfl rfl ?_|refine aq a7 2 rfl rfl rfl rfl rfl ?_|refine aq a7 3 rfl rfl rfl rfl rfl ?_|refine aF a7 0 rfl rfl rfl rfl rfl ?_|refine aF a7 1 rfl rfl rfl rfl rfl ?_|refine aF a7 2 rfl rfl rfl rfl rfl ?_|refine aq a7 1 rfl rfl rfl (by assumption) rfl ?_|refine aq a7 0 rfl rfl rfl (by assumption) rfl ?_|fail)|refine bM a7 ?_|fail))
    refine uC a7 rfl rfl rfl rfl rfl rfl rfl fun b' cs' h1 h2 => ?_
    (repeat' (first|refine a6 ?_|refine a8 ?_|refine aJ ?_|refine aa ?_|refine ae a7 rfl rfl ?_|(apply aX; refine aW ?_)|(apply aT; first|refine ai 5 a7 0 rfl rfl rfl rfl rfl rfl rfl rfl ?_|refine ai 5 a7 1 rfl rfl rfl rfl rfl rfl rfl rfl ?_|refine ai 5 a7 2 rfl rfl rfl rfl rfl rfl rfl rfl ?_|refine ai 6 a7 0 rfl rfl rfl rfl rfl rfl rfl rfl ?_|refine ai 6 a7 1 rfl rfl rfl rfl rfl rfl rfl rfl ?_|refine ai 6 a7 2 rfl rfl rfl rfl rfl rfl rfl rfl ?_|refine ai 9 a7 0 rfl rfl rfl rfl rfl rfl rfl rfl ?_|refine ai 9 a7 1 rfl rfl rfl rfl rfl rfl rfl rfl ?_|refine ai 9 a7 2 rfl rfl rfl rfl rfl rfl rfl rfl ?_|refine ai 10 a7 0 rfl rfl rfl rfl rfl rfl rfl rfl ?_|refine ai 10 a7 1 rfl rfl rfl rfl rfl rfl rfl rfl ?_|refine ai 10 a7 2 rfl rfl rfl rfl rfl rfl rfl rfl ?_|refine aj a7 0 rfl rfl rfl rfl rfl rfl rfl ?_|refine aj a7 1 rfl rfl rfl rfl rfl rfl rfl ?_|refine aj a7 2 rfl rfl rfl rfl rfl rfl rfl ?_|refine aj a7 3 rfl rfl rfl rfl rfl rfl rfl ?_|fail)|fail))
    refine js (g + 1, db :: dbs, mm', mu', K', some (b', cs')) rfl ⟨by rw [Int.natCast_add]; rfl, trivial⟩ rfl ⟨by dsimp only; omega, hM', hU', ?_⟩ (by dsimp only; omega) (fun σ w h => ?_)
    ·rw [jq, if_pos h0, hR0]
     exact ⟨h1, h2, h2⟩
    ·have h := cK.perm (L := (b', .box cs' 3) :: (bm, c6 KI mm') :: (bu, c6 KI mu') :: (p, .box [.sc (.slice (some ⟨b', 0, none⟩) 1 cs'.length)] 328) :: (iP 3 K' (bQ (prt f) (bP (g + 1))) (bP n) ++ (jM dbs ++ [(db, dO)]))) h r4
     show cK B σ (pH bm bu p n (some (b', cs')) (Rb f (g + 1)) (jM (db :: dbs)) (mm', mu', K', bQ (prt f) (bP (g + 1)))) w
     rw [jq, if_pos h0, hR0]
     exact h
   | some kk =>
    obtain ⟨b, cs⟩ := kk
    rw [gj]
    simp only [List.cons_append, List.nil_append]
    (repeat' (first|refine a6 ?_|refine ae a7 rfl rfl ?_|(apply bn; first|refine aq a7 0 rfl rfl rfl rfl rfl ?_|refine aq a7 1 rfl rfl rfl rfl rfl ?_|refine aq a7 2 rfl rfl rfl rfl rfl ?_|refine aq a7 3 rfl rfl rfl rfl rfl ?_|refine aF a7 0 rfl rfl rfl rfl rfl ?_|refine aF a7 1 rfl rfl rfl rfl rfl ?_|refine aF a7 2 rfl rfl rfl rfl rfl ?_|refine aq a7 1 rfl rfl rfl (by assumption) rfl ?_|refine aq a7 0 rfl rfl rfl (by assumption) rfl ?_|fail)|refine bM a7 ?_|fail))
    have hRl := vj f g
    refine uB a7 3 rfl rfl rfl rfl rfl rfl rfl hR.2.1 (by omega) (by omega) rfl fun b' cs' h1 h2 => ?_
    (repeat' (first|refine a6 ?_|refine a8 ?_|refine aJ ?_|refine aa ?_|refine ae a7 rfl rfl ?_|(apply aX; refine aW ?_)|(apply aT; first|refine ai 5 a7 0 rfl rfl rfl rfl rfl rfl rfl rfl ?_|refine ai 5 a7 1 rfl rfl rfl rfl rfl rfl rfl rfl ?_|refine ai 5 a7 2 rfl rfl rfl rfl rfl rfl rfl rfl ?_|refine ai 6 a7 0 rfl rfl rfl rfl rfl rfl rfl rfl ?_|refine ai 6 a7 1 rfl rfl rfl rfl rfl rfl rfl rfl ?_|refine ai 6 a7 2 rfl rfl rfl rfl rfl rfl rfl rfl ?_|refine ai 9 a7 0 rfl rfl rfl rfl rfl rfl rfl rfl ?_|refine ai 9 a7 1 rfl rfl rfl rfl rfl rfl rfl rfl ?_|refine ai 9 a7 2 rfl rfl rfl rfl rfl rfl rfl rfl ?_|refine ai 10 a7 0 rfl rfl rfl rfl rfl rfl rfl rfl ?_|refine ai 10 a7 1 rfl rfl rfl rfl rfl rfl rfl rfl ?_|refine ai 10 a7 2 rfl rfl rfl rfl rfl rfl rfl rfl ?_|refine aj a7 0 rfl rfl rfl rfl rfl rfl rfl ?_|refine aj a7 1 rfl rfl rfl rfl rfl rfl rfl ?_|refine aj a7 2 rfl rfl rfl rfl rfl rfl rfl ?_|refine aj a7 3 rfl rfl rfl rfl rfl rfl rfl ?_|fail)|fail))
    refine js (g + 1, db :: dbs, mm', mu', K', some (b', cs')) rfl ⟨by rw [Int.natCast_add]; rfl, trivial⟩ rfl ⟨by dsimp only; omega, hM', hU', ?_⟩ (by dsimp only; omega) (fun σ w h => ?_)
    ·rw [jq, if_pos h0]
     refine ⟨?_, by rw [List.length_append]; exact h2, by omega⟩
     rw [List.length_append, List.map_append, ← hR.1]
     exact h1
    ·have h := cK.perm (L := (b', .box cs' 3) :: (bm, c6 KI mm') :: (bu, c6 KI mu') :: (p, .box [.sc (.slice (some ⟨b', 0, none⟩) ((Rb f g).length + 1) cs'.length)] 328) :: (iP 3 K' (bQ (prt f) (bP (g + 1))) (bP n) ++ (jM dbs ++ [(db, dO)]))) h r4
     show cK B σ (pH bm bu p n (some (b', cs')) (Rb f (g + 1)) (jM (db :: dbs)) (mm', mu', K', bQ (prt f) (bP (g + 1)))) w
     rw [jq, if_pos h0]
     unfold pH
     rw [gj, List.length_append]
     exact h
  ·have h0 : ¬ (prt f g).length = 0 := by have := of_decide_eq_false h; omega
   (repeat' (first|refine a6 ?_|refine ak ?_|refine a8 ?_|refine aJ ?_|refine aa ?_|refine ae a7 rfl rfl ?_|(apply aX; refine aW ?_)|fail))
   refine js (g + 1, db :: dbs, mm', mu', K', kh) rfl ⟨by rw [Int.natCast_add]; rfl, trivial⟩ rfl ⟨by dsimp only; omega, hM', hU', by rw [jq, if_neg h0]; exact hR⟩ (by dsimp only; omega) (fun σ w h => ?_)
   show cK B σ (pH bm bu p n kh (Rb f (g + 1)) (jM (db :: dbs)) (mm', mu', K', bQ (prt f) (bP (g + 1)))) w
   rw [jq, if_neg h0]
   refine h.perm (List.Perm.cons _ (List.Perm.cons _ (List.Perm.append_left _ (List.Perm.append_left _ ?_))))
   exact List.perm_append_singleton _ _
 have hgn : g = n := by have := of_decide_eq_false h; omega
 subst hgn
 clear h
 have hst0 : ln g (prt f) [] (Rb f g) (Mb f g) := by
  have h1 := ln.start (n := g) (pr := prt f) (M := Mb f g) fun z h0 h1 => by unfold Mb; rw [if_pos ⟨h0, h1⟩]
  have h2 : (bP g).filter (fun z => decide (Mb f g z = 0)) = Rb f g := by
   unfold Rb
   refine List.filter_congr fun z hz => ?_
   unfold Mb
   rw [if_pos (d8.1 hz)]
   exact decide_eq_decide.2 (by omega)
  rw [h2] at h1
  exact h1
 have hRl := vj f g
 unfold pH
 dsimp only
 (repeat' (first|refine ah ?_|refine a6 ?_|refine aR ?_|refine a8 ?_|refine az ?_|refine aC ?_|refine jL ?_|fail))
 refine kU (by kernel_rfl) rfl rfl ?_
 (repeat' (first|fail))
 refine aZ (hst p kh (Rb f g)) _ (we p kh (Rb f g) hR (by omega)) rfl rfl lK rfl fun c L1 ⟨kh', R', hL, hR', hpm⟩ => ?_
 subst hL
 refine bh (bc lK.symm) ?_
 (repeat' (first|refine ah ?_|refine a6 ?_|refine am ?_|refine a8 ?_|refine aa ?_|refine ae a7 rfl rfl ?_|fail))
 refine fy (cw (t := 11) (c' := .vec none 1 (aV [])) rfl fun σ v h => jm 1 h) ?_
 refine aL [5, 6, 7] (α := KS) (fun x => [(11, .vec x.kt 1 (aV x.T))]) (fun x => ln g (prt f) x.T x.R x.M ∧ lp x.mm x.M ∧ lU x.kh x.R) (fun x => BE bm bu p mu (iP 3 K (bQ (prt f) (bP g)) (bP g) ++ jM dbs) x) (fun x => g - x.T.length) ⟨[], R', Mb f g, mm, kh', none⟩ rfl ⟨rfl, trivial⟩ ⟨hst0.perm hpm, hM, hR'⟩ (fun σ w h => ?_) ?_
 ·exact h
 rintro ⟨T, R, M, mm, kh, kt⟩ ⟨hK, hM, hR⟩
 dsimp only at hK hM hR ⊢
 unfold BE
 dsimp only
 try dsimp only [List.cons_append, List.nil_append, List.map_cons, List.map_nil]
 cases kh with
 | none =>
  have hR0 : R = [] := hR
  subst hR0
  unfold hst nm qN
  dsimp only
  (repeat' (first|refine ah ?_|refine a6 ?_|refine au ?_|refine aR ?_|refine a8 ?_|refine az ?_|refine aC ?_|refine aA ?_|refine aa ?_|refine ae a7 rfl rfl ?_|(apply bn; first|refine aq a7 0 rfl rfl rfl rfl rfl ?_|refine aq a7 1 rfl rfl rfl rfl rfl ?_|refine aq a7 2 rfl rfl rfl rfl rfl ?_|refine aq a7 3 rfl rfl rfl rfl rfl ?_|refine aF a7 0 rfl rfl rfl rfl rfl ?_|refine aF a7 1 rfl rfl rfl rfl rfl ?_|refine aF a7 2 rfl rfl rfl rfl rfl ?_|refine aq a7 1 rfl rfl rfl (by assumption) rfl ?_|refine aq a7 0 rfl rfl rfl (by assumption) rfl ?_|fail)|refine bV rfl ?_|fail))
  refine bU (cw (t := 4) (c' := .imm 1 (aV T)) rfl fun σ v h => VR.im h) ?_
  refine eH (L' := jM dbs) (((((List.sublist_append_right _ _).trans (List.sublist_append_right _ _)).trans (List.sublist_append_right _ _)).cons _).cons _) ?_
  exact eI (cs := [.imm 1 (aV T)]) dbs [] rfl (List.Perm.refl _) ⟨rfl, trivial⟩ ⟨T, rfl, hK.fin⟩
 | some kk =>
  obtain ⟨b, cs⟩ := kk
  rw [gj]
  have hTR := eb hK.nodup hK.dom
  rw [List.length_append] at hTR
  (repeat' (first|refine ah ?_|refine a6 ?_|refine a8 ?_|refine aa ?_|refine ae a7 rfl rfl ?_|(apply bn; first|refine aq a7 0 rfl rfl rfl rfl rfl ?_|refine aq a7 1 rfl rfl rfl rfl rfl ?_|refine aq a7 2 rfl rfl rfl rfl rfl ?_|refine aq a7 3 rfl rfl rfl rfl rfl ?_|refine aF a7 0 rfl rfl rfl rfl rfl ?_|refine aF a7 1 rfl rfl rfl rfl rfl ?_|refine aF a7 2 rfl rfl rfl rfl rfl ?_|refine aq a7 1 rfl rfl rfl (by assumption) rfl ?_|refine aq a7 0 rfl rfl rfl (by assumption) rfl ?_|fail)|fail))
  refine av rfl (fun h => ?_) (fun h => ?_)
  ·have h0 : 0 < R.length := by have := of_decide_eq_true h; omega
   clear h
   (repeat' (first|refine ah ?_|refine a6 ?_|refine am ?_|refine ak ?_|refine a8 ?_|fail))
   refine kU (by kernel_rfl) rfl rfl ?_
   (repeat' (first|fail))
   refine aZ (hst p (some (b, cs)) R) _ (y9 p b cs R hR h0 (by omega)) rfl rfl lK rfl fun c L1 ⟨z, cs', R', hc, hL, hR', hpm⟩ => ?_
   subst hc; subst hL
   refine bh (bc lK.symm) ?_
   (repeat' (first|fail))
   refine wE (by kernel_rfl) rfl rfl ?_
   (repeat' (first|refine ah ?_|refine a6 ?_|refine a8 ?_|refine aa ?_|refine ae a7 rfl rfl ?_|refine bM a7 ?_|fail))
   have hKm := (hK.perm hpm).pop
   have hz := hKm.dom z (by simp)
   have hTz : z ∉ T := fun hm => by
    have := hKm.nodup
    rw [List.append_assoc, List.nodup_append] at this
    exact this.2.2 z hm z (by simp) rfl
   have hTl := eb (List.nodup_append.1 hKm.nodup).1 (fun y hy => hKm.dom y (List.mem_append_left _ hy))
   rw [List.length_append] at hTl
   have hTi := aM T
   have hall : ∀ q : Int, 0 ≤ q → q < g → (bQ (prt f) (bP g) z).count q = (prt f q).count z := fun q q0 q1 => by rw [jR _ _ _ _ (fx g), if_pos (d8.2 ⟨q0, q1⟩)]
   have hUl := jG hf.prt z (bP g)
   rw [d9] at hUl
   refine cF a7 _ rfl rfl rfl rfl (gt (T := tok kt 3 1 (aV T).length) (T' := []) (by rw [List.append_nil])) (by rw [hTi]; show _ + 1 ≤ _; simp at hTl; omega) (by rw [hTi]; show (_ + 1) * 8 ≤ _; simp at hTl; omega) rfl fun k' => ?_
   rw [show aV T ++ [[AV.sc (.int .i64 z)]] = aV (T ++ [z]) from cE T [z]]
   refine bh (bc (gt (T := tok k' 3 1 (aV (T ++ [z])).length) (T' := []) (by rw [List.append_nil])).symm) ?_
   (repeat' (first|refine ah ?_|refine a6 ?_|refine a8 ?_|refine aa ?_|refine ae a7 rfl rfl ?_|fail))
   refine gY 1 (.slice none 0 0) (.vec (K z) 1 (aV (bQ (prt f) (bP g) z))) Tryz.underlying327 Tryz.underlying3 rfl rfl rfl rfl (by kernel_rfl) (hU.at z) rfl ?_
   (repeat' (first|refine am ?_|refine a8 ?_|refine aa ?_|refine ae a7 rfl rfl ?_|fail))
   have hUi := aM (bQ (prt f) (bP g) z)
   refine aL [5, 6, 7, 11, 64, 65] (α := Nat × KS) (fun x => [(66, aQ x.1)]) (fun x => x.2.T = T ++ [z] ∧ x.2.kt = k' ∧ x.1 ≤ (bQ (prt f) (bP g) z).length ∧ og g (prt f) T z ((bQ (prt f) (bP g) z).take x.1) x.2.R x.2.M ∧ lp x.2.mm x.2.M ∧ lU x.2.kh x.2.R) (fun x => BE bm bu p mu (iP 3 K (bQ (prt f) (bP g)) (bP g) ++ jM dbs) x.2) (fun x => (bQ (prt f) (bP g) z).length - x.1) (0, ⟨T ++ [z], R', M, mm, some (b, cs'), k'⟩) rfl ⟨rfl, trivial⟩ ⟨rfl, rfl, Nat.zero_le _, hKm, hM, hR'⟩ (fun σ w h => h) ?_
   clear hM hR hK hR' hKm hpm
   rintro ⟨j, ⟨T', R, M, mm, kh, kt'⟩⟩ ⟨hT', hk', hj, hK, hM, hR⟩
   dsimp only at hT' hk' hj hK hM hR ⊢
   subst hT'; subst hk'
   unfold BE
   dsimp only
   try dsimp only [List.cons_append, List.nil_append, List.map_cons, List.map_nil]
   (repeat' (first|refine ah ?_|refine a6 ?_|refine a8 ?_|refine aa ?_|refine ae a7 rfl rfl ?_|fail))
   refine av rfl (fun h => ?_) (fun h => ?_)
   ·have hjl : j < (bQ (prt f) (bP g) z).length := by have := of_decide_eq_true h; rw [hUi] at this; omega
    obtain ⟨u, hu⟩ : ∃ u, (bQ (prt f) (bP g) z)[j]? = some u := ⟨_, List.getElem?_eq_getElem hjl⟩
    have hug := bk hu
    have hur := d8.1 (pf (List.mem_of_getElem? hu))
    obtain ⟨hpos, hK'⟩ := hK.step hall hTz hu hur.1 hur.2
    have hmu := hK.miss u hur.1 hur.2
    have hml := wC (prt f) T u
    have hpl := hf.prt u
    have hRl2 := eb hK.nodup hK.dom
    rw [List.length_append, List.length_append] at hRl2
    clear h
    (repeat' (first|refine ah ?_|refine a6 ?_|refine am ?_|refine ak ?_|refine a8 ?_|refine aa ?_|refine ae a7 rfl rfl ?_|(apply aP; first|refine aO a7 ?_|refine aI a7 ?_)|fail))
    refine gY 0 (.int .i64 0) (aQ (M u)) Tryz.underlying326 Tryz.underlying3 rfl rfl rfl rfl (by kernel_rfl) (hM.at u) rfl ?_
    (repeat' (first|(apply aX; refine aW ?_)|fail))
    refine cG 0 (ja mm (.int .i64 u) (aQ (M u - 1))) Tryz.underlying326 Tryz.underlying3 rfl rfl rfl rfl rfl fW (fun q h => fo q h) ?_
    (repeat' (first|refine ah ?_|refine a6 ?_|refine a8 ?_|refine aa ?_|refine ae a7 rfl rfl ?_|fail))
    refine gY 0 (.int .i64 0) (aQ (M u - 1)) Tryz.underlying326 Tryz.underlying3 rfl rfl rfl rfl (by kernel_rfl) (fun σ v h => ?_) rfl ?_
    ·have := (hM.put u (M u - 1)).at u σ v h
     simpa using this
    (repeat' (first|refine a8 ?_|refine aa ?_|refine ae a7 rfl rfl ?_|fail))
    refine av rfl (fun h => ?_) (fun h => ?_)
    ·have h1 := of_decide_eq_true h
     rw [if_pos h1] at hK'
     (repeat' (first|refine a6 ?_|fail))
     refine kU (by kernel_rfl) rfl rfl ?_
     (repeat' (first|refine ae a7 rfl rfl ?_|fail))
     refine kU (by kernel_rfl) rfl rfl ?_
     (repeat' (first|fail))
     refine aZ (hst p kh R) _ (wf p kh R u hR (by omega)) rfl rfl lK rfl fun c L1 ⟨b2, cs2, R2, hL, hR2, hpm⟩ => ?_
     subst hL
     refine bh (bc lK.symm) ?_
     (repeat' (first|refine a6 ?_|refine a8 ?_|refine aJ ?_|refine aa ?_|refine ae a7 rfl rfl ?_|(apply aX; refine aW ?_)|fail))
     exact aE (j + 1, ⟨T ++ [z], R2, _, _, some (b2, cs2), kt'⟩) rfl ⟨by rw [Int.natCast_add]; rfl, trivial⟩ ⟨rfl, rfl, by dsimp only; omega, hK'.perm hpm, hM.put u (M u - 1), hR2⟩ (by dsimp only; omega) (fun _ _ h => h)
    ·have h1 := of_decide_eq_false h
     rw [if_neg h1] at hK'
     (repeat' (first|refine a6 ?_|refine ak ?_|refine a8 ?_|refine aJ ?_|refine aa ?_|refine ae a7 rfl rfl ?_|(apply aX; refine aW ?_)|fail))
     exact aE (j + 1, ⟨T ++ [z], R, _, _, kh, kt'⟩) rfl ⟨by rw [Int.natCast_add]; rfl, trivial⟩ ⟨rfl, rfl, by dsimp only; omega, hK', hM.put u (M u - 1), hR⟩ (by dsimp only; omega) (fun _ _ h => h)
   ·have hjl : j = (bQ (prt f) (bP g) z).length := by have := of_decide_eq_false h; rw [hUi] at this; omega
    subst hjl
    rw [List.take_length] at hK
    (repeat' (first|refine aR ?_|refine az ?_|refine aJ ?_|refine aC ?_|refine aA ?_|fail))
    exact aE ⟨T ++ [z], R, M, mm, kh, kt'⟩ rfl ⟨rfl, trivial⟩ ⟨hK.done hall hTz, hM, hR⟩ (by dsimp only; simp at hTl ⊢; omega) (fun _ _ h => h)
  ·have hR0 : R = [] := List.eq_nil_of_length_eq_zero (by have := of_decide_eq_false h; omega)
   subst hR0
   (repeat' (first|refine ah ?_|refine a6 ?_|refine au ?_|refine aR ?_|refine a8 ?_|refine az ?_|refine aC ?_|refine aA ?_|refine aa ?_|refine ae a7 rfl rfl ?_|fail))
   refine bU (cw (t := 4) (c' := .imm 1 (aV T)) rfl fun σ v h => VR.im h) ?_
   refine eH (L' := jM dbs) (((((List.sublist_append_right _ _).trans (List.sublist_append_right _ _)).trans (List.sublist_append_right _ _)).cons _).cons _) ?_
   exact eI (cs := [.imm 1 (aV T)]) dbs [] rfl (List.Perm.refl _) ⟨rfl, trivial⟩ ⟨T, rfl, hK.fin⟩
end Go.Proofs.YtpbinloeemebkaaGreat

namespace Go.Proofs
open Go.Shelf
def Tryz.laysSort_ren : Go.Shelf.Ren := ⟨fun | 189 => 52 | 125 => 73 | 257 => 72 | 128 => 145 | 129 => 146 | 294 => 136 | 295 => 137 | 296 => 138 | 297 => 139 | 298 => 140 | 299 => 141 | 216 => 142 | 300 => 143 | 301 => 144 | 328 => 215 | 329 => 216 | 330 => 217 | 331 => 218 | 332 => 219 | 215 => 220 | 343 => 266 | n => n, fun | 28 => 29 | 3 => 3 | 46 => 163 | 0 => 0 | 51 => 239 | 53 => 241 | 4 => 4 | 183 => 232 | 182 => 231 | 131 => 217 | 5 => 5 | 9 => 9 | 218 => 290 | 222 => 294 | 228 => 323 | 229 => 324 | n => n, fun | n => n⟩
theorem Tryz.laysSort : Go.Proofs.Lays.n189 Tryz.prog Tryz.laysSort_ren := {
 mixed := by kernel_rfl
 f125 := Tryz.func73.trans (congrArg some (by kernel_rfl))
 f128 := Tryz.func145.trans (congrArg some (by kernel_rfl))
 f129 := Tryz.func146.trans (congrArg some (by kernel_rfl))
 f189 := Tryz.func52.trans (congrArg some (by kernel_rfl))
 f215 := Tryz.func220.trans (congrArg some (by kernel_rfl))
 f216 := Tryz.func142.trans (congrArg some (by kernel_rfl))
 f257 := Tryz.func72.trans (congrArg some (by kernel_rfl))
 f294 := Tryz.func136.trans (congrArg some (by kernel_rfl))
 f295 := Tryz.func137.trans (congrArg some (by kernel_rfl))
 f296 := Tryz.func138.trans (congrArg some (by kernel_rfl))
 f297 := Tryz.func139.trans (congrArg some (by kernel_rfl))
 f298 := Tryz.func140.trans (congrArg some (by kernel_rfl))
 f299 := Tryz.func141.trans (congrArg some (by kernel_rfl))
 f300 := Tryz.func143.trans (congrArg some (by kernel_rfl))
 f301 := Tryz.func144.trans (congrArg some (by kernel_rfl))
 f328 := Tryz.func215.trans (congrArg some (by kernel_rfl))
 f329 := Tryz.func216.trans (congrArg some (by kernel_rfl))
 f330 := Tryz.func217.trans (congrArg some (by kernel_rfl))
 f331 := Tryz.func218.trans (congrArg some (by kernel_rfl))
 f332 := Tryz.func219.trans (congrArg some (by kernel_rfl))
 f343 := Tryz.func266.trans (congrArg some (by kernel_rfl))
 t0 := Tryz.underlying0
 a0 := Tryz.isAgg0
 z0 := Tryz.sizeOf0
 v0 := Tryz.zeroValue0
 t3 := Tryz.underlying3
 a3 := Tryz.isAgg3
 z3 := Tryz.sizeOf3
 v3 := Tryz.zeroValue3
 t4 := Tryz.underlying4
 a4 := Tryz.isAgg4
 z4 := Tryz.sizeOf4
 v4 := Tryz.zeroValue4
 t5 := Tryz.underlying5
 a5 := Tryz.isAgg5
 z5 := Tryz.sizeOf5
 v5 := Tryz.zeroValue5
 t9 := Tryz.underlying9
 a9 := Tryz.isAgg9
 z9 := Tryz.sizeOf9
 v9 := Tryz.zeroValue9
 t28 := Tryz.underlying29
 a28 := Tryz.isAgg29
 z28 := Tryz.sizeOf29
 v28 := Tryz.zeroValue29
 t46 := Tryz.underlying163
 a46 := Tryz.isAgg163
 z46 := Tryz.sizeOf163
 v46 := Tryz.zeroValue163
 t51 := Tryz.underlying239
 a51 := Tryz.isAgg239
 z51 := Tryz.sizeOf239
 v51 := Tryz.zeroValue239
 t53 := Tryz.underlying241
 a53 := Tryz.isAgg241
 z53 := Tryz.sizeOf241
 v53 := Tryz.zeroValue241
 t131 := Tryz.underlying217
 a131 := Tryz.isAgg217
 z131 := Tryz.sizeOf217
 v131 := Tryz.zeroValue217
 t182 := Tryz.underlying231
 a182 := Tryz.isAgg231
 z182 := Tryz.sizeOf231
 v182 := Tryz.zeroValue231
 t183 := Tryz.underlying232
 a183 := Tryz.isAgg232
 z183 := Tryz.sizeOf232
 v183 := Tryz.zeroValue232
 t218 := Tryz.underlying290
 a218 := Tryz.isAgg290
 z218 := Tryz.sizeOf290
 v218 := Tryz.zeroValue290
 t222 := Tryz.underlying294
 a222 := Tryz.isAgg294
 z222 := Tryz.sizeOf294
 v222 := Tryz.zeroValue294
 t228 := Tryz.underlying323
 a228 := Tryz.isAgg323
 z228 := Tryz.sizeOf323
 v228 := Tryz.zeroValue323
 t229 := Tryz.underlying324
 a229 := Tryz.isAgg324
 z229 := Tryz.sizeOf324
 v229 := Tryz.zeroValue324 }
end Go.Proofs

namespace Go.Proofs.YtpbinloeemebkaaGreat
open Go.RowKit Go.Shelf Go.Sort
def dt (l : List Int) : List Int := l.mergeSort fun x y => decide (x ≤ y)
theorem iE (l : List Int) : (dt l).length = l.length := by simp [dt]
theorem sG (b n : Nat) (l : List Int) (w : World) (hn : l.length = n) (hl : n ≤ 1000000) (hb : w.heap[b]? = some (.cells (l.map (Value.int .i64)).toArray 3 (0, 0))) :
  Calls Tryz.prog 52 #[.slice (some ⟨b, 0, none⟩) n n] w fun e w' => e = .returned (.tuple #[]) ∧ w.grownBy w' (some b) ∧ w'.heap[b]? = some (.cells ((dt l).map (Value.int .i64)).toArray 3 (0, 0)) := by
 have hH : Holds (Value.int .i64) w b 0 l.toArray := by
  intro j hj
  have hj' : j < l.length := by simpa using hj
  rw [Nat.zero_add, da hb, oP hb]
  refine ⟨?_, rfl⟩
  simp [hj']
 have hlt : b < w.heap.size := (Array.getElem?_eq_some_iff.1 hb).1
 subst hn
 have h := calls_of_every_depth fun D => AnyS.slices_Sort_int_alone Tryz.laysSort D b 0 l.length l w hH hlt (by omega)
 refine Calls.mono h fun e w' ⟨he, q, os, hw⟩ => ⟨he, ?_⟩
 rw [Lib.sorted_world _ w b 0 q _ _ os hH (by simp), show (l.mergeSort fun x y => decide (x ≤ y)) = dt l from rfl] at hw
 have hb' : (w.drewN q).heap[b]? = some (.cells (l.map (Value.int .i64)).toArray 3 (0, 0)) := hb
 obtain ⟨hg, cs', hh, hs', hj⟩ := gL b ((dt l).map (Value.int .i64)) 0 (w.drewN q) _ 3 (0, 0) hb'
 have hsz : (w.drewN q).heap.size = w.heap.size := rfl
 have hgs := hg.size
 subst hw
 refine ⟨⟨hg.os, hg.tape, hg.output, ?_, fun k hk hkb => ?_⟩, ?_⟩
 ·show w.heap.size ≤ (((w.drewN q).setCells b 0 ((dt l).map (Value.int .i64))).heap ++ os).size
  rw [Array.size_append]
  exact Nat.le_trans hgs (Nat.le_add_right _ _)
 ·show (((w.drewN q).setCells b 0 ((dt l).map (Value.int .i64))).heap ++ os)[k]? = _
  rw [Array.getElem?_append_left (Nat.lt_of_lt_of_le hk hgs)]
  exact hg.block k hk hkb
 ·show (((w.drewN q).setCells b 0 ((dt l).map (Value.int .i64))).heap ++ os)[b]? = _
  rw [Array.getElem?_append_left (Nat.lt_of_lt_of_le hlt hgs)]
  refine hh.trans ?_
  congr 2
  apply Array.ext_getElem?
  intro j
  rw [hj j]
  simp only [List.length_map, iE, List.size_toArray, List.getElem?_toArray]
  by_cases hjl : j < l.length
  ·rw [if_pos (by omega)]; rfl
  ·rw [if_neg (by omega), List.getElem?_eq_none (by simpa using hjl), List.getElem?_eq_none (by simpa [iE] using hjl)]
theorem tD (b n : Nat) (l : List Int) (hn : l.length = n) (hl : n ≤ 1000000) : AC Tryz.prog 52 [.sc (.slice (some ⟨b, 0, none⟩) n n)] [(b, .box (l.map aQ) 3)] fun _ L => L = [(b, .box ((dt l).map aQ) 3)] := by
 intro σ w vs hv hst
 obtain ⟨v, ws, rfl, h1, h2⟩ := hv.inv
 rw [h2.nil_inv, h1.sc_inv]
 obtain ⟨o, ho, us, rfl, hus, hu1⟩ := hst.here _ (List.mem_cons_self ..)
 have hmap : ∀ (l : List Int) (us : List Value), d4 σ (l.map aQ) us → us = l.map (Value.int .i64) := by
  intro l
  induction l with
  | nil => intro us h; exact h.nil_inv
  | cons z l ih =>
   intro us h
   obtain ⟨v, ws, rfl, h1, h2⟩ := h.inv
   rw [h1.sc_inv, ih ws h2]
   rfl
 have e := hmap l us hus
 subst e
 refine (sG b n l w hn hl ho).mono fun e w' ⟨he, hg, hh⟩ => ⟨_, σ, .tup [], _, he, .tup [] [] rfl (fun i c u h => by simp at h), ?_, rfl⟩
 refine hst.put (fun _ => trivial) hg hh ⟨_, rfl, ⟨by simp, fun i c u hc hu => ?_⟩, fun u hu => ?_⟩
 ·rw [List.getElem?_map] at hc hu
  cases hz : (dt l)[i]? with
  | none => rw [hz] at hc; cases hc
  | some z => rw [hz] at hc hu; cases hc; cases hu; exact .sc _
 ·obtain ⟨z, _, rfl⟩ := List.mem_map.1 hu
  rfl
theorem jj (l : List Int) : (dt l).Perm l := List.mergeSort_perm ..
theorem v7 (l : List Int) : (dt l).Pairwise (· ≤ ·) := by
  have := List.pairwise_mergeSort (le := fun x y : Int => decide (x ≤ y)) (fun a b c h1 h2 => by simp at *; omega) (fun a b => by simp; omega) l
  exact this.imp fun h => by simpa using h
theorem kr {n : Nat} {l : List Int} (h : cm n l) : dt l = d3 l n := by
  have h1 : (dt l).Pairwise (· < ·) := by
    have hn : (dt l).Nodup := (jj l).nodup_iff.2 h.nodup
    have hp := v7 l
    rw [List.nodup_iff_pairwise_ne] at hn
    exact (hp.and hn).imp fun ⟨a, b⟩ => by omega
  have h2 : (d3 l n).Pairwise (· < ·) := by
    unfold d3
    refine List.Pairwise.filter _ ?_
    rw [List.pairwise_map]
    exact List.pairwise_lt_range.imp fun h => by simpa using h
  have hmem : ∀ z, z ∈ dt l ↔ z ∈ d3 l n := fun z => by
    rw [(jj l).mem_iff, dL]
    exact ⟨fun hz => ⟨hz, h.dom z hz⟩, fun hz => hz.1⟩
  have hp : (dt l).Perm (d3 l n) := by
    rw [List.perm_ext_iff_of_nodup]
    · exact hmem
    · exact (jj l).nodup_iff.2 h.nodup
    · exact iD l n
  exact List.Perm.eq_of_pairwise (le := fun a b : Int => a < b) (fun a b _ _ h1 h2 => by omega) h1 h2 hp
end Go.Proofs.YtpbinloeemebkaaGreat

namespace Go.Proofs.YtpbinloeemebkaaGreat
open Go.RowKit
attribute [local irreducible] AT bN AX AO Av Kt bi dE DA d6
def dS (l : List Int) (i : Nat) : List AV := (l.take i ++ List.replicate (l.length - i) 0).map aQ
theorem pv (l : List Int) {i : Nat} (h : i ≤ l.length) : (dS l i).length = l.length := by simp [dS]; omega
theorem mD (l : List Int) (m : Nat) (hm : m = l.length) : (List.replicate m [aQ 0]).flatten = dS l 0 := by
 subst hm
 unfold dS
 rw [List.take_zero, List.nil_append, Nat.sub_zero, List.map_replicate]
 generalize l.length = m
 induction m with
 | zero => rfl
 | succ m ih => rw [List.replicate_succ, List.flatten_cons, ih, List.replicate_succ]; rfl
theorem px {l : List Int} {i : Nat} {z : Int} (h : l[i]? = some z) : (dS l i).set (0 + (i : Int).toNat * 1) (aQ z) = dS l (i + 1) := by
 have hi := (List.getElem?_eq_some_iff.1 h).1
 rw [Nat.zero_add, Nat.mul_one, Int.toNat_natCast]
 unfold dS
 rw [← List.map_set (f := aQ)]
 congr 1
 rw [List.set_append_right _ _ (by simp; omega), List.take_add_one, h, List.append_assoc]
 congr 1
 rw [show l.length - i = (l.length - (i + 1)) + 1 by omega, List.replicate_succ, show i - (l.take i).length = 0 by simp; omega]
 rfl
theorem pu (l : List Int) : dS l l.length = l.map aQ := by simp [dS]
theorem gS (l : List Int) : (aV l).flatten = l.map aQ := by
 unfold aV
 induction l with
 | nil => rfl
 | cons z l ih => rw [List.map_cons, List.flatten_cons, ih]; rfl
theorem wZ (p b n : Nat) (k : Option (Nat × Nat)) (l : List Int) (hl : l.length ≤ 1000000) : AC Tryz.prog 30 [eV p] (cW p b n k l) fun c L => c = .imm 1 (aV (dt l)) ∧ L = cW p b n k l := by
 refine aU Tryz.func30 rfl Tryz.ntmps30 rfl fun B => ?_
 (repeat' (first|refine ah ?_|refine a6 ?_|refine a8 ?_|refine aa ?_|refine ae a7 rfl rfl ?_|(apply bn; first|refine aq a7 0 rfl rfl rfl rfl rfl ?_|refine aq a7 1 rfl rfl rfl rfl rfl ?_|refine aq a7 2 rfl rfl rfl rfl rfl ?_|refine aq a7 3 rfl rfl rfl rfl rfl ?_|refine aF a7 0 rfl rfl rfl rfl rfl ?_|refine aF a7 1 rfl rfl rfl rfl rfl ?_|refine aF a7 2 rfl rfl rfl rfl rfl ?_|refine aq a7 1 rfl rfl rfl (by assumption) rfl ?_|refine aq a7 0 rfl rfl rfl (by assumption) rfl ?_|fail)|fail))
 refine jb a7 l.length rfl rfl rfl rfl rfl (by rw [aM]) (by rw [aM]) (by omega) (by omega) rfl fun b3 => ?_
 rw [show (List.replicate l.length (List.map AV.sc [Value.int .i64 0])).flatten = dS l 0 from mD l _ rfl]
 (repeat' (first|refine ah ?_|refine a6 ?_|refine am ?_|refine a8 ?_|refine aa ?_|refine ae a7 rfl rfl ?_|(apply bn; first|refine aq a7 0 rfl rfl rfl rfl rfl ?_|refine aq a7 1 rfl rfl rfl rfl rfl ?_|refine aq a7 2 rfl rfl rfl rfl rfl ?_|refine aq a7 3 rfl rfl rfl rfl rfl ?_|refine aF a7 0 rfl rfl rfl rfl rfl ?_|refine aF a7 1 rfl rfl rfl rfl rfl ?_|refine aF a7 2 rfl rfl rfl rfl rfl ?_|refine aq a7 1 rfl rfl rfl (by assumption) rfl ?_|refine aq a7 0 rfl rfl rfl (by assumption) rfl ?_|fail)|fail))
 refine aL [3, 15, 16] (α := Nat) (fun i => [(17, aQ i)]) (fun i => i ≤ l.length) (fun i => (b3, .box (dS l i) 3) :: cW p b n k l) (fun i => l.length - i) 0 rfl ⟨rfl, trivial⟩ (Nat.zero_le _) (fun _ _ h => h) fun i hi => ?_
 try dsimp only [List.cons_append, List.nil_append, List.map_cons, List.map_nil]
 (repeat' (first|refine ah ?_|refine a6 ?_|refine a8 ?_|refine aa ?_|refine ae a7 rfl rfl ?_|fail))
 refine av rfl (fun h => ?_) (fun h => ?_)
 ·have hil : i < l.length := by have := of_decide_eq_true h; simp [aM] at this; omega
  obtain ⟨z, hz⟩ : ∃ z, l[i]? = some z := ⟨_, List.getElem?_eq_getElem hil⟩
  have hzg := bk hz
  (repeat' (first|refine ah ?_|refine a6 ?_|refine am ?_|refine ak ?_|refine a8 ?_|refine aa ?_|refine ae a7 rfl rfl ?_|(apply aP; first|refine aO a7 ?_|refine aI a7 ?_)|fail))
  refine aj a7 0 rfl rfl rfl rfl rfl rfl (by rw [Nat.ble_eq, pv l hi]; show _ + 1 ≤ l.length; omega) ?_
  rw [dU, px hz]
  (repeat' (first|refine a6 ?_|refine a8 ?_|refine aJ ?_|refine aa ?_|refine ae a7 rfl rfl ?_|(apply aX; refine aW ?_)|fail))
  exact aE (i + 1) rfl ⟨by rw [Int.natCast_add]; rfl, trivial⟩ (by omega) (by omega) (fun _ _ h => h)
 ·have hil : i = l.length := by have := of_decide_eq_false h; simp [aM] at this; omega
  subst hil
  rw [pu]
  (repeat' (first|refine ah ?_|refine a6 ?_|refine aR ?_|refine a8 ?_|refine az ?_|refine aC ?_|refine aA ?_|refine ae a7 rfl rfl ?_|fail))
  refine aZ [(b3, .box (l.map aQ) 3)] (cW p b n k l) (tD b3 l.length l rfl hl) rfl rfl (List.Perm.refl _) rfl fun c L1 hL1 => ?_
  subst hL1
  (repeat' (first|refine ah ?_|refine a6 ?_|refine au ?_|refine a8 ?_|refine aa ?_|refine ae a7 rfl rfl ?_|fail))
  refine bU (lb (t := 2) (sz := 1) (l := aV (dt l)) 0 rfl rfl (gS _).symm (by simp [aV]) (by rw [aM, iE]) (by omega)) ?_
  exact eH (List.sublist_cons_self ..) (kD rfl rfl rfl ⟨rfl, rfl⟩)
end Go.Proofs.YtpbinloeemebkaaGreat

namespace Go.Proofs.YtpbinloeemebkaaGreat
open Go.RowKit
attribute [local irreducible] AT bN AX AO Av Kt bi dE DA d6
theorem By {n i : Nat} (h : i < n) : (dS (bP n) i).set (0 + (i : Int).toNat * 1) (aQ i) = dS (bP n) (i + 1) := px (fK h)
set_option maxHeartbeats 1000000 in
theorem wL (f : aH) (hf : Few f) (hr : fF f.Glyphs.length (prt f) ∨ AC Tryz.prog 235 [bw f] [] fun c _ => ∃ z : Int, c = aQ z) : AC Tryz.prog 162 [bw f] [] fun c _ => (∃ T, c = .tup [.imm 1 (aV T), aQ 0, aQ 0] ∧ gC f.Glyphs.length (prt f) T ∧ T.length = f.Glyphs.length) ∨ (¬ fF f.Glyphs.length (prt f) ∧ ∃ z : Int, c = .tup [.imm 1 [], aQ z, aQ 33]) := by
 refine aU Tryz.func162 rfl Tryz.ntmps162 rfl fun B => ?_
 have hn := hf.n
 have hln := ye f hf
 have hml : (f.Glyphs.map bz).length = f.Glyphs.length := List.length_map ..
 generalize hN : f.Glyphs.length = n at *
 (repeat' (first|refine ah ?_|refine a6 ?_|refine a8 ?_|refine aa ?_|refine ae a7 rfl rfl ?_|refine b6 ?_|fail))
 rw [hml]
 refine jb a7 n rfl rfl rfl rfl rfl rfl rfl (by omega) (by omega) rfl fun b => ?_
 rw [show (List.replicate n (List.map AV.sc [Value.int .i64 0])).flatten = dS (bP n) 0 from mD (bP n) n (d9 n).symm]
 have hul := d9 n
 (repeat' (first|refine ah ?_|refine a6 ?_|refine am ?_|refine a8 ?_|refine aa ?_|refine ae a7 rfl rfl ?_|fail))
 refine aL [1, 5, 13] (α := Nat) (fun i => [(14, aQ i)]) (fun i => i ≤ n) (fun i => [(b, .box (dS (bP n) i) 3)]) (fun i => n - i) 0 rfl ⟨rfl, trivial⟩ (Nat.zero_le _) (fun _ _ h => h) fun i hi => ?_
 try dsimp only [List.cons_append, List.nil_append, List.map_cons, List.map_nil]
 (repeat' (first|refine ah ?_|refine a6 ?_|refine a8 ?_|refine aa ?_|refine ae a7 rfl rfl ?_|fail))
 refine av rfl (fun h => ?_) (fun h => ?_)
 ·have hil : i < n := by have := of_decide_eq_true h; omega
  (repeat' (first|refine ah ?_|refine a6 ?_|refine am ?_|refine ak ?_|refine a8 ?_|refine aa ?_|refine ae a7 rfl rfl ?_|(apply aP; first|refine aO a7 ?_|refine aI a7 ?_)|fail))
  refine aj a7 0 rfl rfl rfl rfl rfl rfl (by rw [Nat.ble_eq, pv (bP n) (by omega), hul]; show _ + 1 ≤ n; omega) ?_
  rw [dU, By hil]
  (repeat' (first|refine a6 ?_|refine a8 ?_|refine aJ ?_|refine aa ?_|refine ae a7 rfl rfl ?_|(apply aX; refine aW ?_)|fail))
  exact aE (i + 1) rfl ⟨by rw [Int.natCast_add]; rfl, trivial⟩ (by omega) (by omega) (fun _ _ h => h)
 ·have hil : i = n := by have := of_decide_eq_false h; omega
  subst hil
  clear h
  rw [show dS (bP i) i = (bP i).map aQ by have := pu (bP i); rw [hul] at this; exact this]
  refine fy (lb (t := 5) (sz := 1) (l := aV (bP i)) 0 rfl rfl (gS _).symm (by simp [aV]) (by rw [aM, hul]) (by omega)) ?_
  (repeat' (first|refine ah ?_|refine a6 ?_|refine aR ?_|refine a8 ?_|refine az ?_|refine aC ?_|refine aA ?_|refine ae a7 rfl rfl ?_|fail))
  refine aZ [] _ hln rfl rfl (List.Perm.refl _) rfl fun c L1 ⟨T, hc, hT⟩ => ?_
  subst hc
  have hTl := aM T
  have hIl := aM (bP i)
  have hTn := hT.len
  rw [hul] at hIl
  refine bh (dA (List.nil_sublist _)) ?_
  (repeat' (first|refine ah ?_|refine a6 ?_|refine a8 ?_|refine aa ?_|refine ae a7 rfl rfl ?_|fail))
  refine av rfl (fun h => ?_) (fun h => ?_)
  ·have hlt := of_decide_eq_true h
   rw [hTl, hIl] at hlt
   have hna : ¬ fF i (prt f) := fun ha => by
    have := hT.len_all (hT.all ha fun g p hp => by have := lL hp; rw [hN] at this; exact this)
    omega
   rcases hr with hr | hr
   ·exact absurd hr hna
   (repeat' (first|refine ah ?_|refine a6 ?_|refine ae a7 rfl rfl ?_|fail))
   refine aZ [] [] hr rfl rfl (List.Perm.refl _) rfl fun c L1 ⟨z, hc⟩ => ?_
   subst hc
   (repeat' (first|refine au ?_|refine a8 ?_|refine ar ?_|refine aa ?_|refine ae a7 rfl rfl ?_|fail))
   refine bU (cw (t := 2) (c' := .imm 1 []) rfl fun σ v h => iG 1 h) ?_
   exact sZ (cs := [.imm 1 [], aQ z, aQ 33]) ⟨rfl, rfl, rfl, trivial⟩ (.inr ⟨hna, z, rfl⟩)
  ·have hlt := of_decide_eq_false h
   rw [hTl, hIl] at hlt
   (repeat' (first|refine ah ?_|refine a6 ?_|refine ak ?_|refine au ?_|refine a8 ?_|refine aa ?_|refine ae a7 rfl rfl ?_|fail))
   exact sZ (cs := [.imm 1 (aV T), aQ 0, aQ 0]) ⟨rfl, rfl, rfl, trivial⟩ (.inl ⟨T, rfl, hT, by omega⟩)
end Go.Proofs.YtpbinloeemebkaaGreat
