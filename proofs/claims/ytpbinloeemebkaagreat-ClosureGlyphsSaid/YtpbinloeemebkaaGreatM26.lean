/-
  The program: the first ring of a font ends in some number.
-/
import Derived.Test.YtpbinloeemebkaaGreatM25
import Derived.Test.YtpbinloeemebkaaGreatM19
namespace Go.Proofs.YtpbinloeemebkaaGreat
open Go.RowKit
attribute [local irreducible] AT bN AX AO Av Kt bi dE DA d6
open Go.MapKept
attribute [local irreducible] lh
def qW : List Int → Int
 | [] => 0
 | x :: l => l.foldl min x
theorem uA {l : List Int} {i : Nat} {y : Int} (hi : 1 ≤ i) (h : l[i]? = some y) : qW (l.take (i + 1)) = min (qW (l.take i)) y := by
 cases l with
 | nil => cases h
 | cons x l =>
  obtain ⟨k, rfl⟩ : ∃ k, i = k + 1 := ⟨i - 1, by omega⟩
  rw [List.getElem?_cons_succ] at h
  show (l.take (k + 1)).foldl min x = min ((l.take k).foldl min x) y
  rw [List.take_add_one, h, Option.toList_some, List.foldl_append]
  rfl
theorem yi (l : List Int) (hl : l ≠ []) : bo Tryz.prog 274 [.imm 1 (aV l)] (aQ (qW l)) := by
 refine aU Tryz.func274 rfl Tryz.ntmps274 rfl fun B => ?_
 have hpos : 0 < l.length := List.length_pos_iff.2 hl
 refine cg 0 rfl rfl fun hlen => ?_
 rw [aM] at hlen
 have hil := aM l
 obtain ⟨x, hx⟩ : ∃ z, l[0]? = some z := ⟨_, List.getElem?_eq_getElem hpos⟩
 have hxi := bk hx
 (repeat' (first|refine ah ?_|refine a6 ?_|refine a8 ?_|refine aa ?_|refine ae a7 rfl rfl ?_|fail))
 refine av rfl (fun h => absurd (of_decide_eq_true h) (by omega)) (fun _ => ?_)
 (repeat' (first|refine ah ?_|refine a6 ?_|refine am ?_|refine ak ?_|refine a8 ?_|refine aa ?_|refine ae a7 rfl rfl ?_|(apply aP; first|refine aO a7 ?_|refine aI a7 ?_)|fail))
 refine aL [0] (α := Nat) (fun i => [(4, aQ i), (3, aQ (qW (l.take i)))]) (fun i => 1 ≤ i ∧ i ≤ l.length) (fun _ => []) (fun i => l.length - i) 1 rfl ⟨rfl, by cases l with | nil => (cases hx) | cons y l => (cases hx; rfl), trivial⟩ ⟨by omega, by omega⟩ (fun _ _ h => h) ?_
 rintro i ⟨h1, hi⟩
 try dsimp only [List.cons_append, List.nil_append, List.map_cons, List.map_nil]
 (repeat' (first|refine ah ?_|refine a6 ?_|refine a8 ?_|refine aa ?_|refine ae a7 rfl rfl ?_|fail))
 refine av rfl (fun h => ?_) (fun h => ?_)
 ·have hil : i < l.length := by have := of_decide_eq_true h; omega
  obtain ⟨y, hy⟩ : ∃ z, l[i]? = some z := ⟨_, List.getElem?_eq_getElem hil⟩
  have hyi := bk hy
  (repeat' (first|refine ah ?_|refine a6 ?_|refine am ?_|refine ak ?_|refine a8 ?_|refine aJ ?_|refine aa ?_|refine ae a7 rfl rfl ?_|(apply aX; refine aW ?_)|(apply aP; first|refine aO a7 ?_|refine aI a7 ?_)|fail))
  exact aE (i + 1) rfl ⟨by rw [Int.natCast_add]; rfl, by rw [uA h1 hy]; rfl, trivial⟩ ⟨by omega, by omega⟩ (by omega) (fun _ _ h => h)
 have hil : i = l.length := by have := of_decide_eq_false h; omega
 subst hil
 rw [List.take_length]
 (repeat' (first|refine ah ?_|refine a6 ?_|refine au ?_|refine aR ?_|refine a8 ?_|refine az ?_|refine aC ?_|refine aA ?_|refine aa ?_|refine ae a7 rfl rfl ?_|fail))
 exact aB rfl rfl rfl
theorem vN (l : List (List AV)) : bo Tryz.prog 272 [.imm 1 l] (.fn 284 [.iptr [.imm 1 l]]) := by
 refine aU Tryz.func272 rfl Tryz.ntmps272 rfl fun B => ?_
 (repeat' (first|refine ah ?_|refine a6 ?_|refine au ?_|refine a8 ?_|refine aa ?_|refine ae a7 rfl rfl ?_|refine b6 ?_|fail))
 exact aB rfl rfl rfl
instance (l : List (List AV)) : AD Tryz.prog 272 [.imm 1 l] (.fn 284 [.iptr [.imm 1 l]]) := ⟨vN l⟩
theorem zF {α : Type} {σ0 : ce} {l : Nat} (T : List Int) (E : α → AL) (J : α → Prop) (hy : ∀ (i : Nat) x z, J x → T[i]? = some z → AY Tryz.prog σ0 l [aQ i, aQ z] (E x) fun c L => c = c8 true ∧ ∃ x', J x' ∧ L = E x') (x0 : α) (h0 : J x0) (hlen : T.length ≤ 1000000) :
  vf Tryz.prog σ0 284 [.sc (.func (.yield l) #[] #[]), .iptr [.imm 1 (aV T)]] (E x0) fun _ L => ∃ x, J x ∧ L = E x := by
 refine jW Tryz.func284 rfl Tryz.ntmps284 rfl fun B hB => ?_
 have hil := aM T
 (repeat' (first|refine ah ?_|refine a6 ?_|refine am ?_|refine a8 ?_|refine aa ?_|refine ae a7 rfl rfl ?_|(apply aX; refine aW ?_)|fail))
 rw [hil]
 refine aL [0, 1] (α := Nat × α) (fun y => [(3, aQ ((y.1 : Int) - 1))]) (fun y => y.1 ≤ T.length ∧ J y.2) (fun y => E y.2) (fun y => y.1) (T.length, x0) rfl ⟨rfl, trivial⟩ ⟨Nat.le_refl _, h0⟩ (fun _ _ h => h) ?_
 rintro ⟨i, x⟩ ⟨hi, hj⟩
 dsimp only at hi hj ⊢
 try dsimp only [List.cons_append, List.nil_append, List.map_cons, List.map_nil]
 (repeat' (first|refine ah ?_|refine a6 ?_|refine a8 ?_|refine aa ?_|refine ae a7 rfl rfl ?_|fail))
 refine av rfl (fun h => ?_) (fun h => ?_)
 ·obtain ⟨k, rfl⟩ : ∃ k, i = k + 1 := ⟨i - 1, by have := of_decide_eq_true h; omega⟩
  clear h
  obtain ⟨z, hz⟩ : ∃ z, T[k]? = some z := ⟨_, List.getElem?_eq_getElem (by omega)⟩
  have hzi := bk hz
  rw [show ((k + 1 : Nat) : Int) - 1 = (k : Int) by omega]
  (repeat' (first|refine ah ?_|refine a6 ?_|refine am ?_|refine ak ?_|refine a8 ?_|refine ae a7 rfl rfl ?_|(apply aP; first|refine aO a7 ?_|refine aI a7 ?_)|fail))
  refine iz (E x) [] hB (hy k x z hj hz) rfl rfl rfl (by rw [List.append_nil]) rfl rfl fun c L1 ⟨hc, x', hj', hL⟩ => ?_
  subst hc; subst hL
  rw [List.append_nil]
  (repeat' (first|refine a6 ?_|refine ak ?_|refine a8 ?_|refine aJ ?_|refine aa ?_|refine ae a7 rfl rfl ?_|(apply aX; refine aW ?_)|refine bV rfl ?_|fail))
  exact aE (k, x') rfl ⟨rfl, trivial⟩ ⟨by dsimp only; omega, hj'⟩ (by dsimp only; omega) (fun _ _ h => h)
 ·(repeat' (first|refine aR ?_|refine az ?_|refine aC ?_|refine aA ?_|fail))
  exact cB rfl ⟨x, hj, rfl⟩
abbrev RX := VM × KT × (Int → List Int) × Int
def oZ (fb bu n : Nat) (rest : AL) (x : RX) : AL := (fb, .box [aQ x.2.2.2] 3) :: (bu, c6 KI x.1) :: (iP 3 x.2.1 x.2.2.1 (bP n) ++ rest)
abbrev RS := Nat × List Nat × VM × KT × Int
abbrev GX := Int × List Int
def s4 (fb bu bg : Nat) (mu : VM) (X : AL) (x : GX) : AL := (fb, .box [aQ x.1] 3) :: (bu, c6 KI mu) :: (bg, c6 KJ (cQ x.2)) :: X
def zf (n : Nat) (S : List Int) : Prop := S.Nodup ∧ ∀ z ∈ S, 0 ≤ z ∧ z < n
theorem zf.add {n : Nat} {S : List Int} (h : zf n S) {z : Int} (hz : 0 ≤ z ∧ z < n) (hn : z ∉ S) : zf n (S ++ [z]) := by
 refine ⟨List.nodup_append.2 ⟨h.1, by simp, fun x hx y hy e => by rw [List.mem_singleton] at hy; subst hy; subst e; exact hn hx⟩, fun y hy => ?_⟩
 rcases List.mem_append.1 hy with hy | hy
 ·exact h.2 y hy
 ·rw [List.mem_singleton] at hy; subst hy; exact hz
structure zg where
 n : Nat
 G : List Int
 S : List Int
 kg : Option (Nat × Nat)
def qM (n : Nat) (x : zg) : Prop := zf n x.S ∧ x.G.Nodup ∧ (∀ z ∈ x.G, z ∈ x.S) ∧ x.G ≠ []
theorem qM.len {n : Nat} {x : zg} (h : qM n x) : x.G.length ≤ n := eb h.2.1 fun z hz => h.1.2 z (h.2.2.1 z hz)
set_option maxHeartbeats 8000000 in
theorem yt (f : aH) (hf : Few f) : AC Tryz.prog 235 [bw f] [] fun c _ => ∃ z : Int, c = aQ z := by
 refine iS Tryz.func235 rfl Tryz.ntmps235 rfl fun B => ?_
 have hn := hf.n
 have hml : (f.Glyphs.map bz).length = f.Glyphs.length := List.length_map ..
 have hleft := yd f hf
 generalize hN : f.Glyphs.length = n at *
 (repeat' (first|refine ah ?_|refine a6 ?_|refine a8 ?_|refine aa ?_|refine ae a7 rfl rfl ?_|(apply aT; first|refine ai 4 a7 0 rfl rfl rfl rfl rfl rfl rfl rfl ?_|refine ai 4 a7 1 rfl rfl rfl rfl rfl rfl rfl rfl ?_|refine ai 4 a7 2 rfl rfl rfl rfl rfl rfl rfl rfl ?_|refine ai 5 a7 0 rfl rfl rfl rfl rfl rfl rfl rfl ?_|refine ai 5 a7 1 rfl rfl rfl rfl rfl rfl rfl rfl ?_|refine ai 5 a7 2 rfl rfl rfl rfl rfl rfl rfl rfl ?_|refine ai 6 a7 0 rfl rfl rfl rfl rfl rfl rfl rfl ?_|refine ai 6 a7 1 rfl rfl rfl rfl rfl rfl rfl rfl ?_|refine ai 6 a7 2 rfl rfl rfl rfl rfl rfl rfl rfl ?_|refine ai 7 a7 0 rfl rfl rfl rfl rfl rfl rfl rfl ?_|refine ai 7 a7 1 rfl rfl rfl rfl rfl rfl rfl rfl ?_|refine ai 7 a7 2 rfl rfl rfl rfl rfl rfl rfl rfl ?_|refine aj a7 0 rfl rfl rfl rfl rfl rfl rfl ?_|refine aj a7 1 rfl rfl rfl rfl rfl rfl rfl ?_|refine aj a7 2 rfl rfl rfl rfl rfl rfl rfl ?_|refine aj a7 3 rfl rfl rfl rfl rfl rfl rfl ?_|fail)|refine b6 ?_|refine bb a7 fun _=>?_|fail))
 rw [hml]
 rename_i fb
 refine dW KI fun bu => ?_
 (repeat' (first|refine ah ?_|refine a6 ?_|refine am ?_|refine a8 ?_|refine aa ?_|refine ae a7 rfl rfl ?_|(apply aT; first|refine ai 4 a7 0 rfl rfl rfl rfl rfl rfl rfl rfl ?_|refine ai 4 a7 1 rfl rfl rfl rfl rfl rfl rfl rfl ?_|refine ai 4 a7 2 rfl rfl rfl rfl rfl rfl rfl rfl ?_|refine ai 5 a7 0 rfl rfl rfl rfl rfl rfl rfl rfl ?_|refine ai 5 a7 1 rfl rfl rfl rfl rfl rfl rfl rfl ?_|refine ai 5 a7 2 rfl rfl rfl rfl rfl rfl rfl rfl ?_|refine ai 6 a7 0 rfl rfl rfl rfl rfl rfl rfl rfl ?_|refine ai 6 a7 1 rfl rfl rfl rfl rfl rfl rfl rfl ?_|refine ai 6 a7 2 rfl rfl rfl rfl rfl rfl rfl rfl ?_|refine ai 7 a7 0 rfl rfl rfl rfl rfl rfl rfl rfl ?_|refine ai 7 a7 1 rfl rfl rfl rfl rfl rfl rfl rfl ?_|refine ai 7 a7 2 rfl rfl rfl rfl rfl rfl rfl rfl ?_|refine aj a7 0 rfl rfl rfl rfl rfl rfl rfl ?_|refine aj a7 1 rfl rfl rfl rfl rfl rfl rfl ?_|refine aj a7 2 rfl rfl rfl rfl rfl rfl rfl ?_|refine aj a7 3 rfl rfl rfl rfl rfl rfl rfl ?_|fail)|refine bb a7 fun _=>?_|fail))
 rw [hml]
 refine qk [1, 3, 4, 20] (α := RS) (fun x => tp x.2.1) (fun x => [(21, aQ x.1)]) (fun x => x.1 ≤ n ∧ iO x.2.2.1 x.2.2.2.1 (bQ (prt f) (bP x.1))) (fun x => oZ fb bu n (jM x.2.1) (x.2.2.1, x.2.2.2.1, bQ (prt f) (bP x.1), x.2.2.2.2)) (fun x => n - x.1) (0, [], (fun _ => none), (fun _ => none), (n : Int)) rfl ⟨rfl, trivial⟩ rfl ⟨Nat.zero_le _, ?_⟩ (fun σ w h => ?_) ?_
 ·intro z; exact .inl ⟨rfl, rfl, rfl⟩
 ·have h : cK B σ [(bu, c6 KI fun _ => none), (fb, .box [aQ n] 3)] w := h
  have h1 := h.perm (List.Perm.swap ..)
  have h2 : oZ fb bu n (jM []) ((fun _ => none), (fun _ => none), bQ (prt f) (bP 0), (n : Int)) = [(fb, .box [aQ n] 3), (bu, c6 KI fun _ => none)] := by
   unfold oZ
   rw [pb]
   rfl
  show cK B σ (oZ fb bu n (jM []) ((fun _ => none), (fun _ => none), bQ (prt f) (bP 0), (n : Int))) w
  rw [h2]
  exact h1
 rintro ⟨g, dbs, mu, K, fz⟩ ⟨hg, hU⟩
 dsimp only at hg hU ⊢
 try dsimp only [List.cons_append, List.nil_append, List.map_cons, List.map_nil]
 (repeat' (first|refine ah ?_|refine a6 ?_|refine a8 ?_|refine aa ?_|refine ae a7 rfl rfl ?_|fail))
 refine av rfl (fun h => ?_) (fun h => ?_)
 ·have hgl : g < n := by have := of_decide_eq_true h; omega
  obtain ⟨gl, hgg⟩ : ∃ z, f.Glyphs[g]? = some z := ⟨_, List.getElem?_eq_getElem (by omega)⟩
  have hgm := List.mem_of_getElem? hgg
  clear h
  unfold oZ
  dsimp only
  (repeat' (first|refine ah ?_|refine a6 ?_|refine am ?_|refine ak ?_|refine a8 ?_|refine aa ?_|refine ae a7 rfl rfl ?_|(apply aT; first|refine ai 4 a7 0 rfl rfl rfl rfl rfl rfl rfl rfl ?_|refine ai 4 a7 1 rfl rfl rfl rfl rfl rfl rfl rfl ?_|refine ai 4 a7 2 rfl rfl rfl rfl rfl rfl rfl rfl ?_|refine ai 5 a7 0 rfl rfl rfl rfl rfl rfl rfl rfl ?_|refine ai 5 a7 1 rfl rfl rfl rfl rfl rfl rfl rfl ?_|refine ai 5 a7 2 rfl rfl rfl rfl rfl rfl rfl rfl ?_|refine ai 6 a7 0 rfl rfl rfl rfl rfl rfl rfl rfl ?_|refine ai 6 a7 1 rfl rfl rfl rfl rfl rfl rfl rfl ?_|refine ai 6 a7 2 rfl rfl rfl rfl rfl rfl rfl rfl ?_|refine ai 7 a7 0 rfl rfl rfl rfl rfl rfl rfl rfl ?_|refine ai 7 a7 1 rfl rfl rfl rfl rfl rfl rfl rfl ?_|refine ai 7 a7 2 rfl rfl rfl rfl rfl rfl rfl rfl ?_|refine aj a7 0 rfl rfl rfl rfl rfl rfl rfl ?_|refine aj a7 1 rfl rfl rfl rfl rfl rfl rfl ?_|refine aj a7 2 rfl rfl rfl rfl rfl rfl rfl ?_|refine aj a7 3 rfl rfl rfl rfl rfl rfl rfl ?_|fail)|refine bb a7 fun _=>?_|(apply ba;refine aY ?_)|fail))
  refine fA (fr' := [(1, .iptr (bO f)), (3, .sc (.pointer (some ⟨fb, 0, none⟩))), (4, .iptr [.sc (.map (some bu))]), (5, .iptr [aQ g]), (20, aQ n), (21, aQ g), (26, .fn 280 [.iptr (bO f), .iptr [aQ g]])]) (L' := oZ fb bu n (jM dbs) (mu, K, Ui f gl g 0, fz)) ⟨rfl, rfl, rfl, rfl, rfl, rfl, rfl, trivial⟩ (fun _ _ h => by rw [mz]; exact h) ?_
  refine eY (ps := [27]) rfl fun σ0 l db rec hrec => ?_
  have hy : ∀ (i : Nat) (x : RX) (q : bE), (iO x.1 x.2.1 x.2.2.1 ∧ x.2.2.1 = Ui f gl g i) → gl.Parts[i]? = some q → eG f q.Glyph = true → AY Tryz.prog σ0 l [.agg (d7 q)] (oZ fb bu n (jM dbs) x ++ [(db, dO)] ++ [(l, dV rec)]) fun c L => c = c8 true ∧ ∃ x' : RX, (iO x'.1 x'.2.1 x'.2.2.1 ∧ x'.2.2.1 = Ui f gl g (i + 1)) ∧ L = oZ fb bu n (jM dbs) x' ++ [(db, dO)] ++ [(l, dV rec)] := by
   rintro i ⟨mu, K, U, fz⟩ q ⟨hU, rfl⟩ hq hG
   dsimp only at hU ⊢
   refine kE hrec rfl rfl fun B1 hB1 => ?_
   (repeat' (first|refine a6 ?_|refine aa ?_|(apply aT; first|refine ai 4 a7 0 rfl rfl rfl rfl rfl rfl rfl rfl ?_|refine ai 4 a7 1 rfl rfl rfl rfl rfl rfl rfl rfl ?_|refine ai 4 a7 2 rfl rfl rfl rfl rfl rfl rfl rfl ?_|refine ai 5 a7 0 rfl rfl rfl rfl rfl rfl rfl rfl ?_|refine ai 5 a7 1 rfl rfl rfl rfl rfl rfl rfl rfl ?_|refine ai 5 a7 2 rfl rfl rfl rfl rfl rfl rfl rfl ?_|refine ai 6 a7 0 rfl rfl rfl rfl rfl rfl rfl rfl ?_|refine ai 6 a7 1 rfl rfl rfl rfl rfl rfl rfl rfl ?_|refine ai 6 a7 2 rfl rfl rfl rfl rfl rfl rfl rfl ?_|refine ai 7 a7 0 rfl rfl rfl rfl rfl rfl rfl rfl ?_|refine ai 7 a7 1 rfl rfl rfl rfl rfl rfl rfl rfl ?_|refine ai 7 a7 2 rfl rfl rfl rfl rfl rfl rfl rfl ?_|refine aj a7 0 rfl rfl rfl rfl rfl rfl rfl ?_|refine aj a7 1 rfl rfl rfl rfl rfl rfl rfl ?_|refine aj a7 2 rfl rfl rfl rfl rfl rfl rfl ?_|refine aj a7 3 rfl rfl rfl rfl rfl rfl rfl ?_|fail)|refine bb a7 fun _=>?_|fail))
   refine eZ hrec.state ?_
   unfold oZ
   dsimp only
   have hqr := iw.1 hG
   have hpl := hf.parts gl hgm
   simp only [List.cons_append, List.append_assoc]
   have hUl := vl hf gl hgm (g := g) (by omega) i q.Glyph
   have hUi : (aV (Ui f gl g i q.Glyph)).length = (Ui f gl g i q.Glyph).length := aM _
   have hz : q.Glyph ∈ bP n := d8.2 (by omega)
   (repeat' (first|refine ah ?_|refine am ?_|fail))
   refine bj 10 [(0, .v), (1, .v), (2, .v), (3, .v), (4, .v), (5, .v), (7, .v), (8, .v), (6, .e), (9, .e)] none ?_ trivial rfl (by kernel_rfl) (by kernel_rfl) (by kernel_rfl) mixed (by kernel_rfl) rfl
   (repeat' (first|refine aN ?_|refine bf a7 ?_|refine m7 a7 ?_|fail))
   refine lu 1 (.slice none 0 0) (.vec (K q.Glyph) 1 (aV (Ui f gl g i q.Glyph))) Tryz.underlying327 Tryz.underlying3 rfl rfl rfl rfl (by kernel_rfl) (hU.at q.Glyph) trivial ?_
   (repeat' (first|refine aN ?_|fail))
   refine iW a7 _ rfl rfl rfl rfl (gt (H := []) (jF hz)) (by rw [hUi]; show _ + 1 ≤ _; omega) (by rw [hUi]; show (_ + 1) * 8 ≤ _; omega) trivial fun k' => ?_
   (repeat' (first|fail))
   refine bl [1, 3, 4, 5, 6, 20, 21, 27, 28, 30, 37] rfl rfl ?_
   have hput := rr (e := 3) (K := K) (U := Ui f gl g i) (k := k') (l := Ui f gl g i q.Glyph ++ [(g : Int)]) (fx n) hz
   rw [show aV (Ui f gl g i q.Glyph) ++ [[AV.sc (.int .i64 (g : Int))]] = aV (Ui f gl g i q.Glyph ++ [(g : Int)]) from cE _ [(g : Int)]]
   refine bh (bc (gt (H := []) hput.symm).symm) ?_
   simp only [List.nil_append]
   (repeat' (first|fail))
   refine cG 1 (ja mu (.int .i64 q.Glyph) (.vec k' 1 (aV (Ui f gl g i q.Glyph ++ [(g : Int)])))) Tryz.underlying327 Tryz.underlying3 rfl rfl rfl rfl rfl fW (fun q h => fo q h) ?_
   (repeat' (first|refine ah ?_|refine a6 ?_|refine a8 ?_|refine aa ?_|refine ae a7 rfl rfl ?_|fail))
   have hfin : ∀ fz' : Int, ∃ x' : RX, (iO x'.1 x'.2.1 x'.2.2.1 ∧ x'.2.2.1 = Ui f gl g (i + 1)) ∧ oZ fb bu n (jM dbs) (ja mu (.int .i64 q.Glyph) (.vec k' 1 (aV (Ui f gl g i q.Glyph ++ [(g : Int)]))), (fun y => if y = q.Glyph then k' else K y), (fun y => if y = q.Glyph then Ui f gl g i q.Glyph ++ [(g : Int)] else Ui f gl g i y), fz') = oZ fb bu n (jM dbs) x' := fun fz' => ⟨_, ⟨hU.put q.Glyph k' _, vm hq hG⟩, rfl⟩
   refine av rfl (fun h => ?_) (fun h => ?_)
   ·(repeat' (first|refine a6 ?_|refine aJ ?_|refine aa ?_|refine ae a7 rfl rfl ?_|(apply bn; first|refine aq a7 0 rfl rfl rfl rfl rfl ?_|refine aq a7 1 rfl rfl rfl rfl rfl ?_|refine aq a7 2 rfl rfl rfl rfl rfl ?_|refine aq a7 3 rfl rfl rfl rfl rfl ?_|refine aF a7 0 rfl rfl rfl rfl rfl ?_|refine aF a7 1 rfl rfl rfl rfl rfl ?_|refine aF a7 2 rfl rfl rfl rfl rfl ?_|refine aq a7 1 rfl rfl rfl (by assumption) rfl ?_|refine aq a7 0 rfl rfl rfl (by assumption) rfl ?_|fail)|(apply aT; first|refine ai 4 a7 0 rfl rfl rfl rfl rfl rfl rfl rfl ?_|refine ai 4 a7 1 rfl rfl rfl rfl rfl rfl rfl rfl ?_|refine ai 4 a7 2 rfl rfl rfl rfl rfl rfl rfl rfl ?_|refine ai 5 a7 0 rfl rfl rfl rfl rfl rfl rfl rfl ?_|refine ai 5 a7 1 rfl rfl rfl rfl rfl rfl rfl rfl ?_|refine ai 5 a7 2 rfl rfl rfl rfl rfl rfl rfl rfl ?_|refine ai 6 a7 0 rfl rfl rfl rfl rfl rfl rfl rfl ?_|refine ai 6 a7 1 rfl rfl rfl rfl rfl rfl rfl rfl ?_|refine ai 6 a7 2 rfl rfl rfl rfl rfl rfl rfl rfl ?_|refine ai 7 a7 0 rfl rfl rfl rfl rfl rfl rfl rfl ?_|refine ai 7 a7 1 rfl rfl rfl rfl rfl rfl rfl rfl ?_|refine ai 7 a7 2 rfl rfl rfl rfl rfl rfl rfl rfl ?_|refine aj a7 0 rfl rfl rfl rfl rfl rfl rfl ?_|refine aj a7 1 rfl rfl rfl rfl rfl rfl rfl ?_|refine aj a7 2 rfl rfl rfl rfl rfl rfl rfl ?_|refine aj a7 3 rfl rfl rfl rfl rfl rfl rfl ?_|fail)|fail))
    refine bU (L' := oZ fb bu n (jM dbs) (ja mu (.int .i64 q.Glyph) (.vec k' 1 (aV (Ui f gl g i q.Glyph ++ [(g : Int)]))), (fun y => if y = q.Glyph then k' else K y), (fun y => if y = q.Glyph then Ui f gl g i q.Glyph ++ [(g : Int)] else Ui f gl g i y), min fz g) ++ [(db, dO)] ++ [(l, dV { rec with state := .busy })]) (bc (List.Perm.of_eq (by simp only [oZ, gA, dU, List.cons_append, List.append_assoc, List.nil_append]; rfl))) (g7 ?_)
    rw [f9 hrec.state hrec.pending]
    obtain ⟨x', h1, h2⟩ := hfin (min fz g)
    exact ⟨rfl, x', h1, by rw [h2]; simp only [oZ, List.cons_append, List.append_assoc, List.nil_append]⟩
   ·(repeat' (first|refine ak ?_|refine aJ ?_|fail))
    refine bU (L' := oZ fb bu n (jM dbs) (ja mu (.int .i64 q.Glyph) (.vec k' 1 (aV (Ui f gl g i q.Glyph ++ [(g : Int)]))), (fun y => if y = q.Glyph then k' else K y), (fun y => if y = q.Glyph then Ui f gl g i q.Glyph ++ [(g : Int)] else Ui f gl g i y), fz) ++ [(db, dO)] ++ [(l, dV { rec with state := .busy })]) (bc (List.Perm.of_eq (by simp only [oZ, gA, List.cons_append, List.append_assoc, List.nil_append]))) (g7 ?_)
    rw [f9 hrec.state hrec.pending]
    obtain ⟨x', h1, h2⟩ := hfin fz
    exact ⟨rfl, x', h1, by rw [h2]; simp only [oZ, List.cons_append, List.append_assoc, List.nil_append]⟩
  have hsk : ∀ (i : Nat) (x : RX) (q : bE), (iO x.1 x.2.1 x.2.2.1 ∧ x.2.2.1 = Ui f gl g i) → gl.Parts[i]? = some q → eG f q.Glyph = false → (iO x.1 x.2.1 x.2.2.1 ∧ x.2.2.1 = Ui f gl g (i + 1)) := by
   intro i x q h hq hG
   rw [yT hq hG]
   exact h
  have hit := tu (σ0 := σ0) (l := l) f g gl hgg (fun x => oZ fb bu n (jM dbs) x ++ [(db, dO)] ++ [(l, dV rec)]) (fun i x => iO x.1 x.2.1 x.2.2.1 ∧ x.2.2.1 = Ui f gl g i) hy hsk (mu, K, Ui f gl g 0, fz) ⟨by rw [mz]; exact hU, rfl⟩ (by have := hf.parts gl hgm; omega)
  refine ⟨_, hit, ?_⟩
  rintro c L' ⟨⟨mu', K', U', fz'⟩, ⟨hU', rfl⟩, rfl⟩
  dsimp only at hU' ⊢
  refine ⟨rec, _, List.Perm.refl _, (by rw [hrec.state]; intro h; cases h), ?_⟩
  rw [hrec.pending]
  show AX _ _ _ _ _ _ _ _
  rw [vk hgg] at hU' ⊢
  clear hy hsk hit hU
  (repeat' (first|refine a6 ?_|refine a8 ?_|refine aJ ?_|refine aa ?_|refine ae a7 rfl rfl ?_|(apply aX; refine aW ?_)|fail))
  refine js (g + 1, db :: dbs, mu', K', fz') rfl ⟨by rw [Int.natCast_add]; rfl, trivial⟩ rfl ⟨by dsimp only; omega, hU'⟩ (by dsimp only; omega) (fun σ w h => ?_)
  refine h.perm ?_
  unfold oZ
  simp only [List.cons_append, List.append_assoc]
  exact List.Perm.cons _ (List.Perm.cons _ (List.Perm.append_left _ (List.perm_append_singleton (db, dO) (jM dbs))))
 have hgn : g = n := by have := of_decide_eq_false h; omega
 subst hgn
 clear h
 have hUin : ∀ z, ∀ y ∈ bQ (prt f) (bP g) z, 0 ≤ y ∧ y < g := fun z y hy => d8.1 (pf hy)
 have hUl : ∀ z, (bQ (prt f) (bP g) z).length ≤ 1000000 := fun z => by
  have := jG hf.prt z (bP g)
  rw [d9] at this
  omega
 generalize bQ (prt f) (bP g) = U at hU hUin hUl ⊢
 unfold oZ
 dsimp only
 (repeat' (first|refine ah ?_|refine a6 ?_|refine aR ?_|refine a8 ?_|refine az ?_|refine aC ?_|refine jL ?_|fail))
 refine dW KJ fun bg => ?_
 rw [kp]
 (repeat' (first|refine ah ?_|refine a6 ?_|refine a8 ?_|refine aa ?_|refine ae a7 rfl rfl ?_|(apply aT; first|refine ai 4 a7 0 rfl rfl rfl rfl rfl rfl rfl rfl ?_|refine ai 4 a7 1 rfl rfl rfl rfl rfl rfl rfl rfl ?_|refine ai 4 a7 2 rfl rfl rfl rfl rfl rfl rfl rfl ?_|refine ai 5 a7 0 rfl rfl rfl rfl rfl rfl rfl rfl ?_|refine ai 5 a7 1 rfl rfl rfl rfl rfl rfl rfl rfl ?_|refine ai 5 a7 2 rfl rfl rfl rfl rfl rfl rfl rfl ?_|refine ai 6 a7 0 rfl rfl rfl rfl rfl rfl rfl rfl ?_|refine ai 6 a7 1 rfl rfl rfl rfl rfl rfl rfl rfl ?_|refine ai 6 a7 2 rfl rfl rfl rfl rfl rfl rfl rfl ?_|refine ai 7 a7 0 rfl rfl rfl rfl rfl rfl rfl rfl ?_|refine ai 7 a7 1 rfl rfl rfl rfl rfl rfl rfl rfl ?_|refine ai 7 a7 2 rfl rfl rfl rfl rfl rfl rfl rfl ?_|refine aj a7 0 rfl rfl rfl rfl rfl rfl rfl ?_|refine aj a7 1 rfl rfl rfl rfl rfl rfl rfl ?_|refine aj a7 2 rfl rfl rfl rfl rfl rfl rfl ?_|refine aj a7 3 rfl rfl rfl rfl rfl rfl rfl ?_|fail)|refine bb a7 fun _=>?_|fail))
 refine aZ [] _ hleft rfl rfl (List.Perm.refl _) rfl fun c L1 ⟨T, hc, hTl, hT⟩ => ?_
 subst hc
 refine bh (dA (List.sublist_append_right ..)) ?_
 (repeat' (first|refine am ?_|refine a8 ?_|refine aa ?_|(apply ba;refine aY ?_)|fail))
 refine fA (fr' := [(3, .sc (.pointer (some ⟨fb, 0, none⟩))), (4, .iptr [.sc (.map (some bu))]), (7, .iptr [.sc (.map (some bg))]), (49, .fn 284 [.iptr [.imm 1 (aV T)]])]) (L' := s4 fb bu bg mu (iP 3 K U (bP g) ++ jM dbs) (fz, [])) ⟨rfl, rfl, rfl, rfl, trivial⟩ (fun _ _ h => h.perm (List.perm_middle (l₁ := [(fb, AB.box [aQ fz] 3), (bu, c6 KI mu)])).symm) ?_
 generalize hX : iP 3 K U (bP g) ++ jM dbs = X
 refine eY (ps := [50, 51]) rfl fun σ0 l db rec hrec => ?_
 have hy : ∀ (i : Nat) (x : GX) (z : Int), zf g x.2 → T[i]? = some z → AY Tryz.prog σ0 l [aQ i, aQ z] (s4 fb bu bg mu X x ++ [(db, dO)] ++ [(l, dV rec)]) fun c L => c = c8 true ∧ ∃ x' : GX, zf g x'.2 ∧ L = s4 fb bu bg mu X x' ++ [(db, dO)] ++ [(l, dV rec)] := by
  rintro i ⟨fz, S⟩ z hS hz
  dsimp only at hS
  have hzr := hT z (List.mem_of_getElem? hz)
  refine kE hrec rfl rfl fun B1 hB1 => ?_
  (repeat' (first|refine a6 ?_|refine aa ?_|refine ae a7 rfl rfl ?_|fail))
  refine eZ hrec.state ?_
  unfold s4
  dsimp only
  simp only [List.cons_append, List.append_assoc, List.nil_append]
  (repeat' (first|refine ah ?_|refine a6 ?_|refine am ?_|refine ae a7 rfl rfl ?_|fail))
  refine gX 2 (.bool false) Tryz.underlying96 Tryz.underlying3 rfl rfl rfl rfl (by kernel_rfl) rfl ?_
  rw [lN S z]
  (repeat' (first|refine a8 ?_|refine aa ?_|fail))
  refine av rfl (fun h => ?_) (fun h => ?_)
  ·(repeat' (first|refine aR ?_|refine az ?_|refine aC ?_|fail))
   refine bU (L' := s4 fb bu bg mu X (fz, S) ++ [(db, dO)] ++ [(l, dV { rec with state := .busy })]) (bc (List.Perm.of_eq (by simp [s4]))) (g7 ?_)
   rw [f9 hrec.state hrec.pending]
   exact ⟨rfl, (fz, S), hS, by simp only [s4, List.cons_append, List.append_assoc, List.nil_append]⟩
  have hzS : z ∉ S := of_decide_eq_false h
  clear h
  have hS1 := hS.add hzr hzS
  (repeat' (first|refine ah ?_|refine a6 ?_|refine ak ?_|refine a8 ?_|refine ae a7 rfl rfl ?_|fail))
  refine cG 2 (cQ (S ++ [z])) Tryz.underlying96 Tryz.underlying3 rfl rfl rfl rfl rfl (jC S z) (iC S z) ?_
  (repeat' (first|refine ah ?_|refine a6 ?_|refine am ?_|refine a8 ?_|refine aa ?_|refine ae a7 rfl rfl ?_|refine nF (d := 58) a7 fun _=>?_|fail))
  rename_i gb
  generalize hR : X ++ [(db, dO), (l, dV { rec with state := .busy })] = R
  refine aL [3, 4, 7, 51] (α := zg) (fun x => [(11, aQ x.n), (10, .vec x.kg 1 (aV x.G))]) (fun x => x.n ≤ x.G.length ∧ qM g x) (fun x => (fb, .box [aQ fz] 3) :: (bu, c6 KI mu) :: (bg, c6 KJ (cQ x.S)) :: (tok x.kg 3 1 (aV x.G).length ++ R)) (fun x => g + 1 - x.n) ⟨0, [z], S ++ [z], some (gb, 1)⟩ rfl ⟨rfl, rfl, trivial⟩ ⟨Nat.zero_le _, hS1, by simp, by simp, by simp⟩ (fun σ w h => (show cK _ σ ((gb, .vec 3 1 1 1) :: (fb, .box [aQ fz] 3) :: (bu, c6 KI mu) :: (bg, c6 KJ (cQ (S ++ [z]))) :: R) w from h).perm (List.perm_middle (l₁ := [(fb, AB.box [aQ fz] 3), (bu, c6 KI mu), (bg, c6 KJ (cQ (S ++ [z])))])).symm) ?_
  clear hS1 hzS hS
  rintro ⟨n, G, S, kg⟩ ⟨hn, hok⟩
  have hGl := hok.len
  dsimp only at hn hGl ⊢
  have hGi := aM G
  try dsimp only [List.cons_append, List.nil_append, List.map_cons, List.map_nil]
  (repeat' (first|refine ah ?_|refine a6 ?_|refine a8 ?_|refine aa ?_|refine ae a7 rfl rfl ?_|fail))
  refine av rfl (fun h => ?_) (fun h => ?_)
  ·have hnl : n < G.length := by have := of_decide_eq_true h; omega
   obtain ⟨y, hy⟩ : ∃ q, G[n]? = some q := ⟨_, List.getElem?_eq_getElem hnl⟩
   have hyi := bk hy
   have hUy := hUl y
   have hUi := aM (U y)
   clear h
   (repeat' (first|refine ah ?_|refine am ?_|refine ak ?_|refine a8 ?_|fail))
   refine bj 8 [(0, .v), (1, .v), (2, .v), (3, .v), (4, .v), (7, .v), (5, .e), (6, .v)] none ?_ trivial rfl (by kernel_rfl) (by kernel_rfl) (by kernel_rfl) mixed (by kernel_rfl) rfl
   (repeat' (first|refine aN ?_|refine bf a7 ?_|(apply bs;refine bH a7 ?_)|fail))
   refine lu 1 (.slice none 0 0) (.vec (K y) 1 (aV (U y))) Tryz.underlying327 Tryz.underlying3 rfl rfl rfl rfl (by kernel_rfl) (hU.at y) trivial ?_
   (repeat' (first|refine aN ?_|refine bf a7 ?_|fail))
   refine bl [3, 4, 7, 10, 11, 51, 70, 71, 72] rfl rfl ?_
   (repeat' (first|refine am ?_|refine a8 ?_|refine aa ?_|fail))
   refine aL [3, 4, 7, 11, 51, 70, 71] (α := Nat × zg) (fun x => [(72, aQ x.1), (10, .vec x.2.kg 1 (aV x.2.G))]) (fun x => x.1 ≤ (U y).length ∧ n < x.2.G.length ∧ qM g x.2) (fun x => (fb, .box [aQ fz] 3) :: (bu, c6 KI mu) :: (bg, c6 KJ (cQ x.2.S)) :: (tok x.2.kg 3 1 (aV x.2.G).length ++ R)) (fun x => (U y).length - x.1) (0, ⟨n, G, S, kg⟩) rfl ⟨rfl, rfl, trivial⟩ ⟨Nat.zero_le _, hnl, hok⟩ (fun _ _ h => h) ?_
   clear hok hGl hnl hy hyi hGi hn
   rintro ⟨j, ⟨n', G', S', kg'⟩⟩ ⟨hj, hnl, hok⟩
   have hGl := hok.len
   dsimp only at hj hnl hGl ⊢
   have hGi := aM G'
   try dsimp only [List.cons_append, List.nil_append, List.map_cons, List.map_nil]
   (repeat' (first|refine ah ?_|refine a6 ?_|refine a8 ?_|refine aa ?_|refine ae a7 rfl rfl ?_|fail))
   refine av rfl (fun h => ?_) (fun h => ?_)
   ·have hjl : j < (U y).length := by have := of_decide_eq_true h; omega
    obtain ⟨u, hu⟩ : ∃ q, (U y)[j]? = some q := ⟨_, List.getElem?_eq_getElem hjl⟩
    have hui := bk hu
    have hur := hUin y u (List.mem_of_getElem? hu)
    clear h
    (repeat' (first|refine ah ?_|refine a6 ?_|refine am ?_|refine ak ?_|refine a8 ?_|refine aa ?_|refine ae a7 rfl rfl ?_|(apply aP; first|refine aO a7 ?_|refine aI a7 ?_)|fail))
    refine gX 2 (.bool false) Tryz.underlying96 Tryz.underlying3 rfl rfl rfl rfl (by kernel_rfl) rfl ?_
    rw [lN S' u]
    (repeat' (first|refine a8 ?_|refine aa ?_|refine ae a7 rfl rfl ?_|fail))
    refine av rfl (fun h => ?_) (fun h => ?_)
    ·have huS : u ∉ S' := by simpa using h
     have hok2 : qM g ⟨n', G' ++ [u], S' ++ [u], kg'⟩ := ⟨hok.1.add hur huS, List.nodup_append.2 ⟨hok.2.1, by simp, fun a ha b hb e => by rw [List.mem_singleton] at hb; subst hb; subst e; exact huS (hok.2.2.1 _ ha)⟩, fun a ha => by
      rcases List.mem_append.1 ha with ha | ha
      ·exact List.mem_append.2 (.inl (hok.2.2.1 a ha))
      ·exact List.mem_append.2 (.inr ha), by simp⟩
     (repeat' (first|refine ah ?_|refine a6 ?_|refine ae a7 rfl rfl ?_|fail))
     refine cG 2 (cQ (S' ++ [u])) Tryz.underlying96 Tryz.underlying3 rfl rfl rfl rfl rfl (jC S' u) (iC S' u) ?_
     (repeat' (first|refine a6 ?_|refine a8 ?_|refine aa ?_|refine ae a7 rfl rfl ?_|refine bM a7 ?_|fail))
     refine cF a7 ((fb, .box [aQ fz] 3) :: (bu, c6 KI mu) :: (bg, c6 KJ (cQ (S' ++ [u]))) :: R) rfl rfl rfl rfl (List.perm_append_comm_assoc [(fb, AB.box [aQ fz] 3), (bu, c6 KI mu), (bg, c6 KJ (cQ (S' ++ [u])))] _ R) (by rw [hGi]; simp; omega) (by rw [hGi]; simp; omega) rfl fun k' => ?_
     refine bh (bc (List.perm_append_comm_assoc _ [(fb, AB.box [aQ fz] 3), (bu, c6 KI mu), (bg, c6 KJ (cQ (S' ++ [u])))] R)) ?_
     rw [show aV G' ++ [[aQ u]] = aV (G' ++ [u]) from cE G' [u]]
     (repeat' (first|refine a6 ?_|refine a8 ?_|refine aJ ?_|refine aa ?_|refine ae a7 rfl rfl ?_|(apply aX; refine aW ?_)|fail))
     exact aE (j + 1, (⟨n', G' ++ [u], S' ++ [u], k'⟩ : zg)) rfl ⟨by rw [Int.natCast_add]; rfl, rfl, trivial⟩ ⟨by dsimp only; omega, by dsimp only; rw [List.length_append]; omega, hok2⟩ (by dsimp only; omega) (fun _ _ h => h)
    ·(repeat' (first|refine a6 ?_|refine ak ?_|refine a8 ?_|refine aJ ?_|refine aa ?_|refine ae a7 rfl rfl ?_|(apply aX; refine aW ?_)|fail))
     exact aE (j + 1, (⟨n', G', S', kg'⟩ : zg)) rfl ⟨by rw [Int.natCast_add]; rfl, rfl, trivial⟩ ⟨by dsimp only; omega, hnl, hok⟩ (by dsimp only; omega) (fun _ _ h => h)
   (repeat' (first|refine a6 ?_|refine aR ?_|refine a8 ?_|refine az ?_|refine aJ ?_|refine aC ?_|refine aA ?_|refine aa ?_|refine ae a7 rfl rfl ?_|(apply aX; refine aW ?_)|fail))
   exact aE (⟨n + 1, G', S', kg'⟩ : zg) rfl ⟨by rw [Int.natCast_add]; rfl, rfl, trivial⟩ ⟨by dsimp only; omega, hok⟩ (by dsimp only; omega) (fun _ _ h => h)
  clear h
  have hSk := hok.1
  have hGne := hok.2.2.2
  dsimp only at hSk hGne
  haveI a1 : AD Tryz.prog 274 [.imm 1 (aV G)] (aQ (qW G)) := ⟨yi G hGne⟩
  (repeat' (first|refine ah ?_|refine a6 ?_|refine aR ?_|refine a8 ?_|refine az ?_|refine aC ?_|refine aA ?_|refine aa ?_|refine ae a7 rfl rfl ?_|fail))
  refine av rfl (fun h => ?_) (fun h => ?_)
  ·(repeat' (first|fail))
   refine bj 3 [(0, .l), (1, .v), (2, .v)] none ?_ trivial rfl (by kernel_rfl) (by kernel_rfl) (by kernel_rfl) mixed (by kernel_rfl) rfl
   (repeat' (first|refine aN ?_|refine bf a7 ?_|(apply cZ;refine dl ?_)|refine dI a7 0 rfl rfl rfl rfl (by first|trivial|rfl) ?_|fail))
   refine bl [3, 4, 7, 51, 90, 92] rfl rfl ?_
   (repeat' (first|refine aJ ?_|refine aa ?_|refine ae a7 rfl rfl ?_|(apply aT; first|refine ai 4 a7 0 rfl rfl rfl rfl rfl rfl rfl rfl ?_|refine ai 4 a7 1 rfl rfl rfl rfl rfl rfl rfl rfl ?_|refine ai 4 a7 2 rfl rfl rfl rfl rfl rfl rfl rfl ?_|refine ai 5 a7 0 rfl rfl rfl rfl rfl rfl rfl rfl ?_|refine ai 5 a7 1 rfl rfl rfl rfl rfl rfl rfl rfl ?_|refine ai 5 a7 2 rfl rfl rfl rfl rfl rfl rfl rfl ?_|refine ai 6 a7 0 rfl rfl rfl rfl rfl rfl rfl rfl ?_|refine ai 6 a7 1 rfl rfl rfl rfl rfl rfl rfl rfl ?_|refine ai 6 a7 2 rfl rfl rfl rfl rfl rfl rfl rfl ?_|refine ai 7 a7 0 rfl rfl rfl rfl rfl rfl rfl rfl ?_|refine ai 7 a7 1 rfl rfl rfl rfl rfl rfl rfl rfl ?_|refine ai 7 a7 2 rfl rfl rfl rfl rfl rfl rfl rfl ?_|refine aj a7 0 rfl rfl rfl rfl rfl rfl rfl ?_|refine aj a7 1 rfl rfl rfl rfl rfl rfl rfl ?_|refine aj a7 2 rfl rfl rfl rfl rfl rfl rfl ?_|refine aj a7 3 rfl rfl rfl rfl rfl rfl rfl ?_|fail)|fail))
   refine eH (L' := (fb, .box [aQ (min fz (qW G))] 3) :: (bu, c6 KI mu) :: (bg, c6 KJ (cQ S)) :: R) ((((List.sublist_append_right _ _).cons_cons _).cons_cons _).cons_cons _) ?_
   rw [← hR]
   refine bU (L' := s4 fb bu bg mu X ((min fz (qW G)), S) ++ [(db, dO)] ++ [(l, dV { rec with state := .busy })]) (bc (List.Perm.of_eq (by simp [s4]))) (g7 ?_)
   rw [f9 hrec.state hrec.pending]
   exact ⟨rfl, ((min fz (qW G)), S), hSk, by simp only [s4, List.cons_append, List.append_assoc, List.nil_append]⟩
  ·(repeat' (first|refine ak ?_|refine aJ ?_|fail))
   refine eH (L' := (fb, .box [aQ fz] 3) :: (bu, c6 KI mu) :: (bg, c6 KJ (cQ S)) :: R) ((((List.sublist_append_right _ _).cons_cons _).cons_cons _).cons_cons _) ?_
   rw [← hR]
   refine bU (L' := s4 fb bu bg mu X (fz, S) ++ [(db, dO)] ++ [(l, dV { rec with state := .busy })]) (bc (List.Perm.of_eq (by simp [s4]))) (g7 ?_)
   rw [f9 hrec.state hrec.pending]
   exact ⟨rfl, (fz, S), hSk, by simp only [s4, List.cons_append, List.append_assoc, List.nil_append]⟩
 have hit := zF (σ0 := σ0) (l := l) T (fun x => s4 fb bu bg mu X x ++ [(db, dO)] ++ [(l, dV rec)]) (fun x => zf g x.2) hy (fz, []) ⟨List.nodup_nil, fun z hz => by cases hz⟩ (by omega)
 refine ⟨_, hit, ?_⟩
 rintro c L' ⟨⟨fz', S⟩, hS, rfl⟩
 refine ⟨rec, _, List.Perm.refl _, (by rw [hrec.state]; intro h; cases h), ?_⟩
 rw [hrec.pending]
 show AX _ _ _ _ _ _ _ _
 clear hy hit
 unfold s4
 dsimp only
 simp only [List.cons_append, List.append_assoc]
 (repeat' (first|refine ah ?_|refine a6 ?_|refine au ?_|refine a8 ?_|refine aJ ?_|refine aa ?_|refine ae a7 rfl rfl ?_|(apply bn; first|refine aq a7 0 rfl rfl rfl rfl rfl ?_|refine aq a7 1 rfl rfl rfl rfl rfl ?_|refine aq a7 2 rfl rfl rfl rfl rfl ?_|refine aq a7 3 rfl rfl rfl rfl rfl ?_|refine aF a7 0 rfl rfl rfl rfl rfl ?_|refine aF a7 1 rfl rfl rfl rfl rfl ?_|refine aF a7 2 rfl rfl rfl rfl rfl ?_|refine aq a7 1 rfl rfl rfl (by assumption) rfl ?_|refine aq a7 0 rfl rfl rfl (by assumption) rfl ?_|fail)|fail))
 rw [← hX]
 refine eH (L' := jM dbs ++ [(db, dO)]) ((((List.Sublist.append (List.sublist_append_right _ _) (List.Sublist.refl _)).cons _).cons _).cons _) ?_
 exact eI (cs := [aQ fz']) (db :: dbs) [] rfl (List.perm_append_singleton _ _) ⟨rfl, trivial⟩ ⟨fz', rfl⟩
end Go.Proofs.YtpbinloeemebkaaGreat

namespace Go.Proofs.YtpbinloeemebkaaGreat
open Go.RowKit
attribute [local irreducible] AT bN AX AO Av Kt bi dE DA d6
theorem qp (f : aH) (hf : ic f) : AC Tryz.prog 88 [.iptr (bO f)] [] fun c _ => ∃ n : Int, c = bX ((gd f).1, n) := by
 refine aU Tryz.func88 rfl Tryz.ntmps88 rfl fun B => ?_
 (repeat' (first|refine ah ?_|refine a6 ?_|refine a8 ?_|refine aa ?_|refine ae a7 rfl rfl ?_|fail))
 refine aZ [] [] (m6 f hf (.inr (yt f hf.toFew))) rfl rfl (List.Perm.refl _) rfl fun c L1 hc => ?_
 rcases hc with ⟨D, P, h1, h2, hc⟩ | ⟨hna, z, hc⟩
 ·rw [← kH hf h2 h1] at hc
  subst hc
  unfold bX
  (repeat' (first|refine au ?_|refine a8 ?_|refine aa ?_|refine ae a7 rfl rfl ?_|fail))
  exact b4 rfl rfl rfl ⟨_, rfl⟩
 ·subst hc
  unfold bX
  (repeat' (first|refine au ?_|refine a8 ?_|refine aa ?_|refine ae a7 rfl rfl ?_|fail))
  exact b4 rfl rfl rfl ⟨z, by rw [n9 hna]⟩
def Lk.any (x : Lk) : q9 := ⟨x.f, x.caps, x.L, x.e, fun n => n = x.n⟩
theorem Lk.ok.any {x : Lk} (h : x.ok) : x.any.ok := ⟨h.1, h.2.mono fun _ _ hc => ⟨x.n, rfl, hc⟩⟩
noncomputable def ni (f : aH) (m1 m2 m3 : Nat) : List q9 := ((mE f m1 m2 m3).map Lk.any).set 2 ⟨88, [.iptr (bO f)], [], (gd f).1, fun _ => True⟩
theorem wx : ∀ (l : List q9), q7 l = (fk (l.map fun x => (x.e, (0 : Int)))).1
 | [] => rfl
 | x :: r => by
  unfold q7
  rw [List.map_cons, fk]
  split
  ·exact wx r
  ·rfl
theorem wb (f : aH) (m1 m2 m3 : Nat) : q7 (ni f m1 m2 m3) = 0 ↔ (er f).1 = 0 := by
 rw [wx, cn, er, cn]
 unfold ni mE qF
 simp only [List.map_cons, List.map_nil, List.set_cons_succ, List.set_cons_zero, Lk.any, List.mem_cons, List.not_mem_nil, or_false, forall_eq_or_imp, forall_eq]
theorem tk : ∀ {l : List Lk} {r : List q9}, r = l.map Lk.any → qS l → qV r
 | [], _, h, _ => by subst h; trivial
 | x :: l, _, h, hk => by subst h; exact ⟨hk.1.any, fun h0 => tk rfl (hk.2 h0)⟩
theorem uh (f : aH) (m1 m2 m3 : Nat) : qV (ni f m1 m2 m3) := by
 by_cases hA : (bW 400 f.Glyphs (cM f)).1 = 0 → fF f.Glyphs.length (prt f)
 ·have h := nh f m1 m2 m3 hA
  exact ⟨h.1.any, fun h0 => ⟨(h.2 h0).1.any, fun h1 => ⟨⟨inferInstance, (qp f (eC h1)).mono fun _ _ ⟨n, hn⟩ => ⟨n, trivial, hn⟩⟩, fun h2 => tk rfl (((h.2 h0).2 h1).2 h2)⟩⟩⟩
 ·have h1 : (bW 400 f.Glyphs (cM f)).1 = 0 := Decidable.byContradiction fun h => hA fun h2 => absurd h2 h
  have hna : ¬ fF f.Glyphs.length (prt f) := fun h => hA fun _ => h
  have hcv : (gd f).1 ≠ 0 := by rw [n9 hna]; decide
  refine ⟨Lk.ok.any (x := ⟨81, [.iptr (bO f)], [], j6 f, 0⟩) ⟨(inferInstance : bt Tryz.prog 81), oR f⟩, fun _ => ⟨?_, fun _ => ⟨⟨inferInstance, (qp f (eC h1)).mono fun _ _ ⟨n, hn⟩ => ⟨n, trivial, hn⟩⟩, fun h => absurd h hcv⟩⟩⟩
  exact Lk.ok.any (x := ⟨148, _, _, _, _⟩) ⟨(inferInstance : bt Tryz.prog 148), tC (u := .fn 84 [.iptr (bO f), .iptr [.sc (.map (some m1))]]) rfl f.Glyphs 400 (f5 f.Glyphs (cM f)) (fun _ L => L = [(m1, c6 .string (cj (f6 f)))]) _ rfl fun _ => ld fun i x _ => nj f i x m1⟩
set_option maxHeartbeats 4000000 in
theorem wa (f : aH) : AC Tryz.prog 53 [bw f] [] fun c _ => ∃ e n : Int, c = bX (e, n) ∧ (e = 0 ↔ (er f).1 = 0) := by
 refine aU Tryz.func53 rfl Tryz.ntmps53 rfl fun B => ?_
 (repeat' (first|refine ah ?_|refine a6 ?_|refine a8 ?_|refine aa ?_|refine ae a7 rfl rfl ?_|refine b6 ?_|fail))
 refine aZ [] _ (qz f.Glyphs) rfl rfl (List.Perm.refl _) rfl fun c L1 ⟨m1, hc, hL⟩ => ?_
 subst hc; subst hL
 (repeat' (first|refine ah ?_|refine a6 ?_|refine a8 ?_|refine aa ?_|refine ae a7 rfl rfl ?_|(apply aT; first|refine ai 4 a7 0 rfl rfl rfl rfl rfl rfl rfl rfl ?_|refine ai 4 a7 1 rfl rfl rfl rfl rfl rfl rfl rfl ?_|refine ai 4 a7 2 rfl rfl rfl rfl rfl rfl rfl rfl ?_|refine ai 5 a7 0 rfl rfl rfl rfl rfl rfl rfl rfl ?_|refine ai 5 a7 1 rfl rfl rfl rfl rfl rfl rfl rfl ?_|refine ai 5 a7 2 rfl rfl rfl rfl rfl rfl rfl rfl ?_|refine ai 6 a7 0 rfl rfl rfl rfl rfl rfl rfl rfl ?_|refine ai 6 a7 1 rfl rfl rfl rfl rfl rfl rfl rfl ?_|refine ai 6 a7 2 rfl rfl rfl rfl rfl rfl rfl rfl ?_|refine aj a7 0 rfl rfl rfl rfl rfl rfl rfl ?_|refine aj a7 1 rfl rfl rfl rfl rfl rfl rfl ?_|refine aj a7 2 rfl rfl rfl rfl rfl rfl rfl ?_|refine aj a7 3 rfl rfl rfl rfl rfl rfl rfl ?_|fail)|refine bb a7 fun _=>?_|fail))
 refine aZ [] _ (qA f.Features) rfl rfl (List.Perm.refl _) rfl fun c L1 ⟨m2, hc, hL⟩ => ?_
 subst hc; subst hL
 (repeat' (first|refine ah ?_|refine a6 ?_|refine a8 ?_|refine aa ?_|refine ae a7 rfl rfl ?_|(apply aT; first|refine ai 4 a7 0 rfl rfl rfl rfl rfl rfl rfl rfl ?_|refine ai 4 a7 1 rfl rfl rfl rfl rfl rfl rfl rfl ?_|refine ai 4 a7 2 rfl rfl rfl rfl rfl rfl rfl rfl ?_|refine ai 5 a7 0 rfl rfl rfl rfl rfl rfl rfl rfl ?_|refine ai 5 a7 1 rfl rfl rfl rfl rfl rfl rfl rfl ?_|refine ai 5 a7 2 rfl rfl rfl rfl rfl rfl rfl rfl ?_|refine ai 6 a7 0 rfl rfl rfl rfl rfl rfl rfl rfl ?_|refine ai 6 a7 1 rfl rfl rfl rfl rfl rfl rfl rfl ?_|refine ai 6 a7 2 rfl rfl rfl rfl rfl rfl rfl rfl ?_|refine aj a7 0 rfl rfl rfl rfl rfl rfl rfl ?_|refine aj a7 1 rfl rfl rfl rfl rfl rfl rfl ?_|refine aj a7 2 rfl rfl rfl rfl rfl rfl rfl ?_|refine aj a7 3 rfl rfl rfl rfl rfl rfl rfl ?_|fail)|refine bb a7 fun _=>?_|fail))
 refine aZ [] _ (qB f.Axes) rfl rfl (List.Perm.refl _) rfl fun c L1 ⟨m3, hc, hL⟩ => ?_
 subst hc; subst hL
 (repeat' (first|refine ah ?_|refine a8 ?_|refine aa ?_|(apply aT; first|refine ai 4 a7 0 rfl rfl rfl rfl rfl rfl rfl rfl ?_|refine ai 4 a7 1 rfl rfl rfl rfl rfl rfl rfl rfl ?_|refine ai 4 a7 2 rfl rfl rfl rfl rfl rfl rfl rfl ?_|refine ai 5 a7 0 rfl rfl rfl rfl rfl rfl rfl rfl ?_|refine ai 5 a7 1 rfl rfl rfl rfl rfl rfl rfl rfl ?_|refine ai 5 a7 2 rfl rfl rfl rfl rfl rfl rfl rfl ?_|refine ai 6 a7 0 rfl rfl rfl rfl rfl rfl rfl rfl ?_|refine ai 6 a7 1 rfl rfl rfl rfl rfl rfl rfl rfl ?_|refine ai 6 a7 2 rfl rfl rfl rfl rfl rfl rfl rfl ?_|refine aj a7 0 rfl rfl rfl rfl rfl rfl rfl ?_|refine aj a7 1 rfl rfl rfl rfl rfl rfl rfl ?_|refine aj a7 2 rfl rfl rfl rfl rfl rfl rfl ?_|refine aj a7 3 rfl rfl rfl rfl rfl rfl rfl ?_|fail)|refine bb a7 fun _=>?_|fail))
 refine bj 36 [(0, .v), (1, .v), (2, .v), (3, .v), (4, .v), (5, .v), (6, .v), (7, .v), (8, .v), (9, .v), (10, .v), (11, .v), (12, .v), (13, .v), (14, .v), (15, .v), (16, .v), (17, .v), (18, .v), (19, .v), (20, .v), (21, .v), (22, .v), (23, .v), (24, .v), (25, .v), (26, .v), (27, .v), (28, .v), (29, .v), (30, .v), (31, .v), (32, .v), (33, .e), (34, .v), (35, .v)] none ?_ trivial rfl (by kernel_rfl) (by kernel_rfl) (by kernel_rfl) mixed (by kernel_rfl) rfl
 (repeat' (first|refine aN ?_|refine bf a7 ?_|(apply cZ;refine dl ?_)|fail))
 refine dl (hc := ⟨wD f.Cvt 64⟩) ?_
 (repeat' (first|refine aN ?_|refine m7 a7 ?_|fail))
 refine fB (L := [(m3, c6 .string (cj (fg f))), (m2, c6 .string (cj (fw f))), (m1, c6 .string (cj (f6 f)))]) _ [] (ug (ni f m1 m2 m3) (uh f m1 m2 m3)) rfl rfl (by rw [List.append_nil]; exact (List.reverse_perm _).symm) trivial fun c L1 hc => ?_
 obtain ⟨n, _, hc⟩ := hc
 have hE := wb f m1 m2 m3
 generalize q7 (ni f m1 m2 m3) = e at hc hE
 subst hc
 unfold bX
 (repeat' (first|refine aN ?_|refine bf a7 ?_|fail))
 refine bl [50, 51] rfl rfl ?_
 (repeat' (first|refine au ?_|refine a8 ?_|refine aa ?_|refine ae a7 rfl rfl ?_|fail))
 exact b4 rfl rfl rfl ⟨e, n, rfl, hE⟩
theorem uP (f : aH) : bo Tryz.prog 34 [bw f] (c8 (decide ((er f).1 = 0))) := by
 refine aU Tryz.func34 rfl Tryz.ntmps34 rfl fun B => ?_
 (repeat' (first|refine ah ?_|refine a6 ?_|refine a8 ?_|refine aa ?_|refine ae a7 rfl rfl ?_|refine b6 ?_|fail))
 refine aZ [] [] (wa f) rfl rfl (List.Perm.refl _) rfl fun c L1 ⟨e, n, hc, he⟩ => ?_
 subst hc
 unfold bX
 have hd : decide ((er f).1 = 0) = decide (e = 0) := decide_eq_decide.2 he.symm
 rw [hd]
 (repeat' (first|refine ah ?_|refine a6 ?_|refine au ?_|refine a8 ?_|refine aa ?_|refine ae a7 rfl rfl ?_|fail))
 exact aB rfl rfl rfl
theorem rA (f : aH) (hs : ck f) (rs : List Int) (fs : List ByteArray) : bo Tryz.prog 15 [bw f, lq rs fs] (eJ f rs fs) := mM f hs (uP f) rs fs
end Go.Proofs.YtpbinloeemebkaaGreat

namespace Go.Proofs.YtpbinloeemebkaaGreat
open Go.RowKit
attribute [local irreducible] AT bN AX AO Av Kt bi dE DA d6
set_option maxHeartbeats 4000000 in
theorem om (f : aH) (hf : eX f) (rs : List Int) (fs : List ByteArray) : bo Tryz.prog 4 [bw f, lq rs fs] (c8 true) := by
 refine aU Tryz.func4 rfl Tryz.ntmps4 rfl fun B => ?_
 haveI c1 : AD Tryz.prog 11 [] (c8 true) := ⟨tW⟩
 have hri := aM rs
 unfold lq
 (repeat' (first|refine ah ?_|refine a6 ?_|refine a8 ?_|refine aa ?_|refine ae a7 rfl rfl ?_|refine b6 ?_|fail))
 refine aY (hc := ⟨xF f hf⟩) ?_
 by_cases hb : 2000 < gE f
 ·rw [decide_eq_true hb]
  (repeat' (first|refine ah ?_|refine a6 ?_|refine au ?_|refine a8 ?_|refine ar ?_|refine aa ?_|refine ae a7 rfl rfl ?_|refine aD rfl rfl rfl rfl ?_|refine bI rfl ?_|fail))
  exact aB rfl rfl rfl
 rw [decide_eq_false hb]
 have hs : ck f := Nat.le_of_not_lt hb
 (repeat' (first|refine ae a7 rfl rfl ?_|refine aw rfl rfl ?_|fail))
 refine ci [2, 3] (rs.length > 200 ∨ fs.length > 100) rfl (fun Q' K => ?_) (fun hC => ?_) (fun hC => ?_)
 ·(repeat' (first|refine aa ?_|refine ae a7 rfl rfl ?_|refine aw rfl rfl ?_|refine aD rfl rfl rfl rfl ?_|refine aS rfl rfl rfl (fun _ => ?_) (fun _ => ?_)|fail))
  all_goals exact K _ _ rfl rfl (by clear K; simp_all [jJ] <;> omega)
 ·(repeat' (first|refine ah ?_|refine a6 ?_|refine au ?_|refine a8 ?_|refine ar ?_|refine aa ?_|refine ae a7 rfl rfl ?_|fail))
  exact aB rfl rfl rfl
 have g2 := rA f hs rs fs
 have g3 := qH f hs (sv f hs hf) rs fs (by omega)
 unfold lq at g2 g3
 unfold eJ at g2 g3
 by_cases h1 : (er f).1 = 0
 ·rw [if_pos h1] at g2 g3
  by_cases h2 : rs.any mt = true
  ·rw [if_pos h2] at g2 g3
   haveI c2 := AD.mk g2
   haveI c3 := AD.mk g3
   (repeat' (first|refine ah ?_|refine a6 ?_|refine ak ?_|refine a8 ?_|refine aa ?_|refine ae a7 rfl rfl ?_|refine aw rfl rfl ?_|(apply ba;refine aY ?_)|fail))
   refine bh (cw (t := 37) (c' := .imm 1 (aV [])) rfl fun σ v h => iG 1 h) ?_
   refine bh (cw (t := 38) (c' := .imm 1 (aV [])) rfl fun σ v h => iG 1 h) ?_
   (repeat' (first|refine au ?_|refine a8 ?_|refine aa ?_|refine ae a7 rfl rfl ?_|refine aw rfl rfl ?_|(apply ba;refine aY ?_)|fail))
   exact aB rfl rfl rfl
  ·rw [if_neg h2] at g2 g3
   haveI c2 := AD.mk g2
   haveI c3 := AD.mk g3
   (repeat' (first|refine ah ?_|refine a6 ?_|refine ak ?_|refine a8 ?_|refine aa ?_|refine ae a7 rfl rfl ?_|refine aw rfl rfl ?_|(apply ba;refine aY ?_)|fail))
   rw [beq_self_eq_true]
   (repeat' (first|refine au ?_|refine a8 ?_|refine aa ?_|refine ae a7 rfl rfl ?_|refine aw rfl rfl ?_|fail))
   exact aB rfl rfl (by simp)
 ·rw [if_neg h1] at g2 g3
  haveI c2 := AD.mk g2
  haveI c3 := AD.mk g3
  (repeat' (first|refine ah ?_|refine a6 ?_|refine ak ?_|refine a8 ?_|refine aa ?_|refine ae a7 rfl rfl ?_|refine aw rfl rfl ?_|(apply ba;refine aY ?_)|fail))
  refine bh (cw (t := 37) (c' := .imm 1 (aV [])) rfl fun σ v h => iG 1 h) ?_
  refine bh (cw (t := 38) (c' := .imm 1 (aV [])) rfl fun σ v h => iG 1 h) ?_
  (repeat' (first|refine au ?_|refine a8 ?_|refine aa ?_|refine ae a7 rfl rfl ?_|refine aw rfl rfl ?_|(apply ba;refine aY ?_)|fail))
  exact aB rfl rfl rfl
end Go.Proofs.YtpbinloeemebkaaGreat
