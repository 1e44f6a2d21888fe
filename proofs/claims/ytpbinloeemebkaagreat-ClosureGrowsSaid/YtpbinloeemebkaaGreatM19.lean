/-
  The program: glyphs in a line (the walk).
-/
import Derived.Test.YtpbinloeemebkaaGreatM18
import Derived.Shelf.Slices.In.SortNone
import Derived.Shelf.Slices.In.SortAlone
import Derived.Ground.NamesProg
import Derived.Test.YtpbinloeemebkaaGreatProg
import Derived.Lib.SortBridge
namespace Go.Proofs.YtpbinloeemebkaaGreat
open Go.RowKit
attribute [local irreducible] AT ATL AX AO Av Kt ALoopK OkA DA DA1
open Go.MapKept
attribute [local irreducible] ALoopM
theorem rec_same {rec : Loop} (h1 : rec.state = .ready) (h2 : rec.pending = none) : ({ ({ rec with state := .busy } : Loop) with state := .ready, pending := none } : Loop) = rec := by cases rec; simp_all
abbrev KI : TypeDesc := .int .i64
theorem Mb_zero (f : FFont) : Mb f 0 = fun _ => 0 := by
  funext z
  unfold Mb
  rw [if_neg (by omega)]
abbrev KT := Int → Option (Nat × Nat)
abbrev VM := Value → Option AV
abbrev LX := VM × VM × KT × (Int → List Int)
theorem perm_rot {a b c d e : Nat × AB} {T M : AL} : (d :: a :: b :: c :: (T ++ (M ++ [e]))).Perm (a :: b :: c :: d :: (T ++ (e :: M))) := by
  refine (List.perm_middle (l₁ := [a, b, c])).symm.trans ?_
  exact List.Perm.cons _ (List.Perm.cons _ (List.Perm.cons _ (List.Perm.cons _ (List.Perm.append_left T (List.perm_append_singleton e M)))))
/-- the memory of the first loop -/
def lnE (bm bu p n : Nat) (kh : Option (Nat × List AV)) (R : List Int) (rest : AL) (x : LX) : AL := (bm, mapB KI x.1) :: (bu, mapB KI x.2.1) :: (hst p kh R ++ (toks 3 x.2.2.1 x.2.2.2 (upTo n) ++ rest))
abbrev LS := Nat × List Nat × VM × VM × KT × Option (Nat × List AV)
def lnM (dbs : List Nat) : AL := dbs.map fun b => (b, dfO)
theorem perm_h {a b : Nat × AB} {H X : AL} : (a :: b :: (H ++ X)).Perm (H ++ (a :: b :: X)) := by
  have h1 : (a :: b :: (H ++ X)) = (a :: b :: H) ++ X := rfl
  have h2 : H ++ (a :: b :: X) = (H ++ [a, b]) ++ X := by simp
  rw [h1, h2]
  exact (List.perm_append_comm (l₁ := [a, b]) (l₂ := H)).append_right X
/-- the second loop -/
structure KS where
  T : List Int
  R : List Int
  M : Int → Int
  mm : VM
  kh : Option (Nat × List AV)
  kt : Option (Nat × Nat)
def lnK (bm bu p : Nat) (mu : VM) (X : AL) (x : KS) : AL := (bm, mapB KI x.mm) :: (bu, mapB KI mu) :: (hst p x.kh x.R ++ (tok x.kt 3 1 (ints x.T).length ++ X))
set_option maxHeartbeats 8000000 in
theorem line_ac (f : FFont) (hf : Few f) : AC Tryz.prog 234 [aFont f, .imm 1 (ints (upTo f.Glyphs.length))] [] fun c _ => ∃ T, c = .imm 1 (ints T) ∧ KDone f.Glyphs.length (prt f) T := by
  refine ac_ofM Tryz.func234 rfl Tryz.ntmps234 rfl fun B => ?_
  have hn := hf.n
  have hil : (ints (upTo f.Glyphs.length)).length = f.Glyphs.length := by rw [ints_len, upTo_len]
  generalize hN : f.Glyphs.length = n at *
  (repeat' (first|refine at_seq ?_|refine at_region ?_|refine ax_then ?_|refine atl_nil ?_|refine n_run ttok rfl rfl ?_|refine n_boxI ?_|fail))
  refine n_makeMap KI fun bm => ?_
  (repeat' (first|refine at_seq ?_|refine at_region ?_|refine ax_then ?_|refine atl_nil ?_|(apply s_store; first|refine n_storeF 5 ttok 0 rfl rfl rfl rfl rfl rfl rfl rfl ?_|refine n_storeF 5 ttok 1 rfl rfl rfl rfl rfl rfl rfl rfl ?_|refine n_storeF 5 ttok 2 rfl rfl rfl rfl rfl rfl rfl rfl ?_|refine n_storeF 6 ttok 0 rfl rfl rfl rfl rfl rfl rfl rfl ?_|refine n_storeF 6 ttok 1 rfl rfl rfl rfl rfl rfl rfl rfl ?_|refine n_storeF 6 ttok 2 rfl rfl rfl rfl rfl rfl rfl rfl ?_|refine n_storeF 9 ttok 0 rfl rfl rfl rfl rfl rfl rfl rfl ?_|refine n_storeF 9 ttok 1 rfl rfl rfl rfl rfl rfl rfl rfl ?_|refine n_storeF 9 ttok 2 rfl rfl rfl rfl rfl rfl rfl rfl ?_|refine n_storeF 10 ttok 0 rfl rfl rfl rfl rfl rfl rfl rfl ?_|refine n_storeF 10 ttok 1 rfl rfl rfl rfl rfl rfl rfl rfl ?_|refine n_storeF 10 ttok 2 rfl rfl rfl rfl rfl rfl rfl rfl ?_|refine n_store ttok 0 rfl rfl rfl rfl rfl rfl rfl ?_|refine n_store ttok 1 rfl rfl rfl rfl rfl rfl rfl ?_|refine n_store ttok 2 rfl rfl rfl rfl rfl rfl rfl ?_|refine n_store ttok 3 rfl rfl rfl rfl rfl rfl rfl ?_|fail)|refine n_alloc ttok fun _=>?_|fail))
  refine n_makeMap KI fun bu => ?_
  (repeat' (first|refine at_seq ?_|refine at_region ?_|refine at_block ?_|refine ax_then ?_|refine atl_nil ?_|refine n_run ttok rfl rfl ?_|(apply s_store; first|refine n_storeF 5 ttok 0 rfl rfl rfl rfl rfl rfl rfl rfl ?_|refine n_storeF 5 ttok 1 rfl rfl rfl rfl rfl rfl rfl rfl ?_|refine n_storeF 5 ttok 2 rfl rfl rfl rfl rfl rfl rfl rfl ?_|refine n_storeF 6 ttok 0 rfl rfl rfl rfl rfl rfl rfl rfl ?_|refine n_storeF 6 ttok 1 rfl rfl rfl rfl rfl rfl rfl rfl ?_|refine n_storeF 6 ttok 2 rfl rfl rfl rfl rfl rfl rfl rfl ?_|refine n_storeF 9 ttok 0 rfl rfl rfl rfl rfl rfl rfl rfl ?_|refine n_storeF 9 ttok 1 rfl rfl rfl rfl rfl rfl rfl rfl ?_|refine n_storeF 9 ttok 2 rfl rfl rfl rfl rfl rfl rfl rfl ?_|refine n_storeF 10 ttok 0 rfl rfl rfl rfl rfl rfl rfl rfl ?_|refine n_storeF 10 ttok 1 rfl rfl rfl rfl rfl rfl rfl rfl ?_|refine n_storeF 10 ttok 2 rfl rfl rfl rfl rfl rfl rfl rfl ?_|refine n_store ttok 0 rfl rfl rfl rfl rfl rfl rfl ?_|refine n_store ttok 1 rfl rfl rfl rfl rfl rfl rfl ?_|refine n_store ttok 2 rfl rfl rfl rfl rfl rfl rfl ?_|refine n_store ttok 3 rfl rfl rfl rfl rfl rfl rfl ?_|fail)|refine n_alloc ttok fun _=>?_|fail))
  rename_i p
  refine at_loopM [2, 5, 6, 7, 17, 18] (α := LS) (fun x => marks x.2.1) (fun x => [(19, I64 x.1)]) (fun x => x.1 ≤ n ∧ MNum x.2.2.1 (Mb f x.1) ∧ MRow x.2.2.2.1 x.2.2.2.2.1 (usersOf (prt f) (upTo x.1)) ∧ HOk x.2.2.2.2.2 (Rb f x.1)) (fun x => lnE bm bu p n x.2.2.2.2.2 (Rb f x.1) (lnM x.2.1) (x.2.2.1, x.2.2.2.1, x.2.2.2.2.1, usersOf (prt f) (upTo x.1))) (fun x => n - x.1) (0, [], (fun _ => none), (fun _ => none), (fun _ => none), none) rfl ⟨rfl, trivial⟩ rfl ⟨Nat.zero_le _, ?_, ?_, rfl⟩ (fun σ w h => ?_) ?_
  · intro z; exact .inl ⟨rfl, by rw [Mb_zero]⟩
  · intro z; exact .inl ⟨rfl, rfl, rfl⟩
  · have h1 := ASt.perm (L := [(p, .box [.sc (.slice none 0 0)] 328), (bu, mapB KI fun _ => none), (bm, mapB KI fun _ => none)]) h (List.reverse_perm _).symm
    have h2 : lnE bm bu p n none (Rb f 0) (lnM []) ((fun _ => none), (fun _ => none), (fun _ => none), usersOf (prt f) (upTo 0)) = [(bm, mapB KI fun _ => none), (bu, mapB KI fun _ => none), (p, .box [.sc (.slice none 0 0)] 328)] := by
      unfold lnE
      rw [toks_none]
      rfl
    show ASt B σ (lnE bm bu p n none (Rb f 0) (lnM []) ((fun _ => none), (fun _ => none), (fun _ => none), usersOf (prt f) (upTo 0))) w
    rw [h2]
    exact h1
  rintro ⟨g, dbs, mm, mu, K, kh⟩ ⟨hg, hM, hU, hR⟩
  dsimp only at hg hM hU hR ⊢
  try dsimp only [List.cons_append, List.nil_append, List.map_cons, List.map_nil]
  (repeat' (first|refine at_seq ?_|refine at_region ?_|refine ax_then ?_|refine atl_nil ?_|refine n_run ttok rfl rfl ?_|fail))
  rw [hil]
  refine at_cond rfl (fun h => ?_) (fun h => ?_)
  · have hgl : g < n := by have := of_decide_eq_true h; omega
    obtain ⟨gl, hgg⟩ : ∃ z, f.Glyphs[g]? = some z := ⟨_, List.getElem?_eq_getElem (by omega)⟩
    have hgm := List.mem_of_getElem? hgg
    have hgi := ints_get (upTo_get hgl)
    clear h
    unfold lnE
    dsimp only
    (repeat' (first|refine at_seq ?_|refine at_region ?_|refine at_block ?_|refine at_skip ?_|refine ax_then ?_|refine atl_nil ?_|refine n_run ttok rfl rfl ?_|(apply s_index; first|refine n_index ttok ?_|refine n_indexP ttok ?_)|(apply s_store; first|refine n_storeF 5 ttok 0 rfl rfl rfl rfl rfl rfl rfl rfl ?_|refine n_storeF 5 ttok 1 rfl rfl rfl rfl rfl rfl rfl rfl ?_|refine n_storeF 5 ttok 2 rfl rfl rfl rfl rfl rfl rfl rfl ?_|refine n_storeF 6 ttok 0 rfl rfl rfl rfl rfl rfl rfl rfl ?_|refine n_storeF 6 ttok 1 rfl rfl rfl rfl rfl rfl rfl rfl ?_|refine n_storeF 6 ttok 2 rfl rfl rfl rfl rfl rfl rfl rfl ?_|refine n_storeF 9 ttok 0 rfl rfl rfl rfl rfl rfl rfl rfl ?_|refine n_storeF 9 ttok 1 rfl rfl rfl rfl rfl rfl rfl rfl ?_|refine n_storeF 9 ttok 2 rfl rfl rfl rfl rfl rfl rfl rfl ?_|refine n_storeF 10 ttok 0 rfl rfl rfl rfl rfl rfl rfl rfl ?_|refine n_storeF 10 ttok 1 rfl rfl rfl rfl rfl rfl rfl rfl ?_|refine n_storeF 10 ttok 2 rfl rfl rfl rfl rfl rfl rfl rfl ?_|refine n_store ttok 0 rfl rfl rfl rfl rfl rfl rfl ?_|refine n_store ttok 1 rfl rfl rfl rfl rfl rfl rfl ?_|refine n_store ttok 2 rfl rfl rfl rfl rfl rfl rfl ?_|refine n_store ttok 3 rfl rfl rfl rfl rfl rfl rfl ?_|fail)|refine n_alloc ttok fun _=>?_|(apply s_call;refine n_call ?_)|fail))
    refine at_weak (fr' := [(2, .iptr (cFont f)), (5, .iptr [.sc (.map (some bm))]), (6, .iptr [.sc (.map (some bu))]), (7, .sc (.pointer (some ⟨p, 0, none⟩))), (9, .iptr [I64 g]), (17, .imm 1 (ints (upTo n))), (18, I64 n), (19, I64 g), (25, .fn 280 [.iptr (cFont f), .iptr [I64 g]])]) (L' := lnE bm bu p n kh (Rb f g) (lnM dbs) (mm, mu, K, Ui f gl g 0)) ⟨rfl, rfl, rfl, rfl, rfl, rfl, rfl, rfl, rfl, trivial⟩ (fun _ _ h => by rw [Ui_zero]; exact h) ?_
    refine at_range (ps := [26]) rfl fun σ0 l db rec hrec => ?_
    have hy : ∀ (i : Nat) (x : LX) (q : FPart), (MNum x.1 (Mi f gl g i) ∧ MRow x.2.1 x.2.2.1 x.2.2.2 ∧ x.2.2.2 = Ui f gl g i) → gl.Parts[i]? = some q → isG f q.Glyph = true → AY Tryz.prog σ0 l [.agg (cPart q)] (lnE bm bu p n kh (Rb f g) (lnM dbs) x ++ [(db, dfO)] ++ [(l, lpO rec)]) fun c L => c = Bol true ∧ ∃ x' : LX, (MNum x'.1 (Mi f gl g (i + 1)) ∧ MRow x'.2.1 x'.2.2.1 x'.2.2.2 ∧ x'.2.2.2 = Ui f gl g (i + 1)) ∧ L = lnE bm bu p n kh (Rb f g) (lnM dbs) x' ++ [(db, dfO)] ++ [(l, lpO rec)] := by
      rintro i ⟨mm, mu, K, U⟩ q ⟨hM, hU, rfl⟩ hq hG
      dsimp only at hM hU ⊢
      refine ay_of hrec rfl rfl fun B1 hB1 => ?_
      (repeat' (first|refine at_region ?_|refine atl_nil ?_|(apply s_store; first|refine n_storeF 5 ttok 0 rfl rfl rfl rfl rfl rfl rfl rfl ?_|refine n_storeF 5 ttok 1 rfl rfl rfl rfl rfl rfl rfl rfl ?_|refine n_storeF 5 ttok 2 rfl rfl rfl rfl rfl rfl rfl rfl ?_|refine n_storeF 6 ttok 0 rfl rfl rfl rfl rfl rfl rfl rfl ?_|refine n_storeF 6 ttok 1 rfl rfl rfl rfl rfl rfl rfl rfl ?_|refine n_storeF 6 ttok 2 rfl rfl rfl rfl rfl rfl rfl rfl ?_|refine n_storeF 9 ttok 0 rfl rfl rfl rfl rfl rfl rfl rfl ?_|refine n_storeF 9 ttok 1 rfl rfl rfl rfl rfl rfl rfl rfl ?_|refine n_storeF 9 ttok 2 rfl rfl rfl rfl rfl rfl rfl rfl ?_|refine n_storeF 10 ttok 0 rfl rfl rfl rfl rfl rfl rfl rfl ?_|refine n_storeF 10 ttok 1 rfl rfl rfl rfl rfl rfl rfl rfl ?_|refine n_storeF 10 ttok 2 rfl rfl rfl rfl rfl rfl rfl rfl ?_|refine n_store ttok 0 rfl rfl rfl rfl rfl rfl rfl ?_|refine n_store ttok 1 rfl rfl rfl rfl rfl rfl rfl ?_|refine n_store ttok 2 rfl rfl rfl rfl rfl rfl rfl ?_|refine n_store ttok 3 rfl rfl rfl rfl rfl rfl rfl ?_|fail)|refine n_alloc ttok fun _=>?_|fail))
      refine ax_begin hrec.state ?_
      unfold lnE
      dsimp only
      have hqr := isG_iff.1 hG
      have hcnt := prI_len f gl i
      have hpl := hf.parts gl hgm
      have hMg : Mi f gl g i g = (prI f gl i).length := by unfold Mi; rw [if_pos rfl]
      simp only [List.cons_append, List.append_assoc]
      have hUl := Ui_len hf gl hgm (g := g) (by omega) i q.Glyph
      have hUi : (ints (Ui f gl g i q.Glyph)).length = (Ui f gl g i q.Glyph).length := ints_len _
      have hz : q.Glyph ∈ upTo n := mem_upTo.2 (by omega)
      (repeat' (first|refine at_seq ?_|refine at_region ?_|refine at_block ?_|refine n_run ttok rfl rfl ?_|fail))
      refine n_lookupA 0 (.int .i64 0) (I64 (Mi f gl g i g)) Tryz.underlying326 Tryz.underlying3 rfl rfl rfl rfl (by kernel_rfl) (hM.at g) rfl ?_
      (repeat' (first|(apply s_bin; refine n_bin ?_)|fail))
      refine n_mapUpdate 0 (mput mm (.int .i64 g) (I64 (Mi f gl g i g + 1))) Tryz.underlying326 Tryz.underlying3 rfl rfl rfl rfl rfl mput_self (fun q h => mput_other q h) ?_
      (repeat' (first|refine ax_then ?_|refine atl_nil ?_|fail))
      refine at_draw 10 [(0, .v), (1, .v), (2, .v), (3, .v), (4, .v), (5, .v), (7, .v), (8, .v), (6, .e), (9, .e)] none ?_ trivial rfl (by kernel_rfl) (by kernel_rfl) (by kernel_rfl) mixed (by kernel_rfl) rfl
      (repeat' (first|refine da_open ?_|refine d_run ttok ?_|refine d_lit ttok ?_|fail))
      refine d_lookupA 1 (.slice none 0 0) (.vec (K q.Glyph) 1 (ints (Ui f gl g i q.Glyph))) Tryz.underlying327 Tryz.underlying3 rfl rfl rfl rfl (by kernel_rfl) (hU.at q.Glyph) trivial ?_
      (repeat' (first|refine da_open ?_|fail))
      refine d_append ttok _ rfl rfl rfl rfl (perm_tok (toks_pick hz)) (by rw [hUi]; show _ + 1 ≤ _; omega) (by rw [hUi]; show (_ + 1) * 8 ≤ _; omega) trivial fun k' => ?_
      (repeat' (first|fail))
      refine da_end [2, 5, 6, 7, 9, 17, 18, 19, 26, 31, 33, 40] rfl rfl ?_
      have hput := toks_put (e := 3) (K := K) (U := Ui f gl g i) (k := k') (l := Ui f gl g i q.Glyph ++ [(g : Int)]) (upTo_nodup n) hz
      rw [show ints (Ui f gl g i q.Glyph) ++ [[AV.sc (.int .i64 (g : Int))]] = ints (Ui f gl g i q.Glyph ++ [(g : Int)]) from ints_app _ [(g : Int)]]
      refine atl_turn (turn_perm (perm_tok hput.symm).symm) ?_
      (repeat' (first|fail))
      refine n_mapUpdate 1 (mput mu (.int .i64 q.Glyph) (.vec k' 1 (ints (Ui f gl g i q.Glyph ++ [(g : Int)])))) Tryz.underlying327 Tryz.underlying3 rfl rfl rfl rfl rfl mput_self (fun q h => mput_other q h) ?_
      (repeat' (first|refine ax_blk ?_|refine atl_nil ?_|fail))
      refine ax_turn (L' := lnE bm bu p n kh (Rb f g) (lnM dbs) (mput mm (.int .i64 g) (I64 (Mi f gl g i g + 1)), mput mu (.int .i64 q.Glyph) (.vec k' 1 (ints (Ui f gl g i q.Glyph ++ [(g : Int)]))), (fun y => if y = q.Glyph then k' else K y), fun y => if y = q.Glyph then Ui f gl g i q.Glyph ++ [(g : Int)] else Ui f gl g i y) ++ [(db, dfO)] ++ [(l, lpO { rec with state := .busy })]) (turn_perm (List.Perm.of_eq (by simp only [lnE, aput, List.cons_append, List.append_assoc, List.nil_append]))) (ax_rnd ?_)
      rw [rec_same hrec.state hrec.pending]
      refine ⟨rfl, (mput mm (.int .i64 g) (I64 (Mi f gl g i g + 1)), mput mu (.int .i64 q.Glyph) (.vec k' 1 (ints (Ui f gl g i q.Glyph ++ [(g : Int)]))), (fun y => if y = q.Glyph then k' else K y), fun y => if y = q.Glyph then Ui f gl g i q.Glyph ++ [(g : Int)] else Ui f gl g i y), ⟨?_, hU.put q.Glyph k' _, Ui_yes hq hG⟩, ?_⟩
      · have := hM.put g (Mi f gl g i g + 1)
        rw [Mi_yes hq hG] at this
        exact this
      · simp only [lnE, List.cons_append, List.append_assoc, List.nil_append]
    have hsk : ∀ (i : Nat) (x : LX) (q : FPart), (MNum x.1 (Mi f gl g i) ∧ MRow x.2.1 x.2.2.1 x.2.2.2 ∧ x.2.2.2 = Ui f gl g i) → gl.Parts[i]? = some q → isG f q.Glyph = false → (MNum x.1 (Mi f gl g (i + 1)) ∧ MRow x.2.1 x.2.2.1 x.2.2.2 ∧ x.2.2.2 = Ui f gl g (i + 1)) := by
      intro i x q h hq hG
      rw [Mi_no hq hG, Ui_no hq hG]
      exact h
    have hit := partsIt (σ0 := σ0) (l := l) f g gl hgg (fun x => lnE bm bu p n kh (Rb f g) (lnM dbs) x ++ [(db, dfO)] ++ [(l, lpO rec)]) (fun i x => MNum x.1 (Mi f gl g i) ∧ MRow x.2.1 x.2.2.1 x.2.2.2 ∧ x.2.2.2 = Ui f gl g i) hy hsk (mm, mu, K, Ui f gl g 0) ⟨by rw [Mi_zero]; exact hM, by rw [Ui_zero]; exact hU, rfl⟩ (by have := hf.parts gl hgm; omega)
    refine ⟨_, hit, ?_⟩
    rintro c L' ⟨⟨mm', mu', K', U'⟩, ⟨hM', hU', rfl⟩, rfl⟩
    dsimp only at hM' hU' ⊢
    refine ⟨rec, _, List.Perm.refl _, (by rw [hrec.state]; intro h; cases h), ?_⟩
    rw [hrec.pending]
    show AX _ _ _ _ _ _ _ _
    rw [Mi_all hgg] at hM'
    rw [Ui_all hgg] at hU' ⊢
    clear hy hsk hit hM hU
    unfold lnE
    dsimp only
    simp only [List.cons_append, List.append_assoc, List.nil_append]
    (repeat' (first|refine at_seq ?_|refine at_region ?_|refine ax_then ?_|refine ax_blk ?_|refine n_run ttok rfl rfl ?_|fail))
    refine n_lookupA 0 (.int .i64 0) (I64 (Mb f (g + 1) g)) Tryz.underlying326 Tryz.underlying3 rfl rfl rfl rfl (by kernel_rfl) (hM'.at g) rfl ?_
    rw [show Mb f (g + 1) g = (prt f g).length by unfold Mb; rw [if_pos (by omega)]]
    (repeat' (first|refine ax_then ?_|refine atl_nil ?_|refine n_run ttok rfl rfl ?_|fail))
    refine at_cond rfl (fun h => ?_) (fun h => ?_)
    · have h0 : (prt f g).length = 0 := by have := of_decide_eq_true h; omega
      cases kh with
      | none =>
        have hR0 : Rb f g = [] := hR
        unfold hst hRow hSl
        dsimp only
        simp only [List.cons_append, List.nil_append]
        (repeat' (first|refine at_region ?_|refine n_run ttok rfl rfl ?_|(apply s_load; first|refine n_load ttok 0 rfl rfl rfl rfl rfl ?_|refine n_load ttok 1 rfl rfl rfl rfl rfl ?_|refine n_load ttok 2 rfl rfl rfl rfl rfl ?_|refine n_load ttok 3 rfl rfl rfl rfl rfl ?_|refine n_loadA ttok 0 rfl rfl rfl rfl rfl ?_|refine n_loadA ttok 1 rfl rfl rfl rfl rfl ?_|refine n_loadA ttok 2 rfl rfl rfl rfl rfl ?_|refine n_load ttok 1 rfl rfl rfl (by assumption) rfl ?_|refine n_load ttok 0 rfl rfl rfl (by assumption) rfl ?_|fail)|refine n_litI ttok ?_|fail))
        refine n_appendN ttok rfl rfl rfl rfl rfl rfl rfl fun b' cs' h1 h2 => ?_
        (repeat' (first|refine at_region ?_|refine ax_then ?_|refine ax_blk ?_|refine atl_nil ?_|refine n_run ttok rfl rfl ?_|(apply s_bin; refine n_bin ?_)|(apply s_store; first|refine n_storeF 5 ttok 0 rfl rfl rfl rfl rfl rfl rfl rfl ?_|refine n_storeF 5 ttok 1 rfl rfl rfl rfl rfl rfl rfl rfl ?_|refine n_storeF 5 ttok 2 rfl rfl rfl rfl rfl rfl rfl rfl ?_|refine n_storeF 6 ttok 0 rfl rfl rfl rfl rfl rfl rfl rfl ?_|refine n_storeF 6 ttok 1 rfl rfl rfl rfl rfl rfl rfl rfl ?_|refine n_storeF 6 ttok 2 rfl rfl rfl rfl rfl rfl rfl rfl ?_|refine n_storeF 9 ttok 0 rfl rfl rfl rfl rfl rfl rfl rfl ?_|refine n_storeF 9 ttok 1 rfl rfl rfl rfl rfl rfl rfl rfl ?_|refine n_storeF 9 ttok 2 rfl rfl rfl rfl rfl rfl rfl rfl ?_|refine n_storeF 10 ttok 0 rfl rfl rfl rfl rfl rfl rfl rfl ?_|refine n_storeF 10 ttok 1 rfl rfl rfl rfl rfl rfl rfl rfl ?_|refine n_storeF 10 ttok 2 rfl rfl rfl rfl rfl rfl rfl rfl ?_|refine n_store ttok 0 rfl rfl rfl rfl rfl rfl rfl ?_|refine n_store ttok 1 rfl rfl rfl rfl rfl rfl rfl ?_|refine n_store ttok 2 rfl rfl rfl rfl rfl rfl rfl ?_|refine n_store ttok 3 rfl rfl rfl rfl rfl rfl rfl ?_|fail)|fail))
        refine ax_roundM (g + 1, db :: dbs, mm', mu', K', some (b', cs')) rfl ⟨by rw [Int.natCast_add]; rfl, trivial⟩ rfl ⟨by dsimp only; omega, hM', hU', ?_⟩ (by dsimp only; omega) (fun σ w h => ?_)
        · rw [Rb_succ, if_pos h0, hR0]
          exact ⟨h1, h2, h2⟩
        · have h := ASt.perm (L := (b', .box cs' 3) :: (bm, mapB KI mm') :: (bu, mapB KI mu') :: (p, .box [.sc (.slice (some ⟨b', 0, none⟩) 1 cs'.length)] 328) :: (toks 3 K' (usersOf (prt f) (upTo (g + 1))) (upTo n) ++ (lnM dbs ++ [(db, dfO)]))) h perm_rot
          show ASt B σ (lnE bm bu p n (some (b', cs')) (Rb f (g + 1)) (lnM (db :: dbs)) (mm', mu', K', usersOf (prt f) (upTo (g + 1)))) w
          rw [Rb_succ, if_pos h0, hR0]
          exact h
      | some kk =>
        obtain ⟨b, cs⟩ := kk
        rw [hst_some]
        simp only [List.cons_append, List.nil_append]
        (repeat' (first|refine at_region ?_|refine n_run ttok rfl rfl ?_|(apply s_load; first|refine n_load ttok 0 rfl rfl rfl rfl rfl ?_|refine n_load ttok 1 rfl rfl rfl rfl rfl ?_|refine n_load ttok 2 rfl rfl rfl rfl rfl ?_|refine n_load ttok 3 rfl rfl rfl rfl rfl ?_|refine n_loadA ttok 0 rfl rfl rfl rfl rfl ?_|refine n_loadA ttok 1 rfl rfl rfl rfl rfl ?_|refine n_loadA ttok 2 rfl rfl rfl rfl rfl ?_|refine n_load ttok 1 rfl rfl rfl (by assumption) rfl ?_|refine n_load ttok 0 rfl rfl rfl (by assumption) rfl ?_|fail)|refine n_litI ttok ?_|fail))
        have hRl := Rb_len f g
        refine n_appendB ttok 3 rfl rfl rfl rfl rfl rfl rfl hR.2.1 (by omega) (by omega) rfl fun b' cs' h1 h2 => ?_
        (repeat' (first|refine at_region ?_|refine ax_then ?_|refine ax_blk ?_|refine atl_nil ?_|refine n_run ttok rfl rfl ?_|(apply s_bin; refine n_bin ?_)|(apply s_store; first|refine n_storeF 5 ttok 0 rfl rfl rfl rfl rfl rfl rfl rfl ?_|refine n_storeF 5 ttok 1 rfl rfl rfl rfl rfl rfl rfl rfl ?_|refine n_storeF 5 ttok 2 rfl rfl rfl rfl rfl rfl rfl rfl ?_|refine n_storeF 6 ttok 0 rfl rfl rfl rfl rfl rfl rfl rfl ?_|refine n_storeF 6 ttok 1 rfl rfl rfl rfl rfl rfl rfl rfl ?_|refine n_storeF 6 ttok 2 rfl rfl rfl rfl rfl rfl rfl rfl ?_|refine n_storeF 9 ttok 0 rfl rfl rfl rfl rfl rfl rfl rfl ?_|refine n_storeF 9 ttok 1 rfl rfl rfl rfl rfl rfl rfl rfl ?_|refine n_storeF 9 ttok 2 rfl rfl rfl rfl rfl rfl rfl rfl ?_|refine n_storeF 10 ttok 0 rfl rfl rfl rfl rfl rfl rfl rfl ?_|refine n_storeF 10 ttok 1 rfl rfl rfl rfl rfl rfl rfl rfl ?_|refine n_storeF 10 ttok 2 rfl rfl rfl rfl rfl rfl rfl rfl ?_|refine n_store ttok 0 rfl rfl rfl rfl rfl rfl rfl ?_|refine n_store ttok 1 rfl rfl rfl rfl rfl rfl rfl ?_|refine n_store ttok 2 rfl rfl rfl rfl rfl rfl rfl ?_|refine n_store ttok 3 rfl rfl rfl rfl rfl rfl rfl ?_|fail)|fail))
        refine ax_roundM (g + 1, db :: dbs, mm', mu', K', some (b', cs')) rfl ⟨by rw [Int.natCast_add]; rfl, trivial⟩ rfl ⟨by dsimp only; omega, hM', hU', ?_⟩ (by dsimp only; omega) (fun σ w h => ?_)
        · rw [Rb_succ, if_pos h0]
          refine ⟨?_, by rw [List.length_append]; exact h2, by omega⟩
          rw [List.length_append, List.map_append, ← hR.1]
          exact h1
        · have h := ASt.perm (L := (b', .box cs' 3) :: (bm, mapB KI mm') :: (bu, mapB KI mu') :: (p, .box [.sc (.slice (some ⟨b', 0, none⟩) ((Rb f g).length + 1) cs'.length)] 328) :: (toks 3 K' (usersOf (prt f) (upTo (g + 1))) (upTo n) ++ (lnM dbs ++ [(db, dfO)]))) h perm_rot
          show ASt B σ (lnE bm bu p n (some (b', cs')) (Rb f (g + 1)) (lnM (db :: dbs)) (mm', mu', K', usersOf (prt f) (upTo (g + 1)))) w
          rw [Rb_succ, if_pos h0]
          unfold lnE
          rw [hst_some, List.length_append]
          exact h
    · have h0 : ¬ (prt f g).length = 0 := by have := of_decide_eq_false h; omega
      (repeat' (first|refine at_region ?_|refine at_skip ?_|refine ax_then ?_|refine ax_blk ?_|refine atl_nil ?_|refine n_run ttok rfl rfl ?_|(apply s_bin; refine n_bin ?_)|fail))
      refine ax_roundM (g + 1, db :: dbs, mm', mu', K', kh) rfl ⟨by rw [Int.natCast_add]; rfl, trivial⟩ rfl ⟨by dsimp only; omega, hM', hU', by rw [Rb_succ, if_neg h0]; exact hR⟩ (by dsimp only; omega) (fun σ w h => ?_)
      show ASt B σ (lnE bm bu p n kh (Rb f (g + 1)) (lnM (db :: dbs)) (mm', mu', K', usersOf (prt f) (upTo (g + 1)))) w
      rw [Rb_succ, if_neg h0]
      refine h.perm (List.Perm.cons _ (List.Perm.cons _ (List.Perm.append_left _ (List.Perm.append_left _ ?_))))
      exact List.perm_append_singleton _ _
  have hgn : g = n := by have := of_decide_eq_false h; omega
  subst hgn
  clear h
  have hst0 : KInv g (prt f) [] (Rb f g) (Mb f g) := by
    have h1 := KInv.start (n := g) (pr := prt f) (M := Mb f g) fun z h0 h1 => by unfold Mb; rw [if_pos ⟨h0, h1⟩]
    have h2 : (upTo g).filter (fun z => decide (Mb f g z = 0)) = Rb f g := by
      unfold Rb
      refine List.filter_congr fun z hz => ?_
      unfold Mb
      rw [if_pos (mem_upTo.1 hz)]
      exact decide_eq_decide.2 (by omega)
    rw [h2] at h1
    exact h1
  have hRl := Rb_len f g
  unfold lnE
  dsimp only
  (repeat' (first|refine at_seq ?_|refine at_region ?_|refine at_exit ?_|refine ax_then ?_|refine ax_then_exit ?_|refine ax_blk_exit ?_|refine ax_loopM_exit ?_|fail))
  refine n_iface (by kernel_rfl) rfl rfl ?_
  (repeat' (first|fail))
  refine n_callA (hst p kh (Rb f g)) _ (heapInit p kh (Rb f g) hR (by omega)) rfl rfl perm_h rfl fun c L1 ⟨kh', R', hL, hR', hpm⟩ => ?_
  subst hL
  refine atl_turn (turn_perm perm_h.symm) ?_
  (repeat' (first|refine at_seq ?_|refine at_region ?_|refine at_block ?_|refine ax_then ?_|refine atl_nil ?_|refine n_run ttok rfl rfl ?_|fail))
  refine at_turn (turn_val (t := 11) (c' := .vec none 1 (ints [])) rfl fun σ v h => vr_nil 1 h) ?_
  refine at_loopK [5, 6, 7] (α := KS) (fun x => [(11, .vec x.kt 1 (ints x.T))]) (fun x => KInv g (prt f) x.T x.R x.M ∧ MNum x.mm x.M ∧ HOk x.kh x.R) (fun x => lnK bm bu p mu (toks 3 K (usersOf (prt f) (upTo g)) (upTo g) ++ lnM dbs) x) (fun x => g - x.T.length) ⟨[], R', Mb f g, mm, kh', none⟩ rfl ⟨rfl, trivial⟩ ⟨hst0.perm hpm, hM, hR'⟩ (fun σ w h => ?_) ?_
  · exact h
  rintro ⟨T, R, M, mm, kh, kt⟩ ⟨hK, hM, hR⟩
  dsimp only at hK hM hR ⊢
  unfold lnK
  dsimp only
  try dsimp only [List.cons_append, List.nil_append, List.map_cons, List.map_nil]
  cases kh with
  | none =>
    have hR0 : R = [] := hR
    subst hR0
    unfold hst hRow hSl
    dsimp only
    (repeat' (first|refine at_seq ?_|refine at_region ?_|refine at_ret ?_|refine at_exit ?_|refine ax_then ?_|refine ax_then_exit ?_|refine ax_blk_exit ?_|refine ax_loop_exit ?_|refine atl_nil ?_|refine n_run ttok rfl rfl ?_|(apply s_load; first|refine n_load ttok 0 rfl rfl rfl rfl rfl ?_|refine n_load ttok 1 rfl rfl rfl rfl rfl ?_|refine n_load ttok 2 rfl rfl rfl rfl rfl ?_|refine n_load ttok 3 rfl rfl rfl rfl rfl ?_|refine n_loadA ttok 0 rfl rfl rfl rfl rfl ?_|refine n_loadA ttok 1 rfl rfl rfl rfl rfl ?_|refine n_loadA ttok 2 rfl rfl rfl rfl rfl ?_|refine n_load ttok 1 rfl rfl rfl (by assumption) rfl ?_|refine n_load ttok 0 rfl rfl rfl (by assumption) rfl ?_|fail)|refine n_condF rfl ?_|fail))
    refine ax_turn (turn_val (t := 4) (c' := .imm 1 (ints T)) rfl fun σ v h => VR.im h) ?_
    refine ax_drop (L' := lnM dbs) (((((List.sublist_append_right _ _).trans (List.sublist_append_right _ _)).trans (List.sublist_append_right _ _)).cons _).cons _) ?_
    exact ax_retM (cs := [.imm 1 (ints T)]) dbs [] rfl (List.Perm.refl _) ⟨rfl, trivial⟩ ⟨T, rfl, hK.fin⟩
  | some kk =>
    obtain ⟨b, cs⟩ := kk
    rw [hst_some]
    have hTR := nodup_le hK.nodup hK.dom
    rw [List.length_append] at hTR
    (repeat' (first|refine at_seq ?_|refine at_region ?_|refine ax_then ?_|refine atl_nil ?_|refine n_run ttok rfl rfl ?_|(apply s_load; first|refine n_load ttok 0 rfl rfl rfl rfl rfl ?_|refine n_load ttok 1 rfl rfl rfl rfl rfl ?_|refine n_load ttok 2 rfl rfl rfl rfl rfl ?_|refine n_load ttok 3 rfl rfl rfl rfl rfl ?_|refine n_loadA ttok 0 rfl rfl rfl rfl rfl ?_|refine n_loadA ttok 1 rfl rfl rfl rfl rfl ?_|refine n_loadA ttok 2 rfl rfl rfl rfl rfl ?_|refine n_load ttok 1 rfl rfl rfl (by assumption) rfl ?_|refine n_load ttok 0 rfl rfl rfl (by assumption) rfl ?_|fail)|fail))
    refine at_cond rfl (fun h => ?_) (fun h => ?_)
    · have h0 : 0 < R.length := by have := of_decide_eq_true h; omega
      clear h
      (repeat' (first|refine at_seq ?_|refine at_region ?_|refine at_block ?_|refine at_skip ?_|refine ax_then ?_|fail))
      refine n_iface (by kernel_rfl) rfl rfl ?_
      (repeat' (first|fail))
      refine n_callA (hst p (some (b, cs)) R) _ (heapPop p b cs R hR h0 (by omega)) rfl rfl perm_h rfl fun c L1 ⟨z, cs', R', hc, hL, hR', hpm⟩ => ?_
      subst hc; subst hL
      refine atl_turn (turn_perm perm_h.symm) ?_
      (repeat' (first|fail))
      refine n_assert (by kernel_rfl) rfl rfl ?_
      (repeat' (first|refine at_seq ?_|refine at_region ?_|refine ax_then ?_|refine atl_nil ?_|refine n_run ttok rfl rfl ?_|refine n_litI ttok ?_|fail))
      have hKm := (hK.perm hpm).pop
      have hz := hKm.dom z (by simp)
      have hTz : z ∉ T := fun hm => by
        have := hKm.nodup
        rw [List.append_assoc, List.nodup_append] at this
        exact this.2.2 z hm z (by simp) rfl
      have hTl := nodup_le (List.nodup_append.1 hKm.nodup).1 (fun y hy => hKm.dom y (List.mem_append_left _ hy))
      rw [List.length_append] at hTl
      have hTi := ints_len T
      have hall : ∀ q : Int, 0 ≤ q → q < g → (usersOf (prt f) (upTo g) z).count q = (prt f q).count z := fun q q0 q1 => by rw [usersOf_count _ _ _ _ (upTo_nodup g), if_pos (mem_upTo.2 ⟨q0, q1⟩)]
      have hUl := users_len hf.prt z (upTo g)
      rw [upTo_len] at hUl
      refine n_append ttok _ rfl rfl rfl rfl (perm_tok (T := tok kt 3 1 (ints T).length) (T' := []) (by rw [List.append_nil])) (by rw [hTi]; show _ + 1 ≤ _; simp at hTl; omega) (by rw [hTi]; show (_ + 1) * 8 ≤ _; simp at hTl; omega) rfl fun k' => ?_
      rw [show ints T ++ [[AV.sc (.int .i64 z)]] = ints (T ++ [z]) from ints_app T [z]]
      refine atl_turn (turn_perm (perm_tok (T := tok k' 3 1 (ints (T ++ [z])).length) (T' := []) (by rw [List.append_nil])).symm) ?_
      (repeat' (first|refine at_seq ?_|refine at_region ?_|refine ax_then ?_|refine atl_nil ?_|refine n_run ttok rfl rfl ?_|fail))
      refine n_lookupA 1 (.slice none 0 0) (.vec (K z) 1 (ints (usersOf (prt f) (upTo g) z))) Tryz.underlying327 Tryz.underlying3 rfl rfl rfl rfl (by kernel_rfl) (hU.at z) rfl ?_
      (repeat' (first|refine at_block ?_|refine ax_then ?_|refine atl_nil ?_|refine n_run ttok rfl rfl ?_|fail))
      have hUi := ints_len (usersOf (prt f) (upTo g) z)
      refine at_loopK [5, 6, 7, 11, 64, 65] (α := Nat × KS) (fun x => [(66, I64 x.1)]) (fun x => x.2.T = T ++ [z] ∧ x.2.kt = k' ∧ x.1 ≤ (usersOf (prt f) (upTo g) z).length ∧ KMid g (prt f) T z ((usersOf (prt f) (upTo g) z).take x.1) x.2.R x.2.M ∧ MNum x.2.mm x.2.M ∧ HOk x.2.kh x.2.R) (fun x => lnK bm bu p mu (toks 3 K (usersOf (prt f) (upTo g)) (upTo g) ++ lnM dbs) x.2) (fun x => (usersOf (prt f) (upTo g) z).length - x.1) (0, ⟨T ++ [z], R', M, mm, some (b, cs'), k'⟩) rfl ⟨rfl, trivial⟩ ⟨rfl, rfl, Nat.zero_le _, hKm, hM, hR'⟩ (fun σ w h => h) ?_
      clear hM hR hK hR' hKm hpm
      rintro ⟨j, ⟨T', R, M, mm, kh, kt'⟩⟩ ⟨hT', hk', hj, hK, hM, hR⟩
      dsimp only at hT' hk' hj hK hM hR ⊢
      subst hT'; subst hk'
      unfold lnK
      dsimp only
      try dsimp only [List.cons_append, List.nil_append, List.map_cons, List.map_nil]
      (repeat' (first|refine at_seq ?_|refine at_region ?_|refine ax_then ?_|refine atl_nil ?_|refine n_run ttok rfl rfl ?_|fail))
      refine at_cond rfl (fun h => ?_) (fun h => ?_)
      · have hjl : j < (usersOf (prt f) (upTo g) z).length := by have := of_decide_eq_true h; rw [hUi] at this; omega
        obtain ⟨u, hu⟩ : ∃ u, (usersOf (prt f) (upTo g) z)[j]? = some u := ⟨_, List.getElem?_eq_getElem hjl⟩
        have hug := ints_get hu
        have hur := mem_upTo.1 (users_mem (List.mem_of_getElem? hu))
        obtain ⟨hpos, hK'⟩ := hK.step hall hTz hu hur.1 hur.2
        have hmu := hK.miss u hur.1 hur.2
        have hml := missN_le (prt f) T u
        have hpl := hf.prt u
        have hRl2 := nodup_le hK.nodup hK.dom
        rw [List.length_append, List.length_append] at hRl2
        clear h
        (repeat' (first|refine at_seq ?_|refine at_region ?_|refine at_block ?_|refine at_skip ?_|refine ax_then ?_|refine atl_nil ?_|refine n_run ttok rfl rfl ?_|(apply s_index; first|refine n_index ttok ?_|refine n_indexP ttok ?_)|fail))
        refine n_lookupA 0 (.int .i64 0) (I64 (M u)) Tryz.underlying326 Tryz.underlying3 rfl rfl rfl rfl (by kernel_rfl) (hM.at u) rfl ?_
        (repeat' (first|(apply s_bin; refine n_bin ?_)|fail))
        refine n_mapUpdate 0 (mput mm (.int .i64 u) (I64 (M u - 1))) Tryz.underlying326 Tryz.underlying3 rfl rfl rfl rfl rfl mput_self (fun q h => mput_other q h) ?_
        (repeat' (first|refine at_seq ?_|refine at_region ?_|refine ax_then ?_|refine atl_nil ?_|refine n_run ttok rfl rfl ?_|fail))
        refine n_lookupA 0 (.int .i64 0) (I64 (M u - 1)) Tryz.underlying326 Tryz.underlying3 rfl rfl rfl rfl (by kernel_rfl) (fun σ v h => ?_) rfl ?_
        · have := (hM.put u (M u - 1)).at u σ v h
          simpa using this
        (repeat' (first|refine ax_then ?_|refine atl_nil ?_|refine n_run ttok rfl rfl ?_|fail))
        refine at_cond rfl (fun h => ?_) (fun h => ?_)
        · have h1 := of_decide_eq_true h
          rw [if_pos h1] at hK'
          (repeat' (first|refine at_region ?_|fail))
          refine n_iface (by kernel_rfl) rfl rfl ?_
          (repeat' (first|refine n_run ttok rfl rfl ?_|fail))
          refine n_iface (by kernel_rfl) rfl rfl ?_
          (repeat' (first|fail))
          refine n_callA (hst p kh R) _ (heapPush p kh R u hR (by omega)) rfl rfl perm_h rfl fun c L1 ⟨b2, cs2, R2, hL, hR2, hpm⟩ => ?_
          subst hL
          refine atl_turn (turn_perm perm_h.symm) ?_
          (repeat' (first|refine at_region ?_|refine ax_then ?_|refine ax_blk ?_|refine atl_nil ?_|refine n_run ttok rfl rfl ?_|(apply s_bin; refine n_bin ?_)|fail))
          exact ax_roundK (j + 1, ⟨T ++ [z], R2, _, _, some (b2, cs2), kt'⟩) rfl ⟨by rw [Int.natCast_add]; rfl, trivial⟩ ⟨rfl, rfl, by dsimp only; omega, hK'.perm hpm, hM.put u (M u - 1), hR2⟩ (by dsimp only; omega) (fun _ _ h => h)
        · have h1 := of_decide_eq_false h
          rw [if_neg h1] at hK'
          (repeat' (first|refine at_region ?_|refine at_skip ?_|refine ax_then ?_|refine ax_blk ?_|refine atl_nil ?_|refine n_run ttok rfl rfl ?_|(apply s_bin; refine n_bin ?_)|fail))
          exact ax_roundK (j + 1, ⟨T ++ [z], R, _, _, kh, kt'⟩) rfl ⟨by rw [Int.natCast_add]; rfl, trivial⟩ ⟨rfl, rfl, by dsimp only; omega, hK', hM.put u (M u - 1), hR⟩ (by dsimp only; omega) (fun _ _ h => h)
      · have hjl : j = (usersOf (prt f) (upTo g) z).length := by have := of_decide_eq_false h; rw [hUi] at this; omega
        subst hjl
        rw [List.take_length] at hK
        (repeat' (first|refine at_exit ?_|refine ax_then_exit ?_|refine ax_blk ?_|refine ax_blk_exit ?_|refine ax_loop_exit ?_|fail))
        exact ax_roundK ⟨T ++ [z], R, M, mm, kh, kt'⟩ rfl ⟨rfl, trivial⟩ ⟨hK.done hall hTz, hM, hR⟩ (by dsimp only; simp at hTl ⊢; omega) (fun _ _ h => h)
    · have hR0 : R = [] := List.eq_nil_of_length_eq_zero (by have := of_decide_eq_false h; omega)
      subst hR0
      (repeat' (first|refine at_seq ?_|refine at_region ?_|refine at_ret ?_|refine at_exit ?_|refine ax_then ?_|refine ax_then_exit ?_|refine ax_blk_exit ?_|refine ax_loop_exit ?_|refine atl_nil ?_|refine n_run ttok rfl rfl ?_|fail))
      refine ax_turn (turn_val (t := 4) (c' := .imm 1 (ints T)) rfl fun σ v h => VR.im h) ?_
      refine ax_drop (L' := lnM dbs) (((((List.sublist_append_right _ _).trans (List.sublist_append_right _ _)).trans (List.sublist_append_right _ _)).cons _).cons _) ?_
      exact ax_retM (cs := [.imm 1 (ints T)]) dbs [] rfl (List.Perm.refl _) ⟨rfl, trivial⟩ ⟨T, rfl, hK.fin⟩
end Go.Proofs.YtpbinloeemebkaaGreat

namespace Go.Proofs
open Go.Shelf
def Tryz.laysSort_ren : Go.Shelf.Ren := ⟨fun | 189 => 52 | 125 => 73 | 257 => 72 | 128 => 145 | 129 => 146 | 294 => 136 | 295 => 137 | 296 => 138 | 297 => 139 | 298 => 140 | 299 => 141 | 216 => 142 | 300 => 143 | 301 => 144 | 328 => 215 | 329 => 216 | 330 => 217 | 331 => 218 | 332 => 219 | 215 => 220 | 343 => 266 | n => n, fun | 28 => 29 | 3 => 3 | 46 => 163 | 0 => 0 | 51 => 239 | 53 => 241 | 4 => 4 | 183 => 232 | 182 => 231 | 131 => 217 | 5 => 5 | 9 => 9 | 218 => 290 | 222 => 294 | 228 => 323 | 229 => 324 | n => n, fun | n => n⟩
theorem Tryz.laysSort : Go.Proofs.Lays.n189 Tryz.prog Tryz.laysSort_ren := {
  mixed := by kernel_rfl
  f125 := Tryz.func73.trans (congrArg some (by kernel_rfl))
  f128 := Tryz.func145.trans (congrArg some (by kernel_rfl))
  f129 := Tryz.func146.trans (congrArg some (by kernel_rfl))
  f189 := Tryz.func52.trans (congrArg some (by kernel_rfl))
  f215 := Tryz.func220.trans (congrArg some (by kernel_rfl))
  f216 := Tryz.func142.trans (congrArg some (by kernel_rfl))
  f257 := Tryz.func72.trans (congrArg some (by kernel_rfl))
  f294 := Tryz.func136.trans (congrArg some (by kernel_rfl))
  f295 := Tryz.func137.trans (congrArg some (by kernel_rfl))
  f296 := Tryz.func138.trans (congrArg some (by kernel_rfl))
  f297 := Tryz.func139.trans (congrArg some (by kernel_rfl))
  f298 := Tryz.func140.trans (congrArg some (by kernel_rfl))
  f299 := Tryz.func141.trans (congrArg some (by kernel_rfl))
  f300 := Tryz.func143.trans (congrArg some (by kernel_rfl))
  f301 := Tryz.func144.trans (congrArg some (by kernel_rfl))
  f328 := Tryz.func215.trans (congrArg some (by kernel_rfl))
  f329 := Tryz.func216.trans (congrArg some (by kernel_rfl))
  f330 := Tryz.func217.trans (congrArg some (by kernel_rfl))
  f331 := Tryz.func218.trans (congrArg some (by kernel_rfl))
  f332 := Tryz.func219.trans (congrArg some (by kernel_rfl))
  f343 := Tryz.func266.trans (congrArg some (by kernel_rfl))
  t0 := Tryz.underlying0
  a0 := Tryz.isAgg0
  z0 := Tryz.sizeOf0
  v0 := Tryz.zeroValue0
  t3 := Tryz.underlying3
  a3 := Tryz.isAgg3
  z3 := Tryz.sizeOf3
  v3 := Tryz.zeroValue3
  t4 := Tryz.underlying4
  a4 := Tryz.isAgg4
  z4 := Tryz.sizeOf4
  v4 := Tryz.zeroValue4
  t5 := Tryz.underlying5
  a5 := Tryz.isAgg5
  z5 := Tryz.sizeOf5
  v5 := Tryz.zeroValue5
  t9 := Tryz.underlying9
  a9 := Tryz.isAgg9
  z9 := Tryz.sizeOf9
  v9 := Tryz.zeroValue9
  t28 := Tryz.underlying29
  a28 := Tryz.isAgg29
  z28 := Tryz.sizeOf29
  v28 := Tryz.zeroValue29
  t46 := Tryz.underlying163
  a46 := Tryz.isAgg163
  z46 := Tryz.sizeOf163
  v46 := Tryz.zeroValue163
  t51 := Tryz.underlying239
  a51 := Tryz.isAgg239
  z51 := Tryz.sizeOf239
  v51 := Tryz.zeroValue239
  t53 := Tryz.underlying241
  a53 := Tryz.isAgg241
  z53 := Tryz.sizeOf241
  v53 := Tryz.zeroValue241
  t131 := Tryz.underlying217
  a131 := Tryz.isAgg217
  z131 := Tryz.sizeOf217
  v131 := Tryz.zeroValue217
  t182 := Tryz.underlying231
  a182 := Tryz.isAgg231
  z182 := Tryz.sizeOf231
  v182 := Tryz.zeroValue231
  t183 := Tryz.underlying232
  a183 := Tryz.isAgg232
  z183 := Tryz.sizeOf232
  v183 := Tryz.zeroValue232
  t218 := Tryz.underlying290
  a218 := Tryz.isAgg290
  z218 := Tryz.sizeOf290
  v218 := Tryz.zeroValue290
  t222 := Tryz.underlying294
  a222 := Tryz.isAgg294
  z222 := Tryz.sizeOf294
  v222 := Tryz.zeroValue294
  t228 := Tryz.underlying323
  a228 := Tryz.isAgg323
  z228 := Tryz.sizeOf323
  v228 := Tryz.zeroValue323
  t229 := Tryz.underlying324
  a229 := Tryz.isAgg324
  z229 := Tryz.sizeOf324
  v229 := Tryz.zeroValue324 }
end Go.Proofs

namespace Go.Proofs.YtpbinloeemebkaaGreat
open Go.RowKit Go.Shelf Go.Sort
/-- numbers, rising -/
def sorted (l : List Int) : List Int := l.mergeSort fun x y => decide (x ≤ y)
theorem sorted_len (l : List Int) : (sorted l).length = l.length := by simp [sorted]
theorem sort_calls (b n : Nat) (l : List Int) (w : World) (hn : l.length = n) (hl : n ≤ 1000000) (hb : w.heap[b]? = some (.cells (l.map (Value.int .i64)).toArray 3 (0, 0))) :
    Calls Tryz.prog 52 #[.slice (some ⟨b, 0, none⟩) n n] w fun e w' => e = .returned (.tuple #[]) ∧ w.grownBy w' (some b) ∧ w'.heap[b]? = some (.cells ((sorted l).map (Value.int .i64)).toArray 3 (0, 0)) := by
  have hH : Holds (Value.int .i64) w b 0 l.toArray := by
    intro j hj
    have hj' : j < l.length := by simpa using hj
    rw [Nat.zero_add, cell_of hb, frozen_of hb]
    refine ⟨?_, rfl⟩
    simp [hj']
  have hlt : b < w.heap.size := (Array.getElem?_eq_some_iff.1 hb).1
  subst hn
  have h := calls_of_every_depth fun D => AnyS.slices_Sort_int_alone Tryz.laysSort D b 0 l.length l w hH hlt (by omega)
  refine Calls.mono h fun e w' ⟨he, q, os, hw⟩ => ⟨he, ?_⟩
  rw [Lib.sorted_world _ w b 0 q _ _ os hH (by simp), show (l.mergeSort fun x y => decide (x ≤ y)) = sorted l from rfl] at hw
  have hb' : (w.drewN q).heap[b]? = some (.cells (l.map (Value.int .i64)).toArray 3 (0, 0)) := hb
  obtain ⟨hg, cs', hh, hs', hj⟩ := setCells_heap b ((sorted l).map (Value.int .i64)) 0 (w.drewN q) _ 3 (0, 0) hb'
  have hsz : (w.drewN q).heap.size = w.heap.size := rfl
  have hgs := hg.size
  subst hw
  refine ⟨⟨hg.os, hg.tape, hg.output, ?_, fun k hk hkb => ?_⟩, ?_⟩
  · show w.heap.size ≤ (((w.drewN q).setCells b 0 ((sorted l).map (Value.int .i64))).heap ++ os).size
    rw [Array.size_append]
    exact Nat.le_trans hgs (Nat.le_add_right _ _)
  · show (((w.drewN q).setCells b 0 ((sorted l).map (Value.int .i64))).heap ++ os)[k]? = _
    rw [Array.getElem?_append_left (Nat.lt_of_lt_of_le hk hgs)]
    exact hg.block k hk hkb
  · show (((w.drewN q).setCells b 0 ((sorted l).map (Value.int .i64))).heap ++ os)[b]? = _
    rw [Array.getElem?_append_left (Nat.lt_of_lt_of_le hlt hgs)]
    refine hh.trans ?_
    congr 2
    apply Array.ext_getElem?
    intro j
    rw [hj j]
    simp only [List.length_map, sorted_len, List.size_toArray, List.getElem?_toArray]
    by_cases hjl : j < l.length
    · rw [if_pos (by omega)]; rfl
    · rw [if_neg (by omega), List.getElem?_eq_none (by simpa using hjl), List.getElem?_eq_none (by simpa [sorted_len] using hjl)]
theorem sort_ac (b n : Nat) (l : List Int) (hn : l.length = n) (hl : n ≤ 1000000) : AC Tryz.prog 52 [.sc (.slice (some ⟨b, 0, none⟩) n n)] [(b, .box (l.map I64) 3)] fun _ L => L = [(b, .box ((sorted l).map I64) 3)] := by
  intro σ w vs hv hst
  obtain ⟨v, ws, rfl, h1, h2⟩ := hv.inv
  rw [h2.nil_inv, h1.sc_inv]
  obtain ⟨o, ho, us, rfl, hus, hu1⟩ := hst.here _ (List.mem_cons_self ..)
  have hmap : ∀ (l : List Int) (us : List Value), VRs σ (l.map I64) us → us = l.map (Value.int .i64) := by
    intro l
    induction l with
    | nil => intro us h; exact h.nil_inv
    | cons z l ih =>
      intro us h
      obtain ⟨v, ws, rfl, h1, h2⟩ := h.inv
      rw [h1.sc_inv, ih ws h2]
      rfl
  have e := hmap l us hus
  subst e
  refine (sort_calls b n l w hn hl ho).mono fun e w' ⟨he, hg, hh⟩ => ⟨_, σ, .tup [], _, he, .tup [] [] rfl (fun i c u h => by simp at h), ?_, rfl⟩
  refine hst.put (fun _ => trivial) hg hh ⟨_, rfl, ⟨by simp, fun i c u hc hu => ?_⟩, fun u hu => ?_⟩
  · rw [List.getElem?_map] at hc hu
    cases hz : (sorted l)[i]? with
    | none => rw [hz] at hc; cases hc
    | some z => rw [hz] at hc hu; cases hc; cases hu; exact .sc _
  · obtain ⟨z, _, rfl⟩ := List.mem_map.1 hu
    rfl
theorem sorted_perm (l : List Int) : (sorted l).Perm l := List.mergeSort_perm ..
theorem sorted_le (l : List Int) : (sorted l).Pairwise (· ≤ ·) := by
  have := List.pairwise_mergeSort (le := fun x y : Int => decide (x ≤ y)) (fun a b c h1 h2 => by simp at *; omega) (fun a b => by simp; omega) l
  exact this.imp fun h => by simpa using h
/-- numbers of a set, rising, are what the document says -/
theorem sorted_set {n : Nat} {l : List Int} (h : SetOk n l) : sorted l = setN l n := by
  have h1 : (sorted l).Pairwise (· < ·) := by
    have hn : (sorted l).Nodup := (sorted_perm l).nodup_iff.2 h.nodup
    have hp := sorted_le l
    rw [List.nodup_iff_pairwise_ne] at hn
    exact (hp.and hn).imp fun ⟨a, b⟩ => by omega
  have h2 : (setN l n).Pairwise (· < ·) := by
    unfold setN
    refine List.Pairwise.filter _ ?_
    rw [List.pairwise_map]
    exact List.pairwise_lt_range.imp fun h => by simpa using h
  have hmem : ∀ z, z ∈ sorted l ↔ z ∈ setN l n := fun z => by
    rw [(sorted_perm l).mem_iff, setN_mem]
    exact ⟨fun hz => ⟨hz, h.dom z hz⟩, fun hz => hz.1⟩
  have hp : (sorted l).Perm (setN l n) := by
    rw [List.perm_ext_iff_of_nodup]
    · exact hmem
    · exact (sorted_perm l).nodup_iff.2 h.nodup
    · exact setN_nodup l n
  exact List.Perm.eq_of_pairwise (le := fun a b : Int => a < b) (fun a b _ _ h1 h2 => by omega) h1 h2 hp
end Go.Proofs.YtpbinloeemebkaaGreat

namespace Go.Proofs.YtpbinloeemebkaaGreat
open Go.RowKit
attribute [local irreducible] AT ATL AX AO Av Kt ALoopK OkA DA DA1
/-- numbers that are filled in -/
def filled (l : List Int) (i : Nat) : List AV := (l.take i ++ List.replicate (l.length - i) 0).map I64
theorem fillLen (l : List Int) {i : Nat} (h : i ≤ l.length) : (filled l i).length = l.length := by simp [filled]; omega
theorem fillNil (l : List Int) (m : Nat) (hm : m = l.length) : (List.replicate m [I64 0]).flatten = filled l 0 := by
  subst hm
  unfold filled
  rw [List.take_zero, List.nil_append, Nat.sub_zero, List.map_replicate]
  generalize l.length = m
  induction m with
  | zero => rfl
  | succ m ih => rw [List.replicate_succ, List.flatten_cons, ih, List.replicate_succ]; rfl
theorem fillSet {l : List Int} {i : Nat} {z : Int} (h : l[i]? = some z) : (filled l i).set (0 + (i : Int).toNat * 1) (I64 z) = filled l (i + 1) := by
  have hi := (List.getElem?_eq_some_iff.1 h).1
  rw [Nat.zero_add, Nat.mul_one, Int.toNat_natCast]
  unfold filled
  rw [← List.map_set (f := I64)]
  congr 1
  rw [List.set_append_right _ _ (by simp; omega), List.take_add_one, h, List.append_assoc]
  congr 1
  rw [show l.length - i = (l.length - (i + 1)) + 1 by omega, List.replicate_succ, show i - (l.take i).length = 0 by simp; omega]
  rfl
theorem fillAll (l : List Int) : filled l l.length = l.map I64 := by simp [filled]
theorem ints_flat (l : List Int) : (ints l).flatten = l.map I64 := by
  unfold ints
  induction l with
  | nil => rfl
  | cons z l ih => rw [List.map_cons, List.flatten_cons, ih]; rfl
theorem risingLk (p b n : Nat) (k : Option (Nat × Nat)) (l : List Int) (hl : l.length ≤ 1000000) : AC Tryz.prog 30 [Ptr p] (setLk p b n k l) fun c L => c = .imm 1 (ints (sorted l)) ∧ L = setLk p b n k l := by
  refine ac_of Tryz.func30 rfl Tryz.ntmps30 rfl fun B => ?_
  (repeat' (first|refine at_seq ?_|refine at_region ?_|refine ax_then ?_|refine atl_nil ?_|refine n_run ttok rfl rfl ?_|(apply s_load; first|refine n_load ttok 0 rfl rfl rfl rfl rfl ?_|refine n_load ttok 1 rfl rfl rfl rfl rfl ?_|refine n_load ttok 2 rfl rfl rfl rfl rfl ?_|refine n_load ttok 3 rfl rfl rfl rfl rfl ?_|refine n_loadA ttok 0 rfl rfl rfl rfl rfl ?_|refine n_loadA ttok 1 rfl rfl rfl rfl rfl ?_|refine n_loadA ttok 2 rfl rfl rfl rfl rfl ?_|refine n_load ttok 1 rfl rfl rfl (by assumption) rfl ?_|refine n_load ttok 0 rfl rfl rfl (by assumption) rfl ?_|fail)|fail))
  refine n_make ttok l.length rfl rfl rfl rfl rfl (by rw [ints_len]) (by rw [ints_len]) (by omega) (by omega) rfl fun b3 => ?_
  rw [show (List.replicate l.length (List.map AV.sc [Value.int .i64 0])).flatten = filled l 0 from fillNil l _ rfl]
  (repeat' (first|refine at_seq ?_|refine at_region ?_|refine at_block ?_|refine ax_then ?_|refine atl_nil ?_|refine n_run ttok rfl rfl ?_|(apply s_load; first|refine n_load ttok 0 rfl rfl rfl rfl rfl ?_|refine n_load ttok 1 rfl rfl rfl rfl rfl ?_|refine n_load ttok 2 rfl rfl rfl rfl rfl ?_|refine n_load ttok 3 rfl rfl rfl rfl rfl ?_|refine n_loadA ttok 0 rfl rfl rfl rfl rfl ?_|refine n_loadA ttok 1 rfl rfl rfl rfl rfl ?_|refine n_loadA ttok 2 rfl rfl rfl rfl rfl ?_|refine n_load ttok 1 rfl rfl rfl (by assumption) rfl ?_|refine n_load ttok 0 rfl rfl rfl (by assumption) rfl ?_|fail)|fail))
  refine at_loopK [3, 15, 16] (α := Nat) (fun i => [(17, I64 i)]) (fun i => i ≤ l.length) (fun i => (b3, .box (filled l i) 3) :: setLk p b n k l) (fun i => l.length - i) 0 rfl ⟨rfl, trivial⟩ (Nat.zero_le _) (fun _ _ h => h) fun i hi => ?_
  try dsimp only [List.cons_append, List.nil_append, List.map_cons, List.map_nil]
  (repeat' (first|refine at_seq ?_|refine at_region ?_|refine ax_then ?_|refine atl_nil ?_|refine n_run ttok rfl rfl ?_|fail))
  refine at_cond rfl (fun h => ?_) (fun h => ?_)
  · have hil : i < l.length := by have := of_decide_eq_true h; simp [ints_len] at this; omega
    obtain ⟨z, hz⟩ : ∃ z, l[i]? = some z := ⟨_, List.getElem?_eq_getElem hil⟩
    have hzg := ints_get hz
    (repeat' (first|refine at_seq ?_|refine at_region ?_|refine at_block ?_|refine at_skip ?_|refine ax_then ?_|refine atl_nil ?_|refine n_run ttok rfl rfl ?_|(apply s_index; first|refine n_index ttok ?_|refine n_indexP ttok ?_)|fail))
    refine n_store ttok 0 rfl rfl rfl rfl rfl rfl (by rw [Nat.ble_eq, fillLen l hi]; show _ + 1 ≤ l.length; omega) ?_
    rw [putA_one, fillSet hz]
    (repeat' (first|refine at_region ?_|refine ax_then ?_|refine ax_blk ?_|refine atl_nil ?_|refine n_run ttok rfl rfl ?_|(apply s_bin; refine n_bin ?_)|fail))
    exact ax_roundK (i + 1) rfl ⟨by rw [Int.natCast_add]; rfl, trivial⟩ (by omega) (by omega) (fun _ _ h => h)
  · have hil : i = l.length := by have := of_decide_eq_false h; simp [ints_len] at this; omega
    subst hil
    rw [fillAll]
    (repeat' (first|refine at_seq ?_|refine at_region ?_|refine at_exit ?_|refine ax_then ?_|refine ax_then_exit ?_|refine ax_blk_exit ?_|refine ax_loop_exit ?_|refine n_run ttok rfl rfl ?_|fail))
    refine n_callA [(b3, .box (l.map I64) 3)] (setLk p b n k l) (sort_ac b3 l.length l rfl hl) rfl rfl (List.Perm.refl _) rfl fun c L1 hL1 => ?_
    subst hL1
    (repeat' (first|refine at_seq ?_|refine at_region ?_|refine at_ret ?_|refine ax_then ?_|refine atl_nil ?_|refine n_run ttok rfl rfl ?_|fail))
    refine ax_turn (turn_box (t := 2) (sz := 1) (l := ints (sorted l)) 0 rfl rfl (ints_flat _).symm (by simp [ints]) (by rw [ints_len, sorted_len]) (by omega)) ?_
    exact ax_drop (List.sublist_cons_self ..) (ax_ret1I rfl rfl rfl ⟨rfl, rfl⟩)
end Go.Proofs.YtpbinloeemebkaaGreat

namespace Go.Proofs.YtpbinloeemebkaaGreat
open Go.RowKit
attribute [local irreducible] AT ATL AX AO Av Kt ALoopK OkA DA DA1
theorem setUp {n i : Nat} (h : i < n) : (filled (upTo n) i).set (0 + (i : Int).toNat * 1) (I64 i) = filled (upTo n) (i + 1) := fillSet (upTo_get h)
set_option maxHeartbeats 1000000 in
theorem order_ac (f : FFont) (hf : Few f) (hr : Acyc f.Glyphs.length (prt f) ∨ AC Tryz.prog 235 [aFont f] [] fun c _ => ∃ z : Int, c = I64 z) : AC Tryz.prog 162 [aFont f] [] fun c _ => (∃ T, c = .tup [.imm 1 (ints T), I64 0, I64 0] ∧ KDone f.Glyphs.length (prt f) T ∧ T.length = f.Glyphs.length) ∨ (¬ Acyc f.Glyphs.length (prt f) ∧ ∃ z : Int, c = .tup [.imm 1 [], I64 z, I64 33]) := by
  refine ac_of Tryz.func162 rfl Tryz.ntmps162 rfl fun B => ?_
  have hn := hf.n
  have hln := line_ac f hf
  have hml : (f.Glyphs.map cGlyph).length = f.Glyphs.length := List.length_map ..
  generalize hN : f.Glyphs.length = n at *
  (repeat' (first|refine at_seq ?_|refine at_region ?_|refine ax_then ?_|refine atl_nil ?_|refine n_run ttok rfl rfl ?_|refine n_boxI ?_|fail))
  rw [hml]
  refine n_make ttok n rfl rfl rfl rfl rfl rfl rfl (by omega) (by omega) rfl fun b => ?_
  rw [show (List.replicate n (List.map AV.sc [Value.int .i64 0])).flatten = filled (upTo n) 0 from fillNil (upTo n) n (upTo_len n).symm]
  have hul := upTo_len n
  (repeat' (first|refine at_seq ?_|refine at_region ?_|refine at_block ?_|refine ax_then ?_|refine atl_nil ?_|refine n_run ttok rfl rfl ?_|fail))
  refine at_loopK [1, 5, 13] (α := Nat) (fun i => [(14, I64 i)]) (fun i => i ≤ n) (fun i => [(b, .box (filled (upTo n) i) 3)]) (fun i => n - i) 0 rfl ⟨rfl, trivial⟩ (Nat.zero_le _) (fun _ _ h => h) fun i hi => ?_
  try dsimp only [List.cons_append, List.nil_append, List.map_cons, List.map_nil]
  (repeat' (first|refine at_seq ?_|refine at_region ?_|refine ax_then ?_|refine atl_nil ?_|refine n_run ttok rfl rfl ?_|fail))
  refine at_cond rfl (fun h => ?_) (fun h => ?_)
  · have hil : i < n := by have := of_decide_eq_true h; omega
    (repeat' (first|refine at_seq ?_|refine at_region ?_|refine at_block ?_|refine at_skip ?_|refine ax_then ?_|refine atl_nil ?_|refine n_run ttok rfl rfl ?_|(apply s_index; first|refine n_index ttok ?_|refine n_indexP ttok ?_)|fail))
    refine n_store ttok 0 rfl rfl rfl rfl rfl rfl (by rw [Nat.ble_eq, fillLen (upTo n) (by omega), hul]; show _ + 1 ≤ n; omega) ?_
    rw [putA_one, setUp hil]
    (repeat' (first|refine at_region ?_|refine ax_then ?_|refine ax_blk ?_|refine atl_nil ?_|refine n_run ttok rfl rfl ?_|(apply s_bin; refine n_bin ?_)|fail))
    exact ax_roundK (i + 1) rfl ⟨by rw [Int.natCast_add]; rfl, trivial⟩ (by omega) (by omega) (fun _ _ h => h)
  · have hil : i = n := by have := of_decide_eq_false h; omega
    subst hil
    clear h
    rw [show filled (upTo i) i = (upTo i).map I64 by have := fillAll (upTo i); rw [hul] at this; exact this]
    refine at_turn (turn_box (t := 5) (sz := 1) (l := ints (upTo i)) 0 rfl rfl (ints_flat _).symm (by simp [ints]) (by rw [ints_len, hul]) (by omega)) ?_
    (repeat' (first|refine at_seq ?_|refine at_region ?_|refine at_exit ?_|refine ax_then ?_|refine ax_then_exit ?_|refine ax_blk_exit ?_|refine ax_loop_exit ?_|refine n_run ttok rfl rfl ?_|fail))
    refine n_callA [] _ hln rfl rfl (List.Perm.refl _) rfl fun c L1 ⟨T, hc, hT⟩ => ?_
    subst hc
    have hTl := ints_len T
    have hIl := ints_len (upTo i)
    have hTn := hT.len
    rw [hul] at hIl
    refine atl_turn (turn_sub (List.nil_sublist _)) ?_
    (repeat' (first|refine at_seq ?_|refine at_region ?_|refine ax_then ?_|refine atl_nil ?_|refine n_run ttok rfl rfl ?_|fail))
    refine at_cond rfl (fun h => ?_) (fun h => ?_)
    · have hlt := of_decide_eq_true h
      rw [hTl, hIl] at hlt
      have hna : ¬ Acyc i (prt f) := fun ha => by
        have := hT.len_all (hT.all ha fun g p hp => by have := prt_in hp; rw [hN] at this; exact this)
        omega
      rcases hr with hr | hr
      · exact absurd hr hna
      (repeat' (first|refine at_seq ?_|refine at_region ?_|refine n_run ttok rfl rfl ?_|fail))
      refine n_callA [] [] hr rfl rfl (List.Perm.refl _) rfl fun c L1 ⟨z, hc⟩ => ?_
      subst hc
      (repeat' (first|refine at_ret ?_|refine ax_then ?_|refine ax_then_ret ?_|refine atl_nil ?_|refine n_run ttok rfl rfl ?_|fail))
      refine ax_turn (turn_val (t := 2) (c' := .imm 1 []) rfl fun σ v h => vr_nilI 1 h) ?_
      exact ax_retR (cs := [.imm 1 [], I64 z, I64 33]) ⟨rfl, rfl, rfl, trivial⟩ (.inr ⟨hna, z, rfl⟩)
    · have hlt := of_decide_eq_false h
      rw [hTl, hIl] at hlt
      (repeat' (first|refine at_seq ?_|refine at_region ?_|refine at_skip ?_|refine at_ret ?_|refine ax_then ?_|refine atl_nil ?_|refine n_run ttok rfl rfl ?_|fail))
      exact ax_retR (cs := [.imm 1 (ints T), I64 0, I64 0]) ⟨rfl, rfl, rfl, trivial⟩ (.inl ⟨T, rfl, hT, by omega⟩)
end Go.Proofs.YtpbinloeemebkaaGreat
