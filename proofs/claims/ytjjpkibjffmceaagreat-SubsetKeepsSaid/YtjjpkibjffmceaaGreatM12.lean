/-
  The program: what is made of each thing of a row, and rows that are copied, for each type.
-/
import Derived.Test.YtjjpkibjffmceaaGreatM11
import Derived.Test.YtjjpkibjffmceaaGreatM08
namespace Go.Proofs.YtjjpkibjffmceaaGreat
open Go.RowKit
attribute [local irreducible] AT bT AX AO Av Kt bk ej DA cX
theorem fv {α β : Type} {w : α → Option β} {l : List α} {i : Nat} {x : α} (h : l[i]? = some x) : (l.take (i + 1)).filterMap w = (l.take i).filterMap w ++ (w x).toList := by
 rw [List.take_add_one, h, Option.toList_some, List.filterMap_append]
 rfl
theorem hY {α β : Type} (w : α → Option β) (l : List α) (i : Nat) : ((l.take i).filterMap w).length ≤ i := Nat.le_trans (List.length_filterMap_le ..) (by rw [List.length_take]; omega)
theorem CA {u : AV} (hu : jR u = true) (l : List Int) (hl : l.length ≤ 1000000) (w : Int → Option bf) (L0 : AL) (hw : ∀ x ∈ l, iX Tryz.prog u [aM x] L0 fun c L => (∃ y b, c = .tup [.agg (bb y), cF b] ∧ w x = if b = true then some y else none) ∧ L = L0) :
  AC Tryz.prog 25 [.imm 1 (l.map fT), u] L0 fun r L => r = .imm 9 ((l.filterMap w).map bb) ∧ L = L0 := by
 refine aP Tryz.func25 rfl Tryz.ntmps25 rfl fun B => ?_
 have hml : (l.map fT).length = l.length := Gu ..
 repeat' (first|refine ah ?_|refine a7 ?_|refine aq ?_|refine a8 ?_|refine aa ?_|refine ae a6 rfl rfl ?_)
 refine bK (bg (t := 5) (c' := .vec none 9 []) rfl fun σ v h => co 9 h) ?_
 refine aN [1, 10, 11] (α := Nat × Option (Nat × Nat)) (fun x => [(12, aM x.1), (5, .vec x.2 9 (((l.take x.1).filterMap w).map bb))]) (fun x => x.1 ≤ l.length) (fun x => tok x.2 63 9 (((l.take x.1).filterMap w).map bb).length ++ L0) (fun x => l.length - x.1) (0, none) rfl ⟨rfl, rfl, trivial⟩ (Nat.zero_le _) (fun _ _ h => h) ?_
 rintro ⟨i, k⟩ hi
 dsimp only at hi ⊢
 have hfl := hY w l i
 have hmm : (((l.take i).filterMap w).map bb).length = ((l.take i).filterMap w).length := Gu ..
 try dsimp only [Gr, Gq, Gp, Gj]
 repeat' (first|refine ah ?_|refine a7 ?_|refine a8 ?_|refine aa ?_|refine ae a6 rfl rfl ?_)
 refine aw rfl (fun h => ?_) (fun h => ?_)
 ·have hil : i < l.length := by have := Gz h; omega
  obtain ⟨x, hx⟩ : ∃ z, l[i]? = some z := ⟨_, Ds hil⟩
  have hxg := bj (c := fT) hx
  have hstep := fv (w := w) hx
  clear h
  repeat' (first|refine ah ?_|refine a7 ?_|refine aq ?_|refine au ?_|refine a8 ?_|refine aa ?_|refine ae a6 rfl rfl ?_|(apply aY; first|refine aX a6 ?_|refine aS a6 ?_)|fail)
  refine fO L0 (tok k 63 9 (((l.take i).filterMap w).map bb).length) (hw x (Gx hx)) rfl rfl List.perm_append_comm rfl rfl fun c L1 ⟨⟨y, b, hc, hb⟩, hL⟩ => ?_
  subst hc; subst hL
  refine aO (aK List.perm_append_comm) ?_
  cases b with
  | true =>
   rw [if_pos rfl] at hb
   rw [hb, Option.toList_some] at hstep
   repeat' (first|refine ah ?_|refine a7 ?_|refine a8 ?_|refine aa ?_|refine ae a6 rfl rfl ?_|(apply aH; first|refine ai 8 a6 0 rfl rfl rfl rfl rfl rfl rfl rfl ?_|refine ai 8 a6 1 rfl rfl rfl rfl rfl rfl rfl rfl ?_|refine ai 8 a6 2 rfl rfl rfl rfl rfl rfl rfl rfl ?_|refine aj a6 0 rfl rfl rfl rfl rfl rfl rfl ?_|refine aj a6 1 rfl rfl rfl rfl rfl rfl rfl ?_|refine aj a6 2 rfl rfl rfl rfl rfl rfl rfl ?_|refine aj a6 3 rfl rfl rfl rfl rfl rfl rfl ?_|fail)|refine b5 a6 fun _=>?_|refine bz a6 ?_|refine bQ rfl ?_)
   refine bF a6 L1 rfl rfl rfl rfl (Gm _) (by rw [hmm]; simp; omega) (by rw [hmm]; simp; omega) rfl fun k' => ?_
   repeat' (first|refine a7 ?_|refine a8 ?_|refine aI ?_|refine aa ?_|refine ae a6 rfl rfl ?_|(apply aW; refine aV ?_)|fail)
   have hap : ((l.take i).filterMap w).map bb ++ [bb y] = ((l.take (i + 1)).filterMap w).map bb := by rw [hstep, List.map_append]; rfl
   exact aC (i + 1, k') rfl ⟨by rw [Gw]; rfl, by rw [← hap]; rfl, trivial⟩ (by dsimp only; omega) (by dsimp only; omega) (fun _ _ h => by dsimp only; rw [← hap]; exact h)
  | false =>
   rw [if_neg (by decide)] at hb
   rw [hb] at hstep
   have hstep : (l.take (i + 1)).filterMap w = (l.take i).filterMap w := by rw [hstep]; simp
   repeat' (first|refine ah ?_|refine a7 ?_|refine au ?_|refine a8 ?_|refine aI ?_|refine aa ?_|refine ae a6 rfl rfl ?_|(apply aW; refine aV ?_)|(apply aH; first|refine ai 8 a6 0 rfl rfl rfl rfl rfl rfl rfl rfl ?_|refine ai 8 a6 1 rfl rfl rfl rfl rfl rfl rfl rfl ?_|refine ai 8 a6 2 rfl rfl rfl rfl rfl rfl rfl rfl ?_|refine aj a6 0 rfl rfl rfl rfl rfl rfl rfl ?_|refine aj a6 1 rfl rfl rfl rfl rfl rfl rfl ?_|refine aj a6 2 rfl rfl rfl rfl rfl rfl rfl ?_|refine aj a6 3 rfl rfl rfl rfl rfl rfl rfl ?_|fail)|refine b5 a6 fun _=>?_|refine bv rfl ?_)
   exact aC (i + 1, k) rfl ⟨by rw [Gw]; rfl, by rw [hstep]; rfl, trivial⟩ (by dsimp only; omega) (by dsimp only; omega) (fun _ _ h => by dsimp only; rw [hstep]; exact h)
 have hil : i = l.length := by have := Gy h; omega
 subst hil
 rw [List.take_length]
 repeat' (first|refine ah ?_|refine a7 ?_|refine ar ?_|refine aR ?_|refine a8 ?_|refine av ?_|refine aB ?_|refine ay ?_|refine aa ?_|refine ae a6 rfl rfl ?_)
 refine ba (bg (t := 4) (c' := .imm 9 ((l.filterMap w).map bb)) rfl fun σ v h => VR.im h) ?_
 refine cO (List.sublist_append_right ..) ?_
 exact aA rfl rfl ⟨rfl, rfl⟩
theorem CB {u : AV} (hu : jR u = true) (l : List Int) (hl : l.length ≤ 1000000) (w : Int → Option b9) (L0 : AL) (hw : ∀ x ∈ l, iX Tryz.prog u [aM x] L0 fun c L => (∃ y b, c = .tup [.agg (bn y), cF b] ∧ w x = if b = true then some y else none) ∧ L = L0) :
  AC Tryz.prog 29 [.imm 1 (l.map fT), u] L0 fun r L => r = .imm 3 ((l.filterMap w).map bn) ∧ L = L0 := by
 refine aP Tryz.func29 rfl Tryz.ntmps29 rfl fun B => ?_
 have hml : (l.map fT).length = l.length := Gu ..
 repeat' (first|refine ah ?_|refine a7 ?_|refine aq ?_|refine a8 ?_|refine aa ?_|refine ae a6 rfl rfl ?_)
 refine bK (bg (t := 5) (c' := .vec none 3 []) rfl fun σ v h => co 3 h) ?_
 refine aN [1, 10, 11] (α := Nat × Option (Nat × Nat)) (fun x => [(12, aM x.1), (5, .vec x.2 3 (((l.take x.1).filterMap w).map bn))]) (fun x => x.1 ≤ l.length) (fun x => tok x.2 77 3 (((l.take x.1).filterMap w).map bn).length ++ L0) (fun x => l.length - x.1) (0, none) rfl ⟨rfl, rfl, trivial⟩ (Nat.zero_le _) (fun _ _ h => h) ?_
 rintro ⟨i, k⟩ hi
 dsimp only at hi ⊢
 have hfl := hY w l i
 have hmm : (((l.take i).filterMap w).map bn).length = ((l.take i).filterMap w).length := Gu ..
 try dsimp only [Gr, Gq, Gp, Gj]
 repeat' (first|refine ah ?_|refine a7 ?_|refine a8 ?_|refine aa ?_|refine ae a6 rfl rfl ?_)
 refine aw rfl (fun h => ?_) (fun h => ?_)
 ·have hil : i < l.length := by have := Gz h; omega
  obtain ⟨x, hx⟩ : ∃ z, l[i]? = some z := ⟨_, Ds hil⟩
  have hxg := bj (c := fT) hx
  have hstep := fv (w := w) hx
  clear h
  repeat' (first|refine ah ?_|refine a7 ?_|refine aq ?_|refine au ?_|refine a8 ?_|refine aa ?_|refine ae a6 rfl rfl ?_|(apply aY; first|refine aX a6 ?_|refine aS a6 ?_)|fail)
  refine fO L0 (tok k 77 3 (((l.take i).filterMap w).map bn).length) (hw x (Gx hx)) rfl rfl List.perm_append_comm rfl rfl fun c L1 ⟨⟨y, b, hc, hb⟩, hL⟩ => ?_
  subst hc; subst hL
  refine aO (aK List.perm_append_comm) ?_
  cases b with
  | true =>
   rw [if_pos rfl] at hb
   rw [hb, Option.toList_some] at hstep
   repeat' (first|refine ah ?_|refine a7 ?_|refine a8 ?_|refine aa ?_|refine ae a6 rfl rfl ?_|(apply aH; first|refine ai 8 a6 0 rfl rfl rfl rfl rfl rfl rfl rfl ?_|refine ai 8 a6 1 rfl rfl rfl rfl rfl rfl rfl rfl ?_|refine ai 8 a6 2 rfl rfl rfl rfl rfl rfl rfl rfl ?_|refine aj a6 0 rfl rfl rfl rfl rfl rfl rfl ?_|refine aj a6 1 rfl rfl rfl rfl rfl rfl rfl ?_|refine aj a6 2 rfl rfl rfl rfl rfl rfl rfl ?_|refine aj a6 3 rfl rfl rfl rfl rfl rfl rfl ?_|fail)|refine b5 a6 fun _=>?_|refine bz a6 ?_|refine bQ rfl ?_)
   refine bF a6 L1 rfl rfl rfl rfl (Gm _) (by rw [hmm]; simp; omega) (by rw [hmm]; simp; omega) rfl fun k' => ?_
   repeat' (first|refine a7 ?_|refine a8 ?_|refine aI ?_|refine aa ?_|refine ae a6 rfl rfl ?_|(apply aW; refine aV ?_)|fail)
   have hap : ((l.take i).filterMap w).map bn ++ [bn y] = ((l.take (i + 1)).filterMap w).map bn := by rw [hstep, List.map_append]; rfl
   exact aC (i + 1, k') rfl ⟨by rw [Gw]; rfl, by rw [← hap]; rfl, trivial⟩ (by dsimp only; omega) (by dsimp only; omega) (fun _ _ h => by dsimp only; rw [← hap]; exact h)
  | false =>
   rw [if_neg (by decide)] at hb
   rw [hb] at hstep
   have hstep : (l.take (i + 1)).filterMap w = (l.take i).filterMap w := by rw [hstep]; simp
   repeat' (first|refine ah ?_|refine a7 ?_|refine au ?_|refine a8 ?_|refine aI ?_|refine aa ?_|refine ae a6 rfl rfl ?_|(apply aW; refine aV ?_)|(apply aH; first|refine ai 8 a6 0 rfl rfl rfl rfl rfl rfl rfl rfl ?_|refine ai 8 a6 1 rfl rfl rfl rfl rfl rfl rfl rfl ?_|refine ai 8 a6 2 rfl rfl rfl rfl rfl rfl rfl rfl ?_|refine aj a6 0 rfl rfl rfl rfl rfl rfl rfl ?_|refine aj a6 1 rfl rfl rfl rfl rfl rfl rfl ?_|refine aj a6 2 rfl rfl rfl rfl rfl rfl rfl ?_|refine aj a6 3 rfl rfl rfl rfl rfl rfl rfl ?_|fail)|refine b5 a6 fun _=>?_|refine bv rfl ?_)
   exact aC (i + 1, k) rfl ⟨by rw [Gw]; rfl, by rw [hstep]; rfl, trivial⟩ (by dsimp only; omega) (by dsimp only; omega) (fun _ _ h => by dsimp only; rw [hstep]; exact h)
 have hil : i = l.length := by have := Gy h; omega
 subst hil
 rw [List.take_length]
 repeat' (first|refine ah ?_|refine a7 ?_|refine ar ?_|refine aR ?_|refine a8 ?_|refine av ?_|refine aB ?_|refine ay ?_|refine aa ?_|refine ae a6 rfl rfl ?_)
 refine ba (bg (t := 4) (c' := .imm 3 ((l.filterMap w).map bn)) rfl fun σ v h => VR.im h) ?_
 refine cO (List.sublist_append_right ..) ?_
 exact aA rfl rfl ⟨rfl, rfl⟩
theorem CC {u : AV} (hu : jR u = true) (l : List (List dS)) (hl : l.length ≤ 1000000) (w : (List dS) → Option (List dS)) (L0 : AL) (hw : ∀ x ∈ l, iX Tryz.prog u [.agg (bo x)] L0 fun c L => (∃ y b, c = .tup [.agg (bo y), cF b] ∧ w x = if b = true then some y else none) ∧ L = L0) :
  AC Tryz.prog 33 [.imm 1 (l.map bo), u] L0 fun r L => r = .imm 1 ((l.filterMap w).map bo) ∧ L = L0 := by
 refine aP Tryz.func33 rfl Tryz.ntmps33 rfl fun B => ?_
 have hml : (l.map bo).length = l.length := Gu ..
 repeat' (first|refine ah ?_|refine a7 ?_|refine aq ?_|refine a8 ?_|refine aa ?_|refine ae a6 rfl rfl ?_)
 refine bK (bg (t := 5) (c' := .vec none 1 []) rfl fun σ v h => co 1 h) ?_
 refine aN [1, 10, 11] (α := Nat × Option (Nat × Nat)) (fun x => [(12, aM x.1), (5, .vec x.2 1 (((l.take x.1).filterMap w).map bo))]) (fun x => x.1 ≤ l.length) (fun x => tok x.2 98 1 (((l.take x.1).filterMap w).map bo).length ++ L0) (fun x => l.length - x.1) (0, none) rfl ⟨rfl, rfl, trivial⟩ (Nat.zero_le _) (fun _ _ h => h) ?_
 rintro ⟨i, k⟩ hi
 dsimp only at hi ⊢
 have hfl := hY w l i
 have hmm : (((l.take i).filterMap w).map bo).length = ((l.take i).filterMap w).length := Gu ..
 try dsimp only [Gr, Gq, Gp, Gj]
 repeat' (first|refine ah ?_|refine a7 ?_|refine a8 ?_|refine aa ?_|refine ae a6 rfl rfl ?_)
 refine aw rfl (fun h => ?_) (fun h => ?_)
 ·have hil : i < l.length := by have := Gz h; omega
  obtain ⟨x, hx⟩ : ∃ z, l[i]? = some z := ⟨_, Ds hil⟩
  have hxg := bj (c := bo) hx
  have hstep := fv (w := w) hx
  clear h
  repeat' (first|refine ah ?_|refine a7 ?_|refine aq ?_|refine au ?_|refine a8 ?_|refine aa ?_|refine ae a6 rfl rfl ?_|(apply aY; first|refine aX a6 ?_|refine aS a6 ?_)|(apply aH; first|refine ai 7 a6 0 rfl rfl rfl rfl rfl rfl rfl rfl ?_|refine ai 7 a6 1 rfl rfl rfl rfl rfl rfl rfl rfl ?_|refine ai 7 a6 2 rfl rfl rfl rfl rfl rfl rfl rfl ?_|refine ai 8 a6 0 rfl rfl rfl rfl rfl rfl rfl rfl ?_|refine ai 8 a6 1 rfl rfl rfl rfl rfl rfl rfl rfl ?_|refine ai 8 a6 2 rfl rfl rfl rfl rfl rfl rfl rfl ?_|refine aj a6 0 rfl rfl rfl rfl rfl rfl rfl ?_|refine aj a6 1 rfl rfl rfl rfl rfl rfl rfl ?_|refine aj a6 2 rfl rfl rfl rfl rfl rfl rfl ?_|refine aj a6 3 rfl rfl rfl rfl rfl rfl rfl ?_|fail)|refine b5 a6 fun _=>?_|fail)
  refine fO L0 (tok k 98 1 (((l.take i).filterMap w).map bo).length) (hw x (Gx hx)) rfl rfl List.perm_append_comm rfl rfl fun c L1 ⟨⟨y, b, hc, hb⟩, hL⟩ => ?_
  subst hc; subst hL
  refine aO (aK List.perm_append_comm) ?_
  cases b with
  | true =>
   rw [if_pos rfl] at hb
   rw [hb, Option.toList_some] at hstep
   repeat' (first|refine ah ?_|refine a7 ?_|refine a8 ?_|refine aa ?_|refine ae a6 rfl rfl ?_|(apply aH; first|refine ai 7 a6 0 rfl rfl rfl rfl rfl rfl rfl rfl ?_|refine ai 7 a6 1 rfl rfl rfl rfl rfl rfl rfl rfl ?_|refine ai 7 a6 2 rfl rfl rfl rfl rfl rfl rfl rfl ?_|refine ai 8 a6 0 rfl rfl rfl rfl rfl rfl rfl rfl ?_|refine ai 8 a6 1 rfl rfl rfl rfl rfl rfl rfl rfl ?_|refine ai 8 a6 2 rfl rfl rfl rfl rfl rfl rfl rfl ?_|refine aj a6 0 rfl rfl rfl rfl rfl rfl rfl ?_|refine aj a6 1 rfl rfl rfl rfl rfl rfl rfl ?_|refine aj a6 2 rfl rfl rfl rfl rfl rfl rfl ?_|refine aj a6 3 rfl rfl rfl rfl rfl rfl rfl ?_|fail)|refine b5 a6 fun _=>?_|refine bz a6 ?_|refine bQ rfl ?_)
   refine bF a6 L1 rfl rfl rfl rfl (Gm _) (by rw [hmm]; simp; omega) (by rw [hmm]; simp; omega) rfl fun k' => ?_
   repeat' (first|refine a7 ?_|refine a8 ?_|refine aI ?_|refine aa ?_|refine ae a6 rfl rfl ?_|(apply aW; refine aV ?_)|fail)
   have hap : ((l.take i).filterMap w).map bo ++ [bo y] = ((l.take (i + 1)).filterMap w).map bo := by rw [hstep, List.map_append]; rfl
   exact aC (i + 1, k') rfl ⟨by rw [Gw]; rfl, by rw [← hap]; rfl, trivial⟩ (by dsimp only; omega) (by dsimp only; omega) (fun _ _ h => by dsimp only; rw [← hap]; exact h)
  | false =>
   rw [if_neg (by decide)] at hb
   rw [hb] at hstep
   have hstep : (l.take (i + 1)).filterMap w = (l.take i).filterMap w := by rw [hstep]; simp
   repeat' (first|refine ah ?_|refine a7 ?_|refine au ?_|refine a8 ?_|refine aI ?_|refine aa ?_|refine ae a6 rfl rfl ?_|(apply aW; refine aV ?_)|(apply aH; first|refine ai 7 a6 0 rfl rfl rfl rfl rfl rfl rfl rfl ?_|refine ai 7 a6 1 rfl rfl rfl rfl rfl rfl rfl rfl ?_|refine ai 7 a6 2 rfl rfl rfl rfl rfl rfl rfl rfl ?_|refine ai 8 a6 0 rfl rfl rfl rfl rfl rfl rfl rfl ?_|refine ai 8 a6 1 rfl rfl rfl rfl rfl rfl rfl rfl ?_|refine ai 8 a6 2 rfl rfl rfl rfl rfl rfl rfl rfl ?_|refine aj a6 0 rfl rfl rfl rfl rfl rfl rfl ?_|refine aj a6 1 rfl rfl rfl rfl rfl rfl rfl ?_|refine aj a6 2 rfl rfl rfl rfl rfl rfl rfl ?_|refine aj a6 3 rfl rfl rfl rfl rfl rfl rfl ?_|fail)|refine b5 a6 fun _=>?_|refine bv rfl ?_)
   exact aC (i + 1, k) rfl ⟨by rw [Gw]; rfl, by rw [hstep]; rfl, trivial⟩ (by dsimp only; omega) (by dsimp only; omega) (fun _ _ h => by dsimp only; rw [hstep]; exact h)
 have hil : i = l.length := by have := Gy h; omega
 subst hil
 rw [List.take_length]
 repeat' (first|refine ah ?_|refine a7 ?_|refine ar ?_|refine aR ?_|refine a8 ?_|refine av ?_|refine aB ?_|refine ay ?_|refine aa ?_|refine ae a6 rfl rfl ?_)
 refine ba (bg (t := 4) (c' := .imm 1 ((l.filterMap w).map bo)) rfl fun σ v h => VR.im h) ?_
 refine cO (List.sublist_append_right ..) ?_
 exact aA rfl rfl ⟨rfl, rfl⟩
theorem CD {u : AV} (hu : jR u = true) (l : List (List eb)) (hl : l.length ≤ 1000000) (w : (List eb) → Option (List eb)) (L0 : AL) (hw : ∀ x ∈ l, iX Tryz.prog u [.imm 2 (x.map dH)] L0 fun c L => (∃ y b, c = .tup [.imm 2 (y.map dH), cF b] ∧ w x = if b = true then some y else none) ∧ L = L0) :
  AC Tryz.prog 36 [.imm 1 (l.map cQ), u] L0 fun r L => r = .imm 1 ((l.filterMap w).map cQ) ∧ L = L0 := by
 refine aP Tryz.func36 rfl Tryz.ntmps36 rfl fun B => ?_
 have hml : (l.map cQ).length = l.length := Gu ..
 repeat' (first|refine ah ?_|refine a7 ?_|refine aq ?_|refine a8 ?_|refine aa ?_|refine ae a6 rfl rfl ?_)
 refine bK (bg (t := 5) (c' := .vec none 1 []) rfl fun σ v h => co 1 h) ?_
 refine aN [1, 10, 11] (α := Nat × Option (Nat × Nat)) (fun x => [(12, aM x.1), (5, .vec x.2 1 (((l.take x.1).filterMap w).map cQ))]) (fun x => x.1 ≤ l.length) (fun x => tok x.2 61 1 (((l.take x.1).filterMap w).map cQ).length ++ L0) (fun x => l.length - x.1) (0, none) rfl ⟨rfl, rfl, trivial⟩ (Nat.zero_le _) (fun _ _ h => h) ?_
 rintro ⟨i, k⟩ hi
 dsimp only at hi ⊢
 have hfl := hY w l i
 have hmm : (((l.take i).filterMap w).map cQ).length = ((l.take i).filterMap w).length := Gu ..
 try dsimp only [Gr, Gq, Gp, Gj]
 repeat' (first|refine ah ?_|refine a7 ?_|refine a8 ?_|refine aa ?_|refine ae a6 rfl rfl ?_)
 refine aw rfl (fun h => ?_) (fun h => ?_)
 ·have hil : i < l.length := by have := Gz h; omega
  obtain ⟨x, hx⟩ : ∃ z, l[i]? = some z := ⟨_, Ds hil⟩
  have hxg := bj (c := cQ) hx
  have hstep := fv (w := w) hx
  clear h
  repeat' (first|refine ah ?_|refine a7 ?_|refine aq ?_|refine au ?_|refine a8 ?_|refine aa ?_|refine ae a6 rfl rfl ?_|(apply aY; first|refine aX a6 ?_|refine aS a6 ?_)|fail)
  refine fO L0 (tok k 61 1 (((l.take i).filterMap w).map cQ).length) (hw x (Gx hx)) rfl rfl List.perm_append_comm rfl rfl fun c L1 ⟨⟨y, b, hc, hb⟩, hL⟩ => ?_
  subst hc; subst hL
  refine aO (aK List.perm_append_comm) ?_
  cases b with
  | true =>
   rw [if_pos rfl] at hb
   rw [hb, Option.toList_some] at hstep
   repeat' (first|refine ah ?_|refine a7 ?_|refine a8 ?_|refine aa ?_|refine ae a6 rfl rfl ?_|refine bz a6 ?_|refine bQ rfl ?_)
   refine bF a6 L1 rfl rfl rfl rfl (Gm _) (by rw [hmm]; simp; omega) (by rw [hmm]; simp; omega) rfl fun k' => ?_
   repeat' (first|refine a7 ?_|refine a8 ?_|refine aI ?_|refine aa ?_|refine ae a6 rfl rfl ?_|(apply aW; refine aV ?_)|fail)
   have hap : ((l.take i).filterMap w).map cQ ++ [cQ y] = ((l.take (i + 1)).filterMap w).map cQ := by rw [hstep, List.map_append]; rfl
   exact aC (i + 1, k') rfl ⟨by rw [Gw]; rfl, by rw [← hap]; rfl, trivial⟩ (by dsimp only; omega) (by dsimp only; omega) (fun _ _ h => by dsimp only; rw [← hap]; exact h)
  | false =>
   rw [if_neg (by decide)] at hb
   rw [hb] at hstep
   have hstep : (l.take (i + 1)).filterMap w = (l.take i).filterMap w := by rw [hstep]; simp
   repeat' (first|refine ah ?_|refine a7 ?_|refine au ?_|refine a8 ?_|refine aI ?_|refine aa ?_|refine ae a6 rfl rfl ?_|(apply aW; refine aV ?_)|refine bv rfl ?_)
   exact aC (i + 1, k) rfl ⟨by rw [Gw]; rfl, by rw [hstep]; rfl, trivial⟩ (by dsimp only; omega) (by dsimp only; omega) (fun _ _ h => by dsimp only; rw [hstep]; exact h)
 have hil : i = l.length := by have := Gy h; omega
 subst hil
 rw [List.take_length]
 repeat' (first|refine ah ?_|refine a7 ?_|refine ar ?_|refine aR ?_|refine a8 ?_|refine av ?_|refine aB ?_|refine ay ?_|refine aa ?_|refine ae a6 rfl rfl ?_)
 refine ba (bg (t := 4) (c' := .imm 1 ((l.filterMap w).map cQ)) rfl fun σ v h => VR.im h) ?_
 refine cO (List.sublist_append_right ..) ?_
 exact aA rfl rfl ⟨rfl, rfl⟩
theorem CE {u : AV} (hu : jR u = true) (l : List cB) (hl : l.length ≤ 1000000) (w : cB → Option cB) (L0 : AL) (hw : ∀ x ∈ l, iX Tryz.prog u [.agg (cn x)] L0 fun c L => (∃ y b, c = .tup [.agg (cn y), cF b] ∧ w x = if b = true then some y else none) ∧ L = L0) :
  AC Tryz.prog 68 [.imm 3 (l.map cn), u] L0 fun r L => r = .imm 3 ((l.filterMap w).map cn) ∧ L = L0 := by
 refine aP Tryz.func68 rfl Tryz.ntmps68 rfl fun B => ?_
 have hml : (l.map cn).length = l.length := Gu ..
 repeat' (first|refine ah ?_|refine a7 ?_|refine aq ?_|refine a8 ?_|refine aa ?_|refine ae a6 rfl rfl ?_)
 refine bK (bg (t := 5) (c' := .vec none 3 []) rfl fun σ v h => co 3 h) ?_
 refine aN [1, 10, 11] (α := Nat × Option (Nat × Nat)) (fun x => [(12, aM x.1), (5, .vec x.2 3 (((l.take x.1).filterMap w).map cn))]) (fun x => x.1 ≤ l.length) (fun x => tok x.2 65 3 (((l.take x.1).filterMap w).map cn).length ++ L0) (fun x => l.length - x.1) (0, none) rfl ⟨rfl, rfl, trivial⟩ (Nat.zero_le _) (fun _ _ h => h) ?_
 rintro ⟨i, k⟩ hi
 dsimp only at hi ⊢
 have hfl := hY w l i
 have hmm : (((l.take i).filterMap w).map cn).length = ((l.take i).filterMap w).length := Gu ..
 try dsimp only [Gr, Gq, Gp, Gj]
 repeat' (first|refine ah ?_|refine a7 ?_|refine a8 ?_|refine aa ?_|refine ae a6 rfl rfl ?_)
 refine aw rfl (fun h => ?_) (fun h => ?_)
 ·have hil : i < l.length := by have := Gz h; omega
  obtain ⟨x, hx⟩ : ∃ z, l[i]? = some z := ⟨_, Ds hil⟩
  have hxg := bj (c := cn) hx
  have hstep := fv (w := w) hx
  clear h
  repeat' (first|refine ah ?_|refine a7 ?_|refine aq ?_|refine au ?_|refine a8 ?_|refine aa ?_|refine ae a6 rfl rfl ?_|(apply aY; first|refine aX a6 ?_|refine aS a6 ?_)|(apply aH; first|refine ai 7 a6 0 rfl rfl rfl rfl rfl rfl rfl rfl ?_|refine ai 7 a6 1 rfl rfl rfl rfl rfl rfl rfl rfl ?_|refine ai 7 a6 2 rfl rfl rfl rfl rfl rfl rfl rfl ?_|refine ai 8 a6 0 rfl rfl rfl rfl rfl rfl rfl rfl ?_|refine ai 8 a6 1 rfl rfl rfl rfl rfl rfl rfl rfl ?_|refine ai 8 a6 2 rfl rfl rfl rfl rfl rfl rfl rfl ?_|refine aj a6 0 rfl rfl rfl rfl rfl rfl rfl ?_|refine aj a6 1 rfl rfl rfl rfl rfl rfl rfl ?_|refine aj a6 2 rfl rfl rfl rfl rfl rfl rfl ?_|refine aj a6 3 rfl rfl rfl rfl rfl rfl rfl ?_|fail)|refine b5 a6 fun _=>?_|fail)
  refine fO L0 (tok k 65 3 (((l.take i).filterMap w).map cn).length) (hw x (Gx hx)) rfl rfl List.perm_append_comm rfl rfl fun c L1 ⟨⟨y, b, hc, hb⟩, hL⟩ => ?_
  subst hc; subst hL
  refine aO (aK List.perm_append_comm) ?_
  cases b with
  | true =>
   rw [if_pos rfl] at hb
   rw [hb, Option.toList_some] at hstep
   repeat' (first|refine ah ?_|refine a7 ?_|refine a8 ?_|refine aa ?_|refine ae a6 rfl rfl ?_|(apply aH; first|refine ai 7 a6 0 rfl rfl rfl rfl rfl rfl rfl rfl ?_|refine ai 7 a6 1 rfl rfl rfl rfl rfl rfl rfl rfl ?_|refine ai 7 a6 2 rfl rfl rfl rfl rfl rfl rfl rfl ?_|refine ai 8 a6 0 rfl rfl rfl rfl rfl rfl rfl rfl ?_|refine ai 8 a6 1 rfl rfl rfl rfl rfl rfl rfl rfl ?_|refine ai 8 a6 2 rfl rfl rfl rfl rfl rfl rfl rfl ?_|refine aj a6 0 rfl rfl rfl rfl rfl rfl rfl ?_|refine aj a6 1 rfl rfl rfl rfl rfl rfl rfl ?_|refine aj a6 2 rfl rfl rfl rfl rfl rfl rfl ?_|refine aj a6 3 rfl rfl rfl rfl rfl rfl rfl ?_|fail)|refine b5 a6 fun _=>?_|refine bz a6 ?_|refine bQ rfl ?_)
   refine bF a6 L1 rfl rfl rfl rfl (Gm _) (by rw [hmm]; simp; omega) (by rw [hmm]; simp; omega) rfl fun k' => ?_
   repeat' (first|refine a7 ?_|refine a8 ?_|refine aI ?_|refine aa ?_|refine ae a6 rfl rfl ?_|(apply aW; refine aV ?_)|fail)
   have hap : ((l.take i).filterMap w).map cn ++ [cn y] = ((l.take (i + 1)).filterMap w).map cn := by rw [hstep, List.map_append]; rfl
   exact aC (i + 1, k') rfl ⟨by rw [Gw]; rfl, by rw [← hap]; rfl, trivial⟩ (by dsimp only; omega) (by dsimp only; omega) (fun _ _ h => by dsimp only; rw [← hap]; exact h)
  | false =>
   rw [if_neg (by decide)] at hb
   rw [hb] at hstep
   have hstep : (l.take (i + 1)).filterMap w = (l.take i).filterMap w := by rw [hstep]; simp
   repeat' (first|refine ah ?_|refine a7 ?_|refine au ?_|refine a8 ?_|refine aI ?_|refine aa ?_|refine ae a6 rfl rfl ?_|(apply aW; refine aV ?_)|(apply aH; first|refine ai 7 a6 0 rfl rfl rfl rfl rfl rfl rfl rfl ?_|refine ai 7 a6 1 rfl rfl rfl rfl rfl rfl rfl rfl ?_|refine ai 7 a6 2 rfl rfl rfl rfl rfl rfl rfl rfl ?_|refine ai 8 a6 0 rfl rfl rfl rfl rfl rfl rfl rfl ?_|refine ai 8 a6 1 rfl rfl rfl rfl rfl rfl rfl rfl ?_|refine ai 8 a6 2 rfl rfl rfl rfl rfl rfl rfl rfl ?_|refine aj a6 0 rfl rfl rfl rfl rfl rfl rfl ?_|refine aj a6 1 rfl rfl rfl rfl rfl rfl rfl ?_|refine aj a6 2 rfl rfl rfl rfl rfl rfl rfl ?_|refine aj a6 3 rfl rfl rfl rfl rfl rfl rfl ?_|fail)|refine b5 a6 fun _=>?_|refine bv rfl ?_)
   exact aC (i + 1, k) rfl ⟨by rw [Gw]; rfl, by rw [hstep]; rfl, trivial⟩ (by dsimp only; omega) (by dsimp only; omega) (fun _ _ h => by dsimp only; rw [hstep]; exact h)
 have hil : i = l.length := by have := Gy h; omega
 subst hil
 rw [List.take_length]
 repeat' (first|refine ah ?_|refine a7 ?_|refine ar ?_|refine aR ?_|refine a8 ?_|refine av ?_|refine aB ?_|refine ay ?_|refine aa ?_|refine ae a6 rfl rfl ?_)
 refine ba (bg (t := 4) (c' := .imm 3 ((l.filterMap w).map cn)) rfl fun σ v h => VR.im h) ?_
 refine cO (List.sublist_append_right ..) ?_
 exact aA rfl rfl ⟨rfl, rfl⟩
theorem CF {u : AV} (hu : jR u = true) (l : List dO) (hl : l.length ≤ 1000000) (w : dO → Option dO) (L0 : AL) (hw : ∀ x ∈ l, iX Tryz.prog u [.agg (ci x)] L0 fun c L => (∃ y b, c = .tup [.agg (ci y), cF b] ∧ w x = if b = true then some y else none) ∧ L = L0) :
  AC Tryz.prog 73 [.imm 2 (l.map ci), u] L0 fun r L => r = .imm 2 ((l.filterMap w).map ci) ∧ L = L0 := by
 refine aP Tryz.func73 rfl Tryz.ntmps73 rfl fun B => ?_
 have hml : (l.map ci).length = l.length := Gu ..
 repeat' (first|refine ah ?_|refine a7 ?_|refine aq ?_|refine a8 ?_|refine aa ?_|refine ae a6 rfl rfl ?_)
 refine bK (bg (t := 5) (c' := .vec none 2 []) rfl fun σ v h => co 2 h) ?_
 refine aN [1, 10, 11] (α := Nat × Option (Nat × Nat)) (fun x => [(12, aM x.1), (5, .vec x.2 2 (((l.take x.1).filterMap w).map ci))]) (fun x => x.1 ≤ l.length) (fun x => tok x.2 68 2 (((l.take x.1).filterMap w).map ci).length ++ L0) (fun x => l.length - x.1) (0, none) rfl ⟨rfl, rfl, trivial⟩ (Nat.zero_le _) (fun _ _ h => h) ?_
 rintro ⟨i, k⟩ hi
 dsimp only at hi ⊢
 have hfl := hY w l i
 have hmm : (((l.take i).filterMap w).map ci).length = ((l.take i).filterMap w).length := Gu ..
 try dsimp only [Gr, Gq, Gp, Gj]
 repeat' (first|refine ah ?_|refine a7 ?_|refine a8 ?_|refine aa ?_|refine ae a6 rfl rfl ?_)
 refine aw rfl (fun h => ?_) (fun h => ?_)
 ·have hil : i < l.length := by have := Gz h; omega
  obtain ⟨x, hx⟩ : ∃ z, l[i]? = some z := ⟨_, Ds hil⟩
  have hxg := bj (c := ci) hx
  have hstep := fv (w := w) hx
  clear h
  repeat' (first|refine ah ?_|refine a7 ?_|refine aq ?_|refine au ?_|refine a8 ?_|refine aa ?_|refine ae a6 rfl rfl ?_|(apply aY; first|refine aX a6 ?_|refine aS a6 ?_)|(apply aH; first|refine ai 7 a6 0 rfl rfl rfl rfl rfl rfl rfl rfl ?_|refine ai 7 a6 1 rfl rfl rfl rfl rfl rfl rfl rfl ?_|refine ai 7 a6 2 rfl rfl rfl rfl rfl rfl rfl rfl ?_|refine ai 8 a6 0 rfl rfl rfl rfl rfl rfl rfl rfl ?_|refine ai 8 a6 1 rfl rfl rfl rfl rfl rfl rfl rfl ?_|refine ai 8 a6 2 rfl rfl rfl rfl rfl rfl rfl rfl ?_|refine aj a6 0 rfl rfl rfl rfl rfl rfl rfl ?_|refine aj a6 1 rfl rfl rfl rfl rfl rfl rfl ?_|refine aj a6 2 rfl rfl rfl rfl rfl rfl rfl ?_|refine aj a6 3 rfl rfl rfl rfl rfl rfl rfl ?_|fail)|refine b5 a6 fun _=>?_|fail)
  refine fO L0 (tok k 68 2 (((l.take i).filterMap w).map ci).length) (hw x (Gx hx)) rfl rfl List.perm_append_comm rfl rfl fun c L1 ⟨⟨y, b, hc, hb⟩, hL⟩ => ?_
  subst hc; subst hL
  refine aO (aK List.perm_append_comm) ?_
  cases b with
  | true =>
   rw [if_pos rfl] at hb
   rw [hb, Option.toList_some] at hstep
   repeat' (first|refine ah ?_|refine a7 ?_|refine a8 ?_|refine aa ?_|refine ae a6 rfl rfl ?_|(apply aH; first|refine ai 7 a6 0 rfl rfl rfl rfl rfl rfl rfl rfl ?_|refine ai 7 a6 1 rfl rfl rfl rfl rfl rfl rfl rfl ?_|refine ai 7 a6 2 rfl rfl rfl rfl rfl rfl rfl rfl ?_|refine ai 8 a6 0 rfl rfl rfl rfl rfl rfl rfl rfl ?_|refine ai 8 a6 1 rfl rfl rfl rfl rfl rfl rfl rfl ?_|refine ai 8 a6 2 rfl rfl rfl rfl rfl rfl rfl rfl ?_|refine aj a6 0 rfl rfl rfl rfl rfl rfl rfl ?_|refine aj a6 1 rfl rfl rfl rfl rfl rfl rfl ?_|refine aj a6 2 rfl rfl rfl rfl rfl rfl rfl ?_|refine aj a6 3 rfl rfl rfl rfl rfl rfl rfl ?_|fail)|refine b5 a6 fun _=>?_|refine bz a6 ?_|refine bQ rfl ?_)
   refine bF a6 L1 rfl rfl rfl rfl (Gm _) (by rw [hmm]; simp; omega) (by rw [hmm]; simp; omega) rfl fun k' => ?_
   repeat' (first|refine a7 ?_|refine a8 ?_|refine aI ?_|refine aa ?_|refine ae a6 rfl rfl ?_|(apply aW; refine aV ?_)|fail)
   have hap : ((l.take i).filterMap w).map ci ++ [ci y] = ((l.take (i + 1)).filterMap w).map ci := by rw [hstep, List.map_append]; rfl
   exact aC (i + 1, k') rfl ⟨by rw [Gw]; rfl, by rw [← hap]; rfl, trivial⟩ (by dsimp only; omega) (by dsimp only; omega) (fun _ _ h => by dsimp only; rw [← hap]; exact h)
  | false =>
   rw [if_neg (by decide)] at hb
   rw [hb] at hstep
   have hstep : (l.take (i + 1)).filterMap w = (l.take i).filterMap w := by rw [hstep]; simp
   repeat' (first|refine ah ?_|refine a7 ?_|refine au ?_|refine a8 ?_|refine aI ?_|refine aa ?_|refine ae a6 rfl rfl ?_|(apply aW; refine aV ?_)|(apply aH; first|refine ai 7 a6 0 rfl rfl rfl rfl rfl rfl rfl rfl ?_|refine ai 7 a6 1 rfl rfl rfl rfl rfl rfl rfl rfl ?_|refine ai 7 a6 2 rfl rfl rfl rfl rfl rfl rfl rfl ?_|refine ai 8 a6 0 rfl rfl rfl rfl rfl rfl rfl rfl ?_|refine ai 8 a6 1 rfl rfl rfl rfl rfl rfl rfl rfl ?_|refine ai 8 a6 2 rfl rfl rfl rfl rfl rfl rfl rfl ?_|refine aj a6 0 rfl rfl rfl rfl rfl rfl rfl ?_|refine aj a6 1 rfl rfl rfl rfl rfl rfl rfl ?_|refine aj a6 2 rfl rfl rfl rfl rfl rfl rfl ?_|refine aj a6 3 rfl rfl rfl rfl rfl rfl rfl ?_|fail)|refine b5 a6 fun _=>?_|refine bv rfl ?_)
   exact aC (i + 1, k) rfl ⟨by rw [Gw]; rfl, by rw [hstep]; rfl, trivial⟩ (by dsimp only; omega) (by dsimp only; omega) (fun _ _ h => by dsimp only; rw [hstep]; exact h)
 have hil : i = l.length := by have := Gy h; omega
 subst hil
 rw [List.take_length]
 repeat' (first|refine ah ?_|refine a7 ?_|refine ar ?_|refine aR ?_|refine a8 ?_|refine av ?_|refine aB ?_|refine ay ?_|refine aa ?_|refine ae a6 rfl rfl ?_)
 refine ba (bg (t := 4) (c' := .imm 2 ((l.filterMap w).map ci)) rfl fun σ v h => VR.im h) ?_
 refine cO (List.sublist_append_right ..) ?_
 exact aA rfl rfl ⟨rfl, rfl⟩
theorem CG {u : AV} (hu : jR u = true) (l : List bV) (hl : l.length ≤ 1000000) (w : bV → Option bV) (L0 : AL) (hw : ∀ x ∈ l, iX Tryz.prog u [.agg (bC x)] L0 fun c L => (∃ y b, c = .tup [.agg (bC y), cF b] ∧ w x = if b = true then some y else none) ∧ L = L0) :
  AC Tryz.prog 75 [.imm 6 (l.map bC), u] L0 fun r L => r = .imm 6 ((l.filterMap w).map bC) ∧ L = L0 := by
 refine aP Tryz.func75 rfl Tryz.ntmps75 rfl fun B => ?_
 have hml : (l.map bC).length = l.length := Gu ..
 repeat' (first|refine ah ?_|refine a7 ?_|refine aq ?_|refine a8 ?_|refine aa ?_|refine ae a6 rfl rfl ?_)
 refine bK (bg (t := 5) (c' := .vec none 6 []) rfl fun σ v h => co 6 h) ?_
 refine aN [1, 10, 11] (α := Nat × Option (Nat × Nat)) (fun x => [(12, aM x.1), (5, .vec x.2 6 (((l.take x.1).filterMap w).map bC))]) (fun x => x.1 ≤ l.length) (fun x => tok x.2 81 6 (((l.take x.1).filterMap w).map bC).length ++ L0) (fun x => l.length - x.1) (0, none) rfl ⟨rfl, rfl, trivial⟩ (Nat.zero_le _) (fun _ _ h => h) ?_
 rintro ⟨i, k⟩ hi
 dsimp only at hi ⊢
 have hfl := hY w l i
 have hmm : (((l.take i).filterMap w).map bC).length = ((l.take i).filterMap w).length := Gu ..
 try dsimp only [Gr, Gq, Gp, Gj]
 repeat' (first|refine ah ?_|refine a7 ?_|refine a8 ?_|refine aa ?_|refine ae a6 rfl rfl ?_)
 refine aw rfl (fun h => ?_) (fun h => ?_)
 ·have hil : i < l.length := by have := Gz h; omega
  obtain ⟨x, hx⟩ : ∃ z, l[i]? = some z := ⟨_, Ds hil⟩
  have hxg := bj (c := bC) hx
  have hstep := fv (w := w) hx
  clear h
  repeat' (first|refine ah ?_|refine a7 ?_|refine aq ?_|refine au ?_|refine a8 ?_|refine aa ?_|refine ae a6 rfl rfl ?_|(apply aY; first|refine aX a6 ?_|refine aS a6 ?_)|(apply aH; first|refine ai 7 a6 0 rfl rfl rfl rfl rfl rfl rfl rfl ?_|refine ai 7 a6 1 rfl rfl rfl rfl rfl rfl rfl rfl ?_|refine ai 7 a6 2 rfl rfl rfl rfl rfl rfl rfl rfl ?_|refine ai 8 a6 0 rfl rfl rfl rfl rfl rfl rfl rfl ?_|refine ai 8 a6 1 rfl rfl rfl rfl rfl rfl rfl rfl ?_|refine ai 8 a6 2 rfl rfl rfl rfl rfl rfl rfl rfl ?_|refine aj a6 0 rfl rfl rfl rfl rfl rfl rfl ?_|refine aj a6 1 rfl rfl rfl rfl rfl rfl rfl ?_|refine aj a6 2 rfl rfl rfl rfl rfl rfl rfl ?_|refine aj a6 3 rfl rfl rfl rfl rfl rfl rfl ?_|fail)|refine b5 a6 fun _=>?_|fail)
  refine fO L0 (tok k 81 6 (((l.take i).filterMap w).map bC).length) (hw x (Gx hx)) rfl rfl List.perm_append_comm rfl rfl fun c L1 ⟨⟨y, b, hc, hb⟩, hL⟩ => ?_
  subst hc; subst hL
  refine aO (aK List.perm_append_comm) ?_
  cases b with
  | true =>
   rw [if_pos rfl] at hb
   rw [hb, Option.toList_some] at hstep
   repeat' (first|refine ah ?_|refine a7 ?_|refine a8 ?_|refine aa ?_|refine ae a6 rfl rfl ?_|(apply aH; first|refine ai 7 a6 0 rfl rfl rfl rfl rfl rfl rfl rfl ?_|refine ai 7 a6 1 rfl rfl rfl rfl rfl rfl rfl rfl ?_|refine ai 7 a6 2 rfl rfl rfl rfl rfl rfl rfl rfl ?_|refine ai 8 a6 0 rfl rfl rfl rfl rfl rfl rfl rfl ?_|refine ai 8 a6 1 rfl rfl rfl rfl rfl rfl rfl rfl ?_|refine ai 8 a6 2 rfl rfl rfl rfl rfl rfl rfl rfl ?_|refine aj a6 0 rfl rfl rfl rfl rfl rfl rfl ?_|refine aj a6 1 rfl rfl rfl rfl rfl rfl rfl ?_|refine aj a6 2 rfl rfl rfl rfl rfl rfl rfl ?_|refine aj a6 3 rfl rfl rfl rfl rfl rfl rfl ?_|fail)|refine b5 a6 fun _=>?_|refine bz a6 ?_|refine bQ rfl ?_)
   refine bF a6 L1 rfl rfl rfl rfl (Gm _) (by rw [hmm]; simp; omega) (by rw [hmm]; simp; omega) rfl fun k' => ?_
   repeat' (first|refine a7 ?_|refine a8 ?_|refine aI ?_|refine aa ?_|refine ae a6 rfl rfl ?_|(apply aW; refine aV ?_)|fail)
   have hap : ((l.take i).filterMap w).map bC ++ [bC y] = ((l.take (i + 1)).filterMap w).map bC := by rw [hstep, List.map_append]; rfl
   exact aC (i + 1, k') rfl ⟨by rw [Gw]; rfl, by rw [← hap]; rfl, trivial⟩ (by dsimp only; omega) (by dsimp only; omega) (fun _ _ h => by dsimp only; rw [← hap]; exact h)
  | false =>
   rw [if_neg (by decide)] at hb
   rw [hb] at hstep
   have hstep : (l.take (i + 1)).filterMap w = (l.take i).filterMap w := by rw [hstep]; simp
   repeat' (first|refine ah ?_|refine a7 ?_|refine au ?_|refine a8 ?_|refine aI ?_|refine aa ?_|refine ae a6 rfl rfl ?_|(apply aW; refine aV ?_)|(apply aH; first|refine ai 7 a6 0 rfl rfl rfl rfl rfl rfl rfl rfl ?_|refine ai 7 a6 1 rfl rfl rfl rfl rfl rfl rfl rfl ?_|refine ai 7 a6 2 rfl rfl rfl rfl rfl rfl rfl rfl ?_|refine ai 8 a6 0 rfl rfl rfl rfl rfl rfl rfl rfl ?_|refine ai 8 a6 1 rfl rfl rfl rfl rfl rfl rfl rfl ?_|refine ai 8 a6 2 rfl rfl rfl rfl rfl rfl rfl rfl ?_|refine aj a6 0 rfl rfl rfl rfl rfl rfl rfl ?_|refine aj a6 1 rfl rfl rfl rfl rfl rfl rfl ?_|refine aj a6 2 rfl rfl rfl rfl rfl rfl rfl ?_|refine aj a6 3 rfl rfl rfl rfl rfl rfl rfl ?_|fail)|refine b5 a6 fun _=>?_|refine bv rfl ?_)
   exact aC (i + 1, k) rfl ⟨by rw [Gw]; rfl, by rw [hstep]; rfl, trivial⟩ (by dsimp only; omega) (by dsimp only; omega) (fun _ _ h => by dsimp only; rw [hstep]; exact h)
 have hil : i = l.length := by have := Gy h; omega
 subst hil
 rw [List.take_length]
 repeat' (first|refine ah ?_|refine a7 ?_|refine ar ?_|refine aR ?_|refine a8 ?_|refine av ?_|refine aB ?_|refine ay ?_|refine aa ?_|refine ae a6 rfl rfl ?_)
 refine ba (bg (t := 4) (c' := .imm 6 ((l.filterMap w).map bC)) rfl fun σ v h => VR.im h) ?_
 refine cO (List.sublist_append_right ..) ?_
 exact aA rfl rfl ⟨rfl, rfl⟩
theorem CH {u : AV} (hu : jR u = true) (l : List bL) (hl : l.length ≤ 1000000) (w : bL → Option bL) (L0 : AL) (hw : ∀ x ∈ l, iX Tryz.prog u [.agg (bw x)] L0 fun c L => (∃ y b, c = .tup [.agg (bw y), cF b] ∧ w x = if b = true then some y else none) ∧ L = L0) :
  AC Tryz.prog 78 [.imm 2 (l.map bw), u] L0 fun r L => r = .imm 2 ((l.filterMap w).map bw) ∧ L = L0 := by
 refine aP Tryz.func78 rfl Tryz.ntmps78 rfl fun B => ?_
 have hml : (l.map bw).length = l.length := Gu ..
 repeat' (first|refine ah ?_|refine a7 ?_|refine aq ?_|refine a8 ?_|refine aa ?_|refine ae a6 rfl rfl ?_)
 refine bK (bg (t := 5) (c' := .vec none 2 []) rfl fun σ v h => co 2 h) ?_
 refine aN [1, 10, 11] (α := Nat × Option (Nat × Nat)) (fun x => [(12, aM x.1), (5, .vec x.2 2 (((l.take x.1).filterMap w).map bw))]) (fun x => x.1 ≤ l.length) (fun x => tok x.2 83 2 (((l.take x.1).filterMap w).map bw).length ++ L0) (fun x => l.length - x.1) (0, none) rfl ⟨rfl, rfl, trivial⟩ (Nat.zero_le _) (fun _ _ h => h) ?_
 rintro ⟨i, k⟩ hi
 dsimp only at hi ⊢
 have hfl := hY w l i
 have hmm : (((l.take i).filterMap w).map bw).length = ((l.take i).filterMap w).length := Gu ..
 try dsimp only [Gr, Gq, Gp, Gj]
 repeat' (first|refine ah ?_|refine a7 ?_|refine a8 ?_|refine aa ?_|refine ae a6 rfl rfl ?_)
 refine aw rfl (fun h => ?_) (fun h => ?_)
 ·have hil : i < l.length := by have := Gz h; omega
  obtain ⟨x, hx⟩ : ∃ z, l[i]? = some z := ⟨_, Ds hil⟩
  have hxg := bj (c := bw) hx
  have hstep := fv (w := w) hx
  clear h
  repeat' (first|refine ah ?_|refine a7 ?_|refine aq ?_|refine au ?_|refine a8 ?_|refine aa ?_|refine ae a6 rfl rfl ?_|(apply aY; first|refine aX a6 ?_|refine aS a6 ?_)|(apply aH; first|refine ai 7 a6 0 rfl rfl rfl rfl rfl rfl rfl rfl ?_|refine ai 7 a6 1 rfl rfl rfl rfl rfl rfl rfl rfl ?_|refine ai 7 a6 2 rfl rfl rfl rfl rfl rfl rfl rfl ?_|refine ai 8 a6 0 rfl rfl rfl rfl rfl rfl rfl rfl ?_|refine ai 8 a6 1 rfl rfl rfl rfl rfl rfl rfl rfl ?_|refine ai 8 a6 2 rfl rfl rfl rfl rfl rfl rfl rfl ?_|refine aj a6 0 rfl rfl rfl rfl rfl rfl rfl ?_|refine aj a6 1 rfl rfl rfl rfl rfl rfl rfl ?_|refine aj a6 2 rfl rfl rfl rfl rfl rfl rfl ?_|refine aj a6 3 rfl rfl rfl rfl rfl rfl rfl ?_|fail)|refine b5 a6 fun _=>?_|fail)
  refine fO L0 (tok k 83 2 (((l.take i).filterMap w).map bw).length) (hw x (Gx hx)) rfl rfl List.perm_append_comm rfl rfl fun c L1 ⟨⟨y, b, hc, hb⟩, hL⟩ => ?_
  subst hc; subst hL
  refine aO (aK List.perm_append_comm) ?_
  cases b with
  | true =>
   rw [if_pos rfl] at hb
   rw [hb, Option.toList_some] at hstep
   repeat' (first|refine ah ?_|refine a7 ?_|refine a8 ?_|refine aa ?_|refine ae a6 rfl rfl ?_|(apply aH; first|refine ai 7 a6 0 rfl rfl rfl rfl rfl rfl rfl rfl ?_|refine ai 7 a6 1 rfl rfl rfl rfl rfl rfl rfl rfl ?_|refine ai 7 a6 2 rfl rfl rfl rfl rfl rfl rfl rfl ?_|refine ai 8 a6 0 rfl rfl rfl rfl rfl rfl rfl rfl ?_|refine ai 8 a6 1 rfl rfl rfl rfl rfl rfl rfl rfl ?_|refine ai 8 a6 2 rfl rfl rfl rfl rfl rfl rfl rfl ?_|refine aj a6 0 rfl rfl rfl rfl rfl rfl rfl ?_|refine aj a6 1 rfl rfl rfl rfl rfl rfl rfl ?_|refine aj a6 2 rfl rfl rfl rfl rfl rfl rfl ?_|refine aj a6 3 rfl rfl rfl rfl rfl rfl rfl ?_|fail)|refine b5 a6 fun _=>?_|refine bz a6 ?_|refine bQ rfl ?_)
   refine bF a6 L1 rfl rfl rfl rfl (Gm _) (by rw [hmm]; simp; omega) (by rw [hmm]; simp; omega) rfl fun k' => ?_
   repeat' (first|refine a7 ?_|refine a8 ?_|refine aI ?_|refine aa ?_|refine ae a6 rfl rfl ?_|(apply aW; refine aV ?_)|fail)
   have hap : ((l.take i).filterMap w).map bw ++ [bw y] = ((l.take (i + 1)).filterMap w).map bw := by rw [hstep, List.map_append]; rfl
   exact aC (i + 1, k') rfl ⟨by rw [Gw]; rfl, by rw [← hap]; rfl, trivial⟩ (by dsimp only; omega) (by dsimp only; omega) (fun _ _ h => by dsimp only; rw [← hap]; exact h)
  | false =>
   rw [if_neg (by decide)] at hb
   rw [hb] at hstep
   have hstep : (l.take (i + 1)).filterMap w = (l.take i).filterMap w := by rw [hstep]; simp
   repeat' (first|refine ah ?_|refine a7 ?_|refine au ?_|refine a8 ?_|refine aI ?_|refine aa ?_|refine ae a6 rfl rfl ?_|(apply aW; refine aV ?_)|(apply aH; first|refine ai 7 a6 0 rfl rfl rfl rfl rfl rfl rfl rfl ?_|refine ai 7 a6 1 rfl rfl rfl rfl rfl rfl rfl rfl ?_|refine ai 7 a6 2 rfl rfl rfl rfl rfl rfl rfl rfl ?_|refine ai 8 a6 0 rfl rfl rfl rfl rfl rfl rfl rfl ?_|refine ai 8 a6 1 rfl rfl rfl rfl rfl rfl rfl rfl ?_|refine ai 8 a6 2 rfl rfl rfl rfl rfl rfl rfl rfl ?_|refine aj a6 0 rfl rfl rfl rfl rfl rfl rfl ?_|refine aj a6 1 rfl rfl rfl rfl rfl rfl rfl ?_|refine aj a6 2 rfl rfl rfl rfl rfl rfl rfl ?_|refine aj a6 3 rfl rfl rfl rfl rfl rfl rfl ?_|fail)|refine b5 a6 fun _=>?_|refine bv rfl ?_)
   exact aC (i + 1, k) rfl ⟨by rw [Gw]; rfl, by rw [hstep]; rfl, trivial⟩ (by dsimp only; omega) (by dsimp only; omega) (fun _ _ h => by dsimp only; rw [hstep]; exact h)
 have hil : i = l.length := by have := Gy h; omega
 subst hil
 rw [List.take_length]
 repeat' (first|refine ah ?_|refine a7 ?_|refine ar ?_|refine aR ?_|refine a8 ?_|refine av ?_|refine aB ?_|refine ay ?_|refine aa ?_|refine ae a6 rfl rfl ?_)
 refine ba (bg (t := 4) (c' := .imm 2 ((l.filterMap w).map bw)) rfl fun σ v h => VR.im h) ?_
 refine cO (List.sublist_append_right ..) ?_
 exact aA rfl rfl ⟨rfl, rfl⟩
theorem tU {u : AV} (hu : jR u = true) (l : List Int) (hl : l.length ≤ 1000000) (w : Int → Option Int) (L0 : AL) (hw : ∀ x ∈ l, iX Tryz.prog u [aM x] L0 fun c L => (∃ y b, c = .tup [aM y, cF b] ∧ w x = if b = true then some y else none) ∧ L = L0) :
  AC Tryz.prog 80 [.imm 1 (l.map fT), u] L0 fun r L => r = .imm 1 ((l.filterMap w).map fT) ∧ L = L0 := by
 refine aP Tryz.func80 rfl Tryz.ntmps80 rfl fun B => ?_
 have hml : (l.map fT).length = l.length := Gu ..
 repeat' (first|refine ah ?_|refine a7 ?_|refine aq ?_|refine a8 ?_|refine aa ?_|refine ae a6 rfl rfl ?_)
 refine bK (bg (t := 5) (c' := .vec none 1 []) rfl fun σ v h => co 1 h) ?_
 refine aN [1, 10, 11] (α := Nat × Option (Nat × Nat)) (fun x => [(12, aM x.1), (5, .vec x.2 1 (((l.take x.1).filterMap w).map fT))]) (fun x => x.1 ≤ l.length) (fun x => tok x.2 3 1 (((l.take x.1).filterMap w).map fT).length ++ L0) (fun x => l.length - x.1) (0, none) rfl ⟨rfl, rfl, trivial⟩ (Nat.zero_le _) (fun _ _ h => h) ?_
 rintro ⟨i, k⟩ hi
 dsimp only at hi ⊢
 have hfl := hY w l i
 have hmm : (((l.take i).filterMap w).map fT).length = ((l.take i).filterMap w).length := Gu ..
 try dsimp only [Gr, Gq, Gp, Gj]
 repeat' (first|refine ah ?_|refine a7 ?_|refine a8 ?_|refine aa ?_|refine ae a6 rfl rfl ?_)
 refine aw rfl (fun h => ?_) (fun h => ?_)
 ·have hil : i < l.length := by have := Gz h; omega
  obtain ⟨x, hx⟩ : ∃ z, l[i]? = some z := ⟨_, Ds hil⟩
  have hxg := bj (c := fT) hx
  have hstep := fv (w := w) hx
  clear h
  repeat' (first|refine ah ?_|refine a7 ?_|refine aq ?_|refine au ?_|refine a8 ?_|refine aa ?_|refine ae a6 rfl rfl ?_|(apply aY; first|refine aX a6 ?_|refine aS a6 ?_)|fail)
  refine fO L0 (tok k 3 1 (((l.take i).filterMap w).map fT).length) (hw x (Gx hx)) rfl rfl List.perm_append_comm rfl rfl fun c L1 ⟨⟨y, b, hc, hb⟩, hL⟩ => ?_
  subst hc; subst hL
  refine aO (aK List.perm_append_comm) ?_
  cases b with
  | true =>
   rw [if_pos rfl] at hb
   rw [hb, Option.toList_some] at hstep
   repeat' (first|refine ah ?_|refine a7 ?_|refine a8 ?_|refine aa ?_|refine ae a6 rfl rfl ?_|refine bz a6 ?_|refine bQ rfl ?_)
   refine bF a6 L1 rfl rfl rfl rfl (Gm _) (by rw [hmm]; simp; omega) (by rw [hmm]; simp; omega) rfl fun k' => ?_
   repeat' (first|refine a7 ?_|refine a8 ?_|refine aI ?_|refine aa ?_|refine ae a6 rfl rfl ?_|(apply aW; refine aV ?_)|fail)
   have hap : ((l.take i).filterMap w).map fT ++ [fT y] = ((l.take (i + 1)).filterMap w).map fT := by rw [hstep, List.map_append]; rfl
   exact aC (i + 1, k') rfl ⟨by rw [Gw]; rfl, by rw [← hap]; rfl, trivial⟩ (by dsimp only; omega) (by dsimp only; omega) (fun _ _ h => by dsimp only; rw [← hap]; exact h)
  | false =>
   rw [if_neg (by decide)] at hb
   rw [hb] at hstep
   have hstep : (l.take (i + 1)).filterMap w = (l.take i).filterMap w := by rw [hstep]; simp
   repeat' (first|refine ah ?_|refine a7 ?_|refine au ?_|refine a8 ?_|refine aI ?_|refine aa ?_|refine ae a6 rfl rfl ?_|(apply aW; refine aV ?_)|refine bv rfl ?_)
   exact aC (i + 1, k) rfl ⟨by rw [Gw]; rfl, by rw [hstep]; rfl, trivial⟩ (by dsimp only; omega) (by dsimp only; omega) (fun _ _ h => by dsimp only; rw [hstep]; exact h)
 have hil : i = l.length := by have := Gy h; omega
 subst hil
 rw [List.take_length]
 repeat' (first|refine ah ?_|refine a7 ?_|refine ar ?_|refine aR ?_|refine a8 ?_|refine av ?_|refine aB ?_|refine ay ?_|refine aa ?_|refine ae a6 rfl rfl ?_)
 refine ba (bg (t := 4) (c' := .imm 1 ((l.filterMap w).map fT)) rfl fun σ v h => VR.im h) ?_
 refine cO (List.sublist_append_right ..) ?_
 exact aA rfl rfl ⟨rfl, rfl⟩
theorem Aw {u : AV} (hu : jR u = true) (l : List (List Int)) (hl : l.length ≤ 1000000) (w : (List Int) → Option (List Int)) (L0 : AL) (hw : ∀ x ∈ l, iX Tryz.prog u [.imm 1 (aU x)] L0 fun c L => (∃ y b, c = .tup [.imm 1 (aU y), cF b] ∧ w x = if b = true then some y else none) ∧ L = L0) :
  AC Tryz.prog 100 [.imm 1 (l.map lz), u] L0 fun r L => r = .imm 1 ((l.filterMap w).map lz) ∧ L = L0 := by
 refine aP Tryz.func100 rfl Tryz.ntmps100 rfl fun B => ?_
 have hml : (l.map lz).length = l.length := Gu ..
 repeat' (first|refine ah ?_|refine a7 ?_|refine aq ?_|refine a8 ?_|refine aa ?_|refine ae a6 rfl rfl ?_)
 refine bK (bg (t := 5) (c' := .vec none 1 []) rfl fun σ v h => co 1 h) ?_
 refine aN [1, 10, 11] (α := Nat × Option (Nat × Nat)) (fun x => [(12, aM x.1), (5, .vec x.2 1 (((l.take x.1).filterMap w).map lz))]) (fun x => x.1 ≤ l.length) (fun x => tok x.2 22 1 (((l.take x.1).filterMap w).map lz).length ++ L0) (fun x => l.length - x.1) (0, none) rfl ⟨rfl, rfl, trivial⟩ (Nat.zero_le _) (fun _ _ h => h) ?_
 rintro ⟨i, k⟩ hi
 dsimp only at hi ⊢
 have hfl := hY w l i
 have hmm : (((l.take i).filterMap w).map lz).length = ((l.take i).filterMap w).length := Gu ..
 try dsimp only [Gr, Gq, Gp, Gj]
 repeat' (first|refine ah ?_|refine a7 ?_|refine a8 ?_|refine aa ?_|refine ae a6 rfl rfl ?_)
 refine aw rfl (fun h => ?_) (fun h => ?_)
 ·have hil : i < l.length := by have := Gz h; omega
  obtain ⟨x, hx⟩ : ∃ z, l[i]? = some z := ⟨_, Ds hil⟩
  have hxg := bj (c := lz) hx
  have hstep := fv (w := w) hx
  clear h
  repeat' (first|refine ah ?_|refine a7 ?_|refine aq ?_|refine au ?_|refine a8 ?_|refine aa ?_|refine ae a6 rfl rfl ?_|(apply aY; first|refine aX a6 ?_|refine aS a6 ?_)|fail)
  refine fO L0 (tok k 22 1 (((l.take i).filterMap w).map lz).length) (hw x (Gx hx)) rfl rfl List.perm_append_comm rfl rfl fun c L1 ⟨⟨y, b, hc, hb⟩, hL⟩ => ?_
  subst hc; subst hL
  refine aO (aK List.perm_append_comm) ?_
  cases b with
  | true =>
   rw [if_pos rfl] at hb
   rw [hb, Option.toList_some] at hstep
   repeat' (first|refine ah ?_|refine a7 ?_|refine a8 ?_|refine aa ?_|refine ae a6 rfl rfl ?_|refine bz a6 ?_|refine bQ rfl ?_)
   refine bF a6 L1 rfl rfl rfl rfl (Gm _) (by rw [hmm]; simp; omega) (by rw [hmm]; simp; omega) rfl fun k' => ?_
   repeat' (first|refine a7 ?_|refine a8 ?_|refine aI ?_|refine aa ?_|refine ae a6 rfl rfl ?_|(apply aW; refine aV ?_)|fail)
   have hap : ((l.take i).filterMap w).map lz ++ [lz y] = ((l.take (i + 1)).filterMap w).map lz := by rw [hstep, List.map_append]; rfl
   exact aC (i + 1, k') rfl ⟨by rw [Gw]; rfl, by rw [← hap]; rfl, trivial⟩ (by dsimp only; omega) (by dsimp only; omega) (fun _ _ h => by dsimp only; rw [← hap]; exact h)
  | false =>
   rw [if_neg (by decide)] at hb
   rw [hb] at hstep
   have hstep : (l.take (i + 1)).filterMap w = (l.take i).filterMap w := by rw [hstep]; simp
   repeat' (first|refine ah ?_|refine a7 ?_|refine au ?_|refine a8 ?_|refine aI ?_|refine aa ?_|refine ae a6 rfl rfl ?_|(apply aW; refine aV ?_)|refine bv rfl ?_)
   exact aC (i + 1, k) rfl ⟨by rw [Gw]; rfl, by rw [hstep]; rfl, trivial⟩ (by dsimp only; omega) (by dsimp only; omega) (fun _ _ h => by dsimp only; rw [hstep]; exact h)
 have hil : i = l.length := by have := Gy h; omega
 subst hil
 rw [List.take_length]
 repeat' (first|refine ah ?_|refine a7 ?_|refine ar ?_|refine aR ?_|refine a8 ?_|refine av ?_|refine aB ?_|refine ay ?_|refine aa ?_|refine ae a6 rfl rfl ?_)
 refine ba (bg (t := 4) (c' := .imm 1 ((l.filterMap w).map lz)) rfl fun σ v h => VR.im h) ?_
 refine cO (List.sublist_append_right ..) ?_
 exact aA rfl rfl ⟨rfl, rfl⟩
theorem Ax {u : AV} (hu : jR u = true) (l : List fF) (hl : l.length ≤ 1000000) (w : fF → Option fF) (L0 : AL) (hw : ∀ x ∈ l, iX Tryz.prog u [.agg (dP x)] L0 fun c L => (∃ y b, c = .tup [.agg (dP y), cF b] ∧ w x = if b = true then some y else none) ∧ L = L0) :
  AC Tryz.prog 105 [.imm 2 (l.map dP), u] L0 fun r L => r = .imm 2 ((l.filterMap w).map dP) ∧ L = L0 := by
 refine aP Tryz.func105 rfl Tryz.ntmps105 rfl fun B => ?_
 have hml : (l.map dP).length = l.length := Gu ..
 repeat' (first|refine ah ?_|refine a7 ?_|refine aq ?_|refine a8 ?_|refine aa ?_|refine ae a6 rfl rfl ?_)
 refine bK (bg (t := 5) (c' := .vec none 2 []) rfl fun σ v h => co 2 h) ?_
 refine aN [1, 10, 11] (α := Nat × Option (Nat × Nat)) (fun x => [(12, aM x.1), (5, .vec x.2 2 (((l.take x.1).filterMap w).map dP))]) (fun x => x.1 ≤ l.length) (fun x => tok x.2 91 2 (((l.take x.1).filterMap w).map dP).length ++ L0) (fun x => l.length - x.1) (0, none) rfl ⟨rfl, rfl, trivial⟩ (Nat.zero_le _) (fun _ _ h => h) ?_
 rintro ⟨i, k⟩ hi
 dsimp only at hi ⊢
 have hfl := hY w l i
 have hmm : (((l.take i).filterMap w).map dP).length = ((l.take i).filterMap w).length := Gu ..
 try dsimp only [Gr, Gq, Gp, Gj]
 repeat' (first|refine ah ?_|refine a7 ?_|refine a8 ?_|refine aa ?_|refine ae a6 rfl rfl ?_)
 refine aw rfl (fun h => ?_) (fun h => ?_)
 ·have hil : i < l.length := by have := Gz h; omega
  obtain ⟨x, hx⟩ : ∃ z, l[i]? = some z := ⟨_, Ds hil⟩
  have hxg := bj (c := dP) hx
  have hstep := fv (w := w) hx
  clear h
  repeat' (first|refine ah ?_|refine a7 ?_|refine aq ?_|refine au ?_|refine a8 ?_|refine aa ?_|refine ae a6 rfl rfl ?_|(apply aY; first|refine aX a6 ?_|refine aS a6 ?_)|(apply aH; first|refine ai 7 a6 0 rfl rfl rfl rfl rfl rfl rfl rfl ?_|refine ai 7 a6 1 rfl rfl rfl rfl rfl rfl rfl rfl ?_|refine ai 7 a6 2 rfl rfl rfl rfl rfl rfl rfl rfl ?_|refine ai 8 a6 0 rfl rfl rfl rfl rfl rfl rfl rfl ?_|refine ai 8 a6 1 rfl rfl rfl rfl rfl rfl rfl rfl ?_|refine ai 8 a6 2 rfl rfl rfl rfl rfl rfl rfl rfl ?_|refine aj a6 0 rfl rfl rfl rfl rfl rfl rfl ?_|refine aj a6 1 rfl rfl rfl rfl rfl rfl rfl ?_|refine aj a6 2 rfl rfl rfl rfl rfl rfl rfl ?_|refine aj a6 3 rfl rfl rfl rfl rfl rfl rfl ?_|fail)|refine b5 a6 fun _=>?_|fail)
  refine fO L0 (tok k 91 2 (((l.take i).filterMap w).map dP).length) (hw x (Gx hx)) rfl rfl List.perm_append_comm rfl rfl fun c L1 ⟨⟨y, b, hc, hb⟩, hL⟩ => ?_
  subst hc; subst hL
  refine aO (aK List.perm_append_comm) ?_
  cases b with
  | true =>
   rw [if_pos rfl] at hb
   rw [hb, Option.toList_some] at hstep
   repeat' (first|refine ah ?_|refine a7 ?_|refine a8 ?_|refine aa ?_|refine ae a6 rfl rfl ?_|(apply aH; first|refine ai 7 a6 0 rfl rfl rfl rfl rfl rfl rfl rfl ?_|refine ai 7 a6 1 rfl rfl rfl rfl rfl rfl rfl rfl ?_|refine ai 7 a6 2 rfl rfl rfl rfl rfl rfl rfl rfl ?_|refine ai 8 a6 0 rfl rfl rfl rfl rfl rfl rfl rfl ?_|refine ai 8 a6 1 rfl rfl rfl rfl rfl rfl rfl rfl ?_|refine ai 8 a6 2 rfl rfl rfl rfl rfl rfl rfl rfl ?_|refine aj a6 0 rfl rfl rfl rfl rfl rfl rfl ?_|refine aj a6 1 rfl rfl rfl rfl rfl rfl rfl ?_|refine aj a6 2 rfl rfl rfl rfl rfl rfl rfl ?_|refine aj a6 3 rfl rfl rfl rfl rfl rfl rfl ?_|fail)|refine b5 a6 fun _=>?_|refine bz a6 ?_|refine bQ rfl ?_)
   refine bF a6 L1 rfl rfl rfl rfl (Gm _) (by rw [hmm]; simp; omega) (by rw [hmm]; simp; omega) rfl fun k' => ?_
   repeat' (first|refine a7 ?_|refine a8 ?_|refine aI ?_|refine aa ?_|refine ae a6 rfl rfl ?_|(apply aW; refine aV ?_)|fail)
   have hap : ((l.take i).filterMap w).map dP ++ [dP y] = ((l.take (i + 1)).filterMap w).map dP := by rw [hstep, List.map_append]; rfl
   exact aC (i + 1, k') rfl ⟨by rw [Gw]; rfl, by rw [← hap]; rfl, trivial⟩ (by dsimp only; omega) (by dsimp only; omega) (fun _ _ h => by dsimp only; rw [← hap]; exact h)
  | false =>
   rw [if_neg (by decide)] at hb
   rw [hb] at hstep
   have hstep : (l.take (i + 1)).filterMap w = (l.take i).filterMap w := by rw [hstep]; simp
   repeat' (first|refine ah ?_|refine a7 ?_|refine au ?_|refine a8 ?_|refine aI ?_|refine aa ?_|refine ae a6 rfl rfl ?_|(apply aW; refine aV ?_)|(apply aH; first|refine ai 7 a6 0 rfl rfl rfl rfl rfl rfl rfl rfl ?_|refine ai 7 a6 1 rfl rfl rfl rfl rfl rfl rfl rfl ?_|refine ai 7 a6 2 rfl rfl rfl rfl rfl rfl rfl rfl ?_|refine ai 8 a6 0 rfl rfl rfl rfl rfl rfl rfl rfl ?_|refine ai 8 a6 1 rfl rfl rfl rfl rfl rfl rfl rfl ?_|refine ai 8 a6 2 rfl rfl rfl rfl rfl rfl rfl rfl ?_|refine aj a6 0 rfl rfl rfl rfl rfl rfl rfl ?_|refine aj a6 1 rfl rfl rfl rfl rfl rfl rfl ?_|refine aj a6 2 rfl rfl rfl rfl rfl rfl rfl ?_|refine aj a6 3 rfl rfl rfl rfl rfl rfl rfl ?_|fail)|refine b5 a6 fun _=>?_|refine bv rfl ?_)
   exact aC (i + 1, k) rfl ⟨by rw [Gw]; rfl, by rw [hstep]; rfl, trivial⟩ (by dsimp only; omega) (by dsimp only; omega) (fun _ _ h => by dsimp only; rw [hstep]; exact h)
 have hil : i = l.length := by have := Gy h; omega
 subst hil
 rw [List.take_length]
 repeat' (first|refine ah ?_|refine a7 ?_|refine ar ?_|refine aR ?_|refine a8 ?_|refine av ?_|refine aB ?_|refine ay ?_|refine aa ?_|refine ae a6 rfl rfl ?_)
 refine ba (bg (t := 4) (c' := .imm 2 ((l.filterMap w).map dP)) rfl fun σ v h => VR.im h) ?_
 refine cO (List.sublist_append_right ..) ?_
 exact aA rfl rfl ⟨rfl, rfl⟩
theorem Ah (l : List dY) (hl : l.length ≤ 1000000) : bO Tryz.prog 32 [.imm 4 (l.map cC)] (.imm 4 (l.map cC)) := by
 refine aP Tryz.func32 rfl Tryz.ntmps32 rfl fun B => ?_
 have hml : (l.map cC).length = l.length := Gu ..
 repeat' (first|refine ah ?_|refine a7 ?_|refine a8 ?_|refine aa ?_|refine ae a6 rfl rfl ?_)
 refine jm a6 rfl rfl rfl rfl rfl fun b hb => ?_
 repeat' (first|refine a8 ?_|refine aa ?_)
 cases b with
 | true =>
  rw [hb rfl]
  repeat' (first|refine ah ?_|refine a7 ?_|refine ar ?_|refine a8 ?_|refine aF ?_|refine aa ?_|refine ae a6 rfl rfl ?_|refine bQ rfl ?_)
  refine ba (bg (t := 2) (c' := .imm 4 []) rfl fun σ v h => fw 4 h) ?_
  exact aA rfl rfl rfl
 | false =>
  repeat' (first|refine ah ?_|refine a7 ?_|refine au ?_|refine a8 ?_|refine ae a6 rfl rfl ?_|refine jU (d := 5) a6 fun _=>?_|refine bv rfl ?_)
  refine bF a6 [] rfl rfl rfl rfl (Gm _) (by rw [Gu]; simp; omega) (by rw [Gu]; simp; omega) rfl fun k' => ?_
  repeat' (first|refine ar ?_|refine a8 ?_|refine aa ?_|refine ae a6 rfl rfl ?_)
  refine ba (bg (t := 2) (c' := .imm 4 (l.map cC)) rfl fun σ v h => VR.im h) ?_
  refine cO (List.nil_sublist _) ?_
  exact aA rfl rfl rfl
theorem Ai (l : List dS) (hl : l.length ≤ 1000000) : bO Tryz.prog 35 [.imm 3 (l.map gH)] (.imm 3 (l.map gH)) := by
 refine aP Tryz.func35 rfl Tryz.ntmps35 rfl fun B => ?_
 have hml : (l.map gH).length = l.length := Gu ..
 repeat' (first|refine ah ?_|refine a7 ?_|refine a8 ?_|refine aa ?_|refine ae a6 rfl rfl ?_)
 refine jm a6 rfl rfl rfl rfl rfl fun b hb => ?_
 repeat' (first|refine a8 ?_|refine aa ?_)
 cases b with
 | true =>
  rw [hb rfl]
  repeat' (first|refine ah ?_|refine a7 ?_|refine ar ?_|refine a8 ?_|refine aF ?_|refine aa ?_|refine ae a6 rfl rfl ?_|refine bQ rfl ?_)
  refine ba (bg (t := 2) (c' := .imm 3 []) rfl fun σ v h => fw 3 h) ?_
  exact aA rfl rfl rfl
 | false =>
  repeat' (first|refine ah ?_|refine a7 ?_|refine au ?_|refine a8 ?_|refine ae a6 rfl rfl ?_|refine jU (d := 5) a6 fun _=>?_|refine bv rfl ?_)
  refine bF a6 [] rfl rfl rfl rfl (Gm _) (by rw [Gu]; simp; omega) (by rw [Gu]; simp; omega) rfl fun k' => ?_
  repeat' (first|refine ar ?_|refine a8 ?_|refine aa ?_|refine ae a6 rfl rfl ?_)
  refine ba (bg (t := 2) (c' := .imm 3 (l.map gH)) rfl fun σ v h => VR.im h) ?_
  refine cO (List.nil_sublist _) ?_
  exact aA rfl rfl rfl
theorem uY (l : List eb) (hl : l.length ≤ 1000000) : bO Tryz.prog 38 [.imm 2 (l.map dH)] (.imm 2 (l.map dH)) := by
 refine aP Tryz.func38 rfl Tryz.ntmps38 rfl fun B => ?_
 have hml : (l.map dH).length = l.length := Gu ..
 repeat' (first|refine ah ?_|refine a7 ?_|refine a8 ?_|refine aa ?_|refine ae a6 rfl rfl ?_)
 refine jm a6 rfl rfl rfl rfl rfl fun b hb => ?_
 repeat' (first|refine a8 ?_|refine aa ?_)
 cases b with
 | true =>
  rw [hb rfl]
  repeat' (first|refine ah ?_|refine a7 ?_|refine ar ?_|refine a8 ?_|refine aF ?_|refine aa ?_|refine ae a6 rfl rfl ?_|refine bQ rfl ?_)
  refine ba (bg (t := 2) (c' := .imm 2 []) rfl fun σ v h => fw 2 h) ?_
  exact aA rfl rfl rfl
 | false =>
  repeat' (first|refine ah ?_|refine a7 ?_|refine au ?_|refine a8 ?_|refine ae a6 rfl rfl ?_|refine jU (d := 5) a6 fun _=>?_|refine bv rfl ?_)
  refine bF a6 [] rfl rfl rfl rfl (Gm _) (by rw [Gu]; simp; omega) (by rw [Gu]; simp; omega) rfl fun k' => ?_
  repeat' (first|refine ar ?_|refine a8 ?_|refine aa ?_|refine ae a6 rfl rfl ?_)
  refine ba (bg (t := 2) (c' := .imm 2 (l.map dH)) rfl fun σ v h => VR.im h) ?_
  refine cO (List.nil_sublist _) ?_
  exact aA rfl rfl rfl
theorem uZ (l : List Int) (hl : l.length ≤ 1000000) : bO Tryz.prog 39 [.imm 1 (l.map fT)] (.imm 1 (l.map fT)) := by
 refine aP Tryz.func39 rfl Tryz.ntmps39 rfl fun B => ?_
 have hml : (l.map fT).length = l.length := Gu ..
 repeat' (first|refine ah ?_|refine a7 ?_|refine a8 ?_|refine aa ?_|refine ae a6 rfl rfl ?_)
 refine jm a6 rfl rfl rfl rfl rfl fun b hb => ?_
 repeat' (first|refine a8 ?_|refine aa ?_)
 cases b with
 | true =>
  rw [hb rfl]
  repeat' (first|refine ah ?_|refine a7 ?_|refine ar ?_|refine a8 ?_|refine aF ?_|refine aa ?_|refine ae a6 rfl rfl ?_|refine bQ rfl ?_)
  refine ba (bg (t := 2) (c' := .imm 1 []) rfl fun σ v h => fw 1 h) ?_
  exact aA rfl rfl rfl
 | false =>
  repeat' (first|refine ah ?_|refine a7 ?_|refine au ?_|refine a8 ?_|refine ae a6 rfl rfl ?_|refine jU (d := 5) a6 fun _=>?_|refine bv rfl ?_)
  refine bF a6 [] rfl rfl rfl rfl (Gm _) (by rw [Gu]; simp; omega) (by rw [Gu]; simp; omega) rfl fun k' => ?_
  repeat' (first|refine ar ?_|refine a8 ?_|refine aa ?_|refine ae a6 rfl rfl ?_)
  refine ba (bg (t := 2) (c' := .imm 1 (l.map fT)) rfl fun σ v h => VR.im h) ?_
  refine cO (List.nil_sublist _) ?_
  exact aA rfl rfl rfl
theorem Aj (l : List ei) (hl : l.length ≤ 1000000) : bO Tryz.prog 67 [.imm 3 (l.map cP)] (.imm 3 (l.map cP)) := by
 refine aP Tryz.func67 rfl Tryz.ntmps67 rfl fun B => ?_
 have hml : (l.map cP).length = l.length := Gu ..
 repeat' (first|refine ah ?_|refine a7 ?_|refine a8 ?_|refine aa ?_|refine ae a6 rfl rfl ?_)
 refine jm a6 rfl rfl rfl rfl rfl fun b hb => ?_
 repeat' (first|refine a8 ?_|refine aa ?_)
 cases b with
 | true =>
  rw [hb rfl]
  repeat' (first|refine ah ?_|refine a7 ?_|refine ar ?_|refine a8 ?_|refine aF ?_|refine aa ?_|refine ae a6 rfl rfl ?_|refine bQ rfl ?_)
  refine ba (bg (t := 2) (c' := .imm 3 []) rfl fun σ v h => fw 3 h) ?_
  exact aA rfl rfl rfl
 | false =>
  repeat' (first|refine ah ?_|refine a7 ?_|refine au ?_|refine a8 ?_|refine ae a6 rfl rfl ?_|refine jU (d := 5) a6 fun _=>?_|refine bv rfl ?_)
  refine bF a6 [] rfl rfl rfl rfl (Gm _) (by rw [Gu]; simp; omega) (by rw [Gu]; simp; omega) rfl fun k' => ?_
  repeat' (first|refine ar ?_|refine a8 ?_|refine aa ?_|refine ae a6 rfl rfl ?_)
  refine ba (bg (t := 2) (c' := .imm 3 (l.map cP)) rfl fun σ v h => VR.im h) ?_
  refine cO (List.nil_sublist _) ?_
  exact aA rfl rfl rfl
theorem Al (l : List dt) (hl : l.length ≤ 1000000) : bO Tryz.prog 71 [.imm 4 (l.map ct)] (.imm 4 (l.map ct)) := by
 refine aP Tryz.func71 rfl Tryz.ntmps71 rfl fun B => ?_
 have hml : (l.map ct).length = l.length := Gu ..
 repeat' (first|refine ah ?_|refine a7 ?_|refine a8 ?_|refine aa ?_|refine ae a6 rfl rfl ?_)
 refine jm a6 rfl rfl rfl rfl rfl fun b hb => ?_
 repeat' (first|refine a8 ?_|refine aa ?_)
 cases b with
 | true =>
  rw [hb rfl]
  repeat' (first|refine ah ?_|refine a7 ?_|refine ar ?_|refine a8 ?_|refine aF ?_|refine aa ?_|refine ae a6 rfl rfl ?_|refine bQ rfl ?_)
  refine ba (bg (t := 2) (c' := .imm 4 []) rfl fun σ v h => fw 4 h) ?_
  exact aA rfl rfl rfl
 | false =>
  repeat' (first|refine ah ?_|refine a7 ?_|refine au ?_|refine a8 ?_|refine ae a6 rfl rfl ?_|refine jU (d := 5) a6 fun _=>?_|refine bv rfl ?_)
  refine bF a6 [] rfl rfl rfl rfl (Gm _) (by rw [Gu]; simp; omega) (by rw [Gu]; simp; omega) rfl fun k' => ?_
  repeat' (first|refine ar ?_|refine a8 ?_|refine aa ?_|refine ae a6 rfl rfl ?_)
  refine ba (bg (t := 2) (c' := .imm 4 (l.map ct)) rfl fun σ v h => VR.im h) ?_
  refine cO (List.nil_sublist _) ?_
  exact aA rfl rfl rfl
theorem Am (l : List dB) (hl : l.length ≤ 1000000) : bO Tryz.prog 72 [.imm 4 (l.map cW)] (.imm 4 (l.map cW)) := by
 refine aP Tryz.func72 rfl Tryz.ntmps72 rfl fun B => ?_
 have hml : (l.map cW).length = l.length := Gu ..
 repeat' (first|refine ah ?_|refine a7 ?_|refine a8 ?_|refine aa ?_|refine ae a6 rfl rfl ?_)
 refine jm a6 rfl rfl rfl rfl rfl fun b hb => ?_
 repeat' (first|refine a8 ?_|refine aa ?_)
 cases b with
 | true =>
  rw [hb rfl]
  repeat' (first|refine ah ?_|refine a7 ?_|refine ar ?_|refine a8 ?_|refine aF ?_|refine aa ?_|refine ae a6 rfl rfl ?_|refine bQ rfl ?_)
  refine ba (bg (t := 2) (c' := .imm 4 []) rfl fun σ v h => fw 4 h) ?_
  exact aA rfl rfl rfl
 | false =>
  repeat' (first|refine ah ?_|refine a7 ?_|refine au ?_|refine a8 ?_|refine ae a6 rfl rfl ?_|refine jU (d := 5) a6 fun _=>?_|refine bv rfl ?_)
  refine bF a6 [] rfl rfl rfl rfl (Gm _) (by rw [Gu]; simp; omega) (by rw [Gu]; simp; omega) rfl fun k' => ?_
  repeat' (first|refine ar ?_|refine a8 ?_|refine aa ?_|refine ae a6 rfl rfl ?_)
  refine ba (bg (t := 2) (c' := .imm 4 (l.map cW)) rfl fun σ v h => VR.im h) ?_
  refine cO (List.nil_sublist _) ?_
  exact aA rfl rfl rfl
end Go.Proofs.YtjjpkibjffmceaaGreat
