/-
  The program: what is made of each thing of a row, and rows that are copied, for each type.
-/
import Derived.Test.YtjjpkibjffmceaaGreatM11
import Derived.Test.YtjjpkibjffmceaaGreatM08
namespace Go.Proofs.YtjjpkibjffmceaaGreat
open Go.RowKit
attribute [local irreducible] AT bV AX AO Av Kt bC eH DA dl
theorem g7 {α β : Type} {w : α → Option β} {l : List α} {i : Nat} {x : α} (h : l[i]? = some x) : (l.take (i + 1)).filterMap w = (l.take i).filterMap w ++ (w x).toList := by
 rw [List.take_add_one, h, Option.toList_some, List.filterMap_append]
 rfl
theorem ip {α β : Type} (w : α → Option β) (l : List α) (i : Nat) : ((l.take i).filterMap w).length ≤ i := Nat.le_trans (List.length_filterMap_le ..) (by rw [List.length_take]; omega)
theorem Dq {u : AV} (hu : kl u = true) (l : List Int) (hl : l.length ≤ 1000000) (w : Int → Option bo) (L0 : AL) (hw : ∀ x ∈ l, jn Tryz.prog u [aM x] L0 fun c L => (∃ y b, c = .tup [.agg (bA y), cO b] ∧ w x = if b = true then some y else none) ∧ L = L0) :
  AC Tryz.prog 25 [.imm 1 (l.map gi), u] L0 fun r L => r = .imm 9 ((l.filterMap w).map bA) ∧ L = L0 := by
 refine aQ Tryz.func25 rfl Tryz.ntmps25 rfl fun B => ?_
 have hml : (l.map gi).length = l.length := Gu ..
 repeat' (first|refine ae ?_|refine a6 ?_|refine ak ?_|refine a7 ?_|refine a8 ?_|refine aa a2 rfl rfl ?_)
 refine bI (bi (t := 5) (c' := .vec none 9 []) rfl fun σ v h => cy 9 h) ?_
 refine aJ [1, 10, 11] (α := Nat × Option (Nat × Nat)) (fun x => [(12, aM x.1), (5, .vec x.2 9 (((l.take x.1).filterMap w).map bA))]) (fun x => x.1 ≤ l.length) (fun x => tok x.2 63 9 (((l.take x.1).filterMap w).map bA).length ++ L0) (fun x => l.length - x.1) (0, none) rfl ⟨rfl, rfl, trivial⟩ (Nat.zero_le _) (fun _ _ h => h) ?_
 rintro ⟨i, k⟩ hi
 dsimp only at hi ⊢
 have hfl := ip w l i
 have hmm : (((l.take i).filterMap w).map bA).length = ((l.take i).filterMap w).length := Gu ..
 try dsimp only [Gr, Gq, Gp, Gj]
 repeat' (first|refine ae ?_|refine a6 ?_|refine a7 ?_|refine a8 ?_|refine aa a2 rfl rfl ?_)
 refine aw rfl (fun h => ?_) (fun h => ?_)
 ·have hil : i < l.length := by have := Gz h; omega
  obtain ⟨x, hx⟩ : ∃ z, l[i]? = some z := ⟨_, Ee hil⟩
  have hxg := bn (c := gi) hx
  have hstep := g7 (w := w) hx
  clear h
  repeat' (first|refine ae ?_|refine a6 ?_|refine ak ?_|refine ar ?_|refine a7 ?_|refine a8 ?_|refine aa a2 rfl rfl ?_|(apply aX; first|refine aW a2 ?_|refine aP a2 ?_)|fail)
  refine gc L0 (tok k 63 9 (((l.take i).filterMap w).map bA).length) (hw x (Gx hx)) rfl rfl List.perm_append_comm rfl rfl fun c L1 ⟨⟨y, b, hc, hb⟩, hL⟩ => ?_
  subst hc; subst hL
  refine aN (aK List.perm_append_comm) ?_
  cases b with
  | true =>
   rw [if_pos rfl] at hb
   rw [hb, Option.toList_some] at hstep
   repeat' (first|refine ae ?_|refine a6 ?_|refine a7 ?_|refine a8 ?_|refine aa a2 rfl rfl ?_|(apply aG; first|refine ah 8 a2 0 rfl rfl rfl rfl rfl rfl rfl rfl ?_|refine ah 8 a2 1 rfl rfl rfl rfl rfl rfl rfl rfl ?_|refine ah 8 a2 2 rfl rfl rfl rfl rfl rfl rfl rfl ?_|refine ai a2 0 rfl rfl rfl rfl rfl rfl rfl ?_|refine ai a2 1 rfl rfl rfl rfl rfl rfl rfl ?_|refine ai a2 2 rfl rfl rfl rfl rfl rfl rfl ?_|refine ai a2 3 rfl rfl rfl rfl rfl rfl rfl ?_|fail)|refine b7 a2 fun _=>?_|refine bG a2 ?_|refine bS rfl ?_)
   refine bE a2 L1 rfl rfl rfl rfl (Gm _) (by rw [hmm]; simp; omega) (by rw [hmm]; simp; omega) rfl fun k' => ?_
   repeat' (first|refine a6 ?_|refine a7 ?_|refine aH ?_|refine a8 ?_|refine aa a2 rfl rfl ?_|(apply aV; refine aU ?_)|fail)
   have hap : ((l.take i).filterMap w).map bA ++ [bA y] = ((l.take (i + 1)).filterMap w).map bA := by rw [hstep, List.map_append]; rfl
   exact aB (i + 1, k') rfl ⟨by rw [Gw]; rfl, by rw [← hap]; rfl, trivial⟩ (by dsimp only; omega) (by dsimp only; omega) (fun _ _ h => by dsimp only; rw [← hap]; exact h)
  | false =>
   rw [if_neg (by decide)] at hb
   rw [hb] at hstep
   have hstep : (l.take (i + 1)).filterMap w = (l.take i).filterMap w := by rw [hstep]; simp
   repeat' (first|refine ae ?_|refine a6 ?_|refine ar ?_|refine a7 ?_|refine aH ?_|refine a8 ?_|refine aa a2 rfl rfl ?_|(apply aV; refine aU ?_)|(apply aG; first|refine ah 8 a2 0 rfl rfl rfl rfl rfl rfl rfl rfl ?_|refine ah 8 a2 1 rfl rfl rfl rfl rfl rfl rfl rfl ?_|refine ah 8 a2 2 rfl rfl rfl rfl rfl rfl rfl rfl ?_|refine ai a2 0 rfl rfl rfl rfl rfl rfl rfl ?_|refine ai a2 1 rfl rfl rfl rfl rfl rfl rfl ?_|refine ai a2 2 rfl rfl rfl rfl rfl rfl rfl ?_|refine ai a2 3 rfl rfl rfl rfl rfl rfl rfl ?_|fail)|refine b7 a2 fun _=>?_|refine bN rfl ?_)
   exact aB (i + 1, k) rfl ⟨by rw [Gw]; rfl, by rw [hstep]; rfl, trivial⟩ (by dsimp only; omega) (by dsimp only; omega) (fun _ _ h => by dsimp only; rw [hstep]; exact h)
 have hil : i = l.length := by have := Gy h; omega
 subst hil
 rw [List.take_length]
 repeat' (first|refine ae ?_|refine a6 ?_|refine aq ?_|refine aO ?_|refine a7 ?_|refine au ?_|refine ay ?_|refine av ?_|refine a8 ?_|refine aa a2 rfl rfl ?_)
 refine be (bi (t := 4) (c' := .imm 9 ((l.filterMap w).map bA)) rfl fun σ v h => VR.im h) ?_
 refine cY (List.sublist_append_right ..) ?_
 exact aA rfl rfl ⟨rfl, rfl⟩
theorem Dr {u : AV} (hu : kl u = true) (l : List Int) (hl : l.length ≤ 1000000) (w : Int → Option ba) (L0 : AL) (hw : ∀ x ∈ l, jn Tryz.prog u [aM x] L0 fun c L => (∃ y b, c = .tup [.agg (bj y), cO b] ∧ w x = if b = true then some y else none) ∧ L = L0) :
  AC Tryz.prog 29 [.imm 1 (l.map gi), u] L0 fun r L => r = .imm 3 ((l.filterMap w).map bj) ∧ L = L0 := by
 refine aQ Tryz.func29 rfl Tryz.ntmps29 rfl fun B => ?_
 have hml : (l.map gi).length = l.length := Gu ..
 repeat' (first|refine ae ?_|refine a6 ?_|refine ak ?_|refine a7 ?_|refine a8 ?_|refine aa a2 rfl rfl ?_)
 refine bI (bi (t := 5) (c' := .vec none 3 []) rfl fun σ v h => cy 3 h) ?_
 refine aJ [1, 10, 11] (α := Nat × Option (Nat × Nat)) (fun x => [(12, aM x.1), (5, .vec x.2 3 (((l.take x.1).filterMap w).map bj))]) (fun x => x.1 ≤ l.length) (fun x => tok x.2 77 3 (((l.take x.1).filterMap w).map bj).length ++ L0) (fun x => l.length - x.1) (0, none) rfl ⟨rfl, rfl, trivial⟩ (Nat.zero_le _) (fun _ _ h => h) ?_
 rintro ⟨i, k⟩ hi
 dsimp only at hi ⊢
 have hfl := ip w l i
 have hmm : (((l.take i).filterMap w).map bj).length = ((l.take i).filterMap w).length := Gu ..
 try dsimp only [Gr, Gq, Gp, Gj]
 repeat' (first|refine ae ?_|refine a6 ?_|refine a7 ?_|refine a8 ?_|refine aa a2 rfl rfl ?_)
 refine aw rfl (fun h => ?_) (fun h => ?_)
 ·have hil : i < l.length := by have := Gz h; omega
  obtain ⟨x, hx⟩ : ∃ z, l[i]? = some z := ⟨_, Ee hil⟩
  have hxg := bn (c := gi) hx
  have hstep := g7 (w := w) hx
  clear h
  repeat' (first|refine ae ?_|refine a6 ?_|refine ak ?_|refine ar ?_|refine a7 ?_|refine a8 ?_|refine aa a2 rfl rfl ?_|(apply aX; first|refine aW a2 ?_|refine aP a2 ?_)|fail)
  refine gc L0 (tok k 77 3 (((l.take i).filterMap w).map bj).length) (hw x (Gx hx)) rfl rfl List.perm_append_comm rfl rfl fun c L1 ⟨⟨y, b, hc, hb⟩, hL⟩ => ?_
  subst hc; subst hL
  refine aN (aK List.perm_append_comm) ?_
  cases b with
  | true =>
   rw [if_pos rfl] at hb
   rw [hb, Option.toList_some] at hstep
   repeat' (first|refine ae ?_|refine a6 ?_|refine a7 ?_|refine a8 ?_|refine aa a2 rfl rfl ?_|(apply aG; first|refine ah 8 a2 0 rfl rfl rfl rfl rfl rfl rfl rfl ?_|refine ah 8 a2 1 rfl rfl rfl rfl rfl rfl rfl rfl ?_|refine ah 8 a2 2 rfl rfl rfl rfl rfl rfl rfl rfl ?_|refine ai a2 0 rfl rfl rfl rfl rfl rfl rfl ?_|refine ai a2 1 rfl rfl rfl rfl rfl rfl rfl ?_|refine ai a2 2 rfl rfl rfl rfl rfl rfl rfl ?_|refine ai a2 3 rfl rfl rfl rfl rfl rfl rfl ?_|fail)|refine b7 a2 fun _=>?_|refine bG a2 ?_|refine bS rfl ?_)
   refine bE a2 L1 rfl rfl rfl rfl (Gm _) (by rw [hmm]; simp; omega) (by rw [hmm]; simp; omega) rfl fun k' => ?_
   repeat' (first|refine a6 ?_|refine a7 ?_|refine aH ?_|refine a8 ?_|refine aa a2 rfl rfl ?_|(apply aV; refine aU ?_)|fail)
   have hap : ((l.take i).filterMap w).map bj ++ [bj y] = ((l.take (i + 1)).filterMap w).map bj := by rw [hstep, List.map_append]; rfl
   exact aB (i + 1, k') rfl ⟨by rw [Gw]; rfl, by rw [← hap]; rfl, trivial⟩ (by dsimp only; omega) (by dsimp only; omega) (fun _ _ h => by dsimp only; rw [← hap]; exact h)
  | false =>
   rw [if_neg (by decide)] at hb
   rw [hb] at hstep
   have hstep : (l.take (i + 1)).filterMap w = (l.take i).filterMap w := by rw [hstep]; simp
   repeat' (first|refine ae ?_|refine a6 ?_|refine ar ?_|refine a7 ?_|refine aH ?_|refine a8 ?_|refine aa a2 rfl rfl ?_|(apply aV; refine aU ?_)|(apply aG; first|refine ah 8 a2 0 rfl rfl rfl rfl rfl rfl rfl rfl ?_|refine ah 8 a2 1 rfl rfl rfl rfl rfl rfl rfl rfl ?_|refine ah 8 a2 2 rfl rfl rfl rfl rfl rfl rfl rfl ?_|refine ai a2 0 rfl rfl rfl rfl rfl rfl rfl ?_|refine ai a2 1 rfl rfl rfl rfl rfl rfl rfl ?_|refine ai a2 2 rfl rfl rfl rfl rfl rfl rfl ?_|refine ai a2 3 rfl rfl rfl rfl rfl rfl rfl ?_|fail)|refine b7 a2 fun _=>?_|refine bN rfl ?_)
   exact aB (i + 1, k) rfl ⟨by rw [Gw]; rfl, by rw [hstep]; rfl, trivial⟩ (by dsimp only; omega) (by dsimp only; omega) (fun _ _ h => by dsimp only; rw [hstep]; exact h)
 have hil : i = l.length := by have := Gy h; omega
 subst hil
 rw [List.take_length]
 repeat' (first|refine ae ?_|refine a6 ?_|refine aq ?_|refine aO ?_|refine a7 ?_|refine au ?_|refine ay ?_|refine av ?_|refine a8 ?_|refine aa a2 rfl rfl ?_)
 refine be (bi (t := 4) (c' := .imm 3 ((l.filterMap w).map bj)) rfl fun σ v h => VR.im h) ?_
 refine cY (List.sublist_append_right ..) ?_
 exact aA rfl rfl ⟨rfl, rfl⟩
theorem Ds {u : AV} (hu : kl u = true) (l : List (List ea)) (hl : l.length ≤ 1000000) (w : (List ea) → Option (List ea)) (L0 : AL) (hw : ∀ x ∈ l, jn Tryz.prog u [.agg (bk x)] L0 fun c L => (∃ y b, c = .tup [.agg (bk y), cO b] ∧ w x = if b = true then some y else none) ∧ L = L0) :
  AC Tryz.prog 33 [.imm 1 (l.map bk), u] L0 fun r L => r = .imm 1 ((l.filterMap w).map bk) ∧ L = L0 := by
 refine aQ Tryz.func33 rfl Tryz.ntmps33 rfl fun B => ?_
 have hml : (l.map bk).length = l.length := Gu ..
 repeat' (first|refine ae ?_|refine a6 ?_|refine ak ?_|refine a7 ?_|refine a8 ?_|refine aa a2 rfl rfl ?_)
 refine bI (bi (t := 5) (c' := .vec none 1 []) rfl fun σ v h => cy 1 h) ?_
 refine aJ [1, 10, 11] (α := Nat × Option (Nat × Nat)) (fun x => [(12, aM x.1), (5, .vec x.2 1 (((l.take x.1).filterMap w).map bk))]) (fun x => x.1 ≤ l.length) (fun x => tok x.2 98 1 (((l.take x.1).filterMap w).map bk).length ++ L0) (fun x => l.length - x.1) (0, none) rfl ⟨rfl, rfl, trivial⟩ (Nat.zero_le _) (fun _ _ h => h) ?_
 rintro ⟨i, k⟩ hi
 dsimp only at hi ⊢
 have hfl := ip w l i
 have hmm : (((l.take i).filterMap w).map bk).length = ((l.take i).filterMap w).length := Gu ..
 try dsimp only [Gr, Gq, Gp, Gj]
 repeat' (first|refine ae ?_|refine a6 ?_|refine a7 ?_|refine a8 ?_|refine aa a2 rfl rfl ?_)
 refine aw rfl (fun h => ?_) (fun h => ?_)
 ·have hil : i < l.length := by have := Gz h; omega
  obtain ⟨x, hx⟩ : ∃ z, l[i]? = some z := ⟨_, Ee hil⟩
  have hxg := bn (c := bk) hx
  have hstep := g7 (w := w) hx
  clear h
  repeat' (first|refine ae ?_|refine a6 ?_|refine ak ?_|refine ar ?_|refine a7 ?_|refine a8 ?_|refine aa a2 rfl rfl ?_|(apply aX; first|refine aW a2 ?_|refine aP a2 ?_)|(apply aG; first|refine ah 7 a2 0 rfl rfl rfl rfl rfl rfl rfl rfl ?_|refine ah 7 a2 1 rfl rfl rfl rfl rfl rfl rfl rfl ?_|refine ah 7 a2 2 rfl rfl rfl rfl rfl rfl rfl rfl ?_|refine ah 8 a2 0 rfl rfl rfl rfl rfl rfl rfl rfl ?_|refine ah 8 a2 1 rfl rfl rfl rfl rfl rfl rfl rfl ?_|refine ah 8 a2 2 rfl rfl rfl rfl rfl rfl rfl rfl ?_|refine ai a2 0 rfl rfl rfl rfl rfl rfl rfl ?_|refine ai a2 1 rfl rfl rfl rfl rfl rfl rfl ?_|refine ai a2 2 rfl rfl rfl rfl rfl rfl rfl ?_|refine ai a2 3 rfl rfl rfl rfl rfl rfl rfl ?_|fail)|refine b7 a2 fun _=>?_|fail)
  refine gc L0 (tok k 98 1 (((l.take i).filterMap w).map bk).length) (hw x (Gx hx)) rfl rfl List.perm_append_comm rfl rfl fun c L1 ⟨⟨y, b, hc, hb⟩, hL⟩ => ?_
  subst hc; subst hL
  refine aN (aK List.perm_append_comm) ?_
  cases b with
  | true =>
   rw [if_pos rfl] at hb
   rw [hb, Option.toList_some] at hstep
   repeat' (first|refine ae ?_|refine a6 ?_|refine a7 ?_|refine a8 ?_|refine aa a2 rfl rfl ?_|(apply aG; first|refine ah 7 a2 0 rfl rfl rfl rfl rfl rfl rfl rfl ?_|refine ah 7 a2 1 rfl rfl rfl rfl rfl rfl rfl rfl ?_|refine ah 7 a2 2 rfl rfl rfl rfl rfl rfl rfl rfl ?_|refine ah 8 a2 0 rfl rfl rfl rfl rfl rfl rfl rfl ?_|refine ah 8 a2 1 rfl rfl rfl rfl rfl rfl rfl rfl ?_|refine ah 8 a2 2 rfl rfl rfl rfl rfl rfl rfl rfl ?_|refine ai a2 0 rfl rfl rfl rfl rfl rfl rfl ?_|refine ai a2 1 rfl rfl rfl rfl rfl rfl rfl ?_|refine ai a2 2 rfl rfl rfl rfl rfl rfl rfl ?_|refine ai a2 3 rfl rfl rfl rfl rfl rfl rfl ?_|fail)|refine b7 a2 fun _=>?_|refine bG a2 ?_|refine bS rfl ?_)
   refine bE a2 L1 rfl rfl rfl rfl (Gm _) (by rw [hmm]; simp; omega) (by rw [hmm]; simp; omega) rfl fun k' => ?_
   repeat' (first|refine a6 ?_|refine a7 ?_|refine aH ?_|refine a8 ?_|refine aa a2 rfl rfl ?_|(apply aV; refine aU ?_)|fail)
   have hap : ((l.take i).filterMap w).map bk ++ [bk y] = ((l.take (i + 1)).filterMap w).map bk := by rw [hstep, List.map_append]; rfl
   exact aB (i + 1, k') rfl ⟨by rw [Gw]; rfl, by rw [← hap]; rfl, trivial⟩ (by dsimp only; omega) (by dsimp only; omega) (fun _ _ h => by dsimp only; rw [← hap]; exact h)
  | false =>
   rw [if_neg (by decide)] at hb
   rw [hb] at hstep
   have hstep : (l.take (i + 1)).filterMap w = (l.take i).filterMap w := by rw [hstep]; simp
   repeat' (first|refine ae ?_|refine a6 ?_|refine ar ?_|refine a7 ?_|refine aH ?_|refine a8 ?_|refine aa a2 rfl rfl ?_|(apply aV; refine aU ?_)|(apply aG; first|refine ah 7 a2 0 rfl rfl rfl rfl rfl rfl rfl rfl ?_|refine ah 7 a2 1 rfl rfl rfl rfl rfl rfl rfl rfl ?_|refine ah 7 a2 2 rfl rfl rfl rfl rfl rfl rfl rfl ?_|refine ah 8 a2 0 rfl rfl rfl rfl rfl rfl rfl rfl ?_|refine ah 8 a2 1 rfl rfl rfl rfl rfl rfl rfl rfl ?_|refine ah 8 a2 2 rfl rfl rfl rfl rfl rfl rfl rfl ?_|refine ai a2 0 rfl rfl rfl rfl rfl rfl rfl ?_|refine ai a2 1 rfl rfl rfl rfl rfl rfl rfl ?_|refine ai a2 2 rfl rfl rfl rfl rfl rfl rfl ?_|refine ai a2 3 rfl rfl rfl rfl rfl rfl rfl ?_|fail)|refine b7 a2 fun _=>?_|refine bN rfl ?_)
   exact aB (i + 1, k) rfl ⟨by rw [Gw]; rfl, by rw [hstep]; rfl, trivial⟩ (by dsimp only; omega) (by dsimp only; omega) (fun _ _ h => by dsimp only; rw [hstep]; exact h)
 have hil : i = l.length := by have := Gy h; omega
 subst hil
 rw [List.take_length]
 repeat' (first|refine ae ?_|refine a6 ?_|refine aq ?_|refine aO ?_|refine a7 ?_|refine au ?_|refine ay ?_|refine av ?_|refine a8 ?_|refine aa a2 rfl rfl ?_)
 refine be (bi (t := 4) (c' := .imm 1 ((l.filterMap w).map bk)) rfl fun σ v h => VR.im h) ?_
 refine cY (List.sublist_append_right ..) ?_
 exact aA rfl rfl ⟨rfl, rfl⟩
theorem Dt {u : AV} (hu : kl u = true) (l : List (List ew)) (hl : l.length ≤ 1000000) (w : (List ew) → Option (List ew)) (L0 : AL) (hw : ∀ x ∈ l, jn Tryz.prog u [.imm 2 (x.map dS)] L0 fun c L => (∃ y b, c = .tup [.imm 2 (y.map dS), cO b] ∧ w x = if b = true then some y else none) ∧ L = L0) :
  AC Tryz.prog 36 [.imm 1 (l.map cM), u] L0 fun r L => r = .imm 1 ((l.filterMap w).map cM) ∧ L = L0 := by
 refine aQ Tryz.func36 rfl Tryz.ntmps36 rfl fun B => ?_
 have hml : (l.map cM).length = l.length := Gu ..
 repeat' (first|refine ae ?_|refine a6 ?_|refine ak ?_|refine a7 ?_|refine a8 ?_|refine aa a2 rfl rfl ?_)
 refine bI (bi (t := 5) (c' := .vec none 1 []) rfl fun σ v h => cy 1 h) ?_
 refine aJ [1, 10, 11] (α := Nat × Option (Nat × Nat)) (fun x => [(12, aM x.1), (5, .vec x.2 1 (((l.take x.1).filterMap w).map cM))]) (fun x => x.1 ≤ l.length) (fun x => tok x.2 61 1 (((l.take x.1).filterMap w).map cM).length ++ L0) (fun x => l.length - x.1) (0, none) rfl ⟨rfl, rfl, trivial⟩ (Nat.zero_le _) (fun _ _ h => h) ?_
 rintro ⟨i, k⟩ hi
 dsimp only at hi ⊢
 have hfl := ip w l i
 have hmm : (((l.take i).filterMap w).map cM).length = ((l.take i).filterMap w).length := Gu ..
 try dsimp only [Gr, Gq, Gp, Gj]
 repeat' (first|refine ae ?_|refine a6 ?_|refine a7 ?_|refine a8 ?_|refine aa a2 rfl rfl ?_)
 refine aw rfl (fun h => ?_) (fun h => ?_)
 ·have hil : i < l.length := by have := Gz h; omega
  obtain ⟨x, hx⟩ : ∃ z, l[i]? = some z := ⟨_, Ee hil⟩
  have hxg := bn (c := cM) hx
  have hstep := g7 (w := w) hx
  clear h
  repeat' (first|refine ae ?_|refine a6 ?_|refine ak ?_|refine ar ?_|refine a7 ?_|refine a8 ?_|refine aa a2 rfl rfl ?_|(apply aX; first|refine aW a2 ?_|refine aP a2 ?_)|fail)
  refine gc L0 (tok k 61 1 (((l.take i).filterMap w).map cM).length) (hw x (Gx hx)) rfl rfl List.perm_append_comm rfl rfl fun c L1 ⟨⟨y, b, hc, hb⟩, hL⟩ => ?_
  subst hc; subst hL
  refine aN (aK List.perm_append_comm) ?_
  cases b with
  | true =>
   rw [if_pos rfl] at hb
   rw [hb, Option.toList_some] at hstep
   repeat' (first|refine ae ?_|refine a6 ?_|refine a7 ?_|refine a8 ?_|refine aa a2 rfl rfl ?_|refine bG a2 ?_|refine bS rfl ?_)
   refine bE a2 L1 rfl rfl rfl rfl (Gm _) (by rw [hmm]; simp; omega) (by rw [hmm]; simp; omega) rfl fun k' => ?_
   repeat' (first|refine a6 ?_|refine a7 ?_|refine aH ?_|refine a8 ?_|refine aa a2 rfl rfl ?_|(apply aV; refine aU ?_)|fail)
   have hap : ((l.take i).filterMap w).map cM ++ [cM y] = ((l.take (i + 1)).filterMap w).map cM := by rw [hstep, List.map_append]; rfl
   exact aB (i + 1, k') rfl ⟨by rw [Gw]; rfl, by rw [← hap]; rfl, trivial⟩ (by dsimp only; omega) (by dsimp only; omega) (fun _ _ h => by dsimp only; rw [← hap]; exact h)
  | false =>
   rw [if_neg (by decide)] at hb
   rw [hb] at hstep
   have hstep : (l.take (i + 1)).filterMap w = (l.take i).filterMap w := by rw [hstep]; simp
   repeat' (first|refine ae ?_|refine a6 ?_|refine ar ?_|refine a7 ?_|refine aH ?_|refine a8 ?_|refine aa a2 rfl rfl ?_|(apply aV; refine aU ?_)|refine bN rfl ?_)
   exact aB (i + 1, k) rfl ⟨by rw [Gw]; rfl, by rw [hstep]; rfl, trivial⟩ (by dsimp only; omega) (by dsimp only; omega) (fun _ _ h => by dsimp only; rw [hstep]; exact h)
 have hil : i = l.length := by have := Gy h; omega
 subst hil
 rw [List.take_length]
 repeat' (first|refine ae ?_|refine a6 ?_|refine aq ?_|refine aO ?_|refine a7 ?_|refine au ?_|refine ay ?_|refine av ?_|refine a8 ?_|refine aa a2 rfl rfl ?_)
 refine be (bi (t := 4) (c' := .imm 1 ((l.filterMap w).map cM)) rfl fun σ v h => VR.im h) ?_
 refine cY (List.sublist_append_right ..) ?_
 exact aA rfl rfl ⟨rfl, rfl⟩
theorem Du {u : AV} (hu : kl u = true) (l : List cR) (hl : l.length ≤ 1000000) (w : cR → Option cR) (L0 : AL) (hw : ∀ x ∈ l, jn Tryz.prog u [.agg (cN x)] L0 fun c L => (∃ y b, c = .tup [.agg (cN y), cO b] ∧ w x = if b = true then some y else none) ∧ L = L0) :
  AC Tryz.prog 68 [.imm 3 (l.map cN), u] L0 fun r L => r = .imm 3 ((l.filterMap w).map cN) ∧ L = L0 := by
 refine aQ Tryz.func68 rfl Tryz.ntmps68 rfl fun B => ?_
 have hml : (l.map cN).length = l.length := Gu ..
 repeat' (first|refine ae ?_|refine a6 ?_|refine ak ?_|refine a7 ?_|refine a8 ?_|refine aa a2 rfl rfl ?_)
 refine bI (bi (t := 5) (c' := .vec none 3 []) rfl fun σ v h => cy 3 h) ?_
 refine aJ [1, 10, 11] (α := Nat × Option (Nat × Nat)) (fun x => [(12, aM x.1), (5, .vec x.2 3 (((l.take x.1).filterMap w).map cN))]) (fun x => x.1 ≤ l.length) (fun x => tok x.2 65 3 (((l.take x.1).filterMap w).map cN).length ++ L0) (fun x => l.length - x.1) (0, none) rfl ⟨rfl, rfl, trivial⟩ (Nat.zero_le _) (fun _ _ h => h) ?_
 rintro ⟨i, k⟩ hi
 dsimp only at hi ⊢
 have hfl := ip w l i
 have hmm : (((l.take i).filterMap w).map cN).length = ((l.take i).filterMap w).length := Gu ..
 try dsimp only [Gr, Gq, Gp, Gj]
 repeat' (first|refine ae ?_|refine a6 ?_|refine a7 ?_|refine a8 ?_|refine aa a2 rfl rfl ?_)
 refine aw rfl (fun h => ?_) (fun h => ?_)
 ·have hil : i < l.length := by have := Gz h; omega
  obtain ⟨x, hx⟩ : ∃ z, l[i]? = some z := ⟨_, Ee hil⟩
  have hxg := bn (c := cN) hx
  have hstep := g7 (w := w) hx
  clear h
  repeat' (first|refine ae ?_|refine a6 ?_|refine ak ?_|refine ar ?_|refine a7 ?_|refine a8 ?_|refine aa a2 rfl rfl ?_|(apply aX; first|refine aW a2 ?_|refine aP a2 ?_)|(apply aG; first|refine ah 7 a2 0 rfl rfl rfl rfl rfl rfl rfl rfl ?_|refine ah 7 a2 1 rfl rfl rfl rfl rfl rfl rfl rfl ?_|refine ah 7 a2 2 rfl rfl rfl rfl rfl rfl rfl rfl ?_|refine ah 8 a2 0 rfl rfl rfl rfl rfl rfl rfl rfl ?_|refine ah 8 a2 1 rfl rfl rfl rfl rfl rfl rfl rfl ?_|refine ah 8 a2 2 rfl rfl rfl rfl rfl rfl rfl rfl ?_|refine ai a2 0 rfl rfl rfl rfl rfl rfl rfl ?_|refine ai a2 1 rfl rfl rfl rfl rfl rfl rfl ?_|refine ai a2 2 rfl rfl rfl rfl rfl rfl rfl ?_|refine ai a2 3 rfl rfl rfl rfl rfl rfl rfl ?_|fail)|refine b7 a2 fun _=>?_|fail)
  refine gc L0 (tok k 65 3 (((l.take i).filterMap w).map cN).length) (hw x (Gx hx)) rfl rfl List.perm_append_comm rfl rfl fun c L1 ⟨⟨y, b, hc, hb⟩, hL⟩ => ?_
  subst hc; subst hL
  refine aN (aK List.perm_append_comm) ?_
  cases b with
  | true =>
   rw [if_pos rfl] at hb
   rw [hb, Option.toList_some] at hstep
   repeat' (first|refine ae ?_|refine a6 ?_|refine a7 ?_|refine a8 ?_|refine aa a2 rfl rfl ?_|(apply aG; first|refine ah 7 a2 0 rfl rfl rfl rfl rfl rfl rfl rfl ?_|refine ah 7 a2 1 rfl rfl rfl rfl rfl rfl rfl rfl ?_|refine ah 7 a2 2 rfl rfl rfl rfl rfl rfl rfl rfl ?_|refine ah 8 a2 0 rfl rfl rfl rfl rfl rfl rfl rfl ?_|refine ah 8 a2 1 rfl rfl rfl rfl rfl rfl rfl rfl ?_|refine ah 8 a2 2 rfl rfl rfl rfl rfl rfl rfl rfl ?_|refine ai a2 0 rfl rfl rfl rfl rfl rfl rfl ?_|refine ai a2 1 rfl rfl rfl rfl rfl rfl rfl ?_|refine ai a2 2 rfl rfl rfl rfl rfl rfl rfl ?_|refine ai a2 3 rfl rfl rfl rfl rfl rfl rfl ?_|fail)|refine b7 a2 fun _=>?_|refine bG a2 ?_|refine bS rfl ?_)
   refine bE a2 L1 rfl rfl rfl rfl (Gm _) (by rw [hmm]; simp; omega) (by rw [hmm]; simp; omega) rfl fun k' => ?_
   repeat' (first|refine a6 ?_|refine a7 ?_|refine aH ?_|refine a8 ?_|refine aa a2 rfl rfl ?_|(apply aV; refine aU ?_)|fail)
   have hap : ((l.take i).filterMap w).map cN ++ [cN y] = ((l.take (i + 1)).filterMap w).map cN := by rw [hstep, List.map_append]; rfl
   exact aB (i + 1, k') rfl ⟨by rw [Gw]; rfl, by rw [← hap]; rfl, trivial⟩ (by dsimp only; omega) (by dsimp only; omega) (fun _ _ h => by dsimp only; rw [← hap]; exact h)
  | false =>
   rw [if_neg (by decide)] at hb
   rw [hb] at hstep
   have hstep : (l.take (i + 1)).filterMap w = (l.take i).filterMap w := by rw [hstep]; simp
   repeat' (first|refine ae ?_|refine a6 ?_|refine ar ?_|refine a7 ?_|refine aH ?_|refine a8 ?_|refine aa a2 rfl rfl ?_|(apply aV; refine aU ?_)|(apply aG; first|refine ah 7 a2 0 rfl rfl rfl rfl rfl rfl rfl rfl ?_|refine ah 7 a2 1 rfl rfl rfl rfl rfl rfl rfl rfl ?_|refine ah 7 a2 2 rfl rfl rfl rfl rfl rfl rfl rfl ?_|refine ah 8 a2 0 rfl rfl rfl rfl rfl rfl rfl rfl ?_|refine ah 8 a2 1 rfl rfl rfl rfl rfl rfl rfl rfl ?_|refine ah 8 a2 2 rfl rfl rfl rfl rfl rfl rfl rfl ?_|refine ai a2 0 rfl rfl rfl rfl rfl rfl rfl ?_|refine ai a2 1 rfl rfl rfl rfl rfl rfl rfl ?_|refine ai a2 2 rfl rfl rfl rfl rfl rfl rfl ?_|refine ai a2 3 rfl rfl rfl rfl rfl rfl rfl ?_|fail)|refine b7 a2 fun _=>?_|refine bN rfl ?_)
   exact aB (i + 1, k) rfl ⟨by rw [Gw]; rfl, by rw [hstep]; rfl, trivial⟩ (by dsimp only; omega) (by dsimp only; omega) (fun _ _ h => by dsimp only; rw [hstep]; exact h)
 have hil : i = l.length := by have := Gy h; omega
 subst hil
 rw [List.take_length]
 repeat' (first|refine ae ?_|refine a6 ?_|refine aq ?_|refine aO ?_|refine a7 ?_|refine au ?_|refine ay ?_|refine av ?_|refine a8 ?_|refine aa a2 rfl rfl ?_)
 refine be (bi (t := 4) (c' := .imm 3 ((l.filterMap w).map cN)) rfl fun σ v h => VR.im h) ?_
 refine cY (List.sublist_append_right ..) ?_
 exact aA rfl rfl ⟨rfl, rfl⟩
theorem Dv {u : AV} (hu : kl u = true) (l : List ep) (hl : l.length ≤ 1000000) (w : ep → Option ep) (L0 : AL) (hw : ∀ x ∈ l, jn Tryz.prog u [.agg (cw x)] L0 fun c L => (∃ y b, c = .tup [.agg (cw y), cO b] ∧ w x = if b = true then some y else none) ∧ L = L0) :
  AC Tryz.prog 73 [.imm 2 (l.map cw), u] L0 fun r L => r = .imm 2 ((l.filterMap w).map cw) ∧ L = L0 := by
 refine aQ Tryz.func73 rfl Tryz.ntmps73 rfl fun B => ?_
 have hml : (l.map cw).length = l.length := Gu ..
 repeat' (first|refine ae ?_|refine a6 ?_|refine ak ?_|refine a7 ?_|refine a8 ?_|refine aa a2 rfl rfl ?_)
 refine bI (bi (t := 5) (c' := .vec none 2 []) rfl fun σ v h => cy 2 h) ?_
 refine aJ [1, 10, 11] (α := Nat × Option (Nat × Nat)) (fun x => [(12, aM x.1), (5, .vec x.2 2 (((l.take x.1).filterMap w).map cw))]) (fun x => x.1 ≤ l.length) (fun x => tok x.2 68 2 (((l.take x.1).filterMap w).map cw).length ++ L0) (fun x => l.length - x.1) (0, none) rfl ⟨rfl, rfl, trivial⟩ (Nat.zero_le _) (fun _ _ h => h) ?_
 rintro ⟨i, k⟩ hi
 dsimp only at hi ⊢
 have hfl := ip w l i
 have hmm : (((l.take i).filterMap w).map cw).length = ((l.take i).filterMap w).length := Gu ..
 try dsimp only [Gr, Gq, Gp, Gj]
 repeat' (first|refine ae ?_|refine a6 ?_|refine a7 ?_|refine a8 ?_|refine aa a2 rfl rfl ?_)
 refine aw rfl (fun h => ?_) (fun h => ?_)
 ·have hil : i < l.length := by have := Gz h; omega
  obtain ⟨x, hx⟩ : ∃ z, l[i]? = some z := ⟨_, Ee hil⟩
  have hxg := bn (c := cw) hx
  have hstep := g7 (w := w) hx
  clear h
  repeat' (first|refine ae ?_|refine a6 ?_|refine ak ?_|refine ar ?_|refine a7 ?_|refine a8 ?_|refine aa a2 rfl rfl ?_|(apply aX; first|refine aW a2 ?_|refine aP a2 ?_)|(apply aG; first|refine ah 7 a2 0 rfl rfl rfl rfl rfl rfl rfl rfl ?_|refine ah 7 a2 1 rfl rfl rfl rfl rfl rfl rfl rfl ?_|refine ah 7 a2 2 rfl rfl rfl rfl rfl rfl rfl rfl ?_|refine ah 8 a2 0 rfl rfl rfl rfl rfl rfl rfl rfl ?_|refine ah 8 a2 1 rfl rfl rfl rfl rfl rfl rfl rfl ?_|refine ah 8 a2 2 rfl rfl rfl rfl rfl rfl rfl rfl ?_|refine ai a2 0 rfl rfl rfl rfl rfl rfl rfl ?_|refine ai a2 1 rfl rfl rfl rfl rfl rfl rfl ?_|refine ai a2 2 rfl rfl rfl rfl rfl rfl rfl ?_|refine ai a2 3 rfl rfl rfl rfl rfl rfl rfl ?_|fail)|refine b7 a2 fun _=>?_|fail)
  refine gc L0 (tok k 68 2 (((l.take i).filterMap w).map cw).length) (hw x (Gx hx)) rfl rfl List.perm_append_comm rfl rfl fun c L1 ⟨⟨y, b, hc, hb⟩, hL⟩ => ?_
  subst hc; subst hL
  refine aN (aK List.perm_append_comm) ?_
  cases b with
  | true =>
   rw [if_pos rfl] at hb
   rw [hb, Option.toList_some] at hstep
   repeat' (first|refine ae ?_|refine a6 ?_|refine a7 ?_|refine a8 ?_|refine aa a2 rfl rfl ?_|(apply aG; first|refine ah 7 a2 0 rfl rfl rfl rfl rfl rfl rfl rfl ?_|refine ah 7 a2 1 rfl rfl rfl rfl rfl rfl rfl rfl ?_|refine ah 7 a2 2 rfl rfl rfl rfl rfl rfl rfl rfl ?_|refine ah 8 a2 0 rfl rfl rfl rfl rfl rfl rfl rfl ?_|refine ah 8 a2 1 rfl rfl rfl rfl rfl rfl rfl rfl ?_|refine ah 8 a2 2 rfl rfl rfl rfl rfl rfl rfl rfl ?_|refine ai a2 0 rfl rfl rfl rfl rfl rfl rfl ?_|refine ai a2 1 rfl rfl rfl rfl rfl rfl rfl ?_|refine ai a2 2 rfl rfl rfl rfl rfl rfl rfl ?_|refine ai a2 3 rfl rfl rfl rfl rfl rfl rfl ?_|fail)|refine b7 a2 fun _=>?_|refine bG a2 ?_|refine bS rfl ?_)
   refine bE a2 L1 rfl rfl rfl rfl (Gm _) (by rw [hmm]; simp; omega) (by rw [hmm]; simp; omega) rfl fun k' => ?_
   repeat' (first|refine a6 ?_|refine a7 ?_|refine aH ?_|refine a8 ?_|refine aa a2 rfl rfl ?_|(apply aV; refine aU ?_)|fail)
   have hap : ((l.take i).filterMap w).map cw ++ [cw y] = ((l.take (i + 1)).filterMap w).map cw := by rw [hstep, List.map_append]; rfl
   exact aB (i + 1, k') rfl ⟨by rw [Gw]; rfl, by rw [← hap]; rfl, trivial⟩ (by dsimp only; omega) (by dsimp only; omega) (fun _ _ h => by dsimp only; rw [← hap]; exact h)
  | false =>
   rw [if_neg (by decide)] at hb
   rw [hb] at hstep
   have hstep : (l.take (i + 1)).filterMap w = (l.take i).filterMap w := by rw [hstep]; simp
   repeat' (first|refine ae ?_|refine a6 ?_|refine ar ?_|refine a7 ?_|refine aH ?_|refine a8 ?_|refine aa a2 rfl rfl ?_|(apply aV; refine aU ?_)|(apply aG; first|refine ah 7 a2 0 rfl rfl rfl rfl rfl rfl rfl rfl ?_|refine ah 7 a2 1 rfl rfl rfl rfl rfl rfl rfl rfl ?_|refine ah 7 a2 2 rfl rfl rfl rfl rfl rfl rfl rfl ?_|refine ah 8 a2 0 rfl rfl rfl rfl rfl rfl rfl rfl ?_|refine ah 8 a2 1 rfl rfl rfl rfl rfl rfl rfl rfl ?_|refine ah 8 a2 2 rfl rfl rfl rfl rfl rfl rfl rfl ?_|refine ai a2 0 rfl rfl rfl rfl rfl rfl rfl ?_|refine ai a2 1 rfl rfl rfl rfl rfl rfl rfl ?_|refine ai a2 2 rfl rfl rfl rfl rfl rfl rfl ?_|refine ai a2 3 rfl rfl rfl rfl rfl rfl rfl ?_|fail)|refine b7 a2 fun _=>?_|refine bN rfl ?_)
   exact aB (i + 1, k) rfl ⟨by rw [Gw]; rfl, by rw [hstep]; rfl, trivial⟩ (by dsimp only; omega) (by dsimp only; omega) (fun _ _ h => by dsimp only; rw [hstep]; exact h)
 have hil : i = l.length := by have := Gy h; omega
 subst hil
 rw [List.take_length]
 repeat' (first|refine ae ?_|refine a6 ?_|refine aq ?_|refine aO ?_|refine a7 ?_|refine au ?_|refine ay ?_|refine av ?_|refine a8 ?_|refine aa a2 rfl rfl ?_)
 refine be (bi (t := 4) (c' := .imm 2 ((l.filterMap w).map cw)) rfl fun σ v h => VR.im h) ?_
 refine cY (List.sublist_append_right ..) ?_
 exact aA rfl rfl ⟨rfl, rfl⟩
theorem Dw {u : AV} (hu : kl u = true) (l : List bX) (hl : l.length ≤ 1000000) (w : bX → Option bX) (L0 : AL) (hw : ∀ x ∈ l, jn Tryz.prog u [.agg (bD x)] L0 fun c L => (∃ y b, c = .tup [.agg (bD y), cO b] ∧ w x = if b = true then some y else none) ∧ L = L0) :
  AC Tryz.prog 75 [.imm 6 (l.map bD), u] L0 fun r L => r = .imm 6 ((l.filterMap w).map bD) ∧ L = L0 := by
 refine aQ Tryz.func75 rfl Tryz.ntmps75 rfl fun B => ?_
 have hml : (l.map bD).length = l.length := Gu ..
 repeat' (first|refine ae ?_|refine a6 ?_|refine ak ?_|refine a7 ?_|refine a8 ?_|refine aa a2 rfl rfl ?_)
 refine bI (bi (t := 5) (c' := .vec none 6 []) rfl fun σ v h => cy 6 h) ?_
 refine aJ [1, 10, 11] (α := Nat × Option (Nat × Nat)) (fun x => [(12, aM x.1), (5, .vec x.2 6 (((l.take x.1).filterMap w).map bD))]) (fun x => x.1 ≤ l.length) (fun x => tok x.2 81 6 (((l.take x.1).filterMap w).map bD).length ++ L0) (fun x => l.length - x.1) (0, none) rfl ⟨rfl, rfl, trivial⟩ (Nat.zero_le _) (fun _ _ h => h) ?_
 rintro ⟨i, k⟩ hi
 dsimp only at hi ⊢
 have hfl := ip w l i
 have hmm : (((l.take i).filterMap w).map bD).length = ((l.take i).filterMap w).length := Gu ..
 try dsimp only [Gr, Gq, Gp, Gj]
 repeat' (first|refine ae ?_|refine a6 ?_|refine a7 ?_|refine a8 ?_|refine aa a2 rfl rfl ?_)
 refine aw rfl (fun h => ?_) (fun h => ?_)
 ·have hil : i < l.length := by have := Gz h; omega
  obtain ⟨x, hx⟩ : ∃ z, l[i]? = some z := ⟨_, Ee hil⟩
  have hxg := bn (c := bD) hx
  have hstep := g7 (w := w) hx
  clear h
  repeat' (first|refine ae ?_|refine a6 ?_|refine ak ?_|refine ar ?_|refine a7 ?_|refine a8 ?_|refine aa a2 rfl rfl ?_|(apply aX; first|refine aW a2 ?_|refine aP a2 ?_)|(apply aG; first|refine ah 7 a2 0 rfl rfl rfl rfl rfl rfl rfl rfl ?_|refine ah 7 a2 1 rfl rfl rfl rfl rfl rfl rfl rfl ?_|refine ah 7 a2 2 rfl rfl rfl rfl rfl rfl rfl rfl ?_|refine ah 8 a2 0 rfl rfl rfl rfl rfl rfl rfl rfl ?_|refine ah 8 a2 1 rfl rfl rfl rfl rfl rfl rfl rfl ?_|refine ah 8 a2 2 rfl rfl rfl rfl rfl rfl rfl rfl ?_|refine ai a2 0 rfl rfl rfl rfl rfl rfl rfl ?_|refine ai a2 1 rfl rfl rfl rfl rfl rfl rfl ?_|refine ai a2 2 rfl rfl rfl rfl rfl rfl rfl ?_|refine ai a2 3 rfl rfl rfl rfl rfl rfl rfl ?_|fail)|refine b7 a2 fun _=>?_|fail)
  refine gc L0 (tok k 81 6 (((l.take i).filterMap w).map bD).length) (hw x (Gx hx)) rfl rfl List.perm_append_comm rfl rfl fun c L1 ⟨⟨y, b, hc, hb⟩, hL⟩ => ?_
  subst hc; subst hL
  refine aN (aK List.perm_append_comm) ?_
  cases b with
  | true =>
   rw [if_pos rfl] at hb
   rw [hb, Option.toList_some] at hstep
   repeat' (first|refine ae ?_|refine a6 ?_|refine a7 ?_|refine a8 ?_|refine aa a2 rfl rfl ?_|(apply aG; first|refine ah 7 a2 0 rfl rfl rfl rfl rfl rfl rfl rfl ?_|refine ah 7 a2 1 rfl rfl rfl rfl rfl rfl rfl rfl ?_|refine ah 7 a2 2 rfl rfl rfl rfl rfl rfl rfl rfl ?_|refine ah 8 a2 0 rfl rfl rfl rfl rfl rfl rfl rfl ?_|refine ah 8 a2 1 rfl rfl rfl rfl rfl rfl rfl rfl ?_|refine ah 8 a2 2 rfl rfl rfl rfl rfl rfl rfl rfl ?_|refine ai a2 0 rfl rfl rfl rfl rfl rfl rfl ?_|refine ai a2 1 rfl rfl rfl rfl rfl rfl rfl ?_|refine ai a2 2 rfl rfl rfl rfl rfl rfl rfl ?_|refine ai a2 3 rfl rfl rfl rfl rfl rfl rfl ?_|fail)|refine b7 a2 fun _=>?_|refine bG a2 ?_|refine bS rfl ?_)
   refine bE a2 L1 rfl rfl rfl rfl (Gm _) (by rw [hmm]; simp; omega) (by rw [hmm]; simp; omega) rfl fun k' => ?_
   repeat' (first|refine a6 ?_|refine a7 ?_|refine aH ?_|refine a8 ?_|refine aa a2 rfl rfl ?_|(apply aV; refine aU ?_)|fail)
   have hap : ((l.take i).filterMap w).map bD ++ [bD y] = ((l.take (i + 1)).filterMap w).map bD := by rw [hstep, List.map_append]; rfl
   exact aB (i + 1, k') rfl ⟨by rw [Gw]; rfl, by rw [← hap]; rfl, trivial⟩ (by dsimp only; omega) (by dsimp only; omega) (fun _ _ h => by dsimp only; rw [← hap]; exact h)
  | false =>
   rw [if_neg (by decide)] at hb
   rw [hb] at hstep
   have hstep : (l.take (i + 1)).filterMap w = (l.take i).filterMap w := by rw [hstep]; simp
   repeat' (first|refine ae ?_|refine a6 ?_|refine ar ?_|refine a7 ?_|refine aH ?_|refine a8 ?_|refine aa a2 rfl rfl ?_|(apply aV; refine aU ?_)|(apply aG; first|refine ah 7 a2 0 rfl rfl rfl rfl rfl rfl rfl rfl ?_|refine ah 7 a2 1 rfl rfl rfl rfl rfl rfl rfl rfl ?_|refine ah 7 a2 2 rfl rfl rfl rfl rfl rfl rfl rfl ?_|refine ah 8 a2 0 rfl rfl rfl rfl rfl rfl rfl rfl ?_|refine ah 8 a2 1 rfl rfl rfl rfl rfl rfl rfl rfl ?_|refine ah 8 a2 2 rfl rfl rfl rfl rfl rfl rfl rfl ?_|refine ai a2 0 rfl rfl rfl rfl rfl rfl rfl ?_|refine ai a2 1 rfl rfl rfl rfl rfl rfl rfl ?_|refine ai a2 2 rfl rfl rfl rfl rfl rfl rfl ?_|refine ai a2 3 rfl rfl rfl rfl rfl rfl rfl ?_|fail)|refine b7 a2 fun _=>?_|refine bN rfl ?_)
   exact aB (i + 1, k) rfl ⟨by rw [Gw]; rfl, by rw [hstep]; rfl, trivial⟩ (by dsimp only; omega) (by dsimp only; omega) (fun _ _ h => by dsimp only; rw [hstep]; exact h)
 have hil : i = l.length := by have := Gy h; omega
 subst hil
 rw [List.take_length]
 repeat' (first|refine ae ?_|refine a6 ?_|refine aq ?_|refine aO ?_|refine a7 ?_|refine au ?_|refine ay ?_|refine av ?_|refine a8 ?_|refine aa a2 rfl rfl ?_)
 refine be (bi (t := 4) (c' := .imm 6 ((l.filterMap w).map bD)) rfl fun σ v h => VR.im h) ?_
 refine cY (List.sublist_append_right ..) ?_
 exact aA rfl rfl ⟨rfl, rfl⟩
theorem Dy {u : AV} (hu : kl u = true) (l : List bO) (hl : l.length ≤ 1000000) (w : bO → Option bO) (L0 : AL) (hw : ∀ x ∈ l, jn Tryz.prog u [.agg (bw x)] L0 fun c L => (∃ y b, c = .tup [.agg (bw y), cO b] ∧ w x = if b = true then some y else none) ∧ L = L0) :
  AC Tryz.prog 78 [.imm 2 (l.map bw), u] L0 fun r L => r = .imm 2 ((l.filterMap w).map bw) ∧ L = L0 := by
 refine aQ Tryz.func78 rfl Tryz.ntmps78 rfl fun B => ?_
 have hml : (l.map bw).length = l.length := Gu ..
 repeat' (first|refine ae ?_|refine a6 ?_|refine ak ?_|refine a7 ?_|refine a8 ?_|refine aa a2 rfl rfl ?_)
 refine bI (bi (t := 5) (c' := .vec none 2 []) rfl fun σ v h => cy 2 h) ?_
 refine aJ [1, 10, 11] (α := Nat × Option (Nat × Nat)) (fun x => [(12, aM x.1), (5, .vec x.2 2 (((l.take x.1).filterMap w).map bw))]) (fun x => x.1 ≤ l.length) (fun x => tok x.2 83 2 (((l.take x.1).filterMap w).map bw).length ++ L0) (fun x => l.length - x.1) (0, none) rfl ⟨rfl, rfl, trivial⟩ (Nat.zero_le _) (fun _ _ h => h) ?_
 rintro ⟨i, k⟩ hi
 dsimp only at hi ⊢
 have hfl := ip w l i
 have hmm : (((l.take i).filterMap w).map bw).length = ((l.take i).filterMap w).length := Gu ..
 try dsimp only [Gr, Gq, Gp, Gj]
 repeat' (first|refine ae ?_|refine a6 ?_|refine a7 ?_|refine a8 ?_|refine aa a2 rfl rfl ?_)
 refine aw rfl (fun h => ?_) (fun h => ?_)
 ·have hil : i < l.length := by have := Gz h; omega
  obtain ⟨x, hx⟩ : ∃ z, l[i]? = some z := ⟨_, Ee hil⟩
  have hxg := bn (c := bw) hx
  have hstep := g7 (w := w) hx
  clear h
  repeat' (first|refine ae ?_|refine a6 ?_|refine ak ?_|refine ar ?_|refine a7 ?_|refine a8 ?_|refine aa a2 rfl rfl ?_|(apply aX; first|refine aW a2 ?_|refine aP a2 ?_)|(apply aG; first|refine ah 7 a2 0 rfl rfl rfl rfl rfl rfl rfl rfl ?_|refine ah 7 a2 1 rfl rfl rfl rfl rfl rfl rfl rfl ?_|refine ah 7 a2 2 rfl rfl rfl rfl rfl rfl rfl rfl ?_|refine ah 8 a2 0 rfl rfl rfl rfl rfl rfl rfl rfl ?_|refine ah 8 a2 1 rfl rfl rfl rfl rfl rfl rfl rfl ?_|refine ah 8 a2 2 rfl rfl rfl rfl rfl rfl rfl rfl ?_|refine ai a2 0 rfl rfl rfl rfl rfl rfl rfl ?_|refine ai a2 1 rfl rfl rfl rfl rfl rfl rfl ?_|refine ai a2 2 rfl rfl rfl rfl rfl rfl rfl ?_|refine ai a2 3 rfl rfl rfl rfl rfl rfl rfl ?_|fail)|refine b7 a2 fun _=>?_|fail)
  refine gc L0 (tok k 83 2 (((l.take i).filterMap w).map bw).length) (hw x (Gx hx)) rfl rfl List.perm_append_comm rfl rfl fun c L1 ⟨⟨y, b, hc, hb⟩, hL⟩ => ?_
  subst hc; subst hL
  refine aN (aK List.perm_append_comm) ?_
  cases b with
  | true =>
   rw [if_pos rfl] at hb
   rw [hb, Option.toList_some] at hstep
   repeat' (first|refine ae ?_|refine a6 ?_|refine a7 ?_|refine a8 ?_|refine aa a2 rfl rfl ?_|(apply aG; first|refine ah 7 a2 0 rfl rfl rfl rfl rfl rfl rfl rfl ?_|refine ah 7 a2 1 rfl rfl rfl rfl rfl rfl rfl rfl ?_|refine ah 7 a2 2 rfl rfl rfl rfl rfl rfl rfl rfl ?_|refine ah 8 a2 0 rfl rfl rfl rfl rfl rfl rfl rfl ?_|refine ah 8 a2 1 rfl rfl rfl rfl rfl rfl rfl rfl ?_|refine ah 8 a2 2 rfl rfl rfl rfl rfl rfl rfl rfl ?_|refine ai a2 0 rfl rfl rfl rfl rfl rfl rfl ?_|refine ai a2 1 rfl rfl rfl rfl rfl rfl rfl ?_|refine ai a2 2 rfl rfl rfl rfl rfl rfl rfl ?_|refine ai a2 3 rfl rfl rfl rfl rfl rfl rfl ?_|fail)|refine b7 a2 fun _=>?_|refine bG a2 ?_|refine bS rfl ?_)
   refine bE a2 L1 rfl rfl rfl rfl (Gm _) (by rw [hmm]; simp; omega) (by rw [hmm]; simp; omega) rfl fun k' => ?_
   repeat' (first|refine a6 ?_|refine a7 ?_|refine aH ?_|refine a8 ?_|refine aa a2 rfl rfl ?_|(apply aV; refine aU ?_)|fail)
   have hap : ((l.take i).filterMap w).map bw ++ [bw y] = ((l.take (i + 1)).filterMap w).map bw := by rw [hstep, List.map_append]; rfl
   exact aB (i + 1, k') rfl ⟨by rw [Gw]; rfl, by rw [← hap]; rfl, trivial⟩ (by dsimp only; omega) (by dsimp only; omega) (fun _ _ h => by dsimp only; rw [← hap]; exact h)
  | false =>
   rw [if_neg (by decide)] at hb
   rw [hb] at hstep
   have hstep : (l.take (i + 1)).filterMap w = (l.take i).filterMap w := by rw [hstep]; simp
   repeat' (first|refine ae ?_|refine a6 ?_|refine ar ?_|refine a7 ?_|refine aH ?_|refine a8 ?_|refine aa a2 rfl rfl ?_|(apply aV; refine aU ?_)|(apply aG; first|refine ah 7 a2 0 rfl rfl rfl rfl rfl rfl rfl rfl ?_|refine ah 7 a2 1 rfl rfl rfl rfl rfl rfl rfl rfl ?_|refine ah 7 a2 2 rfl rfl rfl rfl rfl rfl rfl rfl ?_|refine ah 8 a2 0 rfl rfl rfl rfl rfl rfl rfl rfl ?_|refine ah 8 a2 1 rfl rfl rfl rfl rfl rfl rfl rfl ?_|refine ah 8 a2 2 rfl rfl rfl rfl rfl rfl rfl rfl ?_|refine ai a2 0 rfl rfl rfl rfl rfl rfl rfl ?_|refine ai a2 1 rfl rfl rfl rfl rfl rfl rfl ?_|refine ai a2 2 rfl rfl rfl rfl rfl rfl rfl ?_|refine ai a2 3 rfl rfl rfl rfl rfl rfl rfl ?_|fail)|refine b7 a2 fun _=>?_|refine bN rfl ?_)
   exact aB (i + 1, k) rfl ⟨by rw [Gw]; rfl, by rw [hstep]; rfl, trivial⟩ (by dsimp only; omega) (by dsimp only; omega) (fun _ _ h => by dsimp only; rw [hstep]; exact h)
 have hil : i = l.length := by have := Gy h; omega
 subst hil
 rw [List.take_length]
 repeat' (first|refine ae ?_|refine a6 ?_|refine aq ?_|refine aO ?_|refine a7 ?_|refine au ?_|refine ay ?_|refine av ?_|refine a8 ?_|refine aa a2 rfl rfl ?_)
 refine be (bi (t := 4) (c' := .imm 2 ((l.filterMap w).map bw)) rfl fun σ v h => VR.im h) ?_
 refine cY (List.sublist_append_right ..) ?_
 exact aA rfl rfl ⟨rfl, rfl⟩
theorem ux {u : AV} (hu : kl u = true) (l : List Int) (hl : l.length ≤ 1000000) (w : Int → Option Int) (L0 : AL) (hw : ∀ x ∈ l, jn Tryz.prog u [aM x] L0 fun c L => (∃ y b, c = .tup [aM y, cO b] ∧ w x = if b = true then some y else none) ∧ L = L0) :
  AC Tryz.prog 80 [.imm 1 (l.map gi), u] L0 fun r L => r = .imm 1 ((l.filterMap w).map gi) ∧ L = L0 := by
 refine aQ Tryz.func80 rfl Tryz.ntmps80 rfl fun B => ?_
 have hml : (l.map gi).length = l.length := Gu ..
 repeat' (first|refine ae ?_|refine a6 ?_|refine ak ?_|refine a7 ?_|refine a8 ?_|refine aa a2 rfl rfl ?_)
 refine bI (bi (t := 5) (c' := .vec none 1 []) rfl fun σ v h => cy 1 h) ?_
 refine aJ [1, 10, 11] (α := Nat × Option (Nat × Nat)) (fun x => [(12, aM x.1), (5, .vec x.2 1 (((l.take x.1).filterMap w).map gi))]) (fun x => x.1 ≤ l.length) (fun x => tok x.2 3 1 (((l.take x.1).filterMap w).map gi).length ++ L0) (fun x => l.length - x.1) (0, none) rfl ⟨rfl, rfl, trivial⟩ (Nat.zero_le _) (fun _ _ h => h) ?_
 rintro ⟨i, k⟩ hi
 dsimp only at hi ⊢
 have hfl := ip w l i
 have hmm : (((l.take i).filterMap w).map gi).length = ((l.take i).filterMap w).length := Gu ..
 try dsimp only [Gr, Gq, Gp, Gj]
 repeat' (first|refine ae ?_|refine a6 ?_|refine a7 ?_|refine a8 ?_|refine aa a2 rfl rfl ?_)
 refine aw rfl (fun h => ?_) (fun h => ?_)
 ·have hil : i < l.length := by have := Gz h; omega
  obtain ⟨x, hx⟩ : ∃ z, l[i]? = some z := ⟨_, Ee hil⟩
  have hxg := bn (c := gi) hx
  have hstep := g7 (w := w) hx
  clear h
  repeat' (first|refine ae ?_|refine a6 ?_|refine ak ?_|refine ar ?_|refine a7 ?_|refine a8 ?_|refine aa a2 rfl rfl ?_|(apply aX; first|refine aW a2 ?_|refine aP a2 ?_)|fail)
  refine gc L0 (tok k 3 1 (((l.take i).filterMap w).map gi).length) (hw x (Gx hx)) rfl rfl List.perm_append_comm rfl rfl fun c L1 ⟨⟨y, b, hc, hb⟩, hL⟩ => ?_
  subst hc; subst hL
  refine aN (aK List.perm_append_comm) ?_
  cases b with
  | true =>
   rw [if_pos rfl] at hb
   rw [hb, Option.toList_some] at hstep
   repeat' (first|refine ae ?_|refine a6 ?_|refine a7 ?_|refine a8 ?_|refine aa a2 rfl rfl ?_|refine bG a2 ?_|refine bS rfl ?_)
   refine bE a2 L1 rfl rfl rfl rfl (Gm _) (by rw [hmm]; simp; omega) (by rw [hmm]; simp; omega) rfl fun k' => ?_
   repeat' (first|refine a6 ?_|refine a7 ?_|refine aH ?_|refine a8 ?_|refine aa a2 rfl rfl ?_|(apply aV; refine aU ?_)|fail)
   have hap : ((l.take i).filterMap w).map gi ++ [gi y] = ((l.take (i + 1)).filterMap w).map gi := by rw [hstep, List.map_append]; rfl
   exact aB (i + 1, k') rfl ⟨by rw [Gw]; rfl, by rw [← hap]; rfl, trivial⟩ (by dsimp only; omega) (by dsimp only; omega) (fun _ _ h => by dsimp only; rw [← hap]; exact h)
  | false =>
   rw [if_neg (by decide)] at hb
   rw [hb] at hstep
   have hstep : (l.take (i + 1)).filterMap w = (l.take i).filterMap w := by rw [hstep]; simp
   repeat' (first|refine ae ?_|refine a6 ?_|refine ar ?_|refine a7 ?_|refine aH ?_|refine a8 ?_|refine aa a2 rfl rfl ?_|(apply aV; refine aU ?_)|refine bN rfl ?_)
   exact aB (i + 1, k) rfl ⟨by rw [Gw]; rfl, by rw [hstep]; rfl, trivial⟩ (by dsimp only; omega) (by dsimp only; omega) (fun _ _ h => by dsimp only; rw [hstep]; exact h)
 have hil : i = l.length := by have := Gy h; omega
 subst hil
 rw [List.take_length]
 repeat' (first|refine ae ?_|refine a6 ?_|refine aq ?_|refine aO ?_|refine a7 ?_|refine au ?_|refine ay ?_|refine av ?_|refine a8 ?_|refine aa a2 rfl rfl ?_)
 refine be (bi (t := 4) (c' := .imm 1 ((l.filterMap w).map gi)) rfl fun σ v h => VR.im h) ?_
 refine cY (List.sublist_append_right ..) ?_
 exact aA rfl rfl ⟨rfl, rfl⟩
theorem Bq {u : AV} (hu : kl u = true) (l : List (List Int)) (hl : l.length ≤ 1000000) (w : (List Int) → Option (List Int)) (L0 : AL) (hw : ∀ x ∈ l, jn Tryz.prog u [.imm 1 (aT x)] L0 fun c L => (∃ y b, c = .tup [.imm 1 (aT y), cO b] ∧ w x = if b = true then some y else none) ∧ L = L0) :
  AC Tryz.prog 100 [.imm 1 (l.map lL), u] L0 fun r L => r = .imm 1 ((l.filterMap w).map lL) ∧ L = L0 := by
 refine aQ Tryz.func100 rfl Tryz.ntmps100 rfl fun B => ?_
 have hml : (l.map lL).length = l.length := Gu ..
 repeat' (first|refine ae ?_|refine a6 ?_|refine ak ?_|refine a7 ?_|refine a8 ?_|refine aa a2 rfl rfl ?_)
 refine bI (bi (t := 5) (c' := .vec none 1 []) rfl fun σ v h => cy 1 h) ?_
 refine aJ [1, 10, 11] (α := Nat × Option (Nat × Nat)) (fun x => [(12, aM x.1), (5, .vec x.2 1 (((l.take x.1).filterMap w).map lL))]) (fun x => x.1 ≤ l.length) (fun x => tok x.2 22 1 (((l.take x.1).filterMap w).map lL).length ++ L0) (fun x => l.length - x.1) (0, none) rfl ⟨rfl, rfl, trivial⟩ (Nat.zero_le _) (fun _ _ h => h) ?_
 rintro ⟨i, k⟩ hi
 dsimp only at hi ⊢
 have hfl := ip w l i
 have hmm : (((l.take i).filterMap w).map lL).length = ((l.take i).filterMap w).length := Gu ..
 try dsimp only [Gr, Gq, Gp, Gj]
 repeat' (first|refine ae ?_|refine a6 ?_|refine a7 ?_|refine a8 ?_|refine aa a2 rfl rfl ?_)
 refine aw rfl (fun h => ?_) (fun h => ?_)
 ·have hil : i < l.length := by have := Gz h; omega
  obtain ⟨x, hx⟩ : ∃ z, l[i]? = some z := ⟨_, Ee hil⟩
  have hxg := bn (c := lL) hx
  have hstep := g7 (w := w) hx
  clear h
  repeat' (first|refine ae ?_|refine a6 ?_|refine ak ?_|refine ar ?_|refine a7 ?_|refine a8 ?_|refine aa a2 rfl rfl ?_|(apply aX; first|refine aW a2 ?_|refine aP a2 ?_)|fail)
  refine gc L0 (tok k 22 1 (((l.take i).filterMap w).map lL).length) (hw x (Gx hx)) rfl rfl List.perm_append_comm rfl rfl fun c L1 ⟨⟨y, b, hc, hb⟩, hL⟩ => ?_
  subst hc; subst hL
  refine aN (aK List.perm_append_comm) ?_
  cases b with
  | true =>
   rw [if_pos rfl] at hb
   rw [hb, Option.toList_some] at hstep
   repeat' (first|refine ae ?_|refine a6 ?_|refine a7 ?_|refine a8 ?_|refine aa a2 rfl rfl ?_|refine bG a2 ?_|refine bS rfl ?_)
   refine bE a2 L1 rfl rfl rfl rfl (Gm _) (by rw [hmm]; simp; omega) (by rw [hmm]; simp; omega) rfl fun k' => ?_
   repeat' (first|refine a6 ?_|refine a7 ?_|refine aH ?_|refine a8 ?_|refine aa a2 rfl rfl ?_|(apply aV; refine aU ?_)|fail)
   have hap : ((l.take i).filterMap w).map lL ++ [lL y] = ((l.take (i + 1)).filterMap w).map lL := by rw [hstep, List.map_append]; rfl
   exact aB (i + 1, k') rfl ⟨by rw [Gw]; rfl, by rw [← hap]; rfl, trivial⟩ (by dsimp only; omega) (by dsimp only; omega) (fun _ _ h => by dsimp only; rw [← hap]; exact h)
  | false =>
   rw [if_neg (by decide)] at hb
   rw [hb] at hstep
   have hstep : (l.take (i + 1)).filterMap w = (l.take i).filterMap w := by rw [hstep]; simp
   repeat' (first|refine ae ?_|refine a6 ?_|refine ar ?_|refine a7 ?_|refine aH ?_|refine a8 ?_|refine aa a2 rfl rfl ?_|(apply aV; refine aU ?_)|refine bN rfl ?_)
   exact aB (i + 1, k) rfl ⟨by rw [Gw]; rfl, by rw [hstep]; rfl, trivial⟩ (by dsimp only; omega) (by dsimp only; omega) (fun _ _ h => by dsimp only; rw [hstep]; exact h)
 have hil : i = l.length := by have := Gy h; omega
 subst hil
 rw [List.take_length]
 repeat' (first|refine ae ?_|refine a6 ?_|refine aq ?_|refine aO ?_|refine a7 ?_|refine au ?_|refine ay ?_|refine av ?_|refine a8 ?_|refine aa a2 rfl rfl ?_)
 refine be (bi (t := 4) (c' := .imm 1 ((l.filterMap w).map lL)) rfl fun σ v h => VR.im h) ?_
 refine cY (List.sublist_append_right ..) ?_
 exact aA rfl rfl ⟨rfl, rfl⟩
theorem Br {u : AV} (hu : kl u = true) (l : List fT) (hl : l.length ≤ 1000000) (w : fT → Option fT) (L0 : AL) (hw : ∀ x ∈ l, jn Tryz.prog u [.agg (dD x)] L0 fun c L => (∃ y b, c = .tup [.agg (dD y), cO b] ∧ w x = if b = true then some y else none) ∧ L = L0) :
  AC Tryz.prog 105 [.imm 2 (l.map dD), u] L0 fun r L => r = .imm 2 ((l.filterMap w).map dD) ∧ L = L0 := by
 refine aQ Tryz.func105 rfl Tryz.ntmps105 rfl fun B => ?_
 have hml : (l.map dD).length = l.length := Gu ..
 repeat' (first|refine ae ?_|refine a6 ?_|refine ak ?_|refine a7 ?_|refine a8 ?_|refine aa a2 rfl rfl ?_)
 refine bI (bi (t := 5) (c' := .vec none 2 []) rfl fun σ v h => cy 2 h) ?_
 refine aJ [1, 10, 11] (α := Nat × Option (Nat × Nat)) (fun x => [(12, aM x.1), (5, .vec x.2 2 (((l.take x.1).filterMap w).map dD))]) (fun x => x.1 ≤ l.length) (fun x => tok x.2 91 2 (((l.take x.1).filterMap w).map dD).length ++ L0) (fun x => l.length - x.1) (0, none) rfl ⟨rfl, rfl, trivial⟩ (Nat.zero_le _) (fun _ _ h => h) ?_
 rintro ⟨i, k⟩ hi
 dsimp only at hi ⊢
 have hfl := ip w l i
 have hmm : (((l.take i).filterMap w).map dD).length = ((l.take i).filterMap w).length := Gu ..
 try dsimp only [Gr, Gq, Gp, Gj]
 repeat' (first|refine ae ?_|refine a6 ?_|refine a7 ?_|refine a8 ?_|refine aa a2 rfl rfl ?_)
 refine aw rfl (fun h => ?_) (fun h => ?_)
 ·have hil : i < l.length := by have := Gz h; omega
  obtain ⟨x, hx⟩ : ∃ z, l[i]? = some z := ⟨_, Ee hil⟩
  have hxg := bn (c := dD) hx
  have hstep := g7 (w := w) hx
  clear h
  repeat' (first|refine ae ?_|refine a6 ?_|refine ak ?_|refine ar ?_|refine a7 ?_|refine a8 ?_|refine aa a2 rfl rfl ?_|(apply aX; first|refine aW a2 ?_|refine aP a2 ?_)|(apply aG; first|refine ah 7 a2 0 rfl rfl rfl rfl rfl rfl rfl rfl ?_|refine ah 7 a2 1 rfl rfl rfl rfl rfl rfl rfl rfl ?_|refine ah 7 a2 2 rfl rfl rfl rfl rfl rfl rfl rfl ?_|refine ah 8 a2 0 rfl rfl rfl rfl rfl rfl rfl rfl ?_|refine ah 8 a2 1 rfl rfl rfl rfl rfl rfl rfl rfl ?_|refine ah 8 a2 2 rfl rfl rfl rfl rfl rfl rfl rfl ?_|refine ai a2 0 rfl rfl rfl rfl rfl rfl rfl ?_|refine ai a2 1 rfl rfl rfl rfl rfl rfl rfl ?_|refine ai a2 2 rfl rfl rfl rfl rfl rfl rfl ?_|refine ai a2 3 rfl rfl rfl rfl rfl rfl rfl ?_|fail)|refine b7 a2 fun _=>?_|fail)
  refine gc L0 (tok k 91 2 (((l.take i).filterMap w).map dD).length) (hw x (Gx hx)) rfl rfl List.perm_append_comm rfl rfl fun c L1 ⟨⟨y, b, hc, hb⟩, hL⟩ => ?_
  subst hc; subst hL
  refine aN (aK List.perm_append_comm) ?_
  cases b with
  | true =>
   rw [if_pos rfl] at hb
   rw [hb, Option.toList_some] at hstep
   repeat' (first|refine ae ?_|refine a6 ?_|refine a7 ?_|refine a8 ?_|refine aa a2 rfl rfl ?_|(apply aG; first|refine ah 7 a2 0 rfl rfl rfl rfl rfl rfl rfl rfl ?_|refine ah 7 a2 1 rfl rfl rfl rfl rfl rfl rfl rfl ?_|refine ah 7 a2 2 rfl rfl rfl rfl rfl rfl rfl rfl ?_|refine ah 8 a2 0 rfl rfl rfl rfl rfl rfl rfl rfl ?_|refine ah 8 a2 1 rfl rfl rfl rfl rfl rfl rfl rfl ?_|refine ah 8 a2 2 rfl rfl rfl rfl rfl rfl rfl rfl ?_|refine ai a2 0 rfl rfl rfl rfl rfl rfl rfl ?_|refine ai a2 1 rfl rfl rfl rfl rfl rfl rfl ?_|refine ai a2 2 rfl rfl rfl rfl rfl rfl rfl ?_|refine ai a2 3 rfl rfl rfl rfl rfl rfl rfl ?_|fail)|refine b7 a2 fun _=>?_|refine bG a2 ?_|refine bS rfl ?_)
   refine bE a2 L1 rfl rfl rfl rfl (Gm _) (by rw [hmm]; simp; omega) (by rw [hmm]; simp; omega) rfl fun k' => ?_
   repeat' (first|refine a6 ?_|refine a7 ?_|refine aH ?_|refine a8 ?_|refine aa a2 rfl rfl ?_|(apply aV; refine aU ?_)|fail)
   have hap : ((l.take i).filterMap w).map dD ++ [dD y] = ((l.take (i + 1)).filterMap w).map dD := by rw [hstep, List.map_append]; rfl
   exact aB (i + 1, k') rfl ⟨by rw [Gw]; rfl, by rw [← hap]; rfl, trivial⟩ (by dsimp only; omega) (by dsimp only; omega) (fun _ _ h => by dsimp only; rw [← hap]; exact h)
  | false =>
   rw [if_neg (by decide)] at hb
   rw [hb] at hstep
   have hstep : (l.take (i + 1)).filterMap w = (l.take i).filterMap w := by rw [hstep]; simp
   repeat' (first|refine ae ?_|refine a6 ?_|refine ar ?_|refine a7 ?_|refine aH ?_|refine a8 ?_|refine aa a2 rfl rfl ?_|(apply aV; refine aU ?_)|(apply aG; first|refine ah 7 a2 0 rfl rfl rfl rfl rfl rfl rfl rfl ?_|refine ah 7 a2 1 rfl rfl rfl rfl rfl rfl rfl rfl ?_|refine ah 7 a2 2 rfl rfl rfl rfl rfl rfl rfl rfl ?_|refine ah 8 a2 0 rfl rfl rfl rfl rfl rfl rfl rfl ?_|refine ah 8 a2 1 rfl rfl rfl rfl rfl rfl rfl rfl ?_|refine ah 8 a2 2 rfl rfl rfl rfl rfl rfl rfl rfl ?_|refine ai a2 0 rfl rfl rfl rfl rfl rfl rfl ?_|refine ai a2 1 rfl rfl rfl rfl rfl rfl rfl ?_|refine ai a2 2 rfl rfl rfl rfl rfl rfl rfl ?_|refine ai a2 3 rfl rfl rfl rfl rfl rfl rfl ?_|fail)|refine b7 a2 fun _=>?_|refine bN rfl ?_)
   exact aB (i + 1, k) rfl ⟨by rw [Gw]; rfl, by rw [hstep]; rfl, trivial⟩ (by dsimp only; omega) (by dsimp only; omega) (fun _ _ h => by dsimp only; rw [hstep]; exact h)
 have hil : i = l.length := by have := Gy h; omega
 subst hil
 rw [List.take_length]
 repeat' (first|refine ae ?_|refine a6 ?_|refine aq ?_|refine aO ?_|refine a7 ?_|refine au ?_|refine ay ?_|refine av ?_|refine a8 ?_|refine aa a2 rfl rfl ?_)
 refine be (bi (t := 4) (c' := .imm 2 ((l.filterMap w).map dD)) rfl fun σ v h => VR.im h) ?_
 refine cY (List.sublist_append_right ..) ?_
 exact aA rfl rfl ⟨rfl, rfl⟩
theorem Be (l : List eo) (hl : l.length ≤ 1000000) : bQ Tryz.prog 32 [.imm 4 (l.map cu)] (.imm 4 (l.map cu)) := by
 refine aQ Tryz.func32 rfl Tryz.ntmps32 rfl fun B => ?_
 have hml : (l.map cu).length = l.length := Gu ..
 repeat' (first|refine ae ?_|refine a6 ?_|refine a7 ?_|refine a8 ?_|refine aa a2 rfl rfl ?_)
 refine jI a2 rfl rfl rfl rfl rfl fun b hb => ?_
 repeat' (first|refine a7 ?_|refine a8 ?_)
 cases b with
 | true =>
  rw [hb rfl]
  repeat' (first|refine ae ?_|refine a6 ?_|refine aq ?_|refine a7 ?_|refine aE ?_|refine a8 ?_|refine aa a2 rfl rfl ?_|refine bS rfl ?_)
  refine be (bi (t := 2) (c' := .imm 4 []) rfl fun σ v h => fL 4 h) ?_
  exact aA rfl rfl rfl
 | false =>
  repeat' (first|refine ae ?_|refine a6 ?_|refine ar ?_|refine a7 ?_|refine aa a2 rfl rfl ?_|refine iz (d := 5) a2 fun _=>?_|refine bN rfl ?_)
  refine bE a2 [] rfl rfl rfl rfl (Gm _) (by rw [Gu]; simp; omega) (by rw [Gu]; simp; omega) rfl fun k' => ?_
  repeat' (first|refine aq ?_|refine a7 ?_|refine a8 ?_|refine aa a2 rfl rfl ?_)
  refine be (bi (t := 2) (c' := .imm 4 (l.map cu)) rfl fun σ v h => VR.im h) ?_
  refine cY (List.nil_sublist _) ?_
  exact aA rfl rfl rfl
theorem Bg (l : List ea) (hl : l.length ≤ 1000000) : bQ Tryz.prog 35 [.imm 3 (l.map fD)] (.imm 3 (l.map fD)) := by
 refine aQ Tryz.func35 rfl Tryz.ntmps35 rfl fun B => ?_
 have hml : (l.map fD).length = l.length := Gu ..
 repeat' (first|refine ae ?_|refine a6 ?_|refine a7 ?_|refine a8 ?_|refine aa a2 rfl rfl ?_)
 refine jI a2 rfl rfl rfl rfl rfl fun b hb => ?_
 repeat' (first|refine a7 ?_|refine a8 ?_)
 cases b with
 | true =>
  rw [hb rfl]
  repeat' (first|refine ae ?_|refine a6 ?_|refine aq ?_|refine a7 ?_|refine aE ?_|refine a8 ?_|refine aa a2 rfl rfl ?_|refine bS rfl ?_)
  refine be (bi (t := 2) (c' := .imm 3 []) rfl fun σ v h => fL 3 h) ?_
  exact aA rfl rfl rfl
 | false =>
  repeat' (first|refine ae ?_|refine a6 ?_|refine ar ?_|refine a7 ?_|refine aa a2 rfl rfl ?_|refine iz (d := 5) a2 fun _=>?_|refine bN rfl ?_)
  refine bE a2 [] rfl rfl rfl rfl (Gm _) (by rw [Gu]; simp; omega) (by rw [Gu]; simp; omega) rfl fun k' => ?_
  repeat' (first|refine aq ?_|refine a7 ?_|refine a8 ?_|refine aa a2 rfl rfl ?_)
  refine be (bi (t := 2) (c' := .imm 3 (l.map fD)) rfl fun σ v h => VR.im h) ?_
  refine cY (List.nil_sublist _) ?_
  exact aA rfl rfl rfl
theorem vG (l : List ew) (hl : l.length ≤ 1000000) : bQ Tryz.prog 38 [.imm 2 (l.map dS)] (.imm 2 (l.map dS)) := by
 refine aQ Tryz.func38 rfl Tryz.ntmps38 rfl fun B => ?_
 have hml : (l.map dS).length = l.length := Gu ..
 repeat' (first|refine ae ?_|refine a6 ?_|refine a7 ?_|refine a8 ?_|refine aa a2 rfl rfl ?_)
 refine jI a2 rfl rfl rfl rfl rfl fun b hb => ?_
 repeat' (first|refine a7 ?_|refine a8 ?_)
 cases b with
 | true =>
  rw [hb rfl]
  repeat' (first|refine ae ?_|refine a6 ?_|refine aq ?_|refine a7 ?_|refine aE ?_|refine a8 ?_|refine aa a2 rfl rfl ?_|refine bS rfl ?_)
  refine be (bi (t := 2) (c' := .imm 2 []) rfl fun σ v h => fL 2 h) ?_
  exact aA rfl rfl rfl
 | false =>
  repeat' (first|refine ae ?_|refine a6 ?_|refine ar ?_|refine a7 ?_|refine aa a2 rfl rfl ?_|refine iz (d := 5) a2 fun _=>?_|refine bN rfl ?_)
  refine bE a2 [] rfl rfl rfl rfl (Gm _) (by rw [Gu]; simp; omega) (by rw [Gu]; simp; omega) rfl fun k' => ?_
  repeat' (first|refine aq ?_|refine a7 ?_|refine a8 ?_|refine aa a2 rfl rfl ?_)
  refine be (bi (t := 2) (c' := .imm 2 (l.map dS)) rfl fun σ v h => VR.im h) ?_
  refine cY (List.nil_sublist _) ?_
  exact aA rfl rfl rfl
theorem vH (l : List Int) (hl : l.length ≤ 1000000) : bQ Tryz.prog 39 [.imm 1 (l.map gi)] (.imm 1 (l.map gi)) := by
 refine aQ Tryz.func39 rfl Tryz.ntmps39 rfl fun B => ?_
 have hml : (l.map gi).length = l.length := Gu ..
 repeat' (first|refine ae ?_|refine a6 ?_|refine a7 ?_|refine a8 ?_|refine aa a2 rfl rfl ?_)
 refine jI a2 rfl rfl rfl rfl rfl fun b hb => ?_
 repeat' (first|refine a7 ?_|refine a8 ?_)
 cases b with
 | true =>
  rw [hb rfl]
  repeat' (first|refine ae ?_|refine a6 ?_|refine aq ?_|refine a7 ?_|refine aE ?_|refine a8 ?_|refine aa a2 rfl rfl ?_|refine bS rfl ?_)
  refine be (bi (t := 2) (c' := .imm 1 []) rfl fun σ v h => fL 1 h) ?_
  exact aA rfl rfl rfl
 | false =>
  repeat' (first|refine ae ?_|refine a6 ?_|refine ar ?_|refine a7 ?_|refine aa a2 rfl rfl ?_|refine iz (d := 5) a2 fun _=>?_|refine bN rfl ?_)
  refine bE a2 [] rfl rfl rfl rfl (Gm _) (by rw [Gu]; simp; omega) (by rw [Gu]; simp; omega) rfl fun k' => ?_
  repeat' (first|refine aq ?_|refine a7 ?_|refine a8 ?_|refine aa a2 rfl rfl ?_)
  refine be (bi (t := 2) (c' := .imm 1 (l.map gi)) rfl fun σ v h => VR.im h) ?_
  refine cY (List.nil_sublist _) ?_
  exact aA rfl rfl rfl
theorem Bh (l : List eB) (hl : l.length ≤ 1000000) : bQ Tryz.prog 67 [.imm 3 (l.map cX)] (.imm 3 (l.map cX)) := by
 refine aQ Tryz.func67 rfl Tryz.ntmps67 rfl fun B => ?_
 have hml : (l.map cX).length = l.length := Gu ..
 repeat' (first|refine ae ?_|refine a6 ?_|refine a7 ?_|refine a8 ?_|refine aa a2 rfl rfl ?_)
 refine jI a2 rfl rfl rfl rfl rfl fun b hb => ?_
 repeat' (first|refine a7 ?_|refine a8 ?_)
 cases b with
 | true =>
  rw [hb rfl]
  repeat' (first|refine ae ?_|refine a6 ?_|refine aq ?_|refine a7 ?_|refine aE ?_|refine a8 ?_|refine aa a2 rfl rfl ?_|refine bS rfl ?_)
  refine be (bi (t := 2) (c' := .imm 3 []) rfl fun σ v h => fL 3 h) ?_
  exact aA rfl rfl rfl
 | false =>
  repeat' (first|refine ae ?_|refine a6 ?_|refine ar ?_|refine a7 ?_|refine aa a2 rfl rfl ?_|refine iz (d := 5) a2 fun _=>?_|refine bN rfl ?_)
  refine bE a2 [] rfl rfl rfl rfl (Gm _) (by rw [Gu]; simp; omega) (by rw [Gu]; simp; omega) rfl fun k' => ?_
  repeat' (first|refine aq ?_|refine a7 ?_|refine a8 ?_|refine aa a2 rfl rfl ?_)
  refine be (bi (t := 2) (c' := .imm 3 (l.map cX)) rfl fun σ v h => VR.im h) ?_
  refine cY (List.nil_sublist _) ?_
  exact aA rfl rfl rfl
theorem Bi (l : List dH) (hl : l.length ≤ 1000000) : bQ Tryz.prog 71 [.imm 4 (l.map cB)] (.imm 4 (l.map cB)) := by
 refine aQ Tryz.func71 rfl Tryz.ntmps71 rfl fun B => ?_
 have hml : (l.map cB).length = l.length := Gu ..
 repeat' (first|refine ae ?_|refine a6 ?_|refine a7 ?_|refine a8 ?_|refine aa a2 rfl rfl ?_)
 refine jI a2 rfl rfl rfl rfl rfl fun b hb => ?_
 repeat' (first|refine a7 ?_|refine a8 ?_)
 cases b with
 | true =>
  rw [hb rfl]
  repeat' (first|refine ae ?_|refine a6 ?_|refine aq ?_|refine a7 ?_|refine aE ?_|refine a8 ?_|refine aa a2 rfl rfl ?_|refine bS rfl ?_)
  refine be (bi (t := 2) (c' := .imm 4 []) rfl fun σ v h => fL 4 h) ?_
  exact aA rfl rfl rfl
 | false =>
  repeat' (first|refine ae ?_|refine a6 ?_|refine ar ?_|refine a7 ?_|refine aa a2 rfl rfl ?_|refine iz (d := 5) a2 fun _=>?_|refine bN rfl ?_)
  refine bE a2 [] rfl rfl rfl rfl (Gm _) (by rw [Gu]; simp; omega) (by rw [Gu]; simp; omega) rfl fun k' => ?_
  repeat' (first|refine aq ?_|refine a7 ?_|refine a8 ?_|refine aa a2 rfl rfl ?_)
  refine be (bi (t := 2) (c' := .imm 4 (l.map cB)) rfl fun σ v h => VR.im h) ?_
  refine cY (List.nil_sublist _) ?_
  exact aA rfl rfl rfl
theorem Bj (l : List dN) (hl : l.length ≤ 1000000) : bQ Tryz.prog 72 [.imm 4 (l.map dk)] (.imm 4 (l.map dk)) := by
 refine aQ Tryz.func72 rfl Tryz.ntmps72 rfl fun B => ?_
 have hml : (l.map dk).length = l.length := Gu ..
 repeat' (first|refine ae ?_|refine a6 ?_|refine a7 ?_|refine a8 ?_|refine aa a2 rfl rfl ?_)
 refine jI a2 rfl rfl rfl rfl rfl fun b hb => ?_
 repeat' (first|refine a7 ?_|refine a8 ?_)
 cases b with
 | true =>
  rw [hb rfl]
  repeat' (first|refine ae ?_|refine a6 ?_|refine aq ?_|refine a7 ?_|refine aE ?_|refine a8 ?_|refine aa a2 rfl rfl ?_|refine bS rfl ?_)
  refine be (bi (t := 2) (c' := .imm 4 []) rfl fun σ v h => fL 4 h) ?_
  exact aA rfl rfl rfl
 | false =>
  repeat' (first|refine ae ?_|refine a6 ?_|refine ar ?_|refine a7 ?_|refine aa a2 rfl rfl ?_|refine iz (d := 5) a2 fun _=>?_|refine bN rfl ?_)
  refine bE a2 [] rfl rfl rfl rfl (Gm _) (by rw [Gu]; simp; omega) (by rw [Gu]; simp; omega) rfl fun k' => ?_
  repeat' (first|refine aq ?_|refine a7 ?_|refine a8 ?_|refine aa a2 rfl rfl ?_)
  refine be (bi (t := 2) (c' := .imm 4 (l.map dk)) rfl fun σ v h => VR.im h) ?_
  refine cY (List.nil_sublist _) ?_
  exact aA rfl rfl rfl
end Go.Proofs.YtjjpkibjffmceaaGreat
