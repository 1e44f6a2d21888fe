/-
  Glyphs: the lines of points filled, by the program and by the document.
-/
import Derived.Test.YtbgolbkolcmldaaW42
import Derived.Test.YtbgolbkolcmldaaW51
namespace Go.Proofs.Ytbgolbkolcmldaa
open Go.RowKit
theorem linesO_in {p : Pts} {on : List Bool} {es : List Int} (hin : InL p) (hpl : p.length ≤ 30) (hel : es.length ≤ 10) : Near (linesO p on es) ∧ (linesO p on es).flatten.length ≤ 5000 := by
  unfold linesO
  split
  · rename_i heq
    have hcin : InC (p.zip on) := fun s hs => hin s.1 (List.of_mem_zip hs).1
    have hcl : (p.zip on).length = p.length := by rw [List.length_zip]; omega
    have hrow : ∀ x ∈ cutsN p.length 0 0 es, InL (lineOf (p.zip on) x) ∧ (lineOf (p.zip on) x).length ≤ 480 := by
      intro x hx
      have hxb := cutsN_mem hx
      have h1 := rowPts_in (ringOf_in (piece_in hcin x))
      have hrl := ringTo_len (pieceOf (p.zip on) x) _ (Nat.le_refl _)
      rw [← ringOf_len, piece_len (by omega)] at hrl
      exact ⟨h1.1, by unfold lineOf; omega⟩
    refine ⟨fun q hq => ?_, ?_⟩
    · obtain ⟨l, hl, hql⟩ := List.mem_flatten.1 hq
      obtain ⟨x, hx, rfl⟩ := List.mem_map.1 hl
      exact (hrow x hx).1 q hql
    · have hC0 : (cutsN p.length 0 0 es).length ≤ es.length := cutsN_len
      have : ∀ C : List (Nat × Nat × Nat), (∀ x ∈ C, (lineOf (p.zip on) x).length ≤ 480) → (C.map (lineOf (p.zip on))).flatten.length ≤ C.length * 480 := by
        intro C
        induction C with
        | nil => intro _; simp
        | cons a t ih =>
          intro h
          have h1 := h a (List.mem_cons_self ..)
          have h2 := ih fun x hx => h x (List.mem_cons_of_mem _ hx)
          rw [List.map_cons, List.flatten_cons, List.length_append, List.length_cons, Nat.succ_mul]
          omega
      have := this _ fun x hx => (hrow x hx).2
      omega
  · exact ⟨fun q hq => by simp at hq, by simp⟩
end Go.Proofs.Ytbgolbkolcmldaa
namespace Go.Proofs.Ytbgolbkolcmldaa
open Go.RowKit
attribute [local irreducible] T TL Xt O Op1 Kt DV ObsB DE DW DW1 LoopQ LoopJ

set_option maxHeartbeats 1000000 in
theorem oglyph_calls (w : World) (c0 c2 : Value) (A Ao Ae : Option Addr) (n cap no co ne ce : Nat) (p : Pts) (on : List Bool) (es : List Int) (hp : Row w (.slice A n cap) p) (ho : Rd w 1 (.slice Ao no co) (boolC on)) (he : Rd w 1 (.slice Ae ne ce) (intC es)) (hin : InL p) (hpl : p.length ≤ 30) (hel : es.length ≤ 10) (h0 : c0.oneCell' = true) (h2 : c2.oneCell' = true) :
    Calls Try.prog 30 #[.agg #[c0, .slice A n cap, c2, .slice Ae ne ce], .slice Ao no co] w (Ret w fun v w' => BmI w w' v (fillB (linesO p on es))) := by
  obtain ⟨hnear, hlen⟩ := linesO_in (on := on) hin hpl hel
  have hed := edgesAll_le (linesO p on es)
  refine calls_S (vs := [.agg #[c0, .slice A n cap, c2, .slice Ae ne ce], .slice Ao no co]) Try.func30 rfl Try.ntmps30 rfl ?_
  (repeat' (first|refine Za ?_|refine Zb ?_|refine Zc ?_|refine Zd ?_|refine Zu tab rfl rfl ?_|(apply Zy;refine Zz ?_)|(apply Yg; first|refine Yh fun _=>?_|refine Yi (Yj rfl rfl) rfl fun _=>?_)|refine Yk rfl fun _=>?_|fail))
  refine tl_callR (Post := fun w1 v w2 => LinesI w1 w2 v (linesO p on es)) (fun w1 hw1 => olines_calls w1 A Ao Ae n cap no co ne ce p on es (hp.ext hw1.toExt) (ho.ext hw1.toExt) (he.ext hw1.toExt) hin (by omega) (by omega)) rfl rfl ?_
  rintro w1 w2 v1 hw1 he1 hl1
  obtain ⟨rows1, ⟨A1, n1, c1, rfl, _⟩, _⟩ := id hl1
  (repeat' (first|fail))
  refine tl_callR (Post := fun w1 v w2 => BmI w1 w2 v (fillB (linesO p on es))) (fun w3 hw3 => ?_) rfl rfl ?_
  · exact fill_calls w3 _ _ _ _ (hl1.at (hw3.sg fun p hp => by simp [hp])) (by omega)
  rintro w3 w4 v2 hw3 he3 ⟨rv2, rfl, hr2⟩
  obtain ⟨A2, n2, c3, rfl, _⟩ := id hr2
  generalize fillB (linesO p on es) = B at *
  (repeat' (first|refine Zc ?_|refine Zd ?_|refine Zg ?_|(apply Ye;refine Yf ?_)|fail))
  refine xt_retAS 0 rfl rfl rfl rfl fun w5 hw5 => ⟨_, rfl, ?_⟩
  exact (hr2.move (hw5.sg (fun p hp => by simp [hp]))).top hw3.size
set_option maxHeartbeats 1000000 in
theorem rglyph_calls (w : World) (c0 c2 : Value) (A Ao Ae : Option Addr) (n cap no co ne ce : Nat) (p : Pts) (on : List Bool) (es : List Int) (hp : Row w (.slice A n cap) p) (ho : Rd w 1 (.slice Ao no co) (boolC on)) (he : Rd w 1 (.slice Ae ne ce) (intC es)) (hin : InL p) (hpl : p.length ≤ 30) (hel : es.length ≤ 10) (h0 : c0.oneCell' = true) (h2 : c2.oneCell' = true) :
    Calls Try.prog 31 #[.agg #[c0, .slice A n cap, c2, .slice Ae ne ce], .slice Ao no co] w (Ret w fun v w' => BmI w w' v (fillB (linesO p on es))) := by
  obtain ⟨hnear, hlen⟩ := linesO_in (on := on) hin hpl hel
  have hed := edgesAll_le (linesO p on es)
  refine calls_S (vs := [.agg #[c0, .slice A n cap, c2, .slice Ae ne ce], .slice Ao no co]) Try.func31 rfl Try.ntmps31 rfl ?_
  (repeat' (first|refine Za ?_|refine Zb ?_|refine Zc ?_|refine Zd ?_|refine Zu tab rfl rfl ?_|(apply Zy;refine Zz ?_)|(apply Yg; first|refine Yh fun _=>?_|refine Yi (Yj rfl rfl) rfl fun _=>?_)|refine Yk rfl fun _=>?_|fail))
  refine tl_callR (Post := fun w1 v w2 => LinesI w1 w2 v (linesO p on es)) (fun w1 hw1 => rlines_calls w1 A Ao Ae n cap no co ne ce p on es (hp.ext hw1.toExt) (ho.ext hw1.toExt) (he.ext hw1.toExt) hin (by omega) (by omega)) rfl rfl ?_
  rintro w1 w2 v1 hw1 he1 hl1
  obtain ⟨rows1, ⟨A1, n1, c1, rfl, _⟩, _⟩ := id hl1
  (repeat' (first|fail))
  refine tl_callR (Post := fun w1 v w2 => BmI w1 w2 v (fillB (linesO p on es))) (fun w3 hw3 => ?_) rfl rfl ?_
  · rw [fills_eq hnear]
    exact rfill_calls w3 _ _ _ _ (hl1.at (hw3.sg fun p hp => by simp [hp])) hnear (by omega) (drops_len (by omega)) (crsR_ok hnear) (crsR_sorted hnear) (drops_bd hnear)
  rintro w3 w4 v2 hw3 he3 ⟨rv2, rfl, hr2⟩
  obtain ⟨A2, n2, c3, rfl, _⟩ := id hr2
  generalize fillB (linesO p on es) = B at *
  (repeat' (first|refine Zc ?_|refine Zd ?_|refine Zg ?_|(apply Ye;refine Yf ?_)|fail))
  refine xt_retAS 0 rfl rfl rfl rfl fun w5 hw5 => ⟨_, rfl, ?_⟩
  exact (hr2.move (hw5.sg (fun p hp => by simp [hp]))).top hw3.size

end Go.Proofs.Ytbgolbkolcmldaa
