/-
  Outlines: the pieces of a row, one by one.
-/
import Derived.Test.YtbgolbkolcmldaaW45
namespace Go.Proofs.Ytbgolbkolcmldaa
open Go.RowKit
/-- where contours begin, and end -/
def cutsN (N : Nat) : Nat → Nat → List Int → List (Nat × Nat × Nat)
  | _, _, [] => []
  | i, f, e :: r => if e < f ∨ (N : Int) ≤ e then [] else (i, f, e.toNat + 1) :: cutsN N (i + 1) (e.toNat + 1) r
theorem cutsN_mem {N : Nat} : ∀ {l : List Int} {i f : Nat} {x : Nat × Nat × Nat}, x ∈ cutsN N i f l → f ≤ x.2.1 ∧ x.2.1 < x.2.2 ∧ x.2.2 ≤ N
  | [], i, f, x, h => by cases h
  | e :: r, i, f, x, h => by
    unfold cutsN at h
    split at h
    · cases h
    · rename_i hc
      rcases List.mem_cons.1 h with rfl | h
      · dsimp only
        omega
      · have := cutsN_mem h
        omega
theorem cutsN_len {N : Nat} : ∀ {l : List Int} {i f : Nat}, (cutsN N i f l).length ≤ l.length
  | [], i, f => by simp [cutsN]
  | e :: r, i, f => by
    unfold cutsN
    split
    · simp
    · have := cutsN_len (N := N) (l := r) (i := i + 1) (f := e.toNat + 1)
      simp
      omega
theorem rd1_cl {w : World} {xs : List Value} {A : Option Addr} {n cap k : Nat} {v : Value} (h : Rd w 1 (.slice A n cap) xs) (hs : xs[k]? = some v) : ∃ b off, A = some ⟨b, off, none⟩ ∧ Cl w b (off + k * 1) v := by
  obtain ⟨A', n', cap', he, hl, _, _, hr⟩ := h
  cases he
  have hk : k < xs.length := (List.getElem?_eq_some_iff.1 hs).1
  obtain ⟨b, off, rfl, hb, hc⟩ := hr (by omega)
  exact ⟨b, off, rfl, hb, by rw [Nat.mul_one]; exact hc _ _ hs⟩
theorem rd1_len {w : World} {xs : List Value} {A : Option Addr} {n cap : Nat} (h : Rd w 1 (.slice A n cap) xs) : n = xs.length ∧ n ≤ 9223372036854775807 := by
  obtain ⟨A', n', cap', he, hl, h1, h2, _⟩ := h
  cases he
  unfold maxLen at h2
  omega
def intC (l : List Int) : List Value := l.map fun z => .int .i64 z
theorem xt_retM10 {P : Program} {nt : Nat} {fr : Fr} {L : HL} {fn : Func} {w : World} {Post : Value → World → Prop} {t : Tmp} {v : Value} (hr : fn.results = #[.tmp t]) (hv : flook fr t = some v) (h : ∀ w', St w [] L w' → Post v w') : Xt P .ret (bodyPostM Fence.wide 0 P fn (Ret w Post)) nt [] fr (St w [] L) := by
  intro a w' ha hw
  show LeavesInM _ _ _ _ _ _ a.defers _ _
  rw [ha.defers]
  exact ⟨_, results_tmp hr _ _ _, v, by rw [ha.look t v hv], hw.toExt, h _ hw⟩
end Go.Proofs.Ytbgolbkolcmldaa
namespace Go.Proofs.Ytbgolbkolcmldaa
open Go.RowKit
attribute [local irreducible] T TL Xt O Op1 Kt DV ObsB DE DW DW1 LoopQ LoopJ

/-- a function over two boxes -/
def Closure2 (f : FuncId) (v1 v2 : Value) (w : World) (u : Value) (w' : World) : Prop := ∃ b1 b2, u = .func (.func f) #[] #[.pointer (some ⟨b1, 0, none⟩), .pointer (some ⟨b2, 0, none⟩)] ∧ St w [] [(b1, bx [v1] 34), (b2, bx [v2] 121)] w'
theorem pieces_calls (A Ae : Option Addr) (n cap ne ce : Nat) (w : World) : Calls Try.prog 75 #[.slice A n cap, .slice Ae ne ce] w (Ret w (Closure2 88 (.slice Ae ne ce) (.slice A n cap) w)) := by
  refine calls_S (vs := [.slice A n cap, .slice Ae ne ce]) Try.func75 rfl Try.ntmps75 rfl ?_
  (repeat' (first|refine Za ?_|refine Zb ?_|refine Zc ?_|refine Zd ?_|refine Zu tab rfl rfl ?_|(apply Yg; first|refine Yh fun _=>?_|refine Yi (Yj rfl rfl) rfl fun _=>?_)|fail))
  rename_i b2 b3
  refine tl_val (o_makeFunc [.pointer (some ⟨b3, 0, none⟩), .pointer (some ⟨b2, 0, none⟩)] rfl) rfl rfl ?_
  (repeat' (first|refine Zc ?_|refine Zd ?_|refine Zg ?_|refine Zu tab rfl rfl ?_|fail))
  exact xt_ret1 rfl rfl fun w' hw => ⟨_, rfl, hw.toExt, b3, b2, rfl, hw⟩

def encC (b off : Nat) (x : Nat × Nat × Nat) : List Value := [.int .i64 x.1, .slice (some ⟨b, off + x.2.1 * 3, none⟩) (x.2.2 - x.2.1) (x.2.2 - x.2.1)]

set_option maxHeartbeats 2000000 in
theorem pieces_iter (be br : Nat) (b off n cap : Nat) (Ae : Option Addr) (ne ce : Nat) (es : List Int) (hn : n ≤ cap) (hcap : cap ≤ 1000000000) :
    Iter2 Try.prog 88 [.pointer (some ⟨be, 0, none⟩), .pointer (some ⟨br, 0, none⟩)] (fun _ _ _ e vs => vs = encC b off e) (cutsN n 0 0 es) (fun w => Rd w 1 (.slice Ae ne ce) (intC es) ∧ Cl w be 0 (.slice Ae ne ce) ∧ Cl w br 0 (.slice (some ⟨b, off, none⟩) n cap)) := by
  intro l B J W hB hloc hdata hY h0
  obtain ⟨_, _, hr0, hcl0, hcr0⟩ := hdata [] [] W h0
  obtain ⟨hne, hne'⟩ := rd1_len hr0
  have hel : (intC es).length = es.length := by simp [intC]
  rw [hel] at hne
  subst hne
  refine calls_S Try.func88 rfl Try.ntmps88 rfl ?_
  (repeat' (first|refine Za ?_|refine Zb ?_|refine Zc ?_|refine Zd ?_|refine Ze ?_|refine Zu tab rfl rfl ?_|(apply Zy;refine Zz ?_)|fail))
  refine t_loopJ [0, 2, 7, 8] (α := Nat × Nat × List (Nat × Nat × Nat)) (fun x => [(4, .int .i64 x.2.1), (9, .int .i64 x.1)]) (fun x => x.1 ≤ es.length ∧ x.2.1 ≤ n ∧ x.2.2 ++ cutsN n x.1 x.2.1 (es.drop x.1) = cutsN n 0 0 es) (fun x => Hd B (J x.2.2) []) (fun x => es.length - x.1) (0, 0, []) rfl ⟨rfl, rfl, trivial⟩ ⟨by simp, by simp, by simp⟩ (fun w hw => St.hd hw h0 (hloc _) (by simp) (by omega) (by simp)) ?_
  rintro ⟨i, f, pre⟩ ⟨hi, hf, hq⟩
  dsimp only at hi hf hq
  refine t_hd fun w1 ids hJ1 hB1 hX1 => ?_
  obtain ⟨hfp, _, hr1, hcl1, hcr1⟩ := hdata _ _ _ hJ1
  have fin : ∀ (w' : World), St w1 [] [] w' → pre = cutsN n 0 0 es → ∃ ids, J (cutsN n 0 0 es) ids w' := fun w' hw' hp => by
    rw [hp] at hJ1
    obtain ⟨ids', h1, _⟩ := St.hd hw' hJ1 (hloc _) (by simp) hB1 (fun k hk => (hfp k hk).2)
    exact ⟨ids', h1⟩
  try dsimp only [List.cons_append, List.nil_append, List.map_cons, List.map_nil]
  (repeat' (first|refine Za ?_|refine Zb ?_|refine Zc ?_|refine Zd ?_|refine Zu tab rfl rfl ?_|fail))
  refine t_cond rfl (fun h => ?_) (fun h => ?_)
  · have hil : i < es.length := by have := of_decide_eq_true h; omega
    obtain ⟨e, he⟩ : ∃ e, es[i]? = some e := ⟨_, List.getElem?_eq_getElem hil⟩
    have hdr : es.drop i = e :: es.drop (i + 1) := by rw [List.drop_eq_getElem_cons hil, (List.getElem?_eq_some_iff.1 he).2]
    have hcu : cutsN n i f (e :: es.drop (i + 1)) = if e < f ∨ (n : Int) ≤ e then [] else (i, f, e.toNat + 1) :: cutsN n (i + 1) (e.toNat + 1) (es.drop (i + 1)) := rfl
    rw [hdr, hcu] at hq
    obtain ⟨bb, oo, rfl, hce⟩ := rd1_cl hr1 (k := i) (v := .int .i64 e) (by simp [intC, he])
    (repeat' (first|refine Za ?_|refine Zb ?_|refine Zc ?_|refine Zd ?_|refine Ze ?_|refine Zf ?_|refine Zu tab rfl rfl ?_|(apply Zy;refine Zz ?_)|(apply Yn;refine Yo ?_)|fail))
    refine tl_if [0, 2, 4, 5, 6, 7, 8, 9] (e < f ∨ (n : Int) ≤ e) rfl (fun Q' K => ?_) (fun hC => ?_) (fun hC => ?_)
    · (repeat' (first|refine Zd ?_|refine Zu tab rfl rfl ?_|refine Zv rfl rfl ?_|refine Zw rfl rfl rfl rfl ?_|(apply Zy;refine Zz ?_)|(apply Ya;refine Yb ?_)|refine tl_guard rfl rfl rfl (fun _ => ?_) (fun _ => ?_)|fail))
      all_goals exact K _ _ rfl rfl (by simp_all <;> omega)
    · rw [if_pos hC, List.append_nil] at hq
      (repeat' (first|refine Zg ?_|refine Zk ?_|refine Zm ?_|refine Zt ?_|fail))
      exact xt_ret0 rfl fun w' hw' => ⟨⟨_, rfl⟩, fin w' hw' hq⟩
    · rw [if_neg hC] at hq
      obtain ⟨m, hm⟩ : ∃ m : Nat, e + 1 = (m : Int) := ⟨(e + 1).toNat, by omega⟩
      have hem : e.toNat + 1 = m := by omega
      rw [hem] at hq
      (repeat' (first|refine Za ?_|refine Zb ?_|refine Zc ?_|refine Zf ?_|refine Zu tab rfl rfl ?_|(apply Zy;refine Zz ?_)|(apply Yc;refine Yd ?_)|fail))
      rw [hm]
      refine tl_val (o_sliceLHM rfl rfl rfl rfl (by omega) (by omega)) rfl rfl ?_
      rw [List.append_cons] at hq
      refine tl_yield2 (Enc := fun _ _ _ e vs => vs = encC b off e) (y := (i, f, m)) hloc (fun _ _ _ h k hk => ((hdata _ _ _ h).1 k hk).2) hY ⟨_, hq⟩ hJ1 (by simp) hB1 rfl rfl (fun _ _ => rfl) rfl fun w3 ids3 hJ3 hB3 hX3 => ?_
      try dsimp only [List.cons_append, List.nil_append, List.map_cons, List.map_nil]
      (repeat' (first|refine Zb ?_|refine Zc ?_|refine Zd ?_|refine Zf ?_|refine Zi ?_|refine Zu tab rfl rfl ?_|(apply Yc;refine Yd ?_)|refine Yy rfl ?_|fail))
      rw [hm]
      refine xt_roundJ (i + 1, m, pre ++ [(i, f, m)]) rfl ⟨rfl, rfl, trivial⟩ ⟨by dsimp only; omega, by dsimp only; omega, hq⟩ (by dsimp only; omega) fun w hw => ?_
      exact St.hd hw (ids := ids3) hJ3 (hloc _) (by simp) hB3 (fun k hk => ((hdata _ _ _ hJ3).1 k hk).2)
  · have hil : i = es.length := by have := of_decide_eq_false h; omega
    subst hil
    rw [List.drop_of_length_le (Nat.le_refl _), cutsN, List.append_nil] at hq
    (repeat' (first|refine Zh ?_|refine Zj ?_|refine Zl ?_|refine Zs ?_|fail))
    exact xt_end0 rfl fun w' hw' => ⟨⟨_, rfl⟩, fin w' hw' hq⟩

end Go.Proofs.Ytbgolbkolcmldaa
