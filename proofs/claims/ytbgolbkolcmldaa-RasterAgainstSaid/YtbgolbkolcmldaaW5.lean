/-
  How often lines go around a place.
-/
import Derived.Test.YtbgolbkolcmldaaW4
namespace Go.Proofs.Ytbgolbkolcmldaa
open Go.RowKit
attribute [local irreducible] T TL Xt O Op1 Kt DV ObsB DE

theorem mul_bd {a b A B : Int} (ha : -A ≤ a ∧ a ≤ A) (hb : -B ≤ b ∧ b ≤ B) : -(A * B) ≤ a * b ∧ a * b ≤ A * B := by
  have hA : 0 ≤ A := by omega
  have hB : 0 ≤ B := by omega
  have h : (a * b).natAbs ≤ (A * B).natAbs := by
    rw [Int.natAbs_mul, Int.natAbs_mul]
    exact Nat.mul_le_mul (by omega) (by omega)
  have h2 : 0 ≤ A * B := Int.mul_nonneg hA hB
  omega

theorem cut_bd (n : Int) : -268435456 ≤ cut n ∧ cut n ≤ 268435456 := by unfold cut; omega

structure EdgeOk (e : Edg) : Prop where
  x0 : -268435456 ≤ e.1 ∧ e.1 ≤ 268435456
  y0 : -268435456 ≤ e.2.1 ∧ e.2.1 ≤ 268435456
  x1 : -268435456 ≤ e.2.2.1 ∧ e.2.2.1 ≤ 268435456
  y1 : -268435456 ≤ e.2.2.2.1 ∧ e.2.2.2.1 ≤ 268435456
  up : e.2.1 < e.2.2.2.1
  turn : e.2.2.2.2 = 1 ∨ e.2.2.2.2 = -1

theorem edgeAt_ok {l : Pts} {i : Nat} {e : Edg} (h : e ∈ edgeAt l i) : EdgeOk e := by
  unfold edgeAt at h
  split at h
  · rename_i p q _ _
    split at h
    · rename_i hlt
      simp at h; subst h
      have a1 := cut_bd p.1; have a2 := cut_bd p.2; have a3 := cut_bd q.1; have a4 := cut_bd q.2
      unfold edgeV at hlt ⊢
      by_cases hc : cut q.2 < cut p.2
      · rw [if_pos hc] at hlt ⊢
        exact ⟨a3, a4, a1, a2, hlt, .inr rfl⟩
      · rw [if_neg hc] at hlt ⊢
        exact ⟨a1, a2, a3, a4, hlt, .inl rfl⟩
    · simp at h
  · simp at h
theorem edgesAll_ok {ls : List Pts} {e : Edg} (h : e ∈ edgesAll ls) : EdgeOk e := by
  unfold edgesAll edgesOf edgesTo at h
  simp only [List.mem_flatMap] at h
  obtain ⟨l, _, i, _, he⟩ := h
  exact edgeAt_ok he

/-- where an edge crosses a height: n by d -/
def atN (e : Edg) (y : Int) : Int := e.1 * (e.2.2.2.1 - e.2.1) + (e.2.2.1 - e.1) * (y - e.2.1)
def atD (e : Edg) : Int := e.2.2.2.1 - e.2.1

theorem atN_bd {e : Edg} {y : Int} (h : EdgeOk e) (hy : -268435456 ≤ y ∧ y ≤ 268435456) : (-144115188075855872 ≤ e.1 * (e.2.2.2.1 - e.2.1) ∧ e.1 * (e.2.2.2.1 - e.2.1) ≤ 144115188075855872) ∧ (-288230376151711744 ≤ (e.2.2.1 - e.1) * (y - e.2.1) ∧ (e.2.2.1 - e.1) * (y - e.2.1) ≤ 288230376151711744) := by
  obtain ⟨h1, h2, h3, h4, h5, _⟩ := h
  have a := mul_bd (a := e.1) (b := e.2.2.2.1 - e.2.1) (A := 268435456) (B := 536870912) h1 (by omega)
  have b := mul_bd (a := e.2.2.1 - e.1) (b := y - e.2.1) (A := 536870912) (B := 536870912) (by omega) (by omega)
  omega

def windOne (x y : Int) (e : Edg) : Int := if (decide (e.2.1 ≤ y) && decide (y < e.2.2.2.1)) = true ∧ cmpI (atN e y * 1) (x * atD e) ≤ 0 then e.2.2.2.2 else 0
def windE (x y : Int) (es : List Edg) : Int := (es.map (windOne x y)).sum
def wind (ls : List Pts) (x y : Int) : Int := windE (cut x) (cut y) (edgesAll ls)

theorem windE_snoc (x y : Int) (es : List Edg) (e : Edg) : windE x y (es ++ [e]) = windE x y es + windOne x y e := by simp [windE]
theorem windOne_bd (x y : Int) (e : Edg) (h : EdgeOk e) : -1 ≤ windOne x y e ∧ windOne x y e ≤ 1 := by
  unfold windOne
  have := h.turn
  split <;> omega
theorem windE_bd (x y : Int) (es : List Edg) (h : ∀ e ∈ es, EdgeOk e) : -(es.length : Int) ≤ windE x y es ∧ windE x y es ≤ es.length := by
  induction es with
  | nil => simp [windE]
  | cons e es ih =>
    have a := ih fun e' he => h e' (List.mem_cons_of_mem _ he)
    have b := windOne_bd x y e (h e (List.mem_cons_self ..))
    have : windE x y (e :: es) = windOne x y e + windE x y es := by simp [windE]
    rw [this]; simp; omega

theorem o_makeFunc {P : Program} {fr : Fr} {I : World → Prop} {d : Option Tmp} {ty : TypeId} {pos : String} {af : Array Edge} {g : Option (Nat × Bool)} {f : FuncId} {cap : Array Operand} (vs : List Value) (hv : fevs fr cap.toList = some vs) : Pv P ⟨d, .makeFunc (.func f) #[] cap, ty, pos, af, g⟩ fr I (.func (.func f) #[] vs.toArray) :=
  pv_of fun ρ w hρ _ => by
    have e : cap.map ρ = vs.toArray := by
      apply Array.toList_inj.1
      simp [fevs_map hρ _ _ hv]
    simp [execOp, Instr.makeFunc, e]

def Closure1 (f : FuncId) (t : TypeId) (v : Value) (w : World) (u : Value) (w' : World) : Prop := ∃ bl, u = .func (.func f) #[] #[.pointer (some ⟨bl, 0, none⟩)] ∧ w.heap.size ≤ bl ∧ w'.heap[bl]? = some (.cells #[v] t (0, 0))

theorem edges_calls (v : Value) (h1 : v.cells = #[v]) (w : World) : Calls Try.prog 42 #[v] w (Ret w (Closure1 72 22 v w)) := by
  refine calls_S (vs := [v]) Try.func42 rfl Try.ntmps42 rfl ?_
  (repeat' (first
    | refine t_seq ?_
    | refine t_region ?_
    | refine xt_then ?_
    | refine tl_nil ?_
    | refine t_block ?_
    | refine t_skip ?_
    | refine t_ret ?_
    | refine t_exit ?_
    | refine xt_blk ?_
    | refine xt_blk_exit ?_
    | refine xt_then_ret ?_
    | refine xt_then_exit ?_
    | refine xt_blk_ret ?_
    | refine xt_blk_other rfl ?_
    | refine xt_round_exit ?_
    | refine xt_round_ret ?_
    | refine tl_run tab rfl rfl ?_
    | refine tl_guard_yes rfl rfl ?_
    | refine tl_guard_no rfl rfl rfl rfl ?_
    | refine tl_guard_undef rfl rfl rfl ?_
    | refine tl_load (by first | exact o_loadB 0 rfl rfl rfl | exact o_loadB 1 rfl rfl rfl | exact o_loadB 2 rfl rfl rfl | exact o_loadB 3 rfl rfl rfl | exact o_loadB 4 rfl rfl rfl | exact o_loadBA 0 rfl rfl rfl | exact o_loadBA 1 rfl rfl rfl | exact o_loadBA 2 rfl rfl rfl | exact o_loadBA 3 rfl rfl rfl) rfl ?_
    | refine tl_pick (by first | exact o_pick_t rfl rfl | exact o_pick_f rfl rfl) rfl ?_
    | refine tl_bin (by first | exact o_add64 rfl rfl (by omega) | exact o_sub64 rfl rfl (by omega) | exact o_mul64 rfl rfl (by first | assumption | omega)) rfl ?_
    | refine tl_store (by first | exact o_storeB 0 rfl rfl rfl rfl rfl | exact o_storeB 1 rfl rfl rfl rfl rfl | exact o_storeB 2 rfl rfl rfl rfl rfl | exact o_storeBA 0 rfl rfl rfl rfl rfl rfl | exact o_storeBA 1 rfl rfl rfl rfl rfl rfl | exact o_storeBA 2 rfl rfl rfl rfl rfl rfl) ?_
    | refine tl_box (o_box rfl rfl) rfl (fun _ => ?_)
    | refine tl_alloc rfl (fun _ => ?_)))
  rename_i b
  refine tl_val (o_makeFunc [.pointer (some ⟨b, 0, none⟩)] rfl) rfl rfl ?_
  (repeat' (first
    | refine t_seq ?_
    | refine t_region ?_
    | refine xt_then ?_
    | refine tl_nil ?_
    | refine t_block ?_
    | refine t_skip ?_
    | refine t_ret ?_
    | refine t_exit ?_
    | refine xt_blk ?_
    | refine xt_blk_exit ?_
    | refine xt_then_ret ?_
    | refine xt_then_exit ?_
    | refine xt_blk_ret ?_
    | refine xt_blk_other rfl ?_
    | refine xt_round_exit ?_
    | refine xt_round_ret ?_
    | refine tl_run tab rfl rfl ?_
    | refine tl_guard_yes rfl rfl ?_
    | refine tl_guard_no rfl rfl rfl rfl ?_
    | refine tl_guard_undef rfl rfl rfl ?_
    | refine tl_load (by first | exact o_loadB 0 rfl rfl rfl | exact o_loadB 1 rfl rfl rfl | exact o_loadB 2 rfl rfl rfl | exact o_loadB 3 rfl rfl rfl | exact o_loadB 4 rfl rfl rfl | exact o_loadBA 0 rfl rfl rfl | exact o_loadBA 1 rfl rfl rfl | exact o_loadBA 2 rfl rfl rfl | exact o_loadBA 3 rfl rfl rfl) rfl ?_
    | refine tl_pick (by first | exact o_pick_t rfl rfl | exact o_pick_f rfl rfl) rfl ?_
    | refine tl_bin (by first | exact o_add64 rfl rfl (by omega) | exact o_sub64 rfl rfl (by omega) | exact o_mul64 rfl rfl (by first | assumption | omega)) rfl ?_
    | refine tl_store (by first | exact o_storeB 0 rfl rfl rfl rfl rfl | exact o_storeB 1 rfl rfl rfl rfl rfl | exact o_storeB 2 rfl rfl rfl rfl rfl | exact o_storeBA 0 rfl rfl rfl rfl rfl rfl | exact o_storeBA 1 rfl rfl rfl rfl rfl rfl | exact o_storeBA 2 rfl rfl rfl rfl rfl rfl) ?_
    | refine tl_box (o_box rfl rfl) rfl (fun _ => ?_)
    | refine tl_alloc rfl (fun _ => ?_)))
  refine xt_ret1 rfl rfl fun w' hw => ⟨_, rfl, hw.toExt, b, rfl, ?_, ?_⟩
  · have := hw.mine (b, _) (List.mem_cons_self ..)
    simpa using this
  · have := hw.get (List.mem_cons_self ..)
    rw [this]; simp [h1]

theorem winding_calls (w : World) (A : Option Addr) (n cap : Nat) (ls : List Pts) (hL : Lines w (.slice A n cap) ls) (x y : Int) (hcount : (edgesAll ls).length ≤ 4000000000000000000) :
    Calls Try.prog 18 #[.slice A n cap, pt x y] w (Ret w fun v _ => v = .int .i64 (wind ls x y)) := by
  refine calls_M (vs := [.slice A n cap, pt x y]) Try.func18 rfl Try.ntmps18 rfl ?_
  (repeat' (first
    | refine t_seq ?_
    | refine t_region ?_
    | refine xt_then ?_
    | refine tl_nil ?_
    | refine t_block ?_
    | refine t_skip ?_
    | refine t_ret ?_
    | refine t_exit ?_
    | refine xt_blk ?_
    | refine xt_blk_exit ?_
    | refine xt_then_ret ?_
    | refine xt_then_exit ?_
    | refine xt_blk_ret ?_
    | refine xt_blk_other rfl ?_
    | refine xt_round_exit ?_
    | refine xt_round_ret ?_
    | refine tl_run tab rfl rfl ?_
    | refine tl_guard_yes rfl rfl ?_
    | refine tl_guard_no rfl rfl rfl rfl ?_
    | refine tl_guard_undef rfl rfl rfl ?_
    | refine tl_load (by first | exact o_loadB 0 rfl rfl rfl | exact o_loadB 1 rfl rfl rfl | exact o_loadB 2 rfl rfl rfl | exact o_loadB 3 rfl rfl rfl | exact o_loadB 4 rfl rfl rfl | exact o_loadBA 0 rfl rfl rfl | exact o_loadBA 1 rfl rfl rfl | exact o_loadBA 2 rfl rfl rfl | exact o_loadBA 3 rfl rfl rfl) rfl ?_
    | refine tl_pick (by first | exact o_pick_t rfl rfl | exact o_pick_f rfl rfl) rfl ?_
    | refine tl_bin (by first | exact o_add64 rfl rfl (by omega) | exact o_sub64 rfl rfl (by omega) | exact o_mul64 rfl rfl (by first | assumption | omega)) rfl ?_
    | refine tl_store (by first | exact o_storeB 0 rfl rfl rfl rfl rfl | exact o_storeB 1 rfl rfl rfl rfl rfl | exact o_storeB 2 rfl rfl rfl rfl rfl | exact o_storeBA 0 rfl rfl rfl rfl rfl rfl | exact o_storeBA 1 rfl rfl rfl rfl rfl rfl | exact o_storeBA 2 rfl rfl rfl rfl rfl rfl) ?_
    | refine tl_box (o_box rfl rfl) rfl (fun _ => ?_)
    | refine tl_alloc rfl (fun _ => ?_)))
  rename_i b3
  apply t_drawB0 [.val _, .val _, .val (.int .i64 (cut x)), .val _, .val _, .val (.int .i64 (cut y)), .box 3 [.int .i64 0] [.int .i64 (cut x)] 8, .box 2 [.int .i64 0] [.int .i64 (cut y)] 9, .put 6, .put 7] rfl ?hob mixed (by kernel_rfl) rfl ?fin
  case hob =>
    (repeat' (first
      | refine ob_p tab (fun _ => rfl) ?_
      | (apply ob_v; focus (intro _ _; first | exact o_loadB 0 rfl rfl rfl | exact o_loadB 1 rfl rfl rfl | exact o_loadB 2 rfl rfl rfl | exact o_loadB 3 rfl rfl rfl | exact o_loadBA 0 rfl rfl rfl | exact o_loadBA 1 rfl rfl rfl | exact o_loadBA 2 rfl rfl rfl | exact o_loadBA 3 rfl rfl rfl | exact o_add64 rfl rfl (by omega) | exact o_sub64 rfl rfl (by omega)))))
    apply ob_v
    · intro _ _; exact o_det (cut_det x) rfl
    (repeat' (first
      | refine ob_p tab (fun _ => rfl) ?_
      | (apply ob_v; focus (intro _ _; first | exact o_loadB 0 rfl rfl rfl | exact o_loadB 1 rfl rfl rfl | exact o_loadB 2 rfl rfl rfl | exact o_loadB 3 rfl rfl rfl | exact o_loadBA 0 rfl rfl rfl | exact o_loadBA 1 rfl rfl rfl | exact o_loadBA 2 rfl rfl rfl | exact o_loadBA 3 rfl rfl rfl | exact o_add64 rfl rfl (by omega) | exact o_sub64 rfl rfl (by omega)))))
    apply ob_v
    · intro _ _; exact o_det (cut_det y) rfl
    refine ob_box rfl rfl rfl ?_
    refine ob_box rfl rfl rfl ?_
    refine ob_put rfl rfl rfl (fun _ => rfl) (fun _ => rfl) (stores_sc rfl) ?_
    refine ob_put rfl rfl rfl (fun _ => rfl) (fun _ => rfl) (stores_sc rfl) ?_
    exact ob_nil
  case fin =>
    intro bs
    generalize h5 : bs 6 = b5
    generalize h6 : bs 7 = b6
    refine xt_weak (fr' := [(0, .slice A n cap), (5, .pointer (some ⟨bs 6, 0, none⟩)), (6, .pointer (some ⟨bs 7, 0, none⟩))]) (I' := St w [] [(bs 6, bx [.int .i64 (cut x)] 3), (bs 7, bx [.int .i64 (cut y)] 2)]) ⟨rfl, rfl, rfl, trivial⟩ (fun _ h => h.sublist (.cons_cons _ (.cons_cons _ (List.nil_sublist _)))) ?_
    rw [h5, h6]
    (repeat' (first
      | refine t_seq ?_
      | refine t_region ?_
      | refine xt_then ?_
      | refine tl_nil ?_
      | refine t_block ?_
      | refine t_skip ?_
      | refine t_ret ?_
      | refine t_exit ?_
      | refine xt_blk ?_
      | refine xt_blk_exit ?_
      | refine xt_then_ret ?_
      | refine xt_then_exit ?_
      | refine xt_blk_ret ?_
      | refine xt_blk_other rfl ?_
      | refine xt_round_exit ?_
      | refine xt_round_ret ?_
      | refine tl_run tab rfl rfl ?_
      | refine tl_guard_yes rfl rfl ?_
      | refine tl_guard_no rfl rfl rfl rfl ?_
      | refine tl_guard_undef rfl rfl rfl ?_
      | refine tl_load (by first | exact o_loadB 0 rfl rfl rfl | exact o_loadB 1 rfl rfl rfl | exact o_loadB 2 rfl rfl rfl | exact o_loadB 3 rfl rfl rfl | exact o_loadB 4 rfl rfl rfl | exact o_loadBA 0 rfl rfl rfl | exact o_loadBA 1 rfl rfl rfl | exact o_loadBA 2 rfl rfl rfl | exact o_loadBA 3 rfl rfl rfl) rfl ?_
      | refine tl_pick (by first | exact o_pick_t rfl rfl | exact o_pick_f rfl rfl) rfl ?_
      | refine tl_bin (by first | exact o_add64 rfl rfl (by omega) | exact o_sub64 rfl rfl (by omega) | exact o_mul64 rfl rfl (by first | assumption | omega)) rfl ?_
      | refine tl_store (by first | exact o_storeB 0 rfl rfl rfl rfl rfl | exact o_storeB 1 rfl rfl rfl rfl rfl | exact o_storeB 2 rfl rfl rfl rfl rfl | exact o_storeBA 0 rfl rfl rfl rfl rfl rfl | exact o_storeBA 1 rfl rfl rfl rfl rfl rfl | exact o_storeBA 2 rfl rfl rfl rfl rfl rfl) ?_
      | refine tl_box (o_box rfl rfl) rfl (fun _ => ?_)
      | refine tl_alloc rfl (fun _ => ?_)))
    rename_i b7
    refine tl_ret (fun bl => .func (.func 72) #[] #[.pointer (some ⟨bl, 0, none⟩)]) (fun bl => [(bl, bx [.slice A n cap] 22)]) (fun w _ => edges_calls (.slice A n cap) rfl w) rfl (fun w1 v w2 hs he ⟨bl, hv, hb, hh⟩ => ⟨bl, hv, hs.addNew he hb hh rfl⟩) rfl fun bl => ?_
    (repeat' (first
      | refine t_seq ?_
      | refine t_region ?_
      | refine xt_then ?_
      | refine tl_nil ?_
      | refine t_block ?_
      | refine t_skip ?_
      | refine t_ret ?_
      | refine t_exit ?_
      | refine xt_blk ?_
      | refine xt_blk_exit ?_
      | refine xt_then_ret ?_
      | refine xt_then_exit ?_
      | refine xt_blk_ret ?_
      | refine xt_blk_other rfl ?_
      | refine xt_round_exit ?_
      | refine xt_round_ret ?_
      | refine tl_run tab rfl rfl ?_
      | refine tl_guard_yes rfl rfl ?_
      | refine tl_guard_no rfl rfl rfl rfl ?_
      | refine tl_guard_undef rfl rfl rfl ?_
      | refine tl_load (by first | exact o_loadB 0 rfl rfl rfl | exact o_loadB 1 rfl rfl rfl | exact o_loadB 2 rfl rfl rfl | exact o_loadB 3 rfl rfl rfl | exact o_loadB 4 rfl rfl rfl | exact o_loadBA 0 rfl rfl rfl | exact o_loadBA 1 rfl rfl rfl | exact o_loadBA 2 rfl rfl rfl | exact o_loadBA 3 rfl rfl rfl) rfl ?_
      | refine tl_pick (by first | exact o_pick_t rfl rfl | exact o_pick_f rfl rfl) rfl ?_
      | refine tl_bin (by first | exact o_add64 rfl rfl (by omega) | exact o_sub64 rfl rfl (by omega) | exact o_mul64 rfl rfl (by first | assumption | omega)) rfl ?_
      | refine tl_store (by first | exact o_storeB 0 rfl rfl rfl rfl rfl | exact o_storeB 1 rfl rfl rfl rfl rfl | exact o_storeB 2 rfl rfl rfl rfl rfl | exact o_storeBA 0 rfl rfl rfl rfl rfl rfl | exact o_storeBA 1 rfl rfl rfl rfl rfl rfl | exact o_storeBA 2 rfl rfl rfl rfl rfl rfl) ?_
      | refine tl_box (o_box rfl rfl) rfl (fun _ => ?_)
      | refine tl_alloc rfl (fun _ => ?_)))
    refine t_range (edges_iter w bl A n cap ls hL) rfl (fun pre => [(b7, bx [.int .i64 (windE (cut x) (cut y) pre)] 3), (b5, bx [.int .i64 (cut x)] 3), (b6, bx [.int .i64 (cut y)] 2), (bl, bx [.slice A n cap] 22)]) [b7, b5, b6, bl] (fun _ => rfl) ?_ ?_ (fun _ => rfl) rfl ?_ ?_
    · intro w' h
      exact h.perm (List.perm_append_comm (l₁ := [(bl, bx [.slice A n cap] 22)]) (l₂ := [(b7, bx [.int .i64 0] 3), (b5, bx [.int .i64 (cut x)] 3), (b6, bx [.int .i64 (cut y)] 2)]))
    · intro pre w' h
      have hbl := h.get (b := bl) (cs := [.slice A n cap]) (t := 22) (by simp)
      exact ⟨⟨h.size, fun k hk => h.old k hk (by simp)⟩, (Array.getElem?_eq_some_iff.1 hbl).1, by rw [cell_of hbl]; rfl⟩
    · intro l db rec pre e W hpre hst
      have hmem : e ∈ edgesAll ls := hpre.subset (by simp)
      have hok := edgesAll_ok hmem
      obtain ⟨hb1, hb2⟩ := atN_bd hok (cut_bd y)
      have hdb : 0 < atD e ∧ atD e ≤ 536870912 := by unfold atD; have := hok.up; have := hok.y0; have := hok.y1; omega
      have hlen : pre.length + 1 ≤ (edgesAll ls).length := by have := hpre.length_le; simpa using this
      have hbd := windE_bd (cut x) (cut y) pre (fun e' he => edgesAll_ok (hpre.subset (by simp [he])))
      have hxd := mul_bd (a := cut x) (b := atD e) (A := 268435456) (B := 536870912) (cut_bd x) (by omega)
      have hx0 := hok.x0; have hx1 := hok.x1; have hy0 := hok.y0; have hy1 := hok.y1; have hup := hok.up; have hcy := cut_bd y
      have hsn := windE_snoc (cut x) (cut y) pre e
      (repeat' (first
        | refine t_seq ?_
        | refine t_region ?_
        | refine xt_then ?_
        | refine tl_nil ?_
        | refine t_block ?_
        | refine t_skip ?_
        | refine t_ret ?_
        | refine t_exit ?_
        | refine xt_blk ?_
        | refine xt_blk_exit ?_
        | refine xt_then_ret ?_
        | refine xt_then_exit ?_
        | refine xt_blk_ret ?_
        | refine xt_blk_other rfl ?_
        | refine xt_round_exit ?_
        | refine xt_round_ret ?_
        | refine tl_run tab rfl rfl ?_
        | refine tl_guard_yes rfl rfl ?_
        | refine tl_guard_no rfl rfl rfl rfl ?_
        | refine tl_guard_undef rfl rfl rfl ?_
        | refine tl_load (by first | exact o_loadB 0 rfl rfl rfl | exact o_loadB 1 rfl rfl rfl | exact o_loadB 2 rfl rfl rfl | exact o_loadB 3 rfl rfl rfl | exact o_loadB 4 rfl rfl rfl | exact o_loadBA 0 rfl rfl rfl | exact o_loadBA 1 rfl rfl rfl | exact o_loadBA 2 rfl rfl rfl | exact o_loadBA 3 rfl rfl rfl) rfl ?_
        | refine tl_pick (by first | exact o_pick_t rfl rfl | exact o_pick_f rfl rfl) rfl ?_
        | refine tl_bin (by first | exact o_add64 rfl rfl (by omega) | exact o_sub64 rfl rfl (by omega) | exact o_mul64 rfl rfl (by first | assumption | omega)) rfl ?_
        | refine tl_store (by first | exact o_storeB 0 rfl rfl rfl rfl rfl | exact o_storeB 1 rfl rfl rfl rfl rfl | exact o_storeB 2 rfl rfl rfl rfl rfl | exact o_storeBA 0 rfl rfl rfl rfl rfl rfl | exact o_storeBA 1 rfl rfl rfl rfl rfl rfl | exact o_storeBA 2 rfl rfl rfl rfl rfl rfl) ?_
        | refine tl_box (o_box rfl rfl) rfl (fun _ => ?_)
        | refine tl_alloc rfl (fun _ => ?_)))
      rename_i b8
      refine xt_weak (fr' := [(5, .pointer (some ⟨b5, 0, none⟩)), (6, .pointer (some ⟨b6, 0, none⟩)), (7, .pointer (some ⟨b7, 0, none⟩)), (8, .pointer (some ⟨b8, 0, none⟩))]) (I' := St W (l :: ([b7, b5, b6, bl] ++ [db])) ([(b8, bx [.int .i64 e.1, .int .i64 e.2.1, .int .i64 e.2.2.1, .int .i64 e.2.2.2.1, .int .i64 e.2.2.2.2] 83), (b7, bx [.int .i64 (windE (cut x) (cut y) pre)] 3), (b5, bx [.int .i64 (cut x)] 3), (b6, bx [.int .i64 (cut y)] 2), (bl, bx [.slice A n cap] 22), (db, defO)] ++ [(l, recO rec .ready)])) ⟨rfl, rfl, rfl, rfl, trivial⟩ (fun _ h => h) ?_
      refine xt_begin ?_
      (repeat' (first
        | refine t_seq ?_
        | refine t_region ?_
        | refine xt_then ?_
        | refine tl_nil ?_
        | refine t_block ?_
        | refine t_skip ?_
        | refine t_ret ?_
        | refine t_exit ?_
        | refine xt_blk ?_
        | refine xt_blk_exit ?_
        | refine xt_then_ret ?_
        | refine xt_then_exit ?_
        | refine xt_blk_ret ?_
        | refine xt_blk_other rfl ?_
        | refine xt_round_exit ?_
        | refine xt_round_ret ?_
        | refine tl_run tab rfl rfl ?_
        | refine tl_guard_yes rfl rfl ?_
        | refine tl_guard_no rfl rfl rfl rfl ?_
        | refine tl_guard_undef rfl rfl rfl ?_
        | refine tl_load (by first | exact o_loadB 0 rfl rfl rfl | exact o_loadB 1 rfl rfl rfl | exact o_loadB 2 rfl rfl rfl | exact o_loadB 3 rfl rfl rfl | exact o_loadB 4 rfl rfl rfl | exact o_loadBA 0 rfl rfl rfl | exact o_loadBA 1 rfl rfl rfl | exact o_loadBA 2 rfl rfl rfl | exact o_loadBA 3 rfl rfl rfl) rfl ?_
        | refine tl_pick (by first | exact o_pick_t rfl rfl | exact o_pick_f rfl rfl) rfl ?_
        | refine tl_bin (by first | exact o_add64 rfl rfl (by omega) | exact o_sub64 rfl rfl (by omega) | exact o_mul64 rfl rfl (by first | assumption | omega)) rfl ?_
        | refine tl_store (by first | exact o_storeB 0 rfl rfl rfl rfl rfl | exact o_storeB 1 rfl rfl rfl rfl rfl | exact o_storeB 2 rfl rfl rfl rfl rfl | exact o_storeBA 0 rfl rfl rfl rfl rfl rfl | exact o_storeBA 1 rfl rfl rfl rfl rfl rfl | exact o_storeBA 2 rfl rfl rfl rfl rfl rfl) ?_
        | refine tl_box (o_box rfl rfl) rfl (fun _ => ?_)
        | refine tl_alloc rfl (fun _ => ?_)))
      by_cases hc : (decide (e.2.1 ≤ cut y) && decide (cut y < e.2.2.2.1)) = true
      · have hcr : Det Try.prog 43 [edg e.1 e.2.1 e.2.2.1 e.2.2.2.1 e.2.2.2.2, .int .i64 (cut y)] (.bool true) := by
          have := crosses_det e.1 e.2.1 e.2.2.1 e.2.2.2.1 e.2.2.2.2 (cut y)
          rwa [hc] at this
        refine t_drawV (fun w n h => h.drew n) ?_ mixed (by kernel_rfl) rfl
        (repeat' (first
          | refine dv_p tab rfl ?_
          | refine dv_py tab rfl rfl ?_
          | refine dv_no rfl rfl ?_
          | refine dv_undef rfl ?_
          | (apply dv_op; focus (first | exact o_loadB 0 rfl rfl rfl | exact o_loadB 1 rfl rfl rfl | exact o_loadB 2 rfl rfl rfl | exact o_loadB 3 rfl rfl rfl | exact o_loadBA 0 rfl rfl rfl | exact o_loadBA 1 rfl rfl rfl | exact o_loadBA 2 rfl rfl rfl | exact o_loadBA 3 rfl rfl rfl | exact o_add64 rfl rfl (by omega) | exact o_sub64 rfl rfl (by omega) | exact o_pick_t rfl rfl | exact o_pick_f rfl rfl))
          | (apply dv_yes rfl; focus (first | exact o_loadB 0 rfl rfl rfl | exact o_loadB 1 rfl rfl rfl | exact o_loadB 2 rfl rfl rfl | exact o_loadB 3 rfl rfl rfl | exact o_loadBA 0 rfl rfl rfl | exact o_loadBA 1 rfl rfl rfl | exact o_loadBA 2 rfl rfl rfl | exact o_loadBA 3 rfl rfl rfl | exact o_add64 rfl rfl (by omega) | exact o_sub64 rfl rfl (by omega) | exact o_pick_t rfl rfl | exact o_pick_f rfl rfl))))
        apply dv_op
        · exact o_det hcr rfl
        (repeat' (first
          | refine dv_p tab rfl ?_
          | refine dv_py tab rfl rfl ?_
          | refine dv_no rfl rfl ?_
          | refine dv_undef rfl ?_
          | (apply dv_op; focus (first | exact o_loadB 0 rfl rfl rfl | exact o_loadB 1 rfl rfl rfl | exact o_loadB 2 rfl rfl rfl | exact o_loadB 3 rfl rfl rfl | exact o_loadBA 0 rfl rfl rfl | exact o_loadBA 1 rfl rfl rfl | exact o_loadBA 2 rfl rfl rfl | exact o_loadBA 3 rfl rfl rfl | exact o_add64 rfl rfl (by omega) | exact o_sub64 rfl rfl (by omega) | exact o_pick_t rfl rfl | exact o_pick_f rfl rfl))
          | (apply dv_yes rfl; focus (first | exact o_loadB 0 rfl rfl rfl | exact o_loadB 1 rfl rfl rfl | exact o_loadB 2 rfl rfl rfl | exact o_loadB 3 rfl rfl rfl | exact o_loadBA 0 rfl rfl rfl | exact o_loadBA 1 rfl rfl rfl | exact o_loadBA 2 rfl rfl rfl | exact o_loadBA 3 rfl rfl rfl | exact o_add64 rfl rfl (by omega) | exact o_sub64 rfl rfl (by omega) | exact o_pick_t rfl rfl | exact o_pick_f rfl rfl))))
        apply dv_yes rfl
        · exact o_det (at_det e.1 e.2.1 e.2.2.1 e.2.2.2.1 e.2.2.2.2 (cut y) (by omega) (by omega) (by omega) (by omega) (by omega) (by omega)) rfl
        (repeat' (first
          | refine dv_p tab rfl ?_
          | refine dv_py tab rfl rfl ?_
          | refine dv_no rfl rfl ?_
          | refine dv_undef rfl ?_
          | (apply dv_op; focus (first | exact o_loadB 0 rfl rfl rfl | exact o_loadB 1 rfl rfl rfl | exact o_loadB 2 rfl rfl rfl | exact o_loadB 3 rfl rfl rfl | exact o_loadBA 0 rfl rfl rfl | exact o_loadBA 1 rfl rfl rfl | exact o_loadBA 2 rfl rfl rfl | exact o_loadBA 3 rfl rfl rfl | exact o_add64 rfl rfl (by omega) | exact o_sub64 rfl rfl (by omega) | exact o_pick_t rfl rfl | exact o_pick_f rfl rfl))
          | (apply dv_yes rfl; focus (first | exact o_loadB 0 rfl rfl rfl | exact o_loadB 1 rfl rfl rfl | exact o_loadB 2 rfl rfl rfl | exact o_loadB 3 rfl rfl rfl | exact o_loadBA 0 rfl rfl rfl | exact o_loadBA 1 rfl rfl rfl | exact o_loadBA 2 rfl rfl rfl | exact o_loadBA 3 rfl rfl rfl | exact o_add64 rfl rfl (by omega) | exact o_sub64 rfl rfl (by omega) | exact o_pick_t rfl rfl | exact o_pick_f rfl rfl))))
        apply dv_yes rfl
        · exact o_det (whole_det (cut x)) rfl
        apply dv_yes rfl
        · exact o_det (compare_det (atN e (cut y)) (atD e) (cut x) 1 (by unfold atN; omega) (by omega)) rfl
        (repeat' (first
          | refine dv_p tab rfl ?_
          | refine dv_py tab rfl rfl ?_
          | refine dv_no rfl rfl ?_
          | refine dv_undef rfl ?_
          | (apply dv_op; focus (first | exact o_loadB 0 rfl rfl rfl | exact o_loadB 1 rfl rfl rfl | exact o_loadB 2 rfl rfl rfl | exact o_loadB 3 rfl rfl rfl | exact o_loadBA 0 rfl rfl rfl | exact o_loadBA 1 rfl rfl rfl | exact o_loadBA 2 rfl rfl rfl | exact o_loadBA 3 rfl rfl rfl | exact o_add64 rfl rfl (by omega) | exact o_sub64 rfl rfl (by omega) | exact o_pick_t rfl rfl | exact o_pick_f rfl rfl))
          | (apply dv_yes rfl; focus (first | exact o_loadB 0 rfl rfl rfl | exact o_loadB 1 rfl rfl rfl | exact o_loadB 2 rfl rfl rfl | exact o_loadB 3 rfl rfl rfl | exact o_loadBA 0 rfl rfl rfl | exact o_loadBA 1 rfl rfl rfl | exact o_loadBA 2 rfl rfl rfl | exact o_loadBA 3 rfl rfl rfl | exact o_add64 rfl rfl (by omega) | exact o_sub64 rfl rfl (by omega) | exact o_pick_t rfl rfl | exact o_pick_f rfl rfl))))
        refine dv_nil ?_
        refine xt_weak (fr' := [(7, .pointer (some ⟨b7, 0, none⟩)), (8, .pointer (some ⟨b8, 0, none⟩)), (29, .bool (decide (cmpI (atN e (cut y) * 1) (cut x * atD e) ≤ 0)))]) ⟨rfl, rfl, rfl, trivial⟩ (fun _ h => h) ?_
        (repeat' (first
          | refine t_seq ?_
          | refine t_region ?_
          | refine xt_then ?_
          | refine tl_nil ?_
          | refine t_block ?_
          | refine t_skip ?_
          | refine t_ret ?_
          | refine t_exit ?_
          | refine xt_blk ?_
          | refine xt_blk_exit ?_
          | refine xt_then_ret ?_
          | refine xt_then_exit ?_
          | refine xt_blk_ret ?_
          | refine xt_blk_other rfl ?_
          | refine xt_round_exit ?_
          | refine xt_round_ret ?_
          | refine tl_run tab rfl rfl ?_
          | refine tl_guard_yes rfl rfl ?_
          | refine tl_guard_no rfl rfl rfl rfl ?_
          | refine tl_guard_undef rfl rfl rfl ?_
          | refine tl_load (by first | exact o_loadB 0 rfl rfl rfl | exact o_loadB 1 rfl rfl rfl | exact o_loadB 2 rfl rfl rfl | exact o_loadB 3 rfl rfl rfl | exact o_loadB 4 rfl rfl rfl | exact o_loadBA 0 rfl rfl rfl | exact o_loadBA 1 rfl rfl rfl | exact o_loadBA 2 rfl rfl rfl | exact o_loadBA 3 rfl rfl rfl) rfl ?_
          | refine tl_pick (by first | exact o_pick_t rfl rfl | exact o_pick_f rfl rfl) rfl ?_
          | refine tl_bin (by first | exact o_add64 rfl rfl (by omega) | exact o_sub64 rfl rfl (by omega) | exact o_mul64 rfl rfl (by first | assumption | omega)) rfl ?_
          | refine tl_store (by first | exact o_storeB 0 rfl rfl rfl rfl rfl | exact o_storeB 1 rfl rfl rfl rfl rfl | exact o_storeB 2 rfl rfl rfl rfl rfl | exact o_storeBA 0 rfl rfl rfl rfl rfl rfl | exact o_storeBA 1 rfl rfl rfl rfl rfl rfl | exact o_storeBA 2 rfl rfl rfl rfl rfl rfl) ?_
          | refine tl_box (o_box rfl rfl) rfl (fun _ => ?_)
          | refine tl_alloc rfl (fun _ => ?_)))
        refine t_cond rfl (fun h => ?_) (fun h => ?_)
        · have hw1 : windOne (cut x) (cut y) e = e.2.2.2.2 := by unfold windOne; rw [if_pos ⟨hc, of_decide_eq_true h⟩]
          have ht := hok.turn
          (repeat' (first
            | refine t_seq ?_
            | refine t_region ?_
            | refine xt_then ?_
            | refine tl_nil ?_
            | refine t_block ?_
            | refine t_skip ?_
            | refine t_ret ?_
            | refine t_exit ?_
            | refine xt_blk ?_
            | refine xt_blk_exit ?_
            | refine xt_then_ret ?_
            | refine xt_then_exit ?_
            | refine xt_blk_ret ?_
            | refine xt_blk_other rfl ?_
            | refine xt_round_exit ?_
            | refine xt_round_ret ?_
            | refine tl_run tab rfl rfl ?_
            | refine tl_guard_yes rfl rfl ?_
            | refine tl_guard_no rfl rfl rfl rfl ?_
            | refine tl_guard_undef rfl rfl rfl ?_
            | refine tl_load (by first | exact o_loadB 0 rfl rfl rfl | exact o_loadB 1 rfl rfl rfl | exact o_loadB 2 rfl rfl rfl | exact o_loadB 3 rfl rfl rfl | exact o_loadB 4 rfl rfl rfl | exact o_loadBA 0 rfl rfl rfl | exact o_loadBA 1 rfl rfl rfl | exact o_loadBA 2 rfl rfl rfl | exact o_loadBA 3 rfl rfl rfl) rfl ?_
            | refine tl_pick (by first | exact o_pick_t rfl rfl | exact o_pick_f rfl rfl) rfl ?_
            | refine tl_bin (by first | exact o_add64 rfl rfl (by omega) | exact o_sub64 rfl rfl (by omega) | exact o_mul64 rfl rfl (by first | assumption | omega)) rfl ?_
            | refine tl_store (by first | exact o_storeB 0 rfl rfl rfl rfl rfl | exact o_storeB 1 rfl rfl rfl rfl rfl | exact o_storeB 2 rfl rfl rfl rfl rfl | exact o_storeBA 0 rfl rfl rfl rfl rfl rfl | exact o_storeBA 1 rfl rfl rfl rfl rfl rfl | exact o_storeBA 2 rfl rfl rfl rfl rfl rfl) ?_
            | refine tl_box (o_box rfl rfl) rfl (fun _ => ?_)
            | refine tl_alloc rfl (fun _ => ?_)))
          refine xt_roundEnd fun w' h' => ?_
          rw [hsn, hw1]
          exact h'.sublist (.cons _ (List.Sublist.refl _))
        · have hw1 : windOne (cut x) (cut y) e = 0 := by unfold windOne; rw [if_neg (fun hh => (of_decide_eq_false h) hh.2)]
          (repeat' (first
            | refine t_seq ?_
            | refine t_region ?_
            | refine xt_then ?_
            | refine tl_nil ?_
            | refine t_block ?_
            | refine t_skip ?_
            | refine t_ret ?_
            | refine t_exit ?_
            | refine xt_blk ?_
            | refine xt_blk_exit ?_
            | refine xt_then_ret ?_
            | refine xt_then_exit ?_
            | refine xt_blk_ret ?_
            | refine xt_blk_other rfl ?_
            | refine xt_round_exit ?_
            | refine xt_round_ret ?_
            | refine tl_run tab rfl rfl ?_
            | refine tl_guard_yes rfl rfl ?_
            | refine tl_guard_no rfl rfl rfl rfl ?_
            | refine tl_guard_undef rfl rfl rfl ?_
            | refine tl_load (by first | exact o_loadB 0 rfl rfl rfl | exact o_loadB 1 rfl rfl rfl | exact o_loadB 2 rfl rfl rfl | exact o_loadB 3 rfl rfl rfl | exact o_loadB 4 rfl rfl rfl | exact o_loadBA 0 rfl rfl rfl | exact o_loadBA 1 rfl rfl rfl | exact o_loadBA 2 rfl rfl rfl | exact o_loadBA 3 rfl rfl rfl) rfl ?_
            | refine tl_pick (by first | exact o_pick_t rfl rfl | exact o_pick_f rfl rfl) rfl ?_
            | refine tl_bin (by first | exact o_add64 rfl rfl (by omega) | exact o_sub64 rfl rfl (by omega) | exact o_mul64 rfl rfl (by first | assumption | omega)) rfl ?_
            | refine tl_store (by first | exact o_storeB 0 rfl rfl rfl rfl rfl | exact o_storeB 1 rfl rfl rfl rfl rfl | exact o_storeB 2 rfl rfl rfl rfl rfl | exact o_storeBA 0 rfl rfl rfl rfl rfl rfl | exact o_storeBA 1 rfl rfl rfl rfl rfl rfl | exact o_storeBA 2 rfl rfl rfl rfl rfl rfl) ?_
            | refine tl_box (o_box rfl rfl) rfl (fun _ => ?_)
            | refine tl_alloc rfl (fun _ => ?_)))
          refine xt_roundEnd fun w' h' => ?_
          rw [hsn, hw1, Int.add_zero]
          exact h'.sublist (.cons _ (List.Sublist.refl _))
      · have hw1 : windOne (cut x) (cut y) e = 0 := by unfold windOne; rw [if_neg (fun hh => hc hh.1)]
        have hcr : Det Try.prog 43 [edg e.1 e.2.1 e.2.2.1 e.2.2.2.1 e.2.2.2.2, .int .i64 (cut y)] (.bool false) := by
          have := crosses_det e.1 e.2.1 e.2.2.1 e.2.2.2.1 e.2.2.2.2 (cut y)
          rwa [Bool.eq_false_iff.2 hc] at this
        refine t_drawV (fun w n h => h.drew n) ?_ mixed (by kernel_rfl) rfl
        (repeat' (first
          | refine dv_p tab rfl ?_
          | refine dv_py tab rfl rfl ?_
          | refine dv_no rfl rfl ?_
          | refine dv_undef rfl ?_
          | (apply dv_op; focus (first | exact o_loadB 0 rfl rfl rfl | exact o_loadB 1 rfl rfl rfl | exact o_loadB 2 rfl rfl rfl | exact o_loadB 3 rfl rfl rfl | exact o_loadBA 0 rfl rfl rfl | exact o_loadBA 1 rfl rfl rfl | exact o_loadBA 2 rfl rfl rfl | exact o_loadBA 3 rfl rfl rfl | exact o_add64 rfl rfl (by omega) | exact o_sub64 rfl rfl (by omega) | exact o_pick_t rfl rfl | exact o_pick_f rfl rfl))
          | (apply dv_yes rfl; focus (first | exact o_loadB 0 rfl rfl rfl | exact o_loadB 1 rfl rfl rfl | exact o_loadB 2 rfl rfl rfl | exact o_loadB 3 rfl rfl rfl | exact o_loadBA 0 rfl rfl rfl | exact o_loadBA 1 rfl rfl rfl | exact o_loadBA 2 rfl rfl rfl | exact o_loadBA 3 rfl rfl rfl | exact o_add64 rfl rfl (by omega) | exact o_sub64 rfl rfl (by omega) | exact o_pick_t rfl rfl | exact o_pick_f rfl rfl))))
        apply dv_op
        · exact o_det hcr rfl
        (repeat' (first
          | refine dv_p tab rfl ?_
          | refine dv_py tab rfl rfl ?_
          | refine dv_no rfl rfl ?_
          | refine dv_undef rfl ?_
          | (apply dv_op; focus (first | exact o_loadB 0 rfl rfl rfl | exact o_loadB 1 rfl rfl rfl | exact o_loadB 2 rfl rfl rfl | exact o_loadB 3 rfl rfl rfl | exact o_loadBA 0 rfl rfl rfl | exact o_loadBA 1 rfl rfl rfl | exact o_loadBA 2 rfl rfl rfl | exact o_loadBA 3 rfl rfl rfl | exact o_add64 rfl rfl (by omega) | exact o_sub64 rfl rfl (by omega) | exact o_pick_t rfl rfl | exact o_pick_f rfl rfl))
          | (apply dv_yes rfl; focus (first | exact o_loadB 0 rfl rfl rfl | exact o_loadB 1 rfl rfl rfl | exact o_loadB 2 rfl rfl rfl | exact o_loadB 3 rfl rfl rfl | exact o_loadBA 0 rfl rfl rfl | exact o_loadBA 1 rfl rfl rfl | exact o_loadBA 2 rfl rfl rfl | exact o_loadBA 3 rfl rfl rfl | exact o_add64 rfl rfl (by omega) | exact o_sub64 rfl rfl (by omega) | exact o_pick_t rfl rfl | exact o_pick_f rfl rfl))))
        refine dv_nil ?_
        refine xt_weak (fr' := [(7, .pointer (some ⟨b7, 0, none⟩)), (8, .pointer (some ⟨b8, 0, none⟩)), (29, .bool false)]) ⟨rfl, rfl, rfl, trivial⟩ (fun _ h => h) ?_
        (repeat' (first
          | refine t_seq ?_
          | refine t_region ?_
          | refine xt_then ?_
          | refine tl_nil ?_
          | refine t_block ?_
          | refine t_skip ?_
          | refine t_ret ?_
          | refine t_exit ?_
          | refine xt_blk ?_
          | refine xt_blk_exit ?_
          | refine xt_then_ret ?_
          | refine xt_then_exit ?_
          | refine xt_blk_ret ?_
          | refine xt_blk_other rfl ?_
          | refine xt_round_exit ?_
          | refine xt_round_ret ?_
          | refine tl_run tab rfl rfl ?_
          | refine tl_guard_yes rfl rfl ?_
          | refine tl_guard_no rfl rfl rfl rfl ?_
          | refine tl_guard_undef rfl rfl rfl ?_
          | refine tl_load (by first | exact o_loadB 0 rfl rfl rfl | exact o_loadB 1 rfl rfl rfl | exact o_loadB 2 rfl rfl rfl | exact o_loadB 3 rfl rfl rfl | exact o_loadB 4 rfl rfl rfl | exact o_loadBA 0 rfl rfl rfl | exact o_loadBA 1 rfl rfl rfl | exact o_loadBA 2 rfl rfl rfl | exact o_loadBA 3 rfl rfl rfl) rfl ?_
          | refine tl_pick (by first | exact o_pick_t rfl rfl | exact o_pick_f rfl rfl) rfl ?_
          | refine tl_bin (by first | exact o_add64 rfl rfl (by omega) | exact o_sub64 rfl rfl (by omega) | exact o_mul64 rfl rfl (by first | assumption | omega)) rfl ?_
          | refine tl_store (by first | exact o_storeB 0 rfl rfl rfl rfl rfl | exact o_storeB 1 rfl rfl rfl rfl rfl | exact o_storeB 2 rfl rfl rfl rfl rfl | exact o_storeBA 0 rfl rfl rfl rfl rfl rfl | exact o_storeBA 1 rfl rfl rfl rfl rfl rfl | exact o_storeBA 2 rfl rfl rfl rfl rfl rfl) ?_
          | refine tl_box (o_box rfl rfl) rfl (fun _ => ?_)
          | refine tl_alloc rfl (fun _ => ?_)))
        refine t_cond rfl (fun h => by cases h) (fun _ => ?_)
        (repeat' (first
          | refine t_seq ?_
          | refine t_region ?_
          | refine xt_then ?_
          | refine tl_nil ?_
          | refine t_block ?_
          | refine t_skip ?_
          | refine t_ret ?_
          | refine t_exit ?_
          | refine xt_blk ?_
          | refine xt_blk_exit ?_
          | refine xt_then_ret ?_
          | refine xt_then_exit ?_
          | refine xt_blk_ret ?_
          | refine xt_blk_other rfl ?_
          | refine xt_round_exit ?_
          | refine xt_round_ret ?_
          | refine tl_run tab rfl rfl ?_
          | refine tl_guard_yes rfl rfl ?_
          | refine tl_guard_no rfl rfl rfl rfl ?_
          | refine tl_guard_undef rfl rfl rfl ?_
          | refine tl_load (by first | exact o_loadB 0 rfl rfl rfl | exact o_loadB 1 rfl rfl rfl | exact o_loadB 2 rfl rfl rfl | exact o_loadB 3 rfl rfl rfl | exact o_loadB 4 rfl rfl rfl | exact o_loadBA 0 rfl rfl rfl | exact o_loadBA 1 rfl rfl rfl | exact o_loadBA 2 rfl rfl rfl | exact o_loadBA 3 rfl rfl rfl) rfl ?_
          | refine tl_pick (by first | exact o_pick_t rfl rfl | exact o_pick_f rfl rfl) rfl ?_
          | refine tl_bin (by first | exact o_add64 rfl rfl (by omega) | exact o_sub64 rfl rfl (by omega) | exact o_mul64 rfl rfl (by first | assumption | omega)) rfl ?_
          | refine tl_store (by first | exact o_storeB 0 rfl rfl rfl rfl rfl | exact o_storeB 1 rfl rfl rfl rfl rfl | exact o_storeB 2 rfl rfl rfl rfl rfl | exact o_storeBA 0 rfl rfl rfl rfl rfl rfl | exact o_storeBA 1 rfl rfl rfl rfl rfl rfl | exact o_storeBA 2 rfl rfl rfl rfl rfl rfl) ?_
          | refine tl_box (o_box rfl rfl) rfl (fun _ => ?_)
          | refine tl_alloc rfl (fun _ => ?_)))
        refine xt_roundEnd fun w' h' => ?_
        rw [hsn, hw1, Int.add_zero]
        exact h'.sublist (.cons _ (List.Sublist.refl _))
    · intro db
      (repeat' (first
        | refine t_seq ?_
        | refine t_region ?_
        | refine xt_then ?_
        | refine tl_nil ?_
        | refine t_block ?_
        | refine t_skip ?_
        | refine t_ret ?_
        | refine t_exit ?_
        | refine xt_blk ?_
        | refine xt_blk_exit ?_
        | refine xt_then_ret ?_
        | refine xt_then_exit ?_
        | refine xt_blk_ret ?_
        | refine xt_blk_other rfl ?_
        | refine xt_round_exit ?_
        | refine xt_round_ret ?_
        | refine tl_run tab rfl rfl ?_
        | refine tl_guard_yes rfl rfl ?_
        | refine tl_guard_no rfl rfl rfl rfl ?_
        | refine tl_guard_undef rfl rfl rfl ?_
        | refine tl_load (by first | exact o_loadB 0 rfl rfl rfl | exact o_loadB 1 rfl rfl rfl | exact o_loadB 2 rfl rfl rfl | exact o_loadB 3 rfl rfl rfl | exact o_loadB 4 rfl rfl rfl | exact o_loadBA 0 rfl rfl rfl | exact o_loadBA 1 rfl rfl rfl | exact o_loadBA 2 rfl rfl rfl | exact o_loadBA 3 rfl rfl rfl) rfl ?_
        | refine tl_pick (by first | exact o_pick_t rfl rfl | exact o_pick_f rfl rfl) rfl ?_
        | refine tl_bin (by first | exact o_add64 rfl rfl (by omega) | exact o_sub64 rfl rfl (by omega) | exact o_mul64 rfl rfl (by first | assumption | omega)) rfl ?_
        | refine tl_store (by first | exact o_storeB 0 rfl rfl rfl rfl rfl | exact o_storeB 1 rfl rfl rfl rfl rfl | exact o_storeB 2 rfl rfl rfl rfl rfl | exact o_storeBA 0 rfl rfl rfl rfl rfl rfl | exact o_storeBA 1 rfl rfl rfl rfl rfl rfl | exact o_storeBA 2 rfl rfl rfl rfl rfl rfl) ?_
        | refine tl_box (o_box rfl rfl) rfl (fun _ => ?_)
        | refine tl_alloc rfl (fun _ => ?_)))
      exact xt_retM1 rfl rfl fun _ _ => rfl

end Go.Proofs.Ytbgolbkolcmldaa
