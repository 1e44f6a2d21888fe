/-
  Which pixels lines have: the walk.
-/
import Derived.Test.YtbgolbkolcmldaaW17
namespace Go.Proofs.Ytbgolbkolcmldaa
open Go.RowKit
theorem St.addSt {w0 w1 w2 : World} {X : List Nat} {L L2 : HL} (h : St w0 X L w1) (h2 : St w1 [] L2 w2) : St w0 X (L2 ++ L) w2 := by
  have hge : ∀ p ∈ L2, w1.heap.size ≤ p.1 := fun p hp => by
    rcases h2.mine p hp with h' | h'
    · exact h'
    · simp at h'
  refine ⟨h2.os.trans h.os, h2.tape.trans h.tape, h2.output.trans h.output, Nat.le_trans h.size h2.size, fun k hk hx => (h2.old k (Nat.lt_of_lt_of_le hk h.size) (by simp)).trans (h.old k hk hx), fun p hp => ?_, fun p hp => ?_, ?_⟩
  · rcases List.mem_append.1 hp with hp | hp
    · exact h2.here p hp
    · obtain ⟨o, ho, hq⟩ := h.here p hp
      exact ⟨o, (h2.old p.1 (h.lt hp) (by simp)).trans ho, hq⟩
  · rcases List.mem_append.1 hp with hp | hp
    · exact .inl (Nat.le_trans h.size (hge p hp))
    · exact h.mine p hp
  · rw [List.map_append, List.nodup_append]
    refine ⟨h2.apart, h.apart, fun a ha b hb hab => ?_⟩
    obtain ⟨p, hp, rfl⟩ := List.mem_map.1 ha
    obtain ⟨q, hq, rfl⟩ := List.mem_map.1 hb
    have := hge p hp
    have := h.lt hq
    omega
section
variable {P : Program} {nt : Nat} {fr : Fr} {w0 : World} {X : List Nat} {L : HL}
theorem xt_retMA (i : Nat) {fn : Func} {w : World} {Post : Value → World → Prop} {t : Tmp} {e e' : TypeId} {b k db : Nat} {cs : List Value} [CAg P e k] (hr : fn.results = #[.cell t e]) (hv : flook fr t = some (.pointer (some ⟨b, 0, none⟩))) (hL : L[i]? = some (b, bx cs e')) (hl : cs.length = k) (h : ∀ w', St w [] L w' → Post (.agg cs.toArray) w') :
    Xt P .ret (bodyPostM Fence.wide 0 P fn (Ret w Post)) nt [{ target := .collected db, args := #[] }] fr (St w [] (L ++ [(db, defO)])) := by
  intro a w' ha hw
  obtain ⟨o, ho, hq⟩ := hw.here (db, defO) (by simp)
  rw [hq] at ho
  have hL' : St w [] L (w'.putObj db (.deferred none)) := (hw.turn (q' := fun _ => True) trivial).sublist (List.sublist_append_left ..)
  show LeavesInM _ _ _ _ _ _ a.defers _ _
  rw [ha.defers]
  refine ⟨by simp, .inl ⟨_, _, rfl, run_takeDeferred ho, ?_⟩⟩
  exact ⟨_, results_cell hr (ha.look t _ hv) hl (fun j v hj => by rw [hL'.cell (List.mem_of_getElem? hL), Nat.zero_add, hj]), _, rfl, hL'.toExt, h _ hL'⟩
theorem xt_perm {e : Exit} {Q : Exit → Act → World → Prop} {D : List Deferred} {L' : HL} (hL : ∀ w, St w0 X L w → St w0 X L' w) (h : Xt P e Q nt D fr (St w0 X L')) : Xt P e Q nt D fr (St w0 X L) := fun a w ha hw => h a w ha (hL w hw)
theorem xt_retMA0 (i : Nat) {fn : Func} {w : World} {Post : Value → World → Prop} {t : Tmp} {e e' : TypeId} {b k : Nat} {cs : List Value} [CAg P e k] (hr : fn.results = #[.cell t e]) (hv : flook fr t = some (.pointer (some ⟨b, 0, none⟩))) (hL : L[i]? = some (b, bx cs e')) (hl : cs.length = k) (h : ∀ w', St w [] L w' → Post (.agg cs.toArray) w') :
    Xt P .ret (bodyPostM Fence.wide 0 P fn (Ret w Post)) nt [] fr (St w [] L) := by
  intro a w' ha hw
  show LeavesInM _ _ _ _ _ _ a.defers _ _
  rw [ha.defers]
  exact ⟨_, results_cell hr (ha.look t _ hv) hl (fun j v hj => by rw [hw.cell (List.mem_of_getElem? hL), Nat.zero_add, hj]), _, rfl, hw.toExt, h _ hw⟩
end
end Go.Proofs.Ytbgolbkolcmldaa
namespace Go.Proofs.Ytbgolbkolcmldaa
open Go.RowKit
attribute [local irreducible] T TL Xt O Op1 Kt DV ObsB DE DW DW1 LoopQ LoopJ

theorem rowB_size (W : Nat) (p : Nat → Bool) : (rowB W p).size = W := by simp [rowB, ByteArray.size]
theorem rowSp_le (left : Int) (wid : Nat) (r : Int × List Cr) : (rowSp left wid r).length ≤ 1 := by
  unfold rowSp
  split <;> simp
theorem rowSps_le (left : Int) (wid : Nat) : ∀ l : List (Int × List Cr), (l.flatMap (rowSp left wid)).length ≤ l.length
  | [] => by simp
  | r :: l => by
    have h1 := rowSp_le left wid r
    have h2 := rowSps_le left wid l
    rw [List.flatMap_cons, List.length_append, List.length_cons]
    omega
theorem rowSp_ok {left : Int} {wid : Nat} {r : Int × List Cr} (h1 : -8388608 ≤ left ∧ left ≤ 8388608) (h2 : wid ≤ 1026) (h3 : -8388608 ≤ r.1 ∧ r.1 ≤ 8388608) : ∀ s ∈ rowSp left wid r, SpOk s := by
  intro s hs
  unfold rowSp at hs
  split at hs
  · simp at hs
  · rename_i h
    simp only [List.mem_singleton] at hs
    subst hs
    have := firstIdx_trim h
    rw [rowB_size] at this
    unfold SpOk
    dsimp only
    omega
theorem St.headImp {w0 w : World} {X : List Nat} {L : HL} {b : Nat} {q q' : Obj → Prop} (h : St w0 X ((b, q) :: L) w) (hi : ∀ o, q o → q' o) : St w0 X ((b, q') :: L) w := by
  refine ⟨h.os, h.tape, h.output, h.size, h.old, fun p hp => ?_, fun p hp => ?_, h.apart⟩
  · rcases List.mem_cons.1 hp with rfl | hp
    · obtain ⟨o, ho, hq⟩ := h.here (b, q) (List.mem_cons_self ..)
      exact ⟨o, ho, hi o hq⟩
    · exact h.here p (List.mem_cons_of_mem _ hp)
  · rcases List.mem_cons.1 hp with rfl | hp
    · exact h.mine (b, q) (List.mem_cons_self ..)
    · exact h.mine p (List.mem_cons_of_mem _ hp)
theorem perm_last {Pf A T1 T2 : HL} : (Pf ++ (A ++ T1 ++ T2)).Perm ((Pf ++ (T1 ++ T2)) ++ A) := by
  rw [List.append_assoc Pf]
  refine List.Perm.append_left Pf ?_
  rw [List.append_assoc]
  exact List.perm_append_comm
theorem perm3 {α : Type} {a b c : α} {L : List α} : (a :: b :: c :: L).Perm (c :: b :: a :: L) := (List.Perm.swap b a (c :: L)).trans ((List.Perm.cons b (.swap c a L)).trans (.swap c b (a :: L)))
theorem crs_rd {W w : World} {X : List Nat} {L : HL} {bc : Nat} {cs : List Cr} (hs : St W X L w) (hX : bc ∉ X) (hb : W.heap[bc]? = some (.cells (cs.flatMap crCells).toArray 108 (0, 0))) (hl : cs.length ≤ 1000000000) : Rd w 3 (.slice (some ⟨bc, 0, none⟩) cs.length cs.length) (cs.flatMap crCells) := by
  have hlt := (Array.getElem?_eq_some_iff.1 hb).1
  have hw := (hs.old bc hlt hX).trans hb
  refine ⟨_, _, _, rfl, cr_len cs, Nat.le_refl _, by unfold maxLen; omega, fun _ => ⟨bc, 0, rfl, Nat.lt_of_lt_of_le hlt hs.size, fun j v hj => ?_⟩⟩
  rw [Nat.zero_add, cell_of hw]
  simpa using hj
theorem pxOf_snoc (left : Int) (pre : List (Place × Place)) (x : Place × Place) (j : Nat) : pxOf left (pre ++ [x]) j = (pxOf left pre j || inS x (left + j)) := by
  simp [pxOf, List.any_append]
theorem Lines.to {w w' : World} {v : Value} {ls : List Pts} (h : Lines w v ls) (he : Ext w w') : Lines w' v ls := by
  obtain ⟨rows, h1, h2, h3⟩ := h
  exact ⟨rows, h1.ext he, h2, fun i r l hr hl => (h3 i r l hr hl).ext he⟩

set_option maxHeartbeats 4000000 in
theorem fill_calls (w : World) (A : Option Addr) (n cap : Nat) (ls : List Pts) (hL : Lines w (.slice A n cap) ls) (hes : (edgesAll ls).length ≤ 100000) : Calls Try.prog 17 #[.slice A n cap] w (Ret w fun v w' => BmI w w' v (fillB ls)) := by
  refine calls_M (vs := [.slice A n cap]) Try.func17 rfl Try.ntmps17 rfl ?_
  (repeat' (first|refine Za ?_|refine Zb ?_|refine Zc ?_|refine Zd ?_|refine Ze ?_|refine Zf ?_|refine Zg ?_|refine Zh ?_|refine Zi ?_|refine Zj ?_|refine Zk ?_|refine Zl ?_|refine Zm ?_|refine Zn rfl ?_|refine Zo ?_|refine Zp ?_|refine Zq ?_|refine Zr ?_|refine Zs ?_|refine Zt ?_|refine Zu tab rfl rfl ?_|refine Zv rfl rfl ?_|refine Zw rfl rfl rfl rfl ?_|refine Zx rfl rfl rfl ?_|(apply Zy;refine Zz ?_)|(apply Ya;refine Yb ?_)|(apply Yc;refine Yd ?_)|(apply Ye;refine Yf ?_)|(apply Yg; first|refine Yh fun _=>?_|refine Yi (Yj rfl rfl) rfl fun _=>?_)|refine Yk rfl fun _=>?_|(apply Yl;refine Ym ?_)|(apply Yn;refine Yo ?_)|(apply Yp;refine Yq ?_)|(apply Yr;refine Ys ?_)|(apply Yt;refine Yu ?_)|(apply Yv;refine Yw fun _=>?_)|refine Yx rfl ?_|refine Yy rfl ?_|refine Yz rfl ?_|(apply Va; first|refine Vb ?_|refine Vc ?_)|refine Vd tab ?_|refine Ve fun _=>?_|(apply Vf;refine Vg ?_)|(apply Vh;refine Vi ?_)|(apply Vj;refine Vk ?_)|(apply Vl;refine Vm ?_)|(apply Vn;refine Vo ?_)|(apply Vp;refine Vq ?_)|(apply Vr;refine Vs ?_)|(apply Vt;refine Vu ?_)|(apply Vv;refine Vw ?_)|(apply Vx;refine Vy ?_)|(apply Vz;refine Ua fun _=>?_)))
  rename_i b2
  refine tl_callV (u := boxV (boxP ls)) (fun w1 hw1 => box_calls w1 A n cap ls (hL.to hw1.toExt)) rfl rfl ?_
  have hbo := box_ok ls
  unfold fillB
  obtain ⟨⟨lx, ly, hx, hy, ok⟩, hq⟩ : ∃ q, q = boxP ls := ⟨_, rfl⟩
  rw [← hq] at hbo ⊢
  unfold boxV
  dsimp only
  have hnl : (edgesAll ls).length = (edgesAll ls).length := rfl
  unfold BoxOk at hbo
  dsimp only at hbo
  cases ok with
  | false =>
    rw [if_pos (.inl rfl)]
    (repeat' (first|refine Za ?_|refine Zb ?_|refine Zc ?_|refine Zd ?_|refine Ze ?_|refine Zf ?_|refine Zg ?_|refine Zh ?_|refine Zi ?_|refine Zj ?_|refine Zk ?_|refine Zl ?_|refine Zm ?_|refine Zn rfl ?_|refine Zo ?_|refine Zp ?_|refine Zq ?_|refine Zr ?_|refine Zs ?_|refine Zt ?_|refine Zu tab rfl rfl ?_|refine Zv rfl rfl ?_|refine Zw rfl rfl rfl rfl ?_|refine Zx rfl rfl rfl ?_|(apply Zy;refine Zz ?_)|(apply Ya;refine Yb ?_)|(apply Yc;refine Yd ?_)|(apply Ye;refine Yf ?_)|(apply Yg; first|refine Yh fun _=>?_|refine Yi (Yj rfl rfl) rfl fun _=>?_)|refine Yk rfl fun _=>?_|(apply Yl;refine Ym ?_)|(apply Yn;refine Yo ?_)|(apply Yp;refine Yq ?_)|(apply Yr;refine Ys ?_)|(apply Yt;refine Yu ?_)|(apply Yv;refine Yw fun _=>?_)|refine Yx rfl ?_|refine Yy rfl ?_|refine Yz rfl ?_|(apply Va; first|refine Vb ?_|refine Vc ?_)|refine Vd tab ?_|refine Ve fun _=>?_|(apply Vf;refine Vg ?_)|(apply Vh;refine Vi ?_)|(apply Vj;refine Vk ?_)|(apply Vl;refine Vm ?_)|(apply Vn;refine Vo ?_)|(apply Vp;refine Vq ?_)|(apply Vr;refine Vs ?_)|(apply Vt;refine Vu ?_)|(apply Vv;refine Vw ?_)|(apply Vx;refine Vy ?_)|(apply Vz;refine Ua fun _=>?_)))
    refine xt_retMA0 2 rfl rfl rfl rfl fun w1 hw1 => bmI_nil w w1
  | true =>
  have hbo := hbo rfl
  (repeat' (first|refine Za ?_|refine Zb ?_|refine Zc ?_|refine Zd ?_|refine Ze ?_|refine Zf ?_|refine Zg ?_|refine Zh ?_|refine Zi ?_|refine Zj ?_|refine Zk ?_|refine Zl ?_|refine Zm ?_|refine Zn rfl ?_|refine Zo ?_|refine Zp ?_|refine Zq ?_|refine Zr ?_|refine Zs ?_|refine Zt ?_|refine Zu tab rfl rfl ?_|refine Zv rfl rfl ?_|refine Zw rfl rfl rfl rfl ?_|refine Zx rfl rfl rfl ?_|(apply Zy;refine Zz ?_)|(apply Ya;refine Yb ?_)|(apply Yc;refine Yd ?_)|(apply Ye;refine Yf ?_)|(apply Yg; first|refine Yh fun _=>?_|refine Yi (Yj rfl rfl) rfl fun _=>?_)|refine Yk rfl fun _=>?_|(apply Yl;refine Ym ?_)|(apply Yn;refine Yo ?_)|(apply Yp;refine Yq ?_)|(apply Yr;refine Ys ?_)|(apply Yt;refine Yu ?_)|(apply Yv;refine Yw fun _=>?_)|refine Yx rfl ?_|refine Yy rfl ?_|refine Yz rfl ?_|(apply Va; first|refine Vb ?_|refine Vc ?_)|refine Vd tab ?_|refine Ve fun _=>?_|(apply Vf;refine Vg ?_)|(apply Vh;refine Vi ?_)|(apply Vj;refine Vk ?_)|(apply Vl;refine Vm ?_)|(apply Vn;refine Vo ?_)|(apply Vp;refine Vq ?_)|(apply Vr;refine Vs ?_)|(apply Vt;refine Vu ?_)|(apply Vv;refine Vw ?_)|(apply Vx;refine Vy ?_)|(apply Vz;refine Ua fun _=>?_)))
  refine tl_if [0, 2, 3, 4] (hx - lx > 65536 ∨ hy - ly > 65536) rfl (fun Q' K => ?_) (fun hC => ?_) (fun hC => ?_)
  · (repeat' (first|refine Za ?_|refine Zb ?_|refine Zc ?_|refine Zd ?_|refine Ze ?_|refine Zf ?_|refine Zg ?_|refine Zh ?_|refine Zi ?_|refine Zj ?_|refine Zk ?_|refine Zl ?_|refine Zm ?_|refine Zn rfl ?_|refine Zo ?_|refine Zp ?_|refine Zq ?_|refine Zr ?_|refine Zs ?_|refine Zt ?_|refine Zu tab rfl rfl ?_|refine Zv rfl rfl ?_|refine Zw rfl rfl rfl rfl ?_|refine Zx rfl rfl rfl ?_|(apply Zy;refine Zz ?_)|(apply Ya;refine Yb ?_)|(apply Yc;refine Yd ?_)|(apply Ye;refine Yf ?_)|(apply Yg; first|refine Yh fun _=>?_|refine Yi (Yj rfl rfl) rfl fun _=>?_)|refine Yk rfl fun _=>?_|(apply Yl;refine Ym ?_)|(apply Yn;refine Yo ?_)|(apply Yp;refine Yq ?_)|(apply Yr;refine Ys ?_)|(apply Yt;refine Yu ?_)|(apply Yv;refine Yw fun _=>?_)|refine Yx rfl ?_|refine Yy rfl ?_|refine Yz rfl ?_|(apply Va; first|refine Vb ?_|refine Vc ?_)|refine Vd tab ?_|refine Ve fun _=>?_|(apply Vf;refine Vg ?_)|(apply Vh;refine Vi ?_)|(apply Vj;refine Vk ?_)|(apply Vl;refine Vm ?_)|(apply Vn;refine Vo ?_)|(apply Vp;refine Vq ?_)|(apply Vr;refine Vs ?_)|(apply Vt;refine Vu ?_)|(apply Vv;refine Vw ?_)|(apply Vx;refine Vy ?_)|(apply Vz;refine Ua fun _=>?_)|refine tl_guard rfl rfl rfl (fun _ => ?_) (fun _ => ?_)))
    all_goals exact K _ _ rfl rfl (by simp_all <;> omega)
  · rw [if_pos (.inr hC)]
    (repeat' (first|refine Za ?_|refine Zb ?_|refine Zc ?_|refine Zd ?_|refine Ze ?_|refine Zf ?_|refine Zg ?_|refine Zh ?_|refine Zi ?_|refine Zj ?_|refine Zk ?_|refine Zl ?_|refine Zm ?_|refine Zn rfl ?_|refine Zo ?_|refine Zp ?_|refine Zq ?_|refine Zr ?_|refine Zs ?_|refine Zt ?_|refine Zu tab rfl rfl ?_|refine Zv rfl rfl ?_|refine Zw rfl rfl rfl rfl ?_|refine Zx rfl rfl rfl ?_|(apply Zy;refine Zz ?_)|(apply Ya;refine Yb ?_)|(apply Yc;refine Yd ?_)|(apply Ye;refine Yf ?_)|(apply Yg; first|refine Yh fun _=>?_|refine Yi (Yj rfl rfl) rfl fun _=>?_)|refine Yk rfl fun _=>?_|(apply Yl;refine Ym ?_)|(apply Yn;refine Yo ?_)|(apply Yp;refine Yq ?_)|(apply Yr;refine Ys ?_)|(apply Yt;refine Yu ?_)|(apply Yv;refine Yw fun _=>?_)|refine Yx rfl ?_|refine Yy rfl ?_|refine Yz rfl ?_|(apply Va; first|refine Vb ?_|refine Vc ?_)|refine Vd tab ?_|refine Ve fun _=>?_|(apply Vf;refine Vg ?_)|(apply Vh;refine Vi ?_)|(apply Vj;refine Vk ?_)|(apply Vl;refine Vm ?_)|(apply Vn;refine Vo ?_)|(apply Vp;refine Vq ?_)|(apply Vr;refine Vs ?_)|(apply Vt;refine Vu ?_)|(apply Vv;refine Vw ?_)|(apply Vx;refine Vy ?_)|(apply Vz;refine Ua fun _=>?_)))
    exact xt_retMA0 2 rfl rfl rfl rfl fun w1 hw1 => bmI_nil w w1
  rw [if_neg (by simp only [Bool.true_eq_false, false_or]; exact hC)]
  have hC' : hx - lx ≤ 65536 ∧ hy - ly ≤ 65536 := by omega
  have i1 : CDet Try.prog 35 [.int .i64 lx, .int .i64 64] (.int .i64 (lx / 64)) := ⟨down_det lx 64 (by omega) (by omega)⟩
  have i2 : CDet Try.prog 35 [.int .i64 hx, .int .i64 64] (.int .i64 (hx / 64)) := ⟨down_det hx 64 (by omega) (by omega)⟩
  (repeat' (first|refine Za ?_|refine Zb ?_|refine Zc ?_|refine Zd ?_|refine Ze ?_|refine Zf ?_|refine Zg ?_|refine Zh ?_|refine Zi ?_|refine Zj ?_|refine Zk ?_|refine Zl ?_|refine Zm ?_|refine Zn rfl ?_|refine Zo ?_|refine Zp ?_|refine Zq ?_|refine Zr ?_|refine Zs ?_|refine Zt ?_|refine Zu tab rfl rfl ?_|refine Zv rfl rfl ?_|refine Zw rfl rfl rfl rfl ?_|refine Zx rfl rfl rfl ?_|(apply Zy;refine Zz ?_)|(apply Ya;refine Yb ?_)|(apply Yc;refine Yd ?_)|(apply Ye;refine Yf ?_)|(apply Yg; first|refine Yh fun _=>?_|refine Yi (Yj rfl rfl) rfl fun _=>?_)|refine Yk rfl fun _=>?_|(apply Yl;refine Ym ?_)|(apply Yn;refine Yo ?_)|(apply Yp;refine Yq ?_)|(apply Yr;refine Ys ?_)|(apply Yt;refine Yu ?_)|(apply Yv;refine Yw fun _=>?_)|refine Yx rfl ?_|refine Yy rfl ?_|refine Yz rfl ?_|(apply Va; first|refine Vb ?_|refine Vc ?_)|refine Vd tab ?_|refine Ve fun _=>?_|(apply Vf;refine Vg ?_)|(apply Vh;refine Vi ?_)|(apply Vj;refine Vk ?_)|(apply Vl;refine Vm ?_)|(apply Vn;refine Vo ?_)|(apply Vp;refine Vq ?_)|(apply Vr;refine Vs ?_)|(apply Vt;refine Vu ?_)|(apply Vv;refine Vw ?_)|(apply Vx;refine Vy ?_)|(apply Vz;refine Ua fun _=>?_)))
  refine t_drawW 7 [(0, .v), (1, .v), (3, .v), (2, .e), (4, .v), (5, .v), (6, .a)] ?_ rfl (by kernel_rfl) (by kernel_rfl) rfl (by kernel_rfl) mixed (by kernel_rfl) rfl
  (repeat' (first|refine Za ?_|refine Zb ?_|refine Zc ?_|refine Zd ?_|refine Ze ?_|refine Zf ?_|refine Zg ?_|refine Zh ?_|refine Zi ?_|refine Zj ?_|refine Zk ?_|refine Zl ?_|refine Zm ?_|refine Zn rfl ?_|refine Zo ?_|refine Zp ?_|refine Zq ?_|refine Zr ?_|refine Zs ?_|refine Zt ?_|refine Zu tab rfl rfl ?_|refine Zv rfl rfl ?_|refine Zw rfl rfl rfl rfl ?_|refine Zx rfl rfl rfl ?_|(apply Zy;refine Zz ?_)|(apply Ya;refine Yb ?_)|(apply Yc;refine Yd ?_)|(apply Ye;refine Yf ?_)|(apply Yg; first|refine Yh fun _=>?_|refine Yi (Yj rfl rfl) rfl fun _=>?_)|refine Yk rfl fun _=>?_|(apply Yl;refine Ym ?_)|(apply Yn;refine Yo ?_)|(apply Yp;refine Yq ?_)|(apply Yr;refine Ys ?_)|(apply Yt;refine Yu ?_)|(apply Yv;refine Yw fun _=>?_)|refine Yx rfl ?_|refine Yy rfl ?_|refine Yz rfl ?_|(apply Va; first|refine Vb ?_|refine Vc ?_)|refine Vd tab ?_|refine Ve fun _=>?_|(apply Vf;refine Vg ?_)|(apply Vh;refine Vi ?_)|(apply Vj;refine Vk ?_)|(apply Vl;refine Vm ?_)|(apply Vn;refine Vo ?_)|(apply Vp;refine Vq ?_)|(apply Vr;refine Vs ?_)|(apply Vt;refine Vu ?_)|(apply Vv;refine Vw ?_)|(apply Vx;refine Vy ?_)|(apply Vz;refine Ua fun _=>?_)))
  refine dw_end [0, 2, 3, 4, 6, 7, 52] (rest := []) rfl ?_
  (repeat' (first|refine Za ?_|refine Zb ?_|refine Zc ?_|refine Zd ?_|refine Ze ?_|refine Zf ?_|refine Zg ?_|refine Zh ?_|refine Zi ?_|refine Zj ?_|refine Zk ?_|refine Zl ?_|refine Zm ?_|refine Zn rfl ?_|refine Zo ?_|refine Zp ?_|refine Zq ?_|refine Zr ?_|refine Zs ?_|refine Zt ?_|refine Zu tab rfl rfl ?_|refine Zv rfl rfl ?_|refine Zw rfl rfl rfl rfl ?_|refine Zx rfl rfl rfl ?_|(apply Zy;refine Zz ?_)|(apply Ya;refine Yb ?_)|(apply Yc;refine Yd ?_)|(apply Ye;refine Yf ?_)|(apply Yg; first|refine Yh fun _=>?_|refine Yi (Yj rfl rfl) rfl fun _=>?_)|refine Yk rfl fun _=>?_|(apply Yl;refine Ym ?_)|(apply Yn;refine Yo ?_)|(apply Yp;refine Yq ?_)|(apply Yr;refine Ys ?_)|(apply Yt;refine Yu ?_)|(apply Yv;refine Yw fun _=>?_)|refine Yx rfl ?_|refine Yy rfl ?_|refine Yz rfl ?_|(apply Va; first|refine Vb ?_|refine Vc ?_)|refine Vd tab ?_|refine Ve fun _=>?_|(apply Vf;refine Vg ?_)|(apply Vh;refine Vi ?_)|(apply Vj;refine Vk ?_)|(apply Vl;refine Vm ?_)|(apply Vn;refine Vo ?_)|(apply Vp;refine Vq ?_)|(apply Vr;refine Vs ?_)|(apply Vt;refine Vu ?_)|(apply Vv;refine Vw ?_)|(apply Vx;refine Vy ?_)|(apply Vz;refine Ua fun _=>?_)))
  rename_i b3 b4 b6 b7 b8
  refine tl_ret (β := Nat × Nat × Nat) (fun c => .func (.func 59) #[] #[.pointer (some ⟨c.1, 0, none⟩), .pointer (some ⟨c.2.1, 0, none⟩), .pointer (some ⟨c.2.2, 0, none⟩)]) (fun c => [(c.1, bx [.int .i64 ly] 3), (c.2.1, bx [.int .i64 hy] 3), (c.2.2, bx [.slice A n cap] 22)]) (fun w1 _ => rows_calls ly hy A n cap w1) rfl (fun w1 v w2 hs he ⟨c1, c2, c3, hv, hst⟩ => ⟨(c1, c2, c3), hv, hs.addSt hst⟩) rfl ?_
  rintro ⟨c1, c2, c3⟩
  dsimp only
  obtain ⟨wd, hwd⟩ : ∃ wd : Nat, hx / 64 - lx / 64 + 1 = wd := ⟨(hx / 64 - lx / 64 + 1).toNat, by omega⟩
  obtain ⟨N, hN⟩ : ∃ N : Nat, (N : Int) = rowOf hy - rowOf ly := ⟨(rowOf hy - rowOf ly).toNat, by have := rowOf_mono hbo.2.1; omega⟩
  have hwd1 : 1 ≤ wd ∧ wd ≤ 1026 := by omega
  have hN1 : N ≤ 1025 := by unfold rowOf at hN; omega
  have hqi : (boxP ls).1 = lx ∧ (boxP ls).2.1 = ly ∧ (boxP ls).2.2.1 = hx ∧ (boxP ls).2.2.2.1 = hy := by rw [← hq]; exact ⟨rfl, rfl, rfl, rfl⟩
  have hein : ∀ e ∈ edgesAll ls, ly ≤ e.2.1 ∧ e.2.2.2.1 ≤ hy := fun e he => by have := edge_in he; omega
  have hfs : fillS ls (lx, ly, hx, hy, true) = (rowsX (rowOf ly) N (edgesAll ls)).flatMap (rowSp (lx / 64) wd) := by
    unfold fillS
    dsimp only
    rw [← hN, hwd, Int.toNat_natCast, Int.toNat_natCast]
  rw [hwd, hfs]
  (repeat' (first|refine Za ?_|refine Zb ?_|refine Zc ?_|refine Zd ?_|refine Ze ?_|refine Zf ?_|refine Zg ?_|refine Zh ?_|refine Zi ?_|refine Zj ?_|refine Zk ?_|refine Zl ?_|refine Zm ?_|refine Zn rfl ?_|refine Zo ?_|refine Zp ?_|refine Zq ?_|refine Zr ?_|refine Zs ?_|refine Zt ?_|refine Zu tab rfl rfl ?_|refine Zv rfl rfl ?_|refine Zw rfl rfl rfl rfl ?_|refine Zx rfl rfl rfl ?_|(apply Zy;refine Zz ?_)|(apply Ya;refine Yb ?_)|(apply Yc;refine Yd ?_)|(apply Ye;refine Yf ?_)|(apply Yg; first|refine Yh fun _=>?_|refine Yi (Yj rfl rfl) rfl fun _=>?_)|refine Yk rfl fun _=>?_|(apply Yl;refine Ym ?_)|(apply Yn;refine Yo ?_)|(apply Yp;refine Yq ?_)|(apply Yr;refine Ys ?_)|(apply Yt;refine Yu ?_)|(apply Yv;refine Yw fun _=>?_)|refine Yx rfl ?_|refine Yy rfl ?_|refine Yz rfl ?_|(apply Va; first|refine Vb ?_|refine Vc ?_)|refine Vd tab ?_|refine Ve fun _=>?_|(apply Vf;refine Vg ?_)|(apply Vh;refine Vi ?_)|(apply Vj;refine Vk ?_)|(apply Vl;refine Vm ?_)|(apply Vn;refine Vo ?_)|(apply Vp;refine Vq ?_)|(apply Vr;refine Vs ?_)|(apply Vt;refine Vu ?_)|(apply Vv;refine Vw ?_)|(apply Vx;refine Vy ?_)|(apply Vz;refine Ua fun _=>?_)))
  refine t_range2 (rows_iter w c1 c2 c3 ly hy A n cap N ls hL (by omega) (by omega) (by omega) (by omega) hN hes hein) rfl (fun pre L => ∃ v Lv, OwnsV v 75 3 (pre.flatMap (rowSp (lx / 64) wd)).length ((pre.flatMap (rowSp (lx / 64) wd)).flatMap spCells) Lv ∧ L = (b8, bx [v] 60) :: (b7, bx [.int .i64 wd] 2) :: (b6, bx [.int .i64 (lx / 64)] 2) :: (b2, bx [.int .i64 0, .int .i64 0, .int .i64 0, .int .i64 0, .slice none 0 0] 30) :: (c1, bx [.int .i64 ly] 3) :: (c2, bx [.int .i64 hy] 3) :: (c3, bx [.slice A n cap] 22) :: Lv) ⟨_, [], OwnsV.nil, rfl⟩ (fun w' hw' => hw'.pick [3, 4, 5, 8, 0, 1, 2] (by decide) rfl) ?_ ?_ rfl ?_ ?_
  · rintro pre L w' ⟨v, Lv, _, rfl⟩ hw'
    exact ⟨⟨hw'.size, fun k hk => hw'.old k hk (by simp)⟩, ⟨hw'.lt (p := (c1, bx [.int .i64 ly] 3)) (by simp), hw'.cell (b := c1) (cs := [.int .i64 ly]) (t := 3) (by simp) 0⟩, ⟨hw'.lt (p := (c2, bx [.int .i64 hy] 3)) (by simp), hw'.cell (b := c2) (cs := [.int .i64 hy]) (t := 3) (by simp) 0⟩, ⟨hw'.lt (p := (c3, bx [.slice A n cap] 22)) (by simp), hw'.cell (b := c3) (cs := [.slice A n cap]) (t := 22) (by simp) 0⟩⟩
  · rintro _ _ _ e vs ⟨b, rfl, _⟩
    rfl
  · rintro l db rec pre r L W1 vs B1 ids hpre ⟨v, Lv, hown, rfl⟩ hst ⟨bc, rfl, hbB, hbi, hbh⟩ hkB
    have hmem : r ∈ rowsX (rowOf ly) N (edgesAll ls) := hpre.subset (by simp)
    have hrk := rowsX_ok (ls := ls) (N := N) (r := r) (by omega) (by rw [hqi.2.1]; exact hmem)
    rw [hqi.1, hqi.2.1, hqi.2.2.1] at hrk
    obtain ⟨hcs, i, hiN, hr1, hrl⟩ := hrk
    have hbcX : bc ∉ l :: (((b8, bx [v] 60) :: (b7, bx [.int .i64 wd] 2) :: (b6, bx [.int .i64 (lx / 64)] 2) :: (b2, bx [.int .i64 0, .int .i64 0, .int .i64 0, .int .i64 0, .slice none 0 0] 30) :: (c1, bx [.int .i64 ly] 3) :: (c2, bx [.int .i64 hy] 3) :: (c3, bx [.slice A n cap] 22) :: Lv) ++ [(db, defO)]).map (·.1) := fun h => by
      rcases hkB bc h with h | h
      · omega
      · exact hbi h
    clear hst hkB
    generalize hX : (l :: (((b8, bx [v] 60) :: (b7, bx [.int .i64 wd] 2) :: (b6, bx [.int .i64 (lx / 64)] 2) :: (b2, bx [.int .i64 0, .int .i64 0, .int .i64 0, .int .i64 0, .slice none 0 0] 30) :: (c1, bx [.int .i64 ly] 3) :: (c2, bx [.int .i64 hy] 3) :: (c3, bx [.slice A n cap] 22) :: Lv) ++ [(db, defO)]).map (·.1)) = X at hbcX ⊢
    try dsimp only [List.cons_append, List.nil_append, List.map_cons, List.map_nil]
    (repeat' (first|refine Za ?_|refine Zb ?_|refine Zc ?_|refine Zd ?_|refine Ze ?_|refine Zf ?_|refine Zg ?_|refine Zh ?_|refine Zi ?_|refine Zj ?_|refine Zk ?_|refine Zl ?_|refine Zm ?_|refine Zn rfl ?_|refine Zo ?_|refine Zp ?_|refine Zq ?_|refine Zr ?_|refine Zs ?_|refine Zt ?_|refine Zu tab rfl rfl ?_|refine Zv rfl rfl ?_|refine Zw rfl rfl rfl rfl ?_|refine Zx rfl rfl rfl ?_|(apply Zy;refine Zz ?_)|(apply Ya;refine Yb ?_)|(apply Yc;refine Yd ?_)|(apply Ye;refine Yf ?_)|(apply Yg; first|refine Yh fun _=>?_|refine Yi (Yj rfl rfl) rfl fun _=>?_)|refine Yk rfl fun _=>?_|(apply Yl;refine Ym ?_)|(apply Yn;refine Yo ?_)|(apply Yp;refine Yq ?_)|(apply Yr;refine Ys ?_)|(apply Yt;refine Yu ?_)|(apply Yv;refine Yw fun _=>?_)|refine Yx rfl ?_|refine Yy rfl ?_|refine Yz rfl ?_|(apply Va; first|refine Vb ?_|refine Vc ?_)|refine Vd tab ?_|refine Ve fun _=>?_|(apply Vf;refine Vg ?_)|(apply Vh;refine Vi ?_)|(apply Vj;refine Vk ?_)|(apply Vl;refine Vm ?_)|(apply Vn;refine Vo ?_)|(apply Vp;refine Vq ?_)|(apply Vr;refine Vs ?_)|(apply Vt;refine Vu ?_)|(apply Vv;refine Vw ?_)|(apply Vx;refine Vy ?_)|(apply Vz;refine Ua fun _=>?_)))
    refine xt_beginK [6, 7, 8, 9, 10] ((b8, bx [v] 60) :: (b7, bx [.int .i64 wd] 2) :: (b6, bx [.int .i64 (lx / 64)] 2) :: (b2, bx [.int .i64 0, .int .i64 0, .int .i64 0, .int .i64 0, .slice none 0 0] 30) :: (c1, bx [.int .i64 ly] 3) :: (c2, bx [.int .i64 hy] 3) :: (c3, bx [.slice A n cap] 22) :: (Lv ++ [(db, defO)])) rfl ?_
    try dsimp only [List.cons_append, List.nil_append, List.map_cons, List.map_nil]
    (repeat' (first|refine Za ?_|refine Zb ?_|refine Zc ?_|refine Zd ?_|refine Ze ?_|refine Zf ?_|refine Zg ?_|refine Zh ?_|refine Zi ?_|refine Zj ?_|refine Zk ?_|refine Zl ?_|refine Zm ?_|refine Zn rfl ?_|refine Zo ?_|refine Zp ?_|refine Zq ?_|refine Zr ?_|refine Zs ?_|refine Zt ?_|refine Zu tab rfl rfl ?_|refine Zv rfl rfl ?_|refine Zw rfl rfl rfl rfl ?_|refine Zx rfl rfl rfl ?_|(apply Zy;refine Zz ?_)|(apply Ya;refine Yb ?_)|(apply Yc;refine Yd ?_)|(apply Ye;refine Yf ?_)|(apply Yg; first|refine Yh fun _=>?_|refine Yi (Yj rfl rfl) rfl fun _=>?_)|refine Yk rfl fun _=>?_|(apply Yl;refine Ym ?_)|(apply Yn;refine Yo ?_)|(apply Yp;refine Yq ?_)|(apply Yr;refine Ys ?_)|(apply Yt;refine Yu ?_)|(apply Yv;refine Yw fun _=>?_)|refine Yx rfl ?_|refine Yy rfl ?_|refine Yz rfl ?_|(apply Va; first|refine Vb ?_|refine Vc ?_)|refine Vd tab ?_|refine Ve fun _=>?_|(apply Vf;refine Vg ?_)|(apply Vh;refine Vi ?_)|(apply Vj;refine Vk ?_)|(apply Vl;refine Vm ?_)|(apply Vn;refine Vo ?_)|(apply Vp;refine Vq ?_)|(apply Vr;refine Vs ?_)|(apply Vt;refine Vu ?_)|(apply Vv;refine Vw ?_)|(apply Vx;refine Vy ?_)|(apply Vz;refine Ua fun _=>?_)))
    refine tl_ret (fun b => rowSl wd b) (fun b => [(b, px 5 wd fun _ => false)]) (fun w' _ => blank_calls wd (by omega) w') rfl (fun w1 v w2 hs he ⟨b, o, hv, hb, hh, hq⟩ => ⟨b, hv, hs.addNew he hb hh (px_blank hq)⟩) rfl fun pb => ?_
    unfold rowSl
    (repeat' (first|refine Za ?_|refine Zb ?_|refine Zc ?_|refine Zd ?_|refine Ze ?_|refine Zf ?_|refine Zg ?_|refine Zh ?_|refine Zi ?_|refine Zj ?_|refine Zk ?_|refine Zl ?_|refine Zm ?_|refine Zn rfl ?_|refine Zo ?_|refine Zp ?_|refine Zq ?_|refine Zr ?_|refine Zs ?_|refine Zt ?_|refine Zu tab rfl rfl ?_|refine Zv rfl rfl ?_|refine Zw rfl rfl rfl rfl ?_|refine Zx rfl rfl rfl ?_|(apply Zy;refine Zz ?_)|(apply Ya;refine Yb ?_)|(apply Yc;refine Yd ?_)|(apply Ye;refine Yf ?_)|(apply Yg; first|refine Yh fun _=>?_|refine Yi (Yj rfl rfl) rfl fun _=>?_)|refine Yk rfl fun _=>?_|(apply Yl;refine Ym ?_)|(apply Yn;refine Yo ?_)|(apply Yp;refine Yq ?_)|(apply Yr;refine Ys ?_)|(apply Yt;refine Yu ?_)|(apply Yv;refine Yw fun _=>?_)|refine Yx rfl ?_|refine Yy rfl ?_|refine Yz rfl ?_|(apply Va; first|refine Vb ?_|refine Vc ?_)|refine Vd tab ?_|refine Ve fun _=>?_|(apply Vf;refine Vg ?_)|(apply Vh;refine Vi ?_)|(apply Vj;refine Vk ?_)|(apply Vl;refine Vm ?_)|(apply Vn;refine Vo ?_)|(apply Vp;refine Vq ?_)|(apply Vr;refine Vs ?_)|(apply Vt;refine Vu ?_)|(apply Vv;refine Vw ?_)|(apply Vx;refine Vy ?_)|(apply Vz;refine Ua fun _=>?_)))
    rename_i b11
    refine tl_ret (fun bl => .func (.func 66) #[] #[.pointer (some ⟨bl, 0, none⟩)]) (fun bl => [(bl, bx [.slice (some ⟨bc, 0, none⟩) r.2.length r.2.length] 64)]) (fun w _ => stretches_calls (.slice (some ⟨bc, 0, none⟩) r.2.length r.2.length) rfl w) rfl (fun w1 v w2 hs he ⟨bl, hv, hb, hh⟩ => ⟨bl, hv, hs.addNew he hb hh rfl⟩) rfl fun bs => ?_
    (repeat' (first|refine Za ?_|refine Zb ?_|refine Zc ?_|refine Zd ?_|refine Ze ?_|refine Zf ?_|refine Zg ?_|refine Zh ?_|refine Zi ?_|refine Zj ?_|refine Zk ?_|refine Zl ?_|refine Zm ?_|refine Zn rfl ?_|refine Zo ?_|refine Zp ?_|refine Zq ?_|refine Zr ?_|refine Zs ?_|refine Zt ?_|refine Zu tab rfl rfl ?_|refine Zv rfl rfl ?_|refine Zw rfl rfl rfl rfl ?_|refine Zx rfl rfl rfl ?_|(apply Zy;refine Zz ?_)|(apply Ya;refine Yb ?_)|(apply Yc;refine Yd ?_)|(apply Ye;refine Yf ?_)|(apply Yg; first|refine Yh fun _=>?_|refine Yi (Yj rfl rfl) rfl fun _=>?_)|refine Yk rfl fun _=>?_|(apply Yl;refine Ym ?_)|(apply Yn;refine Yo ?_)|(apply Yp;refine Yq ?_)|(apply Yr;refine Ys ?_)|(apply Yt;refine Yu ?_)|(apply Yv;refine Yw fun _=>?_)|refine Yx rfl ?_|refine Yy rfl ?_|refine Yz rfl ?_|(apply Va; first|refine Vb ?_|refine Vc ?_)|refine Vd tab ?_|refine Ve fun _=>?_|(apply Vf;refine Vg ?_)|(apply Vh;refine Vi ?_)|(apply Vj;refine Vk ?_)|(apply Vl;refine Vm ?_)|(apply Vn;refine Vo ?_)|(apply Vp;refine Vq ?_)|(apply Vr;refine Vs ?_)|(apply Vt;refine Vu ?_)|(apply Vv;refine Vw ?_)|(apply Vx;refine Vy ?_)|(apply Vz;refine Ua fun _=>?_)))
    have hle : N * (edgesAll ls).length ≤ 1025 * 100000 := Nat.mul_le_mul hN1 hes
    refine t_rangeIn2 (stretches_iter bs (some ⟨bc, 0, none⟩) r.2.length r.2.length r.2 (fun c hc => (hcs c hc).1) (by omega)) (l₀ := l) (rec₀ := rec) (st₀ := .busy) (by simp) rfl (fun pre2 L => L = (pb, px 5 wd (pxOf (lx / 64) pre2)) :: (b11, bx [.slice (some ⟨pb, 0, none⟩) wd wd] 65) :: (bs, bx [.slice (some ⟨bc, 0, none⟩) r.2.length r.2.length] 64) :: (b8, bx [v] 60) :: (b7, bx [.int .i64 wd] 2) :: (b6, bx [.int .i64 (lx / 64)] 2) :: (b2, bx [.int .i64 0, .int .i64 0, .int .i64 0, .int .i64 0, .slice none 0 0] 30) :: (c1, bx [.int .i64 ly] 3) :: (c2, bx [.int .i64 hy] 3) :: (c3, bx [.slice A n cap] 22) :: (Lv ++ [(db, defO)] ++ [(l, recO rec .busy)])) rfl (fun w' hw' => hw'.perm perm3) ?_ ?_ rfl ?_ ?_
    · rintro pre2 L w' rfl hw'
      refine ⟨?_, ⟨hw'.lt (p := (bs, bx [.slice (some ⟨bc, 0, none⟩) r.2.length r.2.length] 64)) (by simp), hw'.cell (b := bs) (cs := [.slice (some ⟨bc, 0, none⟩) r.2.length r.2.length]) (t := 64) (by simp) 0⟩⟩
      exact crs_rd hw' hbcX hbh (by omega)
    · rintro _ _ _ e vs rfl
      rfl
    · rintro l2 rec2 pre2 x L W2 vs B2 ids2 hpre2 rfl hst2 rfl hkB2
      clear hst2 hkB2
      generalize (l2 :: List.map (fun x : Nat × (Obj → Prop) => x.1) _) = X2
      try dsimp only [List.cons_append, List.nil_append, List.map_cons, List.map_nil]
      (repeat' (first|refine Za ?_|refine Zb ?_|refine Zc ?_|refine Zd ?_|refine Ze ?_|refine Zf ?_|refine Zg ?_|refine Zh ?_|refine Zi ?_|refine Zj ?_|refine Zk ?_|refine Zl ?_|refine Zm ?_|refine Zn rfl ?_|refine Zo ?_|refine Zp ?_|refine Zq ?_|refine Zr ?_|refine Zs ?_|refine Zt ?_|refine Zu tab rfl rfl ?_|refine Zv rfl rfl ?_|refine Zw rfl rfl rfl rfl ?_|refine Zx rfl rfl rfl ?_|(apply Zy;refine Zz ?_)|(apply Ya;refine Yb ?_)|(apply Yc;refine Yd ?_)|(apply Ye;refine Yf ?_)|(apply Yg; first|refine Yh fun _=>?_|refine Yi (Yj rfl rfl) rfl fun _=>?_)|refine Yk rfl fun _=>?_|(apply Yl;refine Ym ?_)|(apply Yn;refine Yo ?_)|(apply Yp;refine Yq ?_)|(apply Yr;refine Ys ?_)|(apply Yt;refine Yu ?_)|(apply Yv;refine Yw fun _=>?_)|refine Yx rfl ?_|refine Yy rfl ?_|refine Yz rfl ?_|(apply Va; first|refine Vb ?_|refine Vc ?_)|refine Vd tab ?_|refine Ve fun _=>?_|(apply Vf;refine Vg ?_)|(apply Vh;refine Vi ?_)|(apply Vj;refine Vk ?_)|(apply Vl;refine Vm ?_)|(apply Vn;refine Vo ?_)|(apply Vp;refine Vq ?_)|(apply Vr;refine Vs ?_)|(apply Vt;refine Vu ?_)|(apply Vv;refine Vw ?_)|(apply Vx;refine Vy ?_)|(apply Vz;refine Ua fun _=>?_)))
      rename_i b12 b13
      have hxm : x ∈ strs r.2 0 (0, 0) := hpre2.subset (by simp)
      obtain ⟨hp1, hp2⟩ := strs_mem (S := PlIn lx hx) _ r.2 0 (0, 0) (Nat.le_refl _) (.inl rfl) (fun c hc => (hcs c hc).2) x hxm
      obtain ⟨hf1, hf2⟩ := fill_in hp1 hp2
      have hi : CDet Try.prog 39 [pl x.1.1 x.1.2, pl x.2.1 x.2.2] _ := ⟨filled_det x.1.1 x.1.2 x.2.1 x.2.2 hp1.ok hp2.ok⟩
      have hfb : ∀ k, pxOf (lx / 64) (pre2 ++ [x]) k = (pxOf (lx / 64) pre2 k || inS x (lx / 64 + k)) := pxOf_snoc _ _ _
      unfold inS at hfb
      generalize hfv : fillV x.1.1 x.1.2 x.2.1 x.2.2 = fv at hi hf1 hf2 hfb
      obtain ⟨ff, fb⟩ := fv
      dsimp only at hi hf1 hf2 hfb
      refine xt_beginK [6, 11, 12, 13] ((b13, bx [.int .i64 x.2.1, .int .i64 x.2.2] 71) :: (b12, bx [.int .i64 x.1.1, .int .i64 x.1.2] 71) :: (pb, px 5 wd (pxOf (lx / 64) pre2)) :: (b11, bx [.slice (some ⟨pb, 0, none⟩) wd wd] 65) :: (bs, bx [.slice (some ⟨bc, 0, none⟩) r.2.length r.2.length] 64) :: (b8, bx [v] 60) :: (b7, bx [.int .i64 wd] 2) :: (b6, bx [.int .i64 (lx / 64)] 2) :: (b2, bx [.int .i64 0, .int .i64 0, .int .i64 0, .int .i64 0, .slice none 0 0] 30) :: (c1, bx [.int .i64 ly] 3) :: (c2, bx [.int .i64 hy] 3) :: (c3, bx [.slice A n cap] 22) :: (Lv ++ [(db, defO)] ++ [(l, recO rec .busy)])) rfl ?_
      try dsimp only [List.cons_append, List.nil_append, List.map_cons, List.map_nil]
      (repeat' (first|refine Za ?_|refine Zb ?_|refine Zc ?_|refine Zd ?_|refine Ze ?_|refine Zf ?_|refine Zg ?_|refine Zh ?_|refine Zi ?_|refine Zj ?_|refine Zk ?_|refine Zl ?_|refine Zm ?_|refine Zn rfl ?_|refine Zo ?_|refine Zp ?_|refine Zq ?_|refine Zr ?_|refine Zs ?_|refine Zt ?_|refine Zu tab rfl rfl ?_|refine Zv rfl rfl ?_|refine Zw rfl rfl rfl rfl ?_|refine Zx rfl rfl rfl ?_|(apply Zy;refine Zz ?_)|(apply Ya;refine Yb ?_)|(apply Yc;refine Yd ?_)|(apply Ye;refine Yf ?_)|(apply Yg; first|refine Yh fun _=>?_|refine Yi (Yj rfl rfl) rfl fun _=>?_)|refine Yk rfl fun _=>?_|(apply Yl;refine Ym ?_)|(apply Yn;refine Yo ?_)|(apply Yp;refine Yq ?_)|(apply Yr;refine Ys ?_)|(apply Yt;refine Yu ?_)|(apply Yv;refine Yw fun _=>?_)|refine Yx rfl ?_|refine Yy rfl ?_|refine Yz rfl ?_|(apply Va; first|refine Vb ?_|refine Vc ?_)|refine Vd tab ?_|refine Ve fun _=>?_|(apply Vf;refine Vg ?_)|(apply Vh;refine Vi ?_)|(apply Vj;refine Vk ?_)|(apply Vl;refine Vm ?_)|(apply Vn;refine Vo ?_)|(apply Vp;refine Vq ?_)|(apply Vr;refine Vs ?_)|(apply Vt;refine Vu ?_)|(apply Vv;refine Vw ?_)|(apply Vx;refine Vy ?_)|(apply Vz;refine Ua fun _=>?_)))
      refine t_loopK [6, 11, 15] (α := Int) (fun i => [(16, .int .i64 i)]) (fun i => ff ≤ i ∧ (i ≤ fb ∨ i = ff)) (fun i => (pb, px 5 wd (fun k => pxOf (lx / 64) pre2 k || (decide (ff ≤ lx / 64 + k) && decide (lx / 64 + k < i)))) :: (b11, bx [.slice (some ⟨pb, 0, none⟩) wd wd] 65) :: (bs, bx [.slice (some ⟨bc, 0, none⟩) r.2.length r.2.length] 64) :: (b8, bx [v] 60) :: (b7, bx [.int .i64 wd] 2) :: (b6, bx [.int .i64 (lx / 64)] 2) :: (b2, bx [.int .i64 0, .int .i64 0, .int .i64 0, .int .i64 0, .slice none 0 0] 30) :: (c1, bx [.int .i64 ly] 3) :: (c2, bx [.int .i64 hy] 3) :: (c3, bx [.slice A n cap] 22) :: (Lv ++ [(db, defO)] ++ [(l, recO rec .busy)] ++ [(l2, recO rec2 .busy)])) (fun i => (fb - i).toNat) ff rfl ⟨rfl, trivial⟩ ⟨Int.le_refl _, .inr rfl⟩ (fun w' hw' => ?_) ?_
      · refine St.headImp (hw'.sublist (.cons _ (.cons _ (List.Sublist.refl _)))) fun o ho => px_congr ho fun k hk => ?_
        by_cases h1 : ff ≤ lx / 64 + k
        · rw [decide_eq_false (show ¬ lx / 64 + (k : Int) < ff by omega), Bool.and_false, Bool.or_false]
        · rw [decide_eq_false h1, Bool.false_and, Bool.or_false]
      rintro i ⟨hi1, hi2⟩
      try dsimp only [List.cons_append, List.nil_append, List.map_cons, List.map_nil]
      (repeat' (first|refine Za ?_|refine Zb ?_|refine Zc ?_|refine Zd ?_|refine Ze ?_|refine Zf ?_|refine Zg ?_|refine Zh ?_|refine Zi ?_|refine Zj ?_|refine Zk ?_|refine Zl ?_|refine Zm ?_|refine Zn rfl ?_|refine Zo ?_|refine Zp ?_|refine Zq ?_|refine Zr ?_|refine Zs ?_|refine Zt ?_|refine Zu tab rfl rfl ?_|refine Zv rfl rfl ?_|refine Zw rfl rfl rfl rfl ?_|refine Zx rfl rfl rfl ?_|(apply Zy;refine Zz ?_)|(apply Ya;refine Yb ?_)|(apply Yc;refine Yd ?_)|(apply Ye;refine Yf ?_)|(apply Yg; first|refine Yh fun _=>?_|refine Yi (Yj rfl rfl) rfl fun _=>?_)|refine Yk rfl fun _=>?_|(apply Yl;refine Ym ?_)|(apply Yn;refine Yo ?_)|(apply Yp;refine Yq ?_)|(apply Yr;refine Ys ?_)|(apply Yt;refine Yu ?_)|(apply Yv;refine Yw fun _=>?_)|refine Yx rfl ?_|refine Yy rfl ?_|refine Yz rfl ?_|(apply Va; first|refine Vb ?_|refine Vc ?_)|refine Vd tab ?_|refine Ve fun _=>?_|(apply Vf;refine Vg ?_)|(apply Vh;refine Vi ?_)|(apply Vj;refine Vk ?_)|(apply Vl;refine Vm ?_)|(apply Vn;refine Vo ?_)|(apply Vp;refine Vq ?_)|(apply Vr;refine Vs ?_)|(apply Vt;refine Vu ?_)|(apply Vv;refine Vw ?_)|(apply Vx;refine Vy ?_)|(apply Vz;refine Ua fun _=>?_)))
      refine t_cond rfl (fun h => ?_) (fun h => ?_)
      · have hlt := of_decide_eq_true h
        (repeat' (first|refine Za ?_|refine Zb ?_|refine Zc ?_|refine Zd ?_|refine Ze ?_|refine Zf ?_|refine Zg ?_|refine Zh ?_|refine Zi ?_|refine Zj ?_|refine Zk ?_|refine Zl ?_|refine Zm ?_|refine Zn rfl ?_|refine Zo ?_|refine Zp ?_|refine Zq ?_|refine Zr ?_|refine Zs ?_|refine Zt ?_|refine Zu tab rfl rfl ?_|refine Zv rfl rfl ?_|refine Zw rfl rfl rfl rfl ?_|refine Zx rfl rfl rfl ?_|(apply Zy;refine Zz ?_)|(apply Ya;refine Yb ?_)|(apply Yc;refine Yd ?_)|(apply Ye;refine Yf ?_)|(apply Yg; first|refine Yh fun _=>?_|refine Yi (Yj rfl rfl) rfl fun _=>?_)|refine Yk rfl fun _=>?_|(apply Yl;refine Ym ?_)|(apply Yn;refine Yo ?_)|(apply Yp;refine Yq ?_)|(apply Yr;refine Ys ?_)|(apply Yt;refine Yu ?_)|(apply Yv;refine Yw fun _=>?_)|refine Yx rfl ?_|refine Yy rfl ?_|refine Yz rfl ?_|(apply Va; first|refine Vb ?_|refine Vc ?_)|refine Vd tab ?_|refine Ve fun _=>?_|(apply Vf;refine Vg ?_)|(apply Vh;refine Vi ?_)|(apply Vj;refine Vk ?_)|(apply Vl;refine Vm ?_)|(apply Vn;refine Vo ?_)|(apply Vp;refine Vq ?_)|(apply Vr;refine Vs ?_)|(apply Vt;refine Vu ?_)|(apply Vv;refine Vw ?_)|(apply Vx;refine Vy ?_)|(apply Vz;refine Ua fun _=>?_)))
        refine tl_store (o_storePx 0 rfl rfl rfl (by omega)) ?_
        (repeat' (first|refine Za ?_|refine Zb ?_|refine Zc ?_|refine Zd ?_|refine Ze ?_|refine Zf ?_|refine Zg ?_|refine Zh ?_|refine Zi ?_|refine Zj ?_|refine Zk ?_|refine Zl ?_|refine Zm ?_|refine Zn rfl ?_|refine Zo ?_|refine Zp ?_|refine Zq ?_|refine Zr ?_|refine Zs ?_|refine Zt ?_|refine Zu tab rfl rfl ?_|refine Zv rfl rfl ?_|refine Zw rfl rfl rfl rfl ?_|refine Zx rfl rfl rfl ?_|(apply Zy;refine Zz ?_)|(apply Ya;refine Yb ?_)|(apply Yc;refine Yd ?_)|(apply Ye;refine Yf ?_)|(apply Yg; first|refine Yh fun _=>?_|refine Yi (Yj rfl rfl) rfl fun _=>?_)|refine Yk rfl fun _=>?_|(apply Yl;refine Ym ?_)|(apply Yn;refine Yo ?_)|(apply Yp;refine Yq ?_)|(apply Yr;refine Ys ?_)|(apply Yt;refine Yu ?_)|(apply Yv;refine Yw fun _=>?_)|refine Yx rfl ?_|refine Yy rfl ?_|refine Yz rfl ?_|(apply Va; first|refine Vb ?_|refine Vc ?_)|refine Vd tab ?_|refine Ve fun _=>?_|(apply Vf;refine Vg ?_)|(apply Vh;refine Vi ?_)|(apply Vj;refine Vk ?_)|(apply Vl;refine Vm ?_)|(apply Vn;refine Vo ?_)|(apply Vp;refine Vq ?_)|(apply Vr;refine Vs ?_)|(apply Vt;refine Vu ?_)|(apply Vv;refine Vw ?_)|(apply Vx;refine Vy ?_)|(apply Vz;refine Ua fun _=>?_)))
        refine xt_roundK (i + 1) rfl ⟨rfl, trivial⟩ ⟨by omega, .inl (by omega)⟩ (by omega) fun w' hw' => ?_
        refine St.headImp hw' fun o ho => px_congr ho fun k hk => ?_
        rw [Bool.or_assoc]
        congr 1
        by_cases h1 : ff ≤ lx / 64 + k
        · rw [decide_eq_true h1, Bool.true_and, Bool.true_and, ← Bool.decide_or]
          exact decide_eq_decide.2 (by omega)
        · rw [decide_eq_false h1, Bool.false_and, Bool.false_and, Bool.false_or]
          exact decide_eq_false (by omega)
      · have hge := of_decide_eq_false h
        (repeat' (first|refine Za ?_|refine Zb ?_|refine Zc ?_|refine Zd ?_|refine Ze ?_|refine Zf ?_|refine Zg ?_|refine Zh ?_|refine Zi ?_|refine Zj ?_|refine Zk ?_|refine Zl ?_|refine Zm ?_|refine Zn rfl ?_|refine Zo ?_|refine Zp ?_|refine Zq ?_|refine Zr ?_|refine Zs ?_|refine Zt ?_|refine Zu tab rfl rfl ?_|refine Zv rfl rfl ?_|refine Zw rfl rfl rfl rfl ?_|refine Zx rfl rfl rfl ?_|(apply Zy;refine Zz ?_)|(apply Ya;refine Yb ?_)|(apply Yc;refine Yd ?_)|(apply Ye;refine Yf ?_)|(apply Yg; first|refine Yh fun _=>?_|refine Yi (Yj rfl rfl) rfl fun _=>?_)|refine Yk rfl fun _=>?_|(apply Yl;refine Ym ?_)|(apply Yn;refine Yo ?_)|(apply Yp;refine Yq ?_)|(apply Yr;refine Ys ?_)|(apply Yt;refine Yu ?_)|(apply Yv;refine Yw fun _=>?_)|refine Yx rfl ?_|refine Yy rfl ?_|refine Yz rfl ?_|(apply Va; first|refine Vb ?_|refine Vc ?_)|refine Vd tab ?_|refine Ve fun _=>?_|(apply Vf;refine Vg ?_)|(apply Vh;refine Vi ?_)|(apply Vj;refine Vk ?_)|(apply Vl;refine Vm ?_)|(apply Vn;refine Vo ?_)|(apply Vp;refine Vq ?_)|(apply Vr;refine Vs ?_)|(apply Vt;refine Vu ?_)|(apply Vv;refine Vw ?_)|(apply Vx;refine Vy ?_)|(apply Vz;refine Ua fun _=>?_)))
        refine xt_roundEnd2 _ rfl fun w' hw' => ?_
        refine St.headImp hw' fun o ho => px_congr ho fun k hk => ?_
        rw [hfb]
        congr 1
        by_cases h1 : ff ≤ lx / 64 + k
        · rw [decide_eq_true h1, Bool.true_and, Bool.true_and]
          exact decide_eq_decide.2 (by omega)
        · rw [decide_eq_false h1, Bool.false_and, Bool.false_and]
    · rintro L rfl
      (repeat' (first|refine Za ?_|refine Zb ?_|refine Zc ?_|refine Zd ?_|refine Ze ?_|refine Zf ?_|refine Zg ?_|refine Zh ?_|refine Zi ?_|refine Zj ?_|refine Zk ?_|refine Zl ?_|refine Zm ?_|refine Zn rfl ?_|refine Zo ?_|refine Zp ?_|refine Zq ?_|refine Zr ?_|refine Zs ?_|refine Zt ?_|refine Zu tab rfl rfl ?_|refine Zv rfl rfl ?_|refine Zw rfl rfl rfl rfl ?_|refine Zx rfl rfl rfl ?_|(apply Zy;refine Zz ?_)|(apply Ya;refine Yb ?_)|(apply Yc;refine Yd ?_)|(apply Ye;refine Yf ?_)|(apply Yg; first|refine Yh fun _=>?_|refine Yi (Yj rfl rfl) rfl fun _=>?_)|refine Yk rfl fun _=>?_|(apply Yl;refine Ym ?_)|(apply Yn;refine Yo ?_)|(apply Yp;refine Yq ?_)|(apply Yr;refine Ys ?_)|(apply Yt;refine Yu ?_)|(apply Yv;refine Yw fun _=>?_)|refine Yx rfl ?_|refine Yy rfl ?_|refine Yz rfl ?_|(apply Va; first|refine Vb ?_|refine Vc ?_)|refine Vd tab ?_|refine Ve fun _=>?_|(apply Vf;refine Vg ?_)|(apply Vh;refine Vi ?_)|(apply Vj;refine Vk ?_)|(apply Vl;refine Vm ?_)|(apply Vn;refine Vo ?_)|(apply Vp;refine Vq ?_)|(apply Vr;refine Vs ?_)|(apply Vt;refine Vu ?_)|(apply Vv;refine Vw ?_)|(apply Vx;refine Vy ?_)|(apply Vz;refine Ua fun _=>?_)))
      refine tl_val (o_convPx (p := pxOf (lx / 64) (strs r.2 0 (0, 0))) rfl fun w' hw' => hw'.here _ (List.mem_cons_self ..)) rfl rfl ?_
      have hi : CDet Try.prog 40 [.int .i64 (lx / 64), .int .i64 r.1, .string (rowB wd (pxOf (lx / 64) (strs r.2 0 (0, 0))))] (trimV (lx / 64) r.1 (rowB wd (pxOf (lx / 64) (strs r.2 0 (0, 0))))) := ⟨trimmed_det _ _ _ (by simp [rowB, ByteArray.size]; omega) (by omega)⟩
      unfold trimV at hi
      have hsn : (pre ++ [r]).flatMap (rowSp (lx / 64) wd) = pre.flatMap (rowSp (lx / 64) wd) ++ rowSp (lx / 64) wd r := by simp
      by_cases hfi : firstIdx (rowB wd (pxOf (lx / 64) (strs r.2 0 (0, 0)))) 35 < 0
      · rw [if_pos hfi] at hi
        rw [rowSp, if_pos hfi, List.append_nil] at hsn
        (repeat' (first|refine Za ?_|refine Zb ?_|refine Zc ?_|refine Zd ?_|refine Ze ?_|refine Zf ?_|refine Zg ?_|refine Zh ?_|refine Zi ?_|refine Zj ?_|refine Zk ?_|refine Zl ?_|refine Zm ?_|refine Zn rfl ?_|refine Zo ?_|refine Zp ?_|refine Zq ?_|refine Zr ?_|refine Zs ?_|refine Zt ?_|refine Zu tab rfl rfl ?_|refine Zv rfl rfl ?_|refine Zw rfl rfl rfl rfl ?_|refine Zx rfl rfl rfl ?_|(apply Zy;refine Zz ?_)|(apply Ya;refine Yb ?_)|(apply Yc;refine Yd ?_)|(apply Ye;refine Yf ?_)|(apply Yg; first|refine Yh fun _=>?_|refine Yi (Yj rfl rfl) rfl fun _=>?_)|refine Yk rfl fun _=>?_|(apply Yl;refine Ym ?_)|(apply Yn;refine Yo ?_)|(apply Yp;refine Yq ?_)|(apply Yr;refine Ys ?_)|(apply Yt;refine Yu ?_)|(apply Yv;refine Yw fun _=>?_)|refine Yx rfl ?_|refine Yy rfl ?_|refine Yz rfl ?_|(apply Va; first|refine Vb ?_|refine Vc ?_)|refine Vd tab ?_|refine Ve fun _=>?_|(apply Vf;refine Vg ?_)|(apply Vh;refine Vi ?_)|(apply Vj;refine Vk ?_)|(apply Vl;refine Vm ?_)|(apply Vn;refine Vo ?_)|(apply Vp;refine Vq ?_)|(apply Vr;refine Vs ?_)|(apply Vt;refine Vu ?_)|(apply Vv;refine Vw ?_)|(apply Vx;refine Vy ?_)|(apply Vz;refine Ua fun _=>?_)))
        exact xt_roundEnd2 ((b8, bx [v] 60) :: (b7, bx [.int .i64 wd] 2) :: (b6, bx [.int .i64 (lx / 64)] 2) :: (b2, bx [.int .i64 0, .int .i64 0, .int .i64 0, .int .i64 0, .slice none 0 0] 30) :: (c1, bx [.int .i64 ly] 3) :: (c2, bx [.int .i64 hy] 3) :: (c3, bx [.slice A n cap] 22) ::  Lv ++ [(db, defO)]) ⟨_, rfl, v, Lv, by rw [hsn]; exact hown, rfl⟩ fun w' hw' => hw'.sublist (.cons _ (.cons _ (.cons _ (.cons _ (List.Sublist.refl _)))))
      · rw [if_neg hfi] at hi
        rw [rowSp, if_neg hfi] at hsn
        have hsl : (pre.flatMap (rowSp (lx / 64) wd)).length ≤ 1000000 := by
          have h1 := rowSps_le (lx / 64) wd pre
          have h2 := hpre.length_le
          simp only [rowsX, List.length_append, List.length_map, List.length_range, List.length_singleton] at h2
          omega
        generalize hrb : rowB wd (pxOf (lx / 64) (strs r.2 0 (0, 0))) = rb at hi hsn
        (repeat' (first|refine Za ?_|refine Zb ?_|refine Zc ?_|refine Zd ?_|refine Ze ?_|refine Zf ?_|refine Zg ?_|refine Zh ?_|refine Zi ?_|refine Zj ?_|refine Zk ?_|refine Zl ?_|refine Zm ?_|refine Zn rfl ?_|refine Zo ?_|refine Zp ?_|refine Zq ?_|refine Zr ?_|refine Zs ?_|refine Zt ?_|refine Zu tab rfl rfl ?_|refine Zv rfl rfl ?_|refine Zw rfl rfl rfl rfl ?_|refine Zx rfl rfl rfl ?_|(apply Zy;refine Zz ?_)|(apply Ya;refine Yb ?_)|(apply Yc;refine Yd ?_)|(apply Ye;refine Yf ?_)|(apply Yg; first|refine Yh fun _=>?_|refine Yi (Yj rfl rfl) rfl fun _=>?_)|refine Yk rfl fun _=>?_|(apply Yl;refine Ym ?_)|(apply Yn;refine Yo ?_)|(apply Yp;refine Yq ?_)|(apply Yr;refine Ys ?_)|(apply Yt;refine Yu ?_)|(apply Yv;refine Yw fun _=>?_)|refine Yx rfl ?_|refine Yy rfl ?_|refine Yz rfl ?_|(apply Va; first|refine Vb ?_|refine Vc ?_)|refine Vd tab ?_|refine Ve fun _=>?_|(apply Vf;refine Vg ?_)|(apply Vh;refine Vi ?_)|(apply Vj;refine Vk ?_)|(apply Vl;refine Vm ?_)|(apply Vn;refine Vo ?_)|(apply Vp;refine Vq ?_)|(apply Vr;refine Vs ?_)|(apply Vt;refine Vu ?_)|(apply Vv;refine Vw ?_)|(apply Vx;refine Vy ?_)|(apply Vz;refine Ua fun _=>?_)))
        rename_i b17 b95
        refine tl_imp (fun w' hw' => hw'.perm (perm_last (Pf := [_, _, _, _, _, _, _, _, _, _, _, _]))) ?_
        refine tl_app ((b17, bx [.int .i64 (lx / 64 + firstIdx rb 35), .int .i64 r.1, .string (trim rb)] 75) :: (pb, px 5 wd (pxOf (lx / 64) (strs r.2 0 (0, 0)))) :: (b11, bx [.slice (some ⟨pb, 0, none⟩) wd wd] 65) :: (bs, bx [.slice (some ⟨bc, 0, none⟩) r.2.length r.2.length] 64) :: (b8, bx [v] 60) :: (b7, bx [.int .i64 wd] 2) :: (b6, bx [.int .i64 (lx / 64)] 2) :: (b2, bx [.int .i64 0, .int .i64 0, .int .i64 0, .int .i64 0, .slice none 0 0] 30) :: (c1, bx [.int .i64 ly] 3) :: (c2, bx [.int .i64 hy] 3) :: (c3, bx [.slice A n cap] 22) ::  ([(db, defO)] ++ [(l, recO rec .busy)])) rfl rfl hown rfl rfl rfl rfl rfl rfl (by omega) (by omega) fun bz cz => ?_
        (repeat' (first|refine Za ?_|refine Zb ?_|refine Zc ?_|refine Zd ?_|refine Ze ?_|refine Zf ?_|refine Zg ?_|refine Zh ?_|refine Zi ?_|refine Zj ?_|refine Zk ?_|refine Zl ?_|refine Zm ?_|refine Zn rfl ?_|refine Zo ?_|refine Zp ?_|refine Zq ?_|refine Zr ?_|refine Zs ?_|refine Zt ?_|refine Zu tab rfl rfl ?_|refine Zv rfl rfl ?_|refine Zw rfl rfl rfl rfl ?_|refine Zx rfl rfl rfl ?_|(apply Zy;refine Zz ?_)|(apply Ya;refine Yb ?_)|(apply Yc;refine Yd ?_)|(apply Ye;refine Yf ?_)|(apply Yg; first|refine Yh fun _=>?_|refine Yi (Yj rfl rfl) rfl fun _=>?_)|refine Yk rfl fun _=>?_|(apply Yl;refine Ym ?_)|(apply Yn;refine Yo ?_)|(apply Yp;refine Yq ?_)|(apply Yr;refine Ys ?_)|(apply Yt;refine Yu ?_)|(apply Yv;refine Yw fun _=>?_)|refine Yx rfl ?_|refine Yy rfl ?_|refine Yz rfl ?_|(apply Va; first|refine Vb ?_|refine Vc ?_)|refine Vd tab ?_|refine Ve fun _=>?_|(apply Vf;refine Vg ?_)|(apply Vh;refine Vi ?_)|(apply Vj;refine Vk ?_)|(apply Vl;refine Vm ?_)|(apply Vn;refine Vo ?_)|(apply Vp;refine Vq ?_)|(apply Vr;refine Vs ?_)|(apply Vt;refine Vu ?_)|(apply Vv;refine Vw ?_)|(apply Vx;refine Vy ?_)|(apply Vz;refine Ua fun _=>?_)))
        refine xt_roundEnd2 ((b8, bx [.slice (some ⟨bz, 0, none⟩) ((pre.flatMap (rowSp (lx / 64) wd)).length + 1) cz] 60) :: (b7, bx [.int .i64 wd] 2) :: (b6, bx [.int .i64 (lx / 64)] 2) :: (b2, bx [.int .i64 0, .int .i64 0, .int .i64 0, .int .i64 0, .slice none 0 0] 30) :: (c1, bx [.int .i64 ly] 3) :: (c2, bx [.int .i64 hy] 3) :: (c3, bx [.slice A n cap] 22) ::  [(bz, row 75 3 ((pre.flatMap (rowSp (lx / 64) wd)).length + 1) cz ((pre.flatMap (rowSp (lx / 64) wd)).flatMap spCells ++ [.int .i64 (lx / 64 + firstIdx rb 35), .int .i64 r.1, .string (trim rb)]))] ++ [(db, defO)]) ⟨_, rfl, _, _, ?_, rfl⟩ fun w' hw' => ?_
        · rw [hsn, spCells_flat_snoc, List.length_append]
          exact OwnsV.at_
        · exact hw'.pick [4, 5, 6, 7, 8, 9, 10, 13, 11, 12] (by decide) rfl
  · rintro db L ⟨v, Lv, hown, rfl⟩
    (repeat' (first|refine Za ?_|refine Zb ?_|refine Zc ?_|refine Zd ?_|refine Ze ?_|refine Zf ?_|refine Zg ?_|refine Zh ?_|refine Zi ?_|refine Zj ?_|refine Zk ?_|refine Zl ?_|refine Zm ?_|refine Zn rfl ?_|refine Zo ?_|refine Zp ?_|refine Zq ?_|refine Zr ?_|refine Zs ?_|refine Zt ?_|refine Zu tab rfl rfl ?_|refine Zv rfl rfl ?_|refine Zw rfl rfl rfl rfl ?_|refine Zx rfl rfl rfl ?_|(apply Zy;refine Zz ?_)|(apply Ya;refine Yb ?_)|(apply Yc;refine Yd ?_)|(apply Ye;refine Yf ?_)|(apply Yg; first|refine Yh fun _=>?_|refine Yi (Yj rfl rfl) rfl fun _=>?_)|refine Yk rfl fun _=>?_|(apply Yl;refine Ym ?_)|(apply Yn;refine Yo ?_)|(apply Yp;refine Yq ?_)|(apply Yr;refine Ys ?_)|(apply Yt;refine Yu ?_)|(apply Yv;refine Yw fun _=>?_)|refine Yx rfl ?_|refine Yy rfl ?_|refine Yz rfl ?_|(apply Va; first|refine Vb ?_|refine Vc ?_)|refine Vd tab ?_|refine Ve fun _=>?_|(apply Vf;refine Vg ?_)|(apply Vh;refine Vi ?_)|(apply Vj;refine Vk ?_)|(apply Vl;refine Vm ?_)|(apply Vn;refine Vo ?_)|(apply Vp;refine Vq ?_)|(apply Vr;refine Vs ?_)|(apply Vt;refine Vu ?_)|(apply Vv;refine Vw ?_)|(apply Vx;refine Vy ?_)|(apply Vz;refine Ua fun _=>?_)))
    obtain ⟨A3, c3', rfl⟩ := hown.shape
    refine tl_callR (Post := fun w1 v w2 => BmI w1 w2 v (bmOf ((rowsX (rowOf ly) N (edgesAll ls)).flatMap (rowSp (lx / 64) wd)))) (fun w1 hw1 => ?_) rfl rfl ?_
    · refine bitmap_calls _ (fun s hs => ?_) _ w1 (hown.rdI hw1 (fun p hp => by simp [hp])).rd
      obtain ⟨r, hr, hs⟩ := List.mem_flatMap.1 hs
      have hrk := rowsX_ok (ls := ls) (N := N) (r := r) (by omega) (by rw [hqi.2.1]; exact hr)
      rw [hqi.2.1] at hrk
      obtain ⟨_, i, hiN, hr1, _⟩ := hrk
      have hb1 := rowOf_bd (y := ly) (by omega)
      exact rowSp_ok (by omega) (by omega) (by omega) s hs
    rintro w1 w2 v hw1 he ⟨rv, rfl, hr⟩
    obtain ⟨A4, n4, c4, rfl, _⟩ := id hr
    (repeat' (first|refine Za ?_|refine Zb ?_|refine Zc ?_|refine Zd ?_|refine Ze ?_|refine Zf ?_|refine Zg ?_|refine Zh ?_|refine Zi ?_|refine Zj ?_|refine Zk ?_|refine Zl ?_|refine Zm ?_|refine Zn rfl ?_|refine Zo ?_|refine Zp ?_|refine Zq ?_|refine Zr ?_|refine Zs ?_|refine Zt ?_|refine Zu tab rfl rfl ?_|refine Zv rfl rfl ?_|refine Zw rfl rfl rfl rfl ?_|refine Zx rfl rfl rfl ?_|(apply Zy;refine Zz ?_)|(apply Ya;refine Yb ?_)|(apply Yc;refine Yd ?_)|(apply Ye;refine Yf ?_)|(apply Yg; first|refine Yh fun _=>?_|refine Yi (Yj rfl rfl) rfl fun _=>?_)|refine Yk rfl fun _=>?_|(apply Yl;refine Ym ?_)|(apply Yn;refine Yo ?_)|(apply Yp;refine Yq ?_)|(apply Yr;refine Ys ?_)|(apply Yt;refine Yu ?_)|(apply Yv;refine Yw fun _=>?_)|refine Yx rfl ?_|refine Yy rfl ?_|refine Yz rfl ?_|(apply Va; first|refine Vb ?_|refine Vc ?_)|refine Vd tab ?_|refine Ve fun _=>?_|(apply Vf;refine Vg ?_)|(apply Vh;refine Vi ?_)|(apply Vj;refine Vk ?_)|(apply Vl;refine Vm ?_)|(apply Vn;refine Vo ?_)|(apply Vp;refine Vq ?_)|(apply Vr;refine Vs ?_)|(apply Vt;refine Vu ?_)|(apply Vv;refine Vw ?_)|(apply Vx;refine Vy ?_)|(apply Vz;refine Ua fun _=>?_)))
    generalize bmOf ((rowsX (rowOf ly) N (edgesAll ls)).flatMap (rowSp (lx / 64) wd)) = Bf at hr ⊢
    refine xt_perm (L' := ((b2, bx [.int .i64 Bf.X, .int .i64 Bf.Y, .int .i64 Bf.W, .int .i64 Bf.H, .slice A4 n4 c4] 30) :: seg w1 w2) ++ [(db, defO)]) (fun w' hw' => ?_) ?_
    · have hw2 : St w [] ((b2, bx [.int .i64 Bf.X, .int .i64 Bf.Y, .int .i64 Bf.W, .int .i64 Bf.H, .slice A4 n4 c4] 30) :: ([(db, defO)] ++ seg w1 w2)) w' := hw'.sublist (.cons _ (.cons _ (.cons _ (.cons_cons _ (.cons _ (.cons _ (.cons _ ((List.sublist_append_right _ _).append_right _))))))))
      exact hw2.perm (.cons _ List.perm_append_comm)
    · refine xt_retMA 0 rfl rfl rfl rfl fun w3 hw3 => ⟨_, rfl, ?_⟩
      exact (hr.move (hw3.sg (fun p hp => by simp [hp]))).top hw1.size

end Go.Proofs.Ytbgolbkolcmldaa
