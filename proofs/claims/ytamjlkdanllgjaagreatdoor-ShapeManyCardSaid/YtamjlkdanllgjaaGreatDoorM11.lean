/-
  Texts put together, texts of bytes, places in arrays, rests.
-/
import Derived.Test.YtamjlkdanllgjaaGreatDoorM10
import Derived.Test.YtamjlkdanllgjaaGreatDoorM06
import Derived.Test.YtamjlkdanllgjaaGreatDoorM07
import Derived.Test.YtamjlkdanllgjaaGreatDoorM05
import Derived.Laws.Shifts
import Derived.Laws.Pointers
import Derived.Laws.BitsAllLaws
import Derived.Test.YtamjlkdanllgjaaGreatDoorRows
import Derived.WalkKit
import Derived.ProofKit
import Derived.OpenShut
import Derived.ChangeOld
import Derived.SizedLaws
import Derived.Deep.DeepHandedRow
import Derived.Lib.LaidTab
namespace Go.Proofs.YtamjlkdanllgjaaGreatDoor
open Go.RowKit
section
variable {P : Program} {fr : bJ} {B : Bs} {L : AL} {d : Option Tmp} {ty t t' : TypeId} {pos : String} {af : Array Edge} {g : Option (Nat × Bool)} {x y : Operand} {u : AV}
theorem Et {n e sz k : Nat} {q : IntKind} {cs : List AV} (ht : P.underlying t = some (.array n e)) (hs : (P.info? e).map (·.size) = some sz) (hx : bh fr x = some (.iptr cs)) (hy : bh fr y = some (.sc (.int q (k : Int)))) (hk : k < n) (hl : k * sz ≤ cs.length) : Av P ⟨d, .indexAddr t x y, ty, pos, af, g⟩ fr (.iptr (cs.drop (k * sz))) :=
 fun σ ρ w hρ _ => by
  have hyv := (hρ y _ hy).sc_inv
  obtain ⟨b, off, hv, hcx, hcy⟩ := (hρ x _ hx).iptr_inv
  have hk' : (k : Int) < (n : Int) := by omega
  have hso : (sizeOf e : Sem Nat).run P w = .ok sz w := by
   cases hi : P.info? e with
   | none => rw [hi] at hs; cases hs
   | some i => rw [hi] at hs; simp at hs; simp [sizeOf, typeInfo, hi, hs]
  refine ⟨.pointer (some ⟨b, off + k * sz, none⟩), ?_, .iptr _ _ _ (fun j hj => ?_) fun j c v hc hw => ?_⟩
  ·simp [execOp, hv, hyv, Instr.indexAt, asIntOf, run_underlying ht, hk', hso, Instr.sureAddr, Addr.add]
   by_cases hn : n ≤ 1 <;> by_cases h0 : k * sz = 0 <;> simp [hn, run_underlying ht, hso, hk, h0]
  ·have := hcx (k * sz + j) (by simp at hj; omega)
   simpa [Nat.add_assoc] using this
  ·exact hcy (k * sz + j) c v (by simpa using hc) (by simpa [Nat.add_assoc] using hw)
end
def sP (tt : TT) (t : Nat) : Option (Nat × Nat × Nat) := match cX tt t with
 | some ⟨.arr n e sz, _, _⟩ => some (n, e, sz)
 | _ => none
theorem fK {P : Program} {tt : TT} (ok : dG P tt) {t n e sz : Nat} (h : sP tt t = some (n, e, sz)) : P.underlying t = some (.array n e) ∧ (P.info? e).map (·.size) = some sz := by
 unfold sP at h
 split at h
 ·rename_i n' e' sz' si z ht
  cases h
  have := ok.ok t _ ht
  simp only [wM, Bool.and_eq_true] at this
  obtain ⟨_, h2⟩ := this
  split at h2 <;> simp at h2
  rename_i hu
  obtain ⟨⟨rfl, rfl⟩, h3⟩ := h2
  refine ⟨hu, ?_⟩
  unfold mx at h3
  split at h3
  ·rename_i i hi
   simp at h3
   simp [hi, h3]
  ·cases h3
 ·cases h
section
variable {P : Program} {tt : TT} {r : Option Nat} {ops : Array Oper} {Q : Exit → Act → World → Prop} {nt : Nat} {D : List Deferred} {fr : bJ} {B : Bs} {L : AL} {rest : List Oper} {d : Nat} {ty t t' : TypeId} {pos : String} {af : Array Edge} {x y z : Operand} {u : AV}
theorem Ff (ok : dG P tt) (k : Nat) {n e sz : Nat} {q : IntKind} {cs : List AV} (h : br P r ops Q nt D rest ((d, .iptr (cs.drop (k * sz))) :: fr) B L) (ht : sP tt t = some (n, e, sz) := by rfl) (hx : bh fr x = some (.iptr cs) := by rfl) (hy : bh fr y = some (.sc (.int q (k : Int))) := by rfl) (hk : Nat.blt k n = true := by rfl) (hl : Nat.ble (k * sz) cs.length = true := by rfl) (hd : Nat.ble nt d = false := by rfl) : br P r ops Q nt D (⟨some d, .indexAddr t x y, ty, pos, af, none⟩ :: rest) fr B L := by
 obtain ⟨h1, h2⟩ := fK ok ht
 exact cg (Et h1 h2 hx hy (by simpa [Nat.blt_eq] using hk) (by simpa [Nat.ble_eq] using hl)) hd rfl h
end
end Go.Proofs.YtamjlkdanllgjaaGreatDoor
namespace Go.Proofs.YtamjlkdanllgjaaGreatDoor
open Go.RowKit
section
variable {P : Program} {fr : bJ} {B : Bs} {L : AL} {d : Option Tmp} {ty t t' : TypeId} {pos : String} {af : Array Edge} {g : Option (Nat × Bool)} {x y z q : Operand} {u : AV}
theorem CZ.cells {e : TypeId} {i : TypeInfo} {zz : Value} {zs : List Value} (hz : CZ P e zs) (hi : P.info? e = some i) (hzz : i.zero = some zz) (w : World) : zz.cells = zs.toArray := by
 obtain ⟨v, hv, hr⟩ := hz.run
 have := hr w
 simp [zeroValue, typeInfo, hi, hzz] at this
 rw [this, hv]
theorem qQ {σ : bT} (l : List Value) : cz σ (l.map .sc) l := by
 refine ⟨by simp, fun i c u hc hu => ?_⟩
 rw [List.getElem?_map, hu] at hc
 cases hc
 exact .sc _
theorem gu {zs : Array Value} {n : Nat} {v : Value} (h : v ∈ (Builtin.zeroCells zs n).toList) : v ∈ zs.toList := by
 obtain ⟨i, hi, rfl⟩ := List.getElem_of_mem h
 simp only [Builtin.zeroCells] at hi ⊢
 by_cases h0 : zs.size = 0
 ·simp [h0] at hi
 ·have : i % zs.size < zs.size := Nat.mod_lt _ (by omega)
  simp [this]
theorem sL (i : Nat) {e sz by_ b n cap : Nat} {cs es : List AV} {zs : List Value} (hc : ke P t e sz by_) (hs0 : 0 < sz) (hz : CZ P e zs) (hz1 : zs.all (·.oneCell') = true) (hx : bh fr x = some (.sc (.slice (some ⟨b, 0, none⟩) n cap))) (hy : bh fr y = some u) (hu : u.im = .imm sz [es]) (hL : L[i]? = some (b, .box cs e)) (hcl : cs.length = cap * sz) (hn : n ≤ cap) (hcm : cap ≤ maxLen) (h63 : n + 1 ≤ maxLen) (hby : (n + 1) * by_ ≤ 140737488355328) :
  AO P ⟨d, .call ⟨.builtin .append, #[x, y], #[t, t]⟩, ty, pos, af, g⟩ fr B L (fun r L' => ∃ b' cs' cap', r = .sc (.slice (some ⟨b', 0, none⟩) (n + 1) cap') ∧ cs'.length = cap' * sz ∧ cs'.take ((n + 1) * sz) = cs.take (n * sz) ++ es ∧ n + 1 ≤ cap' ∧ cap' ≤ maxLen ∧ L' = (b', .box cs' e) :: L.eraseIdx i) := by
 intro σ ρ w hρ hw0
 have hw := hw0.perm (eh hL)
 have hxv := (hρ x _ hx).sc_inv
 have hyv := (hρ y u hy).im
 rw [hu] at hyv
 obtain ⟨A2, c2, hA2, _⟩ := hyv.imm_inv
 rw [hA2] at hyv
 obtain ⟨_, _, _, hs2, ys, hyl, hyr, hy1, hyc⟩ := hyv.row
 obtain ⟨b2, off2, rfl, hycc⟩ := hyc (by simp)
 haveI := hc
 obtain ⟨inf, zz, hi, hsz, rfl, hzz, hzs⟩ := hc.info
 have hzc := hz.cells hi hzz w
 obtain ⟨o, ho, vs, rfl, hvs, h1⟩ := hw.here _ (List.mem_cons_self ..)
 have hl := hvs.1
 have hel : es.length = sz := hs2 es (by simp)
 have hyl0 : ys.length = sz := by simpa [hel] using hyl
 have hyl' : ys.length = 1 * inf.size := by rw [hsz]; omega
 have hyr' : cz σ es ys := by simpa using hyr
 have hnews : ∀ j v, ys[j]? = some v → w.cell? ((⟨b2, off2, none⟩ : Addr).add j) = some v := fun j v hj => by rw [dY]; exact hw.froz _ _ _ (hycc j v hj)
 have hA2' : ρ y = .slice (some ⟨b2, off2, none⟩) 1 c2 := hA2
 have hmul : (n + 1) * sz = n * sz + sz := by rw [Nat.add_mul, Nat.one_mul]
 have hnc : n * sz ≤ cap * sz := Nat.mul_le_mul_right _ hn
 unfold maxLen at hcm h63
 unfold fw
 by_cases hroom : n + 1 ≤ cap
 ·have hnc1 : (n + 1) * sz ≤ cap * sz := Nat.mul_le_mul_right _ hroom
  have hr := run_append_room (P := P) w t ty e inf hc.under hi b n cap vs.toArray ho ⟨b2, off2, none⟩ 1 c2 ys hyl' hnews hy1 hroom (by rw [hsz]; simp; omega)
  rw [show (execOp ρ ⟨d, .call ⟨.builtin .append, #[x, y], #[t, t]⟩, ty, pos, af, g⟩).run P w = .ok (.value (.slice (some ⟨b, 0, none⟩) (n + 1) cap)) (w.setRow b (vs.toArray.toList.take (n * inf.size) ++ ys ++ vs.toArray.toList.drop (n * inf.size + ys.length)).toArray) by
   simp [execOp, resolve, hxv, hA2', invoke, builtin, hr]]
  rw [hsz, hyl0]
  have hcl' : (cs.take (n * sz) ++ es ++ cs.drop (n * sz + sz)).length = cap * sz := by simp; omega
  refine ⟨σ, .sc _, _, bT.le_refl _, .sc _, hw.put (a' := .box (cs.take (n * sz) ++ es ++ cs.drop (n * sz + sz)) e) (fun _ => trivial) ⟨rfl, rfl, rfl, by simp, fun k _ hk => setRow_other w b k _ (fun e => hk (by simp [e]))⟩ (setRow_heap w b _ _ e _ ho) ⟨_, rfl, dm (dm (eZ hvs _) hyr') (j7 hvs _), fun u hu => ?_⟩, b, _, cap, rfl, hcl', ?_, hroom, by unfold maxLen; omega, rfl⟩
  ·rcases Ho hu with hu | hu
   ·rcases Ho hu with hu | hu
    ·exact h1 _ (List.mem_of_mem_take hu)
    ·exact hy1 _ hu
   ·exact h1 _ (List.mem_of_mem_drop hu)
  ·rw [List.take_append_of_le_length (by simp; omega), List.take_of_length_le (by simp; omega)]
 ·have hncap : n = cap := by omega
  subst hncap
  have holds : ∀ j v, vs[j]? = some v → w.cell? ((⟨b, 0, none⟩ : Addr).add j) = some v := fun j v hj => by
   rw [dY, Nat.zero_add, cC ho]
   simpa using hj
  have hr := run_append_grow (P := P) w t ty e inf zz hc.under hi hzz ⟨b, 0, none⟩ n n vs (by rw [hsz]; omega) holds ⟨b2, off2, none⟩ 1 c2 ys hyl' hnews (by omega) (by omega) (growslice_fits (by omega) hby)
  rw [show (execOp ρ ⟨d, .call ⟨.builtin .append, #[x, y], #[t, t]⟩, ty, pos, af, g⟩).run P w = .ok (.value (.slice (some ⟨w.heap.size, 0, none⟩) (n + 1) (grownCap w (n + 1) n e))) (w.drew.alloc (.cells (vs.toArray ++ ys.toArray ++ Builtin.zeroCells zz.cells (grownCap w (n + 1) n e - (n + 1))) e)) by
   simp [execOp, resolve, hxv, hA2', invoke, builtin, hr]]
  have hge := grownCap_ge w (n + 1) n e
  have hgm := grownCap_le_maxLen w (n + 1) n e (by unfold maxLen; omega)
  have hzl : ∀ k, (Builtin.zeroCells zz.cells k).toList.length = k * sz := fun k => by rw [Array.length_toList, size_zeroCells, hzs]
  have hzm : ∀ k, ∀ v ∈ (Builtin.zeroCells zz.cells k).toList, v.oneCell' = true := fun k v hv => by
   have := gu hv
   rw [hzc] at this
   exact List.all_eq_true.1 hz1 v (by simpa using this)
  generalize grownCap w (n + 1) n e = cap' at *
  have hmc : cap' * sz = (n + 1) * sz + (cap' - (n + 1)) * sz := by rw [← Nat.add_mul]; congr 1; omega
  have hzl' := hzl (cap' - (n + 1))
  have hzm' := hzm (cap' - (n + 1))
  generalize Builtin.zeroCells zz.cells (cap' - (n + 1)) = zc at *
  have hlen : (cs ++ es ++ zc.toList.map AV.sc).length = cap' * sz := by simp only [List.length_append, Hv, hzl']; omega
  refine ⟨σ, .sc _, _, bT.le_refl _, .sc _, ((hw.sublist (List.sublist_cons_self ..)).drew _).alloc _ (.box (cs ++ es ++ zc.toList.map AV.sc) e) ⟨vs ++ ys ++ zc.toList, by simp, dm (dm hvs hyr') (qQ _), fun u hu => ?_⟩, w.heap.size, _, cap', rfl, hlen, ?_, hge, hgm, rfl⟩
  ·rcases Ho hu with hu | hu
   ·rcases Ho hu with hu | hu
    ·exact h1 _ hu
    ·exact hy1 _ hu
   ·exact hzm' u hu
  ·rw [List.take_append_of_le_length (by simp; omega), List.take_of_length_le (by simp; omega), List.take_of_length_le (by omega)]
theorem r8 {e sz by_ : Nat} {es : List AV} {zs : List Value} (hc : ke P t e sz by_) (hs0 : 0 < sz) (hz : CZ P e zs) (hz1 : zs.all (·.oneCell') = true) (hx : bh fr x = some (.sc (.slice none 0 0))) (hy : bh fr y = some u) (hu : u.im = .imm sz [es]) (hby : by_ ≤ 140737488355328) :
  AO P ⟨d, .call ⟨.builtin .append, #[x, y], #[t, t]⟩, ty, pos, af, g⟩ fr B L (fun r L' => ∃ b' cs' cap', r = .sc (.slice (some ⟨b', 0, none⟩) 1 cap') ∧ cs'.length = cap' * sz ∧ cs'.take (1 * sz) = es ∧ 1 ≤ cap' ∧ cap' ≤ maxLen ∧ L' = (b', .box cs' e) :: L) := by
 intro σ ρ w hρ hw
 have hxv := (hρ x _ hx).sc_inv
 have hyv := (hρ y u hy).im
 rw [hu] at hyv
 obtain ⟨A2, c2, hA2, _⟩ := hyv.imm_inv
 rw [hA2] at hyv
 obtain ⟨_, _, _, hs2, ys, hyl, hyr, hy1, hyc⟩ := hyv.row
 obtain ⟨b2, off2, rfl, hycc⟩ := hyc (by simp)
 haveI := hc
 obtain ⟨inf, zz, hi, hsz, rfl, hzz, hzs⟩ := hc.info
 have hzc := hz.cells hi hzz w
 have hel : es.length = sz := hs2 es (by simp)
 have hyl0 : ys.length = sz := by simpa [hel] using hyl
 have hyl' : ys.length = 1 * inf.size := by rw [hsz]; omega
 have hyr' : cz σ es ys := by simpa using hyr
 have hnews : ∀ j v, ys[j]? = some v → w.cell? ((⟨b2, off2, none⟩ : Addr).add j) = some v := fun j v hj => by rw [dY]; exact hw.froz _ _ _ (hycc j v hj)
 have hA2' : ρ y = .slice (some ⟨b2, off2, none⟩) 1 c2 := hA2
 have hr := run_append_nil (P := P) w t ty e inf zz hc.under hi hzz ⟨b2, off2, none⟩ 1 c2 ys hyl' hnews (by omega) (by omega) (by omega)
 unfold fw
 rw [show (execOp ρ ⟨d, .call ⟨.builtin .append, #[x, y], #[t, t]⟩, ty, pos, af, g⟩).run P w = .ok (.value (.slice (some ⟨w.heap.size, 0, none⟩) 1 (grownCap w 1 0 e))) (w.drew.alloc (.cells (ys.toArray ++ Builtin.zeroCells zz.cells (grownCap w 1 0 e - 1)) e)) by
  simp [execOp, resolve, hxv, hA2', invoke, builtin, hr]]
 have hge := grownCap_ge w 1 0 e
 have hgm := grownCap_le_maxLen w 1 0 e (by unfold maxLen; omega)
 have hzl : ∀ k, (Builtin.zeroCells zz.cells k).toList.length = k * sz := fun k => by rw [Array.length_toList, size_zeroCells, hzs]
 have hzm : ∀ k, ∀ v ∈ (Builtin.zeroCells zz.cells k).toList, v.oneCell' = true := fun k v hv => by
  have := gu hv
  rw [hzc] at this
  exact List.all_eq_true.1 hz1 v (by simpa using this)
 generalize grownCap w 1 0 e = cap' at *
 have hmc : cap' * sz = sz + (cap' - 1) * sz := by
  have : cap' = 1 + (cap' - 1) := by omega
  rw [this, Nat.add_mul]
  simp
 have hzl' := hzl (cap' - 1)
 have hzm' := hzm (cap' - 1)
 generalize Builtin.zeroCells zz.cells (cap' - 1) = zc at *
 have hlen : (es ++ zc.toList.map AV.sc).length = cap' * sz := by simp only [List.length_append, Hv, hzl']; omega
 refine ⟨σ, .sc _, _, bT.le_refl _, .sc _, (hw.drew _).alloc _ (.box (es ++ zc.toList.map AV.sc) e) ⟨ys ++ zc.toList, by simp, dm hyr' (qQ _), fun u hu => ?_⟩, w.heap.size, _, cap', rfl, hlen, ?_, hge, hgm, rfl⟩
 ·rcases Ho hu with hu | hu
  ·exact hy1 _ hu
  ·exact hzm' u hu
 ·rw [List.take_append_of_le_length (by simp; omega), List.take_of_length_le (by simp; omega)]
end
section
variable {B : Bs} {fr : bJ} {nt : Nat} {D : List Deferred}
theorem C2 {σ : bT} {cs : List AV} {vs : List Value} {k : Nat} {c c' : AV} (h : cz σ cs vs) (hk : cs[k]? = some c) (hc : ∀ v, VR σ c v → VR σ c' v) : cz σ (cs.set k c') vs := by
 refine ⟨by rw [List.length_set]; exact h.1, fun i x u hx hu => ?_⟩
 by_cases e : k = i
 ·subst e
  rw [List.getElem?_set_self (Hq hk).1] at hx
  cases hx
  exact hc _ (h.2 k c u hk hu)
 ·rw [List.getElem?_set_ne e] at hx
  exact h.2 i x u hx hu
theorem pL {b p e e' sz n cap k : Nat} {cs ds : List AV} {R : AL} {l : List (List AV)} (hk : ds[k]? = some (.sc (.slice (some ⟨b, 0, none⟩) n cap))) (hc : cs.take (n * sz) = l.flatten) (hcl : cs.length = cap * sz) (hs : ∀ q ∈ l, q.length = sz) (hn : l.length = n) (hnc : n ≤ cap) (hm : cap ≤ maxLen) : jM nt D B fr ((b, .box cs e) :: (p, .box ds e') :: R) fr ((p, .box (ds.set k (.imm sz l)) e') :: R) := by
 intro σ a w ha hw
 obtain ⟨o, ho, vs, rfl, hvs, h1⟩ := hw.here _ (List.mem_cons_self ..)
 have hfree := hw.free _ (List.mem_cons_self ..)
 have hvl : vs.length = cap * sz := by rw [← hvs.1, hcl]
 have hst : ct B σ ((b, .vec e sz 0 cap) :: (p, .box ds e') :: R) w := by
  refine ⟨hw.os, hw.tape, hw.output, hw.size, hw.old, fun p' hp => ?_, fun p' hp => ?_, by simpa using hw.apart, hw.froz, fun p' hp off hm => ?_, hw.grow, hw.same⟩
  ·rcases List.mem_cons.1 hp with rfl | hp'
   ·exact ⟨_, ho, _, rfl, by simp [hvl], Nat.zero_le _, hm⟩
   ·exact hw.here p' (Hu _ hp')
  ·rcases List.mem_cons.1 hp with rfl | hp'
   ·exact hw.mine (b, .box cs e) (List.mem_cons_self ..)
   ·exact hw.mine p' (Hu _ hp')
  ·rcases List.mem_cons.1 hp with rfl | hp'
   ·exact hfree off trivial
   ·exact hw.free p' (Hu _ hp') off hm
 have hle' : n * sz ≤ cap * sz := Nat.mul_le_mul_right _ hnc
 obtain ⟨hst', hle⟩ := hst.freezeHead (n' := n) (xs := vs.take (n * sz)) (fun j u hj => by
  rw [List.getElem?_take] at hj
  split at hj
  ·rw [cC ho]; simpa using hj
  ·cases hj) (by rw [List.length_take]; omega) (Nat.zero_le _) hnc
 have hv : VR (σ.add b (vs.take (n * sz))) (.vec (some (b, cap)) sz l) (.slice (some ⟨b, 0, none⟩) n cap) := by
  have := iv (σ := σ.add b (vs.take (n * sz))) (b := b) (cap := cap) hs (by rw [← hc]; exact (eZ hvs _).mono hle) (fun u hu => h1 u (List.mem_of_mem_take hu)) (by omega) hm (fun j u hj => bT.add_at hj)
  rwa [hn] at this
 have hw2 := hst'.sublist (List.sublist_cons_self ..)
 refine ⟨_, ha.mono hle, ?_⟩
 obtain ⟨o2, ho2, ws, rfl, hws, hw1⟩ := hw2.here _ (List.mem_cons_self ..)
 refine ⟨hw2.os, hw2.tape, hw2.output, hw2.size, hw2.old, fun p' hp => ?_, fun p' hp => ?_, by simpa using hw2.apart, hw2.froz, fun p' hp off hm => ?_, hw2.grow, hw2.same⟩
 ·rcases List.mem_cons.1 hp with rfl | hp'
  ·exact ⟨_, ho2, ws, rfl, C2 hws hk fun v hvv => by rw [hvv.sc_inv]; exact hv.im, hw1⟩
  ·exact hw2.here p' (Hu _ hp')
 ·rcases List.mem_cons.1 hp with rfl | hp'
  ·exact hw2.mine (p, .box ds e') (List.mem_cons_self ..)
  ·exact hw2.mine p' (Hu _ hp')
 ·rcases List.mem_cons.1 hp with rfl | hp'
  ·exact hw2.free (p, .box ds e') (List.mem_cons_self ..) off trivial
  ·exact hw2.free p' (Hu _ hp') off hm
end
section
variable {P : Program} {tt : TT} {r : Option Nat} {ops : Array Oper} {Q : Exit → Act → World → Prop} {nt : Nat} {D : List Deferred} {fr : bJ} {B : Bs} {L : AL} {rest : List Oper} {d : Nat} {ty t t' : TypeId} {pos : String} {af : Array Edge} {x y z : Operand} {u : AV}
theorem pB (ok : dG P tt) (i : Nat) {e sz by_ b n cap : Nat} {cs es : List AV} {zs : List Value} (ht : jH tt t = some (e, sz, by_)) (hz : zI tt e = some zs) (hz1 : zs.all (·.oneCell') = true) (hx : bh fr x = some (.sc (.slice (some ⟨b, 0, none⟩) n cap))) (hy : bh fr y = some u) (hu : iD u = some (sz, [es])) (hL : L[i]? = some (b, .box cs e)) (hcl : cs.length = cap * sz) (hn : n ≤ cap) (hcm : cap ≤ maxLen) (h63 : n + 1 ≤ maxLen) (hby : (n + 1) * by_ ≤ 140737488355328) (hd : Nat.ble nt d = false)
  (h : ∀ b' cs' cap', cs'.length = cap' * sz → cs'.take ((n + 1) * sz) = cs.take (n * sz) ++ es → n + 1 ≤ cap' → cap' ≤ maxLen → br P r ops Q nt D rest ((d, .sc (.slice (some ⟨b', 0, none⟩) (n + 1) cap')) :: fr) B ((b', .box cs' e) :: L.eraseIdx i)) :
  br P r ops Q nt D (⟨some d, .call ⟨.builtin .append, #[x, y], #[t, t]⟩, ty, pos, af, none⟩ :: rest) fr B L := bW hd rfl (sL i (bz ok ht).1 (bz ok ht).2 (ek ok hz) hz1 hx hy (cV hu) hL hcl hn hcm h63 hby) fun c L' ⟨b', cs', cap', h1, h2, h3, h4, h5, h6⟩ => by subst h1; subst h6; exact h b' cs' cap' h2 h3 h4 h5
theorem tA (ok : dG P tt) {e sz by_ : Nat} {es : List AV} {zs : List Value} (ht : jH tt t = some (e, sz, by_)) (hz : zI tt e = some zs) (hz1 : zs.all (·.oneCell') = true) (hx : bh fr x = some (.sc (.slice none 0 0))) (hy : bh fr y = some u) (hu : iD u = some (sz, [es])) (hby : Nat.ble by_ 140737488355328 = true) (hd : Nat.ble nt d = false)
  (h : ∀ b' cs' cap', cs'.length = cap' * sz → cs'.take (1 * sz) = es → 1 ≤ cap' → cap' ≤ maxLen → br P r ops Q nt D rest ((d, .sc (.slice (some ⟨b', 0, none⟩) 1 cap')) :: fr) B ((b', .box cs' e) :: L)) :
  br P r ops Q nt D (⟨some d, .call ⟨.builtin .append, #[x, y], #[t, t]⟩, ty, pos, af, none⟩ :: rest) fr B L := bW hd rfl (r8 (bz ok ht).1 (bz ok ht).2 (ek ok hz) hz1 hx hy (cV hu) (Nat.ble_eq .. ▸ hby)) fun c L' ⟨b', cs', cap', h1, h2, h3, h4, h5, h6⟩ => by subst h1; subst h6; exact h b' cs' cap' h2 h3 h4 h5
end
end Go.Proofs.YtamjlkdanllgjaaGreatDoor
namespace Go.Proofs.YtamjlkdanllgjaaGreatDoor
open Go.RowKit
section
variable {P : Program} {tt : TT} {l : List Oper} {fr : bJ} {fin : lc} {sk : mI} {acc : bJ} {L : AL} {k : Nat} {dd : Option Tmp} {ty t : TypeId} {pos : String} {af : Array Edge} {g : Option (Nat × Bool)} {x y : Operand}
theorem Db (ok : dG P tt) (n : Nat) {e sz by_ : Nat} {k1 k2 : IntKind} {a b : Int} {zs : List Value} (ht : jH tt t = some (e, sz, by_)) (hz : zI tt e = some zs) (h1 : zs.all (·.oneCell') = true) (hx : bh (cO l.toArray acc fr af.toList) x = some (.sc (.int k1 a))) (hy : bh (cO l.toArray acc fr af.toList) y = some (.sc (.int k2 b))) (ha : a = (n : Int)) (hb : b = (n : Int)) (hby : by_ * n ≤ 281474976710656) (h63 : n ≤ 9223372036854775807) (hg : jL ⟨dd, .makeSlice t x y, ty, pos, af, g⟩ acc)
  (h : ∀ b, DA P l fr fin sk ((k, .sc (.slice (some ⟨b, 0, none⟩) n n)) :: acc) ((b, .box ((List.replicate n (zs.map .sc)).flatten) e) :: L)) : cw P l fr fin k .e ⟨dd, .makeSlice t x y, ty, pos, af, g⟩ sk acc L :=
 iL hg (fun _ => uf (bz ok ht).1 (ek ok hz) h1 (bz ok ht).2 hx hy ha hb hby h63) fun c L' ⟨b, h1, h2⟩ => by subst h1; subst h2; exact h b
end
end Go.Proofs.YtamjlkdanllgjaaGreatDoor
namespace Go.Proofs.YtamjlkdanllgjaaGreatDoor
open Go.RowKit
def x1 (fr : bJ) (B : Bs) (L : AL) (y : Operand) (sz m : Nat) (es : List AV) : Prop := ∀ σ (ρ : Operand → Value) w, (∀ x c, bh fr x = some c → VR σ c (ρ x)) → ct B σ L w →
 ∃ A c ys, ρ y = .slice A m c ∧ cz σ es ys ∧ (∀ u ∈ ys, u.oneCell' = true) ∧ ys.length = m * sz ∧ (0 < m → ∃ b off, A = some ⟨b, off, none⟩ ∧ ∀ j v, ys[j]? = some v → w.cell? ((⟨b, off, none⟩ : Addr).add j) = some v)
section
variable {P : Program} {fr : bJ} {B : Bs} {L : AL} {d : Option Tmp} {ty t t' : TypeId} {pos : String} {af : Array Edge} {g : Option (Nat × Bool)} {x y z q : Operand} {u : AV}
theorem eW {sz : Nat} {l : List (List AV)} (hy : bh fr y = some u) (hu : iD u = some (sz, l)) : x1 fr B L y sz l.length l.flatten := by
 intro σ ρ w hρ hw
 have hyv := (hρ y u hy).im
 rw [cV hu] at hyv
 obtain ⟨A2, c2, hA2, _⟩ := hyv.imm_inv
 rw [hA2] at hyv
 obtain ⟨_, _, _, hs2, ys, hyl, hyr, hy1, hyc⟩ := hyv.row
 refine ⟨A2, c2, ys, hA2, by simpa using hyr, hy1, ?_, fun h0 => ?_⟩
 ·rw [hyl]
 ·obtain ⟨b2, off2, e, hycc⟩ := hyc h0
  exact ⟨b2, off2, e, fun j v hj => by rw [dY]; exact hw.froz _ _ _ (hycc j v hj)⟩
theorem sK (i : Nat) {e sz by_ b n cap m : Nat} {cs es : List AV} {zs : List Value} (hc : ke P t e sz by_) (hs0 : 0 < sz) (hz : CZ P e zs) (hz1 : zs.all (·.oneCell') = true) (hx : bh fr x = some (.sc (.slice (some ⟨b, 0, none⟩) n cap))) (hy : x1 fr B L y sz m es) (hL : L[i]? = some (b, .box cs e)) (hcl : cap * sz ≤ cs.length) (hn : n ≤ cap) (hcm : cap ≤ maxLen) (h63 : n + m ≤ maxLen) (hby : (n + m) * by_ ≤ 140737488355328) :
  AO P ⟨d, .call ⟨.builtin .append, #[x, y], #[t, t]⟩, ty, pos, af, g⟩ fr B L (fun r L' => ∃ b' cs' cap', r = .sc (.slice (some ⟨b', 0, none⟩) (n + m) cap') ∧ cap' * sz ≤ cs'.length ∧ cs'.take ((n + m) * sz) = cs.take (n * sz) ++ es ∧ n + m ≤ cap' ∧ cap' ≤ maxLen ∧ (n + m ≤ cap → b' = b ∧ cap' = cap ∧ cs' = cs.take (n * sz) ++ es ++ cs.drop (n * sz + m * sz)) ∧ L' = (b', .box cs' e) :: L.eraseIdx i) := by
 intro σ ρ w hρ hw0
 obtain ⟨A2, c2, ys, hA2, hyr, hy1, hyl, hycc⟩ := hy σ ρ w hρ hw0
 have hw := hw0.perm (eh hL)
 have hxv := (hρ x _ hx).sc_inv
 haveI := hc
 obtain ⟨inf, zz, hi, hsz, rfl, hzz, hzs⟩ := hc.info
 have hzc := hz.cells hi hzz w
 obtain ⟨o, ho, vs, rfl, hvs, h1⟩ := hw.here _ (List.mem_cons_self ..)
 have hl := hvs.1
 have hel : es.length = m * sz := by rw [← hyl]; exact hyr.1
 have hyl' : ys.length = m * inf.size := by rw [hsz]; exact hyl
 have hmul : (n + m) * sz = n * sz + m * sz := Nat.add_mul ..
 have hnc : n * sz ≤ cap * sz := Nat.mul_le_mul_right _ hn
 unfold maxLen at hcm h63
 unfold fw
 by_cases hm0 : m = 0
 ·subst hm0
  have hes : es = [] := List.eq_nil_of_length_eq_zero (by rw [hel]; omega)
  subst hes
  rw [show (execOp ρ ⟨d, .call ⟨.builtin .append, #[x, y], #[t, t]⟩, ty, pos, af, g⟩).run P w = .ok (.value (.slice (some ⟨b, 0, none⟩) n cap)) w by
   simp [execOp, resolve, hxv, hA2, invoke, builtin, iB (t := t) hn]]
  refine ⟨σ, .sc _, _, bT.le_refl _, .sc _, hw, b, cs, cap, rfl, hcl, ?_, hn, by unfold maxLen; omega, fun _ => ⟨rfl, rfl, ?_⟩, rfl⟩
  ·simp
  ·simp
 obtain ⟨b2, off2, rfl, hnews⟩ := hycc (by omega)
 by_cases hroom : n + m ≤ cap
 ·have hnc1 : (n + m) * sz ≤ cap * sz := Nat.mul_le_mul_right _ hroom
  have hr := run_append_room (P := P) w t ty e inf hc.under hi b n cap vs.toArray ho ⟨b2, off2, none⟩ m c2 ys hyl' hnews hy1 hroom (by rw [hsz]; simp; omega)
  rw [show (execOp ρ ⟨d, .call ⟨.builtin .append, #[x, y], #[t, t]⟩, ty, pos, af, g⟩).run P w = .ok (.value (.slice (some ⟨b, 0, none⟩) (n + m) cap)) (w.setRow b (vs.toArray.toList.take (n * inf.size) ++ ys ++ vs.toArray.toList.drop (n * inf.size + ys.length)).toArray) by
   simp [execOp, resolve, hxv, hA2, invoke, builtin, hr]]
  rw [hsz, hyl]
  refine ⟨σ, .sc _, _, bT.le_refl _, .sc _, hw.put (a' := .box (cs.take (n * sz) ++ es ++ cs.drop (n * sz + m * sz)) e) (fun _ => trivial) ⟨rfl, rfl, rfl, by simp, fun k _ hk => setRow_other w b k _ (fun e => hk (by simp [e]))⟩ (setRow_heap w b _ _ e _ ho) ⟨_, rfl, dm (dm (eZ hvs _) hyr) (j7 hvs _), fun u hu => ?_⟩, b, _, cap, rfl, ?_, ?_, hroom, by unfold maxLen; omega, fun _ => ⟨rfl, rfl, rfl⟩, rfl⟩
  ·rcases Ho hu with hu | hu
   ·rcases Ho hu with hu | hu
    ·exact h1 _ (List.mem_of_mem_take hu)
    ·exact hy1 _ hu
   ·exact h1 _ (List.mem_of_mem_drop hu)
  ·simp only [List.length_append, List.length_take, List.length_drop, hel]; omega
  ·rw [List.take_append_of_le_length (by simp; omega), List.take_of_length_le (by simp; omega)]
 ·have holds : ∀ j v, (vs.take (n * sz))[j]? = some v → w.cell? ((⟨b, 0, none⟩ : Addr).add j) = some v := fun j v hj => by
   rw [dY, Nat.zero_add, cC ho]
   have hjl := (Hq hj).1
   rw [List.length_take] at hjl
   rw [List.getElem?_take_of_lt (by omega)] at hj
   simpa using hj
  have hr := run_append_grow (P := P) w t ty e inf zz hc.under hi hzz ⟨b, 0, none⟩ n cap (vs.take (n * sz)) (by rw [hsz, List.length_take]; omega) holds ⟨b2, off2, none⟩ m c2 ys hyl' hnews (by omega) (by omega) (growslice_fits (by omega) hby)
  rw [show (execOp ρ ⟨d, .call ⟨.builtin .append, #[x, y], #[t, t]⟩, ty, pos, af, g⟩).run P w = .ok (.value (.slice (some ⟨w.heap.size, 0, none⟩) (n + m) (grownCap w (n + m) cap e))) (w.drew.alloc (.cells ((vs.take (n * sz)).toArray ++ ys.toArray ++ Builtin.zeroCells zz.cells (grownCap w (n + m) cap e - (n + m))) e)) by
   simp [execOp, resolve, hxv, hA2, invoke, builtin, hr]]
  have hge := grownCap_ge w (n + m) cap e
  have hgm := grownCap_le_maxLen w (n + m) cap e (by unfold maxLen; omega)
  have hzl : ∀ k, (Builtin.zeroCells zz.cells k).toList.length = k * sz := fun k => by rw [Array.length_toList, size_zeroCells, hzs]
  have hzm : ∀ k, ∀ v ∈ (Builtin.zeroCells zz.cells k).toList, v.oneCell' = true := fun k v hv => by
   have := gu hv
   rw [hzc] at this
   exact List.all_eq_true.1 hz1 v (by simpa using this)
  generalize grownCap w (n + m) cap e = cap' at *
  have hmc : cap' * sz = (n + m) * sz + (cap' - (n + m)) * sz := by rw [← Nat.add_mul]; congr 1; omega
  have hzl' := hzl (cap' - (n + m))
  have hzm' := hzm (cap' - (n + m))
  generalize Builtin.zeroCells zz.cells (cap' - (n + m)) = zc at *
  refine ⟨σ, .sc _, _, bT.le_refl _, .sc _, ((hw.sublist (List.sublist_cons_self ..)).drew _).alloc _ (.box (cs.take (n * sz) ++ es ++ zc.toList.map AV.sc) e) ⟨vs.take (n * sz) ++ ys ++ zc.toList, by simp, dm (dm (eZ hvs _) hyr) (qQ _), fun u hu => ?_⟩, w.heap.size, _, cap', rfl, ?_, ?_, hge, hgm, fun hh => absurd hh hroom, rfl⟩
  ·rcases Ho hu with hu | hu
   ·rcases Ho hu with hu | hu
    ·exact h1 _ (List.mem_of_mem_take hu)
    ·exact hy1 _ hu
   ·exact hzm' u hu
  ·simp only [List.length_append, Hv, hzl', List.length_take, hel]; omega
  ·rw [List.take_append_of_le_length (by simp; omega), List.take_of_length_le (by simp; omega)]
end
section
variable {P : Program} {tt : TT} {r : Option Nat} {ops : Array Oper} {Q : Exit → Act → World → Prop} {nt : Nat} {D : List Deferred} {fr : bJ} {B : Bs} {L : AL} {rest : List Oper} {d : Nat} {ty t t' : TypeId} {pos : String} {af : Array Edge} {x y z : Operand} {u : AV}
theorem pA (ok : dG P tt) (i : Nat) {e sz by_ b n cap m : Nat} {cs es : List AV} {zs : List Value} (ht : jH tt t = some (e, sz, by_)) (hz : zI tt e = some zs) (hz1 : zs.all (·.oneCell') = true) (hx : bh fr x = some (.sc (.slice (some ⟨b, 0, none⟩) n cap))) (hy : x1 fr B L y sz m es) (hL : L[i]? = some (b, .box cs e)) (hcl : cap * sz ≤ cs.length) (hn : n ≤ cap) (hcm : cap ≤ maxLen) (h63 : n + m ≤ maxLen) (hby : (n + m) * by_ ≤ 140737488355328) (hd : Nat.ble nt d = false)
  (h : ∀ b' cs' cap', cap' * sz ≤ cs'.length → cs'.take ((n + m) * sz) = cs.take (n * sz) ++ es → n + m ≤ cap' → cap' ≤ maxLen → (n + m ≤ cap → b' = b ∧ cap' = cap ∧ cs' = cs.take (n * sz) ++ es ++ cs.drop (n * sz + m * sz)) → br P r ops Q nt D rest ((d, .sc (.slice (some ⟨b', 0, none⟩) (n + m) cap')) :: fr) B ((b', .box cs' e) :: L.eraseIdx i)) :
  br P r ops Q nt D (⟨some d, .call ⟨.builtin .append, #[x, y], #[t, t]⟩, ty, pos, af, none⟩ :: rest) fr B L :=
 bW hd rfl (sK i (bz ok ht).1 (bz ok ht).2 (ek ok hz) hz1 hx hy hL hcl hn hcm h63 hby) fun c L' ⟨b', cs', cap', h1, h2, h3, h4, h5, h6, h7⟩ => by subst h1; subst h7; exact h b' cs' cap' h2 h3 h4 h5 h6
end
end Go.Proofs.YtamjlkdanllgjaaGreatDoor
namespace Go.Proofs.YtamjlkdanllgjaaGreatDoor
open Go.RowKit
def wX (P : Program) : Nat → List Field → Prop
 | _, [] => True
 | k, f :: fs => (f.name ≠ "_" ∧ f.offset = k ∧ P.underlying f.type = some (.int .i64)) ∧ wX P (k + 1) fs
structure u5 (P : Program) (t : TypeId) (n : Nat) : Prop where
 ex : ∃ fs : Array Field, P.underlying t = some (.struct fs) ∧ fs.size = n ∧ wX P 0 fs.toList
 st : P.stoodInHeld t = false
 gd : P.eqGuardType P.depth t = false
def mD (l : List Int) : List Value := l.map fun z => .int .i64 z
section
variable {P : Program}
theorem ol (w : World) (d : Nat) (xs ys : List Int) : ∀ (fs : List Field) (k : Nat), wX P k fs → k + fs.length = xs.length → xs.length = ys.length →
  (Op.eqFields (d + 1) (mD xs).toArray (mD ys).toArray fs).run P w = .ok (decide (xs.drop k = ys.drop k)) w
 | [], k, _, hx, hy => by
  simp only [List.length_nil, Nat.add_zero] at hx
  rw [List.drop_of_length_le (by omega), List.drop_of_length_le (by omega)]
  simp [Op.eqFields]
 | f :: fs, k, h, hx, hy => by
  obtain ⟨⟨hn, ho, hu⟩, hr⟩ := h
  simp only [List.length_cons] at hx
  have hkx : k < xs.length := by omega
  have hky : k < ys.length := by omega
  have ih := ol w d xs ys fs (k + 1) hr (by omega) hy
  simp only [Op.eqFields, if_pos hn, Sem.run_bind, ho]
  rw [dl hu (v := .int .i64 xs[k]) (by simp [mD, hkx])]
  simp only [Result.andThen]
  rw [dl hu (v := .int .i64 ys[k]) (by simp [mD, hky])]
  simp only [Result.andThen]
  rw [run_equalIn_int w d f.type .i64 .i64 _ _ hu]
  simp only [Result.andThen, Sem.run_ite]
  have e : decide (xs.drop k = ys.drop k) = decide (xs[k] = ys[k] ∧ xs.drop (k + 1) = ys.drop (k + 1)) := by
   rw [List.drop_eq_getElem_cons hkx, List.drop_eq_getElem_cons hky]
   exact decide_eq_decide.2 (by rw [List.cons.injEq])
  rw [e, ih]
  by_cases he : xs[k] = ys[k]
  ·simp only [he, true_and]
   simp
  ·simp [he]
theorem u5.eq {t : TypeId} {n : Nat} (h : u5 P t n) {xs ys : List Int} (hx : xs.length = n) (hy : ys.length = n) (w : World) : (Op.equal t (.agg (mD xs).toArray) (.agg (mD ys).toArray)).run P w = .ok (decide (xs = ys)) w := by
 obtain ⟨⟨fs, hu, hs, hf⟩, hst, _⟩ := h
 have hf' : P.fieldsOf t = fs := by simp [Program.fieldsOf, hu]
 have hu' : P.underlying t = some (.struct (P.fieldsOf t)) := by rw [hf']; exact hu
 unfold Op.equal
 rw [show Op.maxDepth = 9999 + 1 from rfl, run_equalIn_struct w 9999 t _ _ hu' hst, hf', show (9999 : Nat) = 9998 + 1 from rfl, ol w 9998 xs ys fs.toList 0 hf (by simp; omega) (by omega)]
 rfl
theorem vd {σ : bT} {l : List Int} {v : Value} (h : VR σ (.agg ((mD l).map .sc)) v) : v = .agg (mD l).toArray := by
 cases h with
 | agg _ vs hl h h1 =>
  simp only [Hv] at hl
  have e : vs = mD l := by
   refine List.ext_getElem? fun i => ?_
   by_cases hi : i < vs.length
   ·rw [Eg hi, Eg (by omega)]
    have := h i (.sc (mD l)[i]) vs[i] (by rw [List.getElem?_map, Eg (by omega)]; rfl) (Eg hi)
    rw [this.sc_inv]
   ·rw [List.getElem?_eq_none (by omega), List.getElem?_eq_none (by omega)]
  rw [e]
end
section
variable {P : Program} {fr : bJ} {B : Bs} {L : AL} {d : Option Tmp} {ty t t' : TypeId} {pos : String} {af : Array Edge} {g : Option (Nat × Bool)} {x y z : Operand}
theorem CU {n : Nat} {a b : List Int} (ht : u5 P t n) (hx : bh fr x = some (.agg ((mD a).map .sc))) (hy : bh fr y = some (.agg ((mD b).map .sc))) (ha : a.length = n) (hb : b.length = n) : Av P ⟨d, .binOp .neq t x y t', ty, pos, af, g⟩ fr (.sc (.bool (!decide (a = b)))) := by
 intro σ ρ w hρ _
 refine ⟨_, ?_, .sc _⟩
 have h1 := vd (hρ x _ hx)
 have h2 := vd (hρ y _ hy)
 have h3 := ht.eq ha hb w
 unfold Op.equal at h3
 rw [show Op.maxDepth = 10000 from rfl] at h3
 simp only [execOp, h1, h2, Sem.run_bind, run_eqGuard_agg w .neq t x y _ _ ht.gd, run_neq_struct, h3, Result.andThen, Sem.run_pure]
end
end Go.Proofs.YtamjlkdanllgjaaGreatDoor
namespace Go.Proofs.YtamjlkdanllgjaaGreatDoor
open Go.RowKit
attribute [local irreducible] AT br AX AO Av Kt aW cZ DA cw
def dJ (a b : AV) : Prop := ∀ σ v, VR σ a v → VR σ b v
def mL : List AV → List AV → Prop
 | [], [] => True
 | a :: r, b :: q => dJ a b ∧ mL r q
 | _, _ => False
def CH : List (List AV) → List (List AV) → Prop
 | [], [] => True
 | a :: r, b :: q => mL a b ∧ CH r q
 | _, _ => False
theorem dJ.refl (a : AV) : dJ a a := fun _ _ h => h
theorem dJ.nil (n : Nat) : dJ (.sc (.slice none 0 0)) (.imm n []) := fun _ _ h => dA n h
theorem mL.len : ∀ {a b : List AV}, mL a b → a.length = b.length
 | [], [], _ => rfl
 | _ :: _, _ :: _, h => by simp [h.2.len]
theorem mL.at : ∀ {a b : List AV}, mL a b → ∀ (i : Nat) c c', a[i]? = some c → b[i]? = some c' → dJ c c'
 | x :: a, y :: b, h, 0, c, c', h1, h2 => by
  simp at h1 h2
  subst h1; subst h2
  exact h.1
 | _ :: a, _ :: b, h, i + 1, c, c', h1, h2 => h.2.at i c c' (by simpa using h1) (by simpa using h2)
theorem mL.vrs {a b : List AV} (h : mL a b) {σ : bT} {vs : List Value} (hv : cz σ a vs) : cz σ b vs := C1 h.len (fun i c c' h1 h2 => h.at i c c' h1 h2 σ) hv
theorem CH.len : ∀ {a b : List (List AV)}, CH a b → a.length = b.length
 | [], [], _ => rfl
 | _ :: _, _ :: _, h => by simp [h.2.len]
theorem CH.at : ∀ {a b : List (List AV)}, CH a b → ∀ (i : Nat) c c', a[i]? = some c → b[i]? = some c' → mL c c'
 | x :: a, y :: b, h, 0, c, c', h1, h2 => by
  simp at h1 h2
  subst h1; subst h2
  exact h.1
 | _ :: a, _ :: b, h, i + 1, c, c', h1, h2 => h.2.at i c c' (by simpa using h1) (by simpa using h2)
theorem dJ.agg {a b : List AV} (h : mL a b) : dJ (.agg a) (.agg b) := fun σ v hv => by
 cases hv with
 | agg _ vs hl hx h1 => exact .agg _ _ (h.len ▸ hl) (fun i c u hc hu => (h.vrs (σ := σ) ⟨hl, hx⟩).2 i c u hc hu) h1
theorem dJ.imm {s : Nat} {a b : List (List AV)} (h : CH a b) : dJ (.imm s a) (.imm s b) := fun σ v hv => by
 cases hv with
 | imm _ _ A cap hc hm hs ha hx hh =>
  have hl := h.len
  rw [hl]
  have get : ∀ {i : Nat} {e : List AV}, b[i]? = some e → ∃ e', a[i]? = some e' ∧ mL e' e := fun {i e} he => by
   have hi : i < a.length := by rw [hl]; exact (Hq he).1
   exact ⟨_, Eg hi, h.at i _ _ (Eg hi) he⟩
  refine .imm s b A cap (hl ▸ hc) hm (fun e he => ?_) (fun hb => ha fun e => hb (List.eq_nil_of_length_eq_zero (by rw [← hl, e]; rfl))) (fun i b' off j hA hi hj => hx i b' off j hA (hl ▸ hi) hj) fun i e b' off j c u he hA hj hu => ?_
  ·obtain ⟨i, hi⟩ := List.mem_iff_getElem?.1 he
   obtain ⟨e', h1, h2⟩ := get hi
   rw [← h2.len]
   exact hs _ (Hx h1)
  ·obtain ⟨e', h1, h2⟩ := get he
   have hj' : j < e'.length := by rw [h2.len]; exact (Hq hj).1
   exact h2.at j _ c (Eg hj') hj σ u (hh i e' b' off j _ u h1 hA (Eg hj') hu)
theorem AC.args {P : Program} {f : FuncId} {a b : List AV} {L : AL} {Post : AV → AL → Prop} (h : AC P f b L Post) (k : mL a b) : AC P f a L Post := fun σ w vs hv hs => h σ w vs (k.vrs hv) hs
section
variable {P : Program} {nt : Nat} {fr : bJ} {B : Bs} {L : AL}
theorem qD {fn : Func} {t : Tmp} {e : TypeId} {b k : Nat} {cs : List Value} {tmps : Array Value} {w : World} [Cv P e k] (h : fn.results = #[.cell t e]) (ht : tmps.getD t undef = .pointer (some ⟨b, 0, none⟩)) (hl : cs.length = k) (hc : ∀ j v, cs[j]? = some v → w.cell? ⟨b, 0 + j, none⟩ = some v) :
  (results fn tmps).run P w = .ok (.agg cs.toArray) w := by
 rw [Array.getD_eq_getD_getElem?] at ht
 simp [results, h, ht, asAddr, eU hl hc]
end
end Go.Proofs.YtamjlkdanllgjaaGreatDoor
namespace Go.Proofs.YtamjlkdanllgjaaGreatDoor
open Go.RowKit
attribute [local irreducible] AT br AX AO Av Kt aW cZ DA cw
abbrev f0 (b : Nat) : AV := .sc (.pointer (some ⟨b, 0, none⟩))
abbrev Fh : AV := .sc (.pointer none)
structure lg where
 rb : Nat
 cap : Nat
 junk : List AV
def dy (run : List b8) : List AV := (run.map cu).flatten
def dQ (q : Option lg) (run : List b8) : AV := match q with
 | none => .imm 6 []
 | some m => .sc (.slice (some ⟨m.rb, 0, none⟩) run.length m.cap)
def dE (q : Option lg) (run : List b8) : AL := match q with
 | none => []
 | some m => [(m.rb, .box (dy run ++ m.junk) 56)]
structure iw (q : Option lg) (run : List b8) : Prop where
 emp : q = none → run = []
 fit : ∀ m, q = some m → run.length ≤ m.cap ∧ m.cap ≤ maxLen ∧ m.cap * 6 ≤ (dy run ++ m.junk).length
abbrev Hh (wb : Nat) (eng : AV) (q : Option lg) (run : List b8) : AL := (wb, .box [eng, dQ q run] 328) :: dE q run
theorem gD (run : List b8) : (dy run).length = run.length * 6 := by
 induction run with
 | nil => rfl
 | cons x r ih => simp [dy] at ih ⊢; simp [cu, ih]; omega
theorem ff (x : b8) (r : List b8) : dy (x :: r) = cu x ++ dy r := by simp [dy]
theorem pg (a b : List b8) : dy (a ++ b) = dy a ++ dy b := by simp [dy]
theorem ph : ∀ {run : List b8} {i j : Nat} {x : b8} {u : AV} (junk : List AV), run[i]? = some x → (cu x)[j]? = some u → (dy run ++ junk)[i * 6 + j]? = some u
 | [], i, _, _, _, _, h, _ => by simp at h
 | y :: r, 0, j, x, u, junk, h, hj => by
  simp at h
  subst h
  rw [ff, List.append_assoc, Nat.zero_mul, Nat.zero_add, List.getElem?_append_left (Hq hj).1]
  exact hj
 | y :: r, i + 1, j, x, u, junk, h, hj => by
  rw [ff, List.append_assoc, List.getElem?_append_right (by simp [cu]; omega)]
  have := ph (i := i) junk (by simpa using h) hj
  rw [show (i + 1) * 6 + j - (cu y).length = i * 6 + j by simp [cu]; omega]
  exact this
structure wT where
 l : bk
 cls : List Int
 fore : List (List Int)
 back : List (List Int)
 foreE : List Nat
 backE : List Nat
abbrev jb (z : Nat) : AV := .sc (.int .u64 (z : Int))
def f4 (l : List Nat) : List (List AV) := l.map fun z => [jb z]
def oy (r : bn) : bn := { r with Back := [], Ahead := [] }
def j5 (l : bk) : bk := { l with Rules := l.Rules.map oy }
def EK (e : wT) : List AV := [.imm 1 (aT e.cls), .imm 1 (ba e.fore), .imm 1 (ba e.back), .imm 1 (f4 e.foreE), .imm 1 (f4 e.backE)]
def gm (e : wT) : List AV := [aD e.l.Kind, ce e.l.Ignore, .imm 6 ((j5 e.l).Rules.map bL), .imm 1 (aT e.cls), .imm 1 (ba e.fore), .imm 1 (ba e.back), .imm 1 (f4 e.foreE), .imm 1 (f4 e.backE), aD (jB e.l.Rules), aD (jy e.l.Rules)]
def oL (l : List Bool) : List (List AV) := l.map fun b => [ce b]
theorem xD (l : List Bool) : (oL l).length = l.length := by simp [oL]
structure sB where
 lks : List wT
 ms : List Bool
def nr (E : sB) : List AV := [.imm 10 (E.lks.map gm), .imm 1 (oL E.ms)]
theorem ET {run : List b8} {i j : Nat} {x : b8} {u : AV} (junk : List AV) (h : run[i]? = some x) (hj : (cu x)[j]? = some u) : (dy run ++ junk)[0 + ((i : Nat) : Int).toNat * 6 + j]? = some u := by
 rw [Int.toNat_natCast, Nat.zero_add]
 exact ph junk h hj
end Go.Proofs.YtamjlkdanllgjaaGreatDoor
namespace Go.Proofs.YtamjlkdanllgjaaGreatDoor
open Go.RowKit
attribute [local irreducible] AT br AX AO Av Kt aW cZ DA cw
end Go.Proofs.YtamjlkdanllgjaaGreatDoor
namespace Go.Proofs.YtamjlkdanllgjaaGreatDoor
open Go.RowKit
attribute [local irreducible] AT br AX AO Av Kt aW cZ DA cw
def Cl (l : List Nat) : List (List AV) := aT (l.map Int.ofNat)
def H4 (run : List b8) (l : List Nat) : List (List AV) := aT (l.map (q7 run))
def GP (ms : List Bool) (ig : Bool) (run : List b8) (up : Bool) (a : Int) : List Nat := if up = true then uD ms ig run a.toNat else uk ms ig run (a + 1).toNat
def Hg (up : Bool) : Int := if up = true then 1 else -1
def G4 (run : List b8) (up : Bool) (a : Int) : Prop := -1 ≤ a ∧ (up = true → 0 ≤ a) ∧ (up = false → a < run.length)
def GK (run : List b8) (up : Bool) (a : Int) : Nat := if up = true then (run.length - a).toNat else (a + 1).toNat
end Go.Proofs.YtamjlkdanllgjaaGreatDoor
namespace Go.Proofs.YtamjlkdanllgjaaGreatDoor
open Go.RowKit
section
variable {P : Program} {tt : TT} {r : Option Nat} {ops : Array Oper} {Q : Exit → Act → World → Prop} {nt : Nat} {D : List Deferred} {fr : bJ} {B : Bs} {L : AL} {rest : List Oper} {d : Nat} {ty t t' : TypeId} {pos : String} {af : Array Edge} {g : Option (Nat × Bool)} {x y z : Operand} {u : AV}
theorem D1 {dd : Option Tmp} {k kk : IntKind} {a b : Int} (i : Nat) (hx : bh fr x = some (.sc (.int k a))) (hy : bh fr y = some (.sc (.int kk b))) (hb : b = (i : Int)) : Av P ⟨dd, .binOp .shr t x y t', ty, pos, af, g⟩ fr (.sc (.int k (a / 2 ^ min i k.bits))) := by
 intro σ ρ w hρ _
 subst hb
 refine ⟨_, ?_, .sc _⟩
 have h := shift_shr_any k kk a (i : Int) (Int.natCast_nonneg i)
 simp [execOp, (hρ x _ hx).sc_inv, (hρ y _ hy).sc_inv, eqGuard, binOp, h]
theorem CK {dd : Option Tmp} {k : IntKind} {a b : Int} (hx : bh fr x = some (.sc (.int k a))) (hy : bh fr y = some (.sc (.int k b))) : Av P ⟨dd, .binOp .and t x y t', ty, pos, af, g⟩ fr (.sc (.int k (bits .and k a b))) := by
 intro σ ρ w hρ _
 refine ⟨_, ?_, .sc _⟩
 simp [execOp, (hρ x _ hx).sc_inv, (hρ y _ hy).sc_inv, eqGuard, binOp, intBits_and]
theorem u9 {dd : Option Tmp} {k : IntKind} {a b : Int} (hx : bh fr x = some (.sc (.int k a))) (hy : bh fr y = some (.sc (.int k b))) : Av P ⟨dd, .binOp .or t x y t', ty, pos, af, g⟩ fr (.sc (.int k (bits .or k a b))) := by
 intro σ ρ w hρ _
 refine ⟨_, ?_, .sc _⟩
 simp [execOp, (hρ x _ hx).sc_inv, (hρ y _ hy).sc_inv, eqGuard, binOp, intBits_or]
theorem yH (i : Nat) {k kk : IntKind} {a b : Int} (hx : bh fr x = some (.sc (.int k a))) (hy : bh fr y = some (.sc (.int kk b))) (hb : b = (i : Int)) (hd : Nat.ble nt d = false) (h : br P r ops Q nt D rest ((d, .sc (.int k (a / 2 ^ min i k.bits))) :: fr) B L) :
  br P r ops Q nt D (⟨some d, .binOp .shr t x y t', ty, pos, af, none⟩ :: rest) fr B L := cg (D1 i hx hy hb) hd rfl h
theorem tC {k : IntKind} {a b : Int} (hx : bh fr x = some (.sc (.int k a))) (hy : bh fr y = some (.sc (.int k b))) (hd : Nat.ble nt d = false) (h : br P r ops Q nt D rest ((d, .sc (.int k (bits .and k a b))) :: fr) B L) :
  br P r ops Q nt D (⟨some d, .binOp .and t x y t', ty, pos, af, none⟩ :: rest) fr B L := cg (CK hx hy) hd rfl h
theorem uO {k : IntKind} {a b : Int} (hx : bh fr x = some (.sc (.int k a))) (hy : bh fr y = some (.sc (.int k b))) (hd : Nat.ble nt d = false) (h : br P r ops Q nt D rest ((d, .sc (.int k (bits .or k a b))) :: fr) B L) :
  br P r ops Q nt D (⟨some d, .binOp .or t x y t', ty, pos, af, none⟩ :: rest) fr B L := cg (u9 hx hy) hd rfl h
end
end Go.Proofs.YtamjlkdanllgjaaGreatDoor
namespace Go.Proofs.YtamjlkdanllgjaaGreatDoor
open Go.RowKit
def H8 : AV → Option Bool
 | .iptr _ => some false
 | .sc (.pointer none) => some true
 | .sc (.pointer (some _)) => some false
 | _ => none
section
variable {P : Program} {fr : bJ} {B : Bs} {L : AL} {d : Option Tmp} {ty t t' : TypeId} {pos : String} {af : Array Edge} {g : Option (Nat × Bool)} {x y z q : Operand} {u : AV}
theorem CI {n e sz k b off : Nat} {qq : IntKind} {a : Int} (ht : P.underlying t = some (.array n e)) (hs : (P.info? e).map (·.size) = some sz) (hx : bh fr x = some (.sc (.pointer (some ⟨b, off, none⟩)))) (hy : bh fr y = some (.sc (.int qq a))) (ha : a = (k : Int)) (hk : k < n) : Av P ⟨d, .indexAddr t x y, ty, pos, af, g⟩ fr (.sc (.pointer (some ⟨b, off + k * sz, none⟩))) :=
 fun σ ρ w hρ _ => by
  subst ha
  have hyv := (hρ y _ hy).sc_inv
  have hv := (hρ x _ hx).sc_inv
  have hk' : (k : Int) < (n : Int) := by omega
  have hso : (sizeOf e : Sem Nat).run P w = .ok sz w := by
   cases hi : P.info? e with
   | none => rw [hi] at hs; cases hs
   | some i => rw [hi] at hs; simp at hs; simp [sizeOf, typeInfo, hi, hs]
  refine ⟨.pointer (some ⟨b, off + k * sz, none⟩), ?_, .sc _⟩
  simp [execOp, hv, hyv, Instr.indexAt, asIntOf, run_underlying ht, hk', hso, Instr.sureAddr, Addr.add]
  by_cases hn : n ≤ 1 <;> by_cases h0 : k * sz = 0 <;> simp [hn, run_underlying ht, hso, hk, h0]
theorem A9 {e sz by_ : Nat} {parts : Array (Nat × Operand)} (hc : ke P t e sz by_) (hsz : 0 < sz) (hp : parts = #[]) : AO P ⟨d, .buildSlice t 0 parts, ty, pos, af, g⟩ fr B L (fun c L' => ∃ b, c = .sc (.slice (some ⟨b, 0, none⟩) 0 0) ∧ L' = (b, .box [] e) :: L) := by
 intro σ ρ w hρ hw
 subst hp
 haveI := hc
 have hr := zh (P := P) (t := t) (by simpa [Nat.blt_eq] using hsz) [] (by simp) (by simp [Nat.ble_eq]) w
 simp at hr
 unfold fw
 rw [show (execOp ρ ⟨d, .buildSlice t 0 #[], ty, pos, af, g⟩).run P w = .ok (.value (.slice (some ⟨w.heap.size, 0, none⟩) 0 0)) (w.alloc (.cells #[] e)) by
  simp [execOp, hr]]
 exact ⟨σ, .sc _, _, bT.le_refl _, .sc _, hw.alloc _ (.box [] e) ⟨[], rfl, cz.nil, by simp⟩, _, rfl, rfl⟩
end
section
variable {P : Program} {tt : TT} {r : Option Nat} {ops : Array Oper} {Q : Exit → Act → World → Prop} {nt : Nat} {D : List Deferred} {fr : bJ} {B : Bs} {L : AL} {rest : List Oper} {d : Nat} {ty t t' : TypeId} {pos : String} {af : Array Edge} {x y z : Operand} {u : AV}
theorem tB (ok : dG P tt) (k : Nat) {n e sz b off : Nat} {q : IntKind} {a : Int} (ht : sP tt t = some (n, e, sz)) (hx : bh fr x = some (.sc (.pointer (some ⟨b, off, none⟩)))) (hy : bh fr y = some (.sc (.int q a))) (ha : a = (k : Int)) (hk : k < n) (hd : Nat.ble nt d = false) (h : br P r ops Q nt D rest ((d, .sc (.pointer (some ⟨b, off + k * sz, none⟩))) :: fr) B L) :
  br P r ops Q nt D (⟨some d, .indexAddr t x y, ty, pos, af, none⟩ :: rest) fr B L := cg (CI (fK ok ht).1 (fK ok ht).2 hx hy ha hk) hd rfl h
theorem DJ (ok : dG P tt) {e sz by_ : Nat} (ht : jH tt t = some (e, sz, by_)) (hd : Nat.ble nt d = false) (h : ∀ b, br P r ops Q nt D rest ((d, .sc (.slice (some ⟨b, 0, none⟩) 0 0)) :: fr) B ((b, .box [] e) :: L)) :
  br P r ops Q nt D (⟨some d, .buildSlice t 0 #[], ty, pos, af, none⟩ :: rest) fr B L := bW hd rfl (A9 (bz ok ht).1 (bz ok ht).2 rfl) fun c L' ⟨b, h1, h2⟩ => by subst h1; subst h2; exact h b
theorem jj (ok : dG P tt) {a : Int} {q q' : IntKind} {ti ti' : TI} (hx : bh fr x = some (.sc (.int q a))) (ht : cX tt t = some ti) (hk : ti.k = .int q) (ht' : cX tt t' = some ti') (hk' : ti'.k = .int q') (hd : Nat.ble nt d = false) (h : br P r ops Q nt D rest ((d, .sc (.int q' (q'.wrap a))) :: fr) B L) :
  br P r ops Q nt D (⟨some d, .convert t t' x, ty, pos, af, none⟩ :: rest) fr B L := by
 haveI := ok.int ht hk
 haveI := ok.int ht' hk'
 exact cg (vi hx) hd rfl h
end
end Go.Proofs.YtamjlkdanllgjaaGreatDoor
namespace Go.Proofs.YtamjlkdanllgjaaGreatDoor
open Go.RowKit
attribute [local irreducible] AT br AX AO Av Kt aW cZ DA cw
set_option maxRecDepth 8000
abbrev Hj (cls : List Int) (tab : List (List Int)) (ends : List Nat) : AV := .agg [.imm 1 (aT cls), .imm 1 (ba tab), .imm 1 (f4 ends)]
theorem oC (l : List Nat) : (f4 l).length = l.length := by simp [f4]
theorem zL {l : List Nat} {i : Nat} {z : Nat} (h : l[i]? = some z) : (f4 l)[i]? = some [jb z] := by simp [f4, h]
section
variable (cls : List Int) (tab : List (List Int)) (ends : List Nat)
theorem Fk {a b : Nat} (ha : a < 18446744073709551616) (hb : b < 18446744073709551616) : a ||| b < 18446744073709551616 := Nat.or_lt_two_pow (n := 64) ha hb
end
abbrev GE (e : wT) : AV := .agg (EK e)
structure Cx (e : wT) : Prop where
 fore : ∀ z ∈ e.foreE, z < 18446744073709551616
 back : ∀ z ∈ e.backE, z < 18446744073709551616
def mH : List Int := [0, 1, 56, 2, 57, 49, 28, 3, 61, 58, 42, 50, 38, 29, 17, 4, 62, 47, 59, 36, 45, 43, 51, 22, 53, 39, 33, 30, 24, 18, 12, 5, 63, 55, 48, 27, 60, 41, 37, 16, 46, 35, 44, 21, 52, 32, 23, 11, 54, 26, 40, 15, 34, 20, 31, 10, 25, 14, 19, 9, 13, 8, 7, 6]
def zF : List AV := mH.map fun z => .sc (.int .u8 z)
abbrev gR : Nat × AB := (2, .box zF 481)
def Hd (x : Int) : Int := bits .and .u64 x (IntKind.u64.wrap (0 - x))
def He (x : Int) : Int := IntKind.u64.wrap (Hd x * 285870213051353865) / 2 ^ min 58 IntKind.u64.bits
def Hf (x : Nat) : Int := mH.getD (He x).toNat 0
def Ge (b : Nat) : Int := if b = 0 then -1 else Hf b
end Go.Proofs.YtamjlkdanllgjaaGreatDoor
namespace Go.Proofs.YtamjlkdanllgjaaGreatDoor
open Go.RowKit
attribute [local irreducible] AT br AX AO Av Kt aW cZ DA cw
set_option maxRecDepth 8000
open Go.ChangeShapes Go.WideShapes Go.ChangeAt Go.RowKit
theorem Tryz.own : ownKnob Tryz.prog.godebug = none := by kernel_rfl
theorem Tryz.laidOut : laidOutB Tryz.prog = true := by kernel_rfl
theorem EV : Tryz.prog.globalNamed "math/bits.deBruijn64tab" = some 2 := by kernel_rfl
theorem y1 : (Tryz.prog.globals[2]?).map (·.type) = some 481 := by kernel_rfl
theorem xI : Tryz.prog.cellsOf 481 = 64 := by kernel_rfl
theorem Am : Tryz.prog.cellsOf 5 = 1 := by kernel_rfl
theorem Ea : (((begin Tryz.prog (fun _ _ => 0) default).world.heap)[2]?).bind Obj.row? = some ((List.replicate 64 (Value.int .u8 0)).toArray, 481) := by kernel_rfl
def F0 : List (String × DataW Unit) := [("math/bits.deBruijn64tab", Lib.tabData .u8 mH)]
theorem FJ {W : World} (hL : laidMet Tryz.prog F0 W) (hS : W.ShapedOpen Tryz.prog) : W.heap[2]? = some (.cells (mH.map (Value.int .u8)).toArray 481 (0, 0)) := by
 have h : Lib.TabIs Tryz.prog W "math/bits.deBruijn64tab" .u8 mH := Lib.tabIs_of_head (rest := []) EV y1 Tryz.underlying481 Tryz.underlying5 Am xI hL
 obtain ⟨cs, h1, _, _⟩ := hS.1 2 _ 481 (Hz (by kernel_rfl)) Ea
 unfold Lib.TabIs World.var? at h
 rw [EV, Option.bind_some, h1] at h
 cases h
 exact h1
def yr (W : World) : bT := fun b off => if b = 2 then none else W.cell? ⟨b, off, none⟩
theorem C3 {σ : bT} : cz σ zF (mH.map (Value.int .u8)) := by
 unfold zF
 generalize mH = l
 induction l with
 | nil => exact cz.nil
 | cons x l ih => exact cz.cons (.sc _) ih
theorem sx {σ : bT} {vs : List Value} (h : cz σ zF vs) : vs = mH.map (Value.int .u8) := by
 unfold zF at h
 revert vs
 generalize mH = l
 induction l with
 | nil =>
  intro vs h
  exact List.eq_nil_of_length_eq_zero h.1.symm
 | cons x l ih =>
  intro vs h
  obtain ⟨y, u, rfl, h1, h2⟩ := cz.inv h
  rw [h1.sc_inv, ih h2]
  rfl
theorem Bk {W : World} (h : W.heap[2]? = some (.cells (mH.map (Value.int .u8)).toArray 481 (0, 0))) : ct ⟨W, yr W, [2]⟩ (yr W) [gR] W := by
 have h0 : 2 < W.heap.size := by
  rcases Nat.lt_or_ge 2 W.heap.size with h' | h'
  ·exact h'
  ·rw [Array.getElem?_eq_none h'] at h; cases h
 refine ⟨rfl, rfl, rfl, Nat.le_refl _, fun _ _ _ => rfl, fun p hp => ?_, fun p hp => ?_, by simp, fun b off u hu => ?_, fun p hp off _ => ?_, fun _ _ _ h => h, fun _ _ _ _ => rfl⟩
 ·rw [List.mem_singleton.1 hp]
  exact ⟨_, h, _, rfl, C3, fun u hu => by
   obtain ⟨z, _, rfl⟩ := List.mem_map.1 hu
   rfl⟩
 ·rw [List.mem_singleton.1 hp]
  exact .inr (by simp)
 ·unfold yr at hu
  split at hu
  ·cases hu
  ·exact hu
 ·rw [List.mem_singleton.1 hp]
  rfl
theorem FL {n : Int} (h : (Lit.int .u8 n).wf = true) : 0 ≤ n ∧ n ≤ 255 := by
 unfold Lit.wf at h
 rw [Bool.and_eq_true] at h
 have h1 : IntKind.min .u8 ≤ n := Hz h.1
 have h2 : n ≤ IntKind.max .u8 := Hz h.2
 have e1 : IntKind.min .u8 = 0 := by decide
 have e2 : IntKind.max .u8 = 255 := by decide
 omega
theorem wK {f : FuncId} {args : List AV} {u : Value} (h : AC Tryz.prog f args [gR] fun c L => c = .sc u ∧ L = [gR]) (W : World) (hT : W.heap[2]? = some (.cells (mH.map (Value.int .u8)).toArray 481 (0, 0))) (vs : List Value) (hv : cz (yr W) args vs) : Calls Tryz.prog f vs.toArray W fun e W' => ∃ v, e = .returned v ∧ Below W.heap.size W W' ∧ v = u :=
 (h (yr W) W vs hv (Bk hT)).mono fun e W' ⟨v, τ, c, L', he, hr, hst, hc, hL⟩ => by
  subst hc
  subst hL
  refine ⟨v, he, ⟨hst.os, hst.tape, hst.output, hst.size, fun k hk => ?_⟩, hr.sc_inv⟩
  by_cases h0 : k = 2
  ·subst h0
   obtain ⟨o, h1, vs', h2, h3, _⟩ := hst.here gR (by simp)
   rw [h1, h2, hT, sx h3]
  ·exact hst.old k hk (by simp [h0])
end Go.Proofs.YtamjlkdanllgjaaGreatDoor
