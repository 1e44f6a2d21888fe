/-
  Texts put together, texts of bytes, places in arrays, rests.
-/
import Derived.Test.YtpmdfoaadejmkaaGreatDoorM11
import Derived.Test.YtpmdfoaadejmkaaGreatDoorM06
import Derived.Test.YtpmdfoaadejmkaaGreatDoorM07
import Derived.Test.YtpmdfoaadejmkaaGreatDoorM08
import Derived.Test.YtpmdfoaadejmkaaGreatDoorM05
import Derived.Laws.Shifts
namespace Go.Proofs.YtpmdfoaadejmkaaGreatDoor
open Go.RowKit
section
variable {P : Program} {fr : bw} {B : Bs} {L : AL} {d : Option Tmp} {ty t t' : TypeId} {pos : String} {af : Array Edge} {g : Option (Nat × Bool)} {x y : Operand} {u : AV}
theorem Bx {n e sz k : Nat} {q : IntKind} {cs : List AV} (ht : P.underlying t = some (.array n e)) (hs : (P.info? e).map (·.size) = some sz) (hx : aX fr x = some (.iptr cs)) (hy : aX fr y = some (.sc (.int q (k : Int)))) (hk : k < n) (hl : k * sz ≤ cs.length) : Av P ⟨d, .indexAddr t x y, ty, pos, af, g⟩ fr (.iptr (cs.drop (k * sz))) :=
 fun σ ρ w hρ _ => by
  have hyv := (hρ y _ hy).sc_inv
  obtain ⟨b, off, hv, hcx, hcy⟩ := (hρ x _ hx).iptr_inv
  have hk' : (k : Int) < (n : Int) := by omega
  have hso : (sizeOf e : Sem Nat).run P w = .ok sz w := by
   cases hi : P.info? e with
   | none => rw [hi] at hs; cases hs
   | some i => rw [hi] at hs; simp at hs; simp [sizeOf, typeInfo, hi, hs]
  refine ⟨.pointer (some ⟨b, off + k * sz, none⟩), ?_, .iptr _ _ _ (fun j hj => ?_) fun j c v hc hw => ?_⟩
  ·simp [execOp, hv, hyv, Instr.indexAt, asIntOf, run_underlying ht, hk', hso, Instr.sureAddr, Addr.add]
   by_cases hn : n ≤ 1 <;> by_cases h0 : k * sz = 0 <;> simp [hn, run_underlying ht, hso, hk, h0]
  ·have := hcx (k * sz + j) (by simp at hj; omega)
   simpa [Nat.add_assoc] using this
  ·exact hcy (k * sz + j) c v (by simpa using hc) (by simpa [Nat.add_assoc] using hw)
end
def vR (tt : TT) (t : Nat) : Option (Nat × Nat × Nat) := match cI tt t with
 | some ⟨.arr n e sz, _, _⟩ => some (n, e, sz)
 | _ => none
theorem gh {P : Program} {tt : TT} (ok : dl P tt) {t n e sz : Nat} (h : vR tt t = some (n, e, sz)) : P.underlying t = some (.array n e) ∧ (P.info? e).map (·.size) = some sz := by
 unfold vR at h
 split at h
 ·rename_i n' e' sz' si z ht
  cases h
  have := ok.ok t _ ht
  simp only [vk, Bool.and_eq_true] at this
  obtain ⟨_, h2⟩ := this
  split at h2 <;> simp at h2
  rename_i hu
  obtain ⟨⟨rfl, rfl⟩, h3⟩ := h2
  refine ⟨hu, ?_⟩
  unfold lY at h3
  split at h3
  ·rename_i i hi
   simp at h3
   simp [hi, h3]
  ·cases h3
 ·cases h
section
variable {P : Program} {tt : TT} {r : Option Nat} {ops : Array Oper} {Q : Exit → Act → World → Prop} {nt : Nat} {D : List Deferred} {fr : bw} {B : Bs} {L : AL} {rest : List Oper} {d : Nat} {ty t t' : TypeId} {pos : String} {af : Array Edge} {x y z : Operand} {u : AV}
theorem tz (ok : dl P tt) (k : Nat) {n e sz : Nat} {q : IntKind} {cs : List AV} (h : bh P r ops Q nt D rest ((d, .iptr (cs.drop (k * sz))) :: fr) B L) (ht : vR tt t = some (n, e, sz) := by rfl) (hx : aX fr x = some (.iptr cs) := by rfl) (hy : aX fr y = some (.sc (.int q (k : Int))) := by rfl) (hk : Nat.blt k n = true := by rfl) (hl : Nat.ble (k * sz) cs.length = true := by rfl) (hd : Nat.ble nt d = false := by rfl) : bh P r ops Q nt D (⟨some d, .indexAddr t x y, ty, pos, af, none⟩ :: rest) fr B L := by
 obtain ⟨h1, h2⟩ := gh ok ht
 exact bO (Bx h1 h2 hx hy (by simpa [Nat.blt_eq] using hk) (by simpa [Nat.ble_eq] using hl)) hd rfl h
end
end Go.Proofs.YtpmdfoaadejmkaaGreatDoor
namespace Go.Proofs.YtpmdfoaadejmkaaGreatDoor
open Go.RowKit
section
variable {P : Program} {fr : bw} {B : Bs} {L : AL} {d : Option Tmp} {ty t t' : TypeId} {pos : String} {af : Array Edge} {g : Option (Nat × Bool)} {x y z q : Operand} {u : AV}
theorem CZ.cells {e : TypeId} {i : TypeInfo} {zz : Value} {zs : List Value} (hz : CZ P e zs) (hi : P.info? e = some i) (hzz : i.zero = some zz) (w : World) : zz.cells = zs.toArray := by
 obtain ⟨v, hv, hr⟩ := hz.run
 have := hr w
 simp [zeroValue, typeInfo, hi, hzz] at this
 rw [this, hv]
theorem pR {σ : bK} (l : List Value) : cG σ (l.map .sc) l := by
 refine ⟨by simp, fun i c u hc hu => ?_⟩
 rw [List.getElem?_map, hu] at hc
 cases hc
 exact .sc _
theorem gc {zs : Array Value} {n : Nat} {v : Value} (h : v ∈ (Builtin.zeroCells zs n).toList) : v ∈ zs.toList := by
 obtain ⟨i, hi, rfl⟩ := List.getElem_of_mem h
 simp only [Builtin.zeroCells] at hi ⊢
 by_cases h0 : zs.size = 0
 ·simp [h0] at hi
 ·have : i % zs.size < zs.size := Nat.mod_lt _ (by omega)
  simp [this]
end
section
variable {B : Bs} {fr : bw} {nt : Nat} {D : List Deferred}
theorem zC {σ : bK} {cs : List AV} {vs : List Value} {k : Nat} {c c' : AV} (h : cG σ cs vs) (hk : cs[k]? = some c) (hc : ∀ v, VR σ c v → VR σ c' v) : cG σ (cs.set k c') vs := by
 refine ⟨by rw [List.length_set]; exact h.1, fun i x u hx hu => ?_⟩
 by_cases e : k = i
 ·subst e
  rw [List.getElem?_set_self (Dp hk).1] at hx
  cases hx
  exact hc _ (h.2 k c u hk hu)
 ·rw [List.getElem?_set_ne e] at hx
  exact h.2 i x u hx hu
theorem vn {b p e e' sz n cap k : Nat} {cs ds : List AV} {R : AL} {l : List (List AV)} (hk : ds[k]? = some (.sc (.slice (some ⟨b, 0, none⟩) n cap))) (hc : cs.take (n * sz) = l.flatten) (hcl : cs.length = cap * sz) (hs : ∀ q ∈ l, q.length = sz) (hn : l.length = n) (hnc : n ≤ cap) (hm : cap ≤ maxLen) : jL nt D B fr ((b, .box cs e) :: (p, .box ds e') :: R) fr ((p, .box (ds.set k (.imm sz l)) e') :: R) := by
 intro σ a w ha hw
 obtain ⟨o, ho, vs, rfl, hvs, h1⟩ := hw.here _ (List.mem_cons_self ..)
 have hfree := hw.free _ (List.mem_cons_self ..)
 have hvl : vs.length = cap * sz := by rw [← hvs.1, hcl]
 have hst : cm B σ ((b, .vec e sz 0 cap) :: (p, .box ds e') :: R) w := by
  refine ⟨hw.os, hw.tape, hw.output, hw.size, hw.old, fun p' hp => ?_, fun p' hp => ?_, by simpa using hw.apart, hw.froz, fun p' hp off hm => ?_, hw.grow, hw.same⟩
  ·rcases List.mem_cons.1 hp with rfl | hp'
   ·exact ⟨_, ho, _, rfl, by simp [hvl], Nat.zero_le _, hm⟩
   ·exact hw.here p' (Dt _ hp')
  ·rcases List.mem_cons.1 hp with rfl | hp'
   ·exact hw.mine (b, .box cs e) (List.mem_cons_self ..)
   ·exact hw.mine p' (Dt _ hp')
  ·rcases List.mem_cons.1 hp with rfl | hp'
   ·exact hfree off trivial
   ·exact hw.free p' (Dt _ hp') off hm
 have hle' : n * sz ≤ cap * sz := Nat.mul_le_mul_right _ hnc
 obtain ⟨hst', hle⟩ := hst.freezeHead (n' := n) (xs := vs.take (n * sz)) (fun j u hj => by
  rw [List.getElem?_take] at hj
  split at hj
  ·rw [cn ho]; simpa using hj
  ·cases hj) (by rw [List.length_take]; omega) (Nat.zero_le _) hnc
 have hv : VR (σ.add b (vs.take (n * sz))) (.vec (some (b, cap)) sz l) (.slice (some ⟨b, 0, none⟩) n cap) := by
  have := iM (σ := σ.add b (vs.take (n * sz))) (b := b) (cap := cap) hs (by rw [← hc]; exact (fR hvs _).mono hle) (fun u hu => h1 u (List.mem_of_mem_take hu)) (by omega) hm (fun j u hj => bK.add_at hj)
  rwa [hn] at this
 have hw2 := hst'.sublist (List.sublist_cons_self ..)
 refine ⟨_, ha.mono hle, ?_⟩
 obtain ⟨o2, ho2, ws, rfl, hws, hw1⟩ := hw2.here _ (List.mem_cons_self ..)
 refine ⟨hw2.os, hw2.tape, hw2.output, hw2.size, hw2.old, fun p' hp => ?_, fun p' hp => ?_, by simpa using hw2.apart, hw2.froz, fun p' hp off hm => ?_, hw2.grow, hw2.same⟩
 ·rcases List.mem_cons.1 hp with rfl | hp'
  ·exact ⟨_, ho2, ws, rfl, zC hws hk fun v hvv => by rw [hvv.sc_inv]; exact hv.im, hw1⟩
  ·exact hw2.here p' (Dt _ hp')
 ·rcases List.mem_cons.1 hp with rfl | hp'
  ·exact hw2.mine (p, .box ds e') (List.mem_cons_self ..)
  ·exact hw2.mine p' (Dt _ hp')
 ·rcases List.mem_cons.1 hp with rfl | hp'
  ·exact hw2.free (p, .box ds e') (List.mem_cons_self ..) off trivial
  ·exact hw2.free p' (Dt _ hp') off hm
end
end Go.Proofs.YtpmdfoaadejmkaaGreatDoor
namespace Go.Proofs.YtpmdfoaadejmkaaGreatDoor
open Go.RowKit
end Go.Proofs.YtpmdfoaadejmkaaGreatDoor
namespace Go.Proofs.YtpmdfoaadejmkaaGreatDoor
open Go.RowKit
def rr (fr : bw) (B : Bs) (L : AL) (y : Operand) (sz m : Nat) (es : List AV) : Prop := ∀ σ (ρ : Operand → Value) w, (∀ x c, aX fr x = some c → VR σ c (ρ x)) → cm B σ L w →
 ∃ A c ys, ρ y = .slice A m c ∧ cG σ es ys ∧ (∀ u ∈ ys, u.oneCell' = true) ∧ ys.length = m * sz ∧ (0 < m → ∃ b off, A = some ⟨b, off, none⟩ ∧ ∀ j v, ys[j]? = some v → w.cell? ((⟨b, off, none⟩ : Addr).add j) = some v)
section
variable {P : Program} {fr : bw} {B : Bs} {L : AL} {d : Option Tmp} {ty t t' : TypeId} {pos : String} {af : Array Edge} {g : Option (Nat × Bool)} {x y z q : Operand} {u : AV}
theorem r7 {sz : Nat} {l : List (List AV)} (hy : aX fr y = some u) (hu : i6 u = some (sz, l)) : rr fr B L y sz l.length l.flatten := by
 intro σ ρ w hρ hw
 have hyv := (hρ y u hy).im
 rw [cP hu] at hyv
 obtain ⟨A2, c2, hA2, _⟩ := hyv.imm_inv
 rw [hA2] at hyv
 obtain ⟨_, _, _, hs2, ys, hyl, hyr, hy1, hyc⟩ := hyv.row
 refine ⟨A2, c2, ys, hA2, by simpa using hyr, hy1, ?_, fun h0 => ?_⟩
 ·rw [hyl]
 ·obtain ⟨b2, off2, e, hycc⟩ := hyc h0
  exact ⟨b2, off2, e, fun j v hj => by rw [cU]; exact hw.froz _ _ _ (hycc j v hj)⟩
theorem r8 (i : Nat) {b off n c sz : Nat} {cs : List AV} {e : TypeId} (hy : aX fr y = some (.sc (.slice (some ⟨b, off, none⟩) n c))) (hL : L[i]? = some (b, .box cs e)) (hb : off + n * sz ≤ cs.length) : rr fr B L y sz n ((cs.drop off).take (n * sz)) := by
 intro σ ρ w hρ hw
 have hyv := (hρ y _ hy).sc_inv
 obtain ⟨o, ho, vs, rfl, hvs, h1⟩ := hw.here _ (Dw hL)
 have hl := hvs.1
 refine ⟨_, c, (vs.drop off).take (n * sz), hyv, fR (nB hvs _) _, fun u hu => h1 _ (List.mem_of_mem_drop (List.mem_of_mem_take hu)), by rw [List.length_take, List.length_drop]; omega, fun h0 => ⟨b, off, rfl, fun j v hj => ?_⟩⟩
 rw [cU, cn ho]
 have hjl := (Dp hj).1
 rw [List.length_take] at hjl
 rw [List.getElem?_take_of_lt (by omega), List.getElem?_drop] at hj
 simpa using hj
theorem rB (i : Nat) {e sz by_ b n cap m : Nat} {cs es : List AV} {zs : List Value} (hc : jf P t e sz by_) (hs0 : 0 < sz) (hz : CZ P e zs) (hz1 : zs.all (·.oneCell') = true) (hx : aX fr x = some (.sc (.slice (some ⟨b, 0, none⟩) n cap))) (hy : rr fr B L y sz m es) (hL : L[i]? = some (b, .box cs e)) (hcl : cap * sz ≤ cs.length) (hn : n ≤ cap) (hcm : cap ≤ maxLen) (h63 : n + m ≤ maxLen) (hby : (n + m) * by_ ≤ 140737488355328) :
  AO P ⟨d, .call ⟨.builtin .append, #[x, y], #[t, t]⟩, ty, pos, af, g⟩ fr B L (fun r L' => ∃ b' cs' cap', r = .sc (.slice (some ⟨b', 0, none⟩) (n + m) cap') ∧ cap' * sz ≤ cs'.length ∧ cs'.take ((n + m) * sz) = cs.take (n * sz) ++ es ∧ n + m ≤ cap' ∧ cap' ≤ maxLen ∧ (n + m ≤ cap → b' = b ∧ cap' = cap ∧ cs' = cs.take (n * sz) ++ es ++ cs.drop (n * sz + m * sz)) ∧ L' = (b', .box cs' e) :: L.eraseIdx i) := by
 intro σ ρ w hρ hw0
 obtain ⟨A2, c2, ys, hA2, hyr, hy1, hyl, hycc⟩ := hy σ ρ w hρ hw0
 have hw := hw0.perm (ec hL)
 have hxv := (hρ x _ hx).sc_inv
 haveI := hc
 obtain ⟨inf, zz, hi, hsz, rfl, hzz, hzs⟩ := hc.info
 have hzc := hz.cells hi hzz w
 obtain ⟨o, ho, vs, rfl, hvs, h1⟩ := hw.here _ (List.mem_cons_self ..)
 have hl := hvs.1
 have hel : es.length = m * sz := by rw [← hyl]; exact hyr.1
 have hyl' : ys.length = m * inf.size := by rw [hsz]; exact hyl
 have hmul : (n + m) * sz = n * sz + m * sz := Nat.add_mul ..
 have hnc : n * sz ≤ cap * sz := Nat.mul_le_mul_right _ hn
 unfold maxLen at hcm h63
 unfold fw
 by_cases hm0 : m = 0
 ·subst hm0
  have hes : es = [] := List.eq_nil_of_length_eq_zero (by rw [hel]; omega)
  subst hes
  rw [show (execOp ρ ⟨d, .call ⟨.builtin .append, #[x, y], #[t, t]⟩, ty, pos, af, g⟩).run P w = .ok (.value (.slice (some ⟨b, 0, none⟩) n cap)) w by
   simp [execOp, resolve, hxv, hA2, invoke, builtin, i4 (t := t) hn]]
  refine ⟨σ, .sc _, _, bK.le_refl _, .sc _, hw, b, cs, cap, rfl, hcl, ?_, hn, by unfold maxLen; omega, fun _ => ⟨rfl, rfl, ?_⟩, rfl⟩
  ·simp
  ·simp
 obtain ⟨b2, off2, rfl, hnews⟩ := hycc (by omega)
 by_cases hroom : n + m ≤ cap
 ·have hnc1 : (n + m) * sz ≤ cap * sz := Nat.mul_le_mul_right _ hroom
  have hr := run_append_room (P := P) w t ty e inf hc.under hi b n cap vs.toArray ho ⟨b2, off2, none⟩ m c2 ys hyl' hnews hy1 hroom (by rw [hsz]; simp; omega)
  rw [show (execOp ρ ⟨d, .call ⟨.builtin .append, #[x, y], #[t, t]⟩, ty, pos, af, g⟩).run P w = .ok (.value (.slice (some ⟨b, 0, none⟩) (n + m) cap)) (w.setRow b (vs.toArray.toList.take (n * inf.size) ++ ys ++ vs.toArray.toList.drop (n * inf.size + ys.length)).toArray) by
   simp [execOp, resolve, hxv, hA2, invoke, builtin, hr]]
  rw [hsz, hyl]
  refine ⟨σ, .sc _, _, bK.le_refl _, .sc _, hw.put (a' := .box (cs.take (n * sz) ++ es ++ cs.drop (n * sz + m * sz)) e) (fun _ => trivial) ⟨rfl, rfl, rfl, by simp, fun k _ hk => setRow_other w b k _ (fun e => hk (by simp [e]))⟩ (setRow_heap w b _ _ e _ ho) ⟨_, rfl, eG (eG (fR hvs _) hyr) (nB hvs _), fun u hu => ?_⟩, b, _, cap, rfl, ?_, ?_, hroom, by unfold maxLen; omega, fun _ => ⟨rfl, rfl, rfl⟩, rfl⟩
  ·rcases List.mem_append.1 hu with hu | hu
   ·rcases List.mem_append.1 hu with hu | hu
    ·exact h1 _ (List.mem_of_mem_take hu)
    ·exact hy1 _ hu
   ·exact h1 _ (List.mem_of_mem_drop hu)
  ·simp only [List.length_append, List.length_take, List.length_drop, hel]; omega
  ·rw [List.take_append_of_le_length (by simp; omega), List.take_of_length_le (by simp; omega)]
 ·have holds : ∀ j v, (vs.take (n * sz))[j]? = some v → w.cell? ((⟨b, 0, none⟩ : Addr).add j) = some v := fun j v hj => by
   rw [cU, Nat.zero_add, cn ho]
   have hjl := (Dp hj).1
   rw [List.length_take] at hjl
   rw [List.getElem?_take_of_lt (by omega)] at hj
   simpa using hj
  have hr := run_append_grow (P := P) w t ty e inf zz hc.under hi hzz ⟨b, 0, none⟩ n cap (vs.take (n * sz)) (by rw [hsz, List.length_take]; omega) holds ⟨b2, off2, none⟩ m c2 ys hyl' hnews (by omega) (by omega) (growslice_fits (by omega) hby)
  rw [show (execOp ρ ⟨d, .call ⟨.builtin .append, #[x, y], #[t, t]⟩, ty, pos, af, g⟩).run P w = .ok (.value (.slice (some ⟨w.heap.size, 0, none⟩) (n + m) (grownCap w (n + m) cap e))) (w.drew.alloc (.cells ((vs.take (n * sz)).toArray ++ ys.toArray ++ Builtin.zeroCells zz.cells (grownCap w (n + m) cap e - (n + m))) e)) by
   simp [execOp, resolve, hxv, hA2, invoke, builtin, hr]]
  have hge := grownCap_ge w (n + m) cap e
  have hgm := grownCap_le_maxLen w (n + m) cap e (by unfold maxLen; omega)
  have hzl : ∀ k, (Builtin.zeroCells zz.cells k).toList.length = k * sz := fun k => by rw [Array.length_toList, size_zeroCells, hzs]
  have hzm : ∀ k, ∀ v ∈ (Builtin.zeroCells zz.cells k).toList, v.oneCell' = true := fun k v hv => by
   have := gc hv
   rw [hzc] at this
   exact List.all_eq_true.1 hz1 v (by simpa using this)
  generalize grownCap w (n + m) cap e = cap' at *
  have hmc : cap' * sz = (n + m) * sz + (cap' - (n + m)) * sz := by rw [← Nat.add_mul]; congr 1; omega
  have hzl' := hzl (cap' - (n + m))
  have hzm' := hzm (cap' - (n + m))
  generalize Builtin.zeroCells zz.cells (cap' - (n + m)) = zc at *
  refine ⟨σ, .sc _, _, bK.le_refl _, .sc _, ((hw.sublist (List.sublist_cons_self ..)).drew _).alloc _ (.box (cs.take (n * sz) ++ es ++ zc.toList.map AV.sc) e) ⟨vs.take (n * sz) ++ ys ++ zc.toList, by simp, eG (eG (fR hvs _) hyr) (pR _), fun u hu => ?_⟩, w.heap.size, _, cap', rfl, ?_, ?_, hge, hgm, fun hh => absurd hh hroom, rfl⟩
  ·rcases List.mem_append.1 hu with hu | hu
   ·rcases List.mem_append.1 hu with hu | hu
    ·exact h1 _ (List.mem_of_mem_take hu)
    ·exact hy1 _ hu
   ·exact hzm' u hu
  ·simp only [List.length_append, Du, hzl', List.length_take, hel]; omega
  ·rw [List.take_append_of_le_length (by simp; omega), List.take_of_length_le (by simp; omega)]
theorem Ad {dd : Option Tmp} {e sz by_ b off n cap hi : Nat} {k k' : IntKind} {a a' : Int} (hc : jf P t e sz by_) (hx : aX fr x = some (.sc (.slice (some ⟨b, off, none⟩) n cap))) (hy : aX fr y = some (.sc (.int k a))) (ha : a = (hi : Int)) (hz : aX fr z = some (.sc (.int k' a'))) (ha' : a' = (hi : Int)) (h : hi ≤ cap) : Av P ⟨dd, .slice t x none (some y) (some z), ty, pos, af, g⟩ fr (.sc (.slice (some ⟨b, off, none⟩) hi hi)) := by
 intro σ ρ w hρ _
 subst ha; subst ha'
 haveI := hc
 refine ⟨_, ?_, .sc _⟩
 by_cases h0 : hi = 0
 ·subst h0
  simp [execOp, (hρ x _ hx).sc_inv, (hρ y _ hy).sc_inv, (hρ z _ hz).sc_inv, Instr.sliceAt, Instr.slice, Instr.sliceBounds, Instr.sliceBound, asIntOf, run_underlying hc.under, cq (t := t)]
 ·simp [execOp, (hρ x _ hx).sc_inv, (hρ y _ hy).sc_inv, (hρ z _ hz).sc_inv, Instr.sliceAt, Instr.slice, Instr.sliceBounds, Instr.sliceBound, asIntOf, run_underlying hc.under, cq (t := t), h, h0, cU]
theorem sV {dd : Option Tmp} {e sz by_ b off n cap hi : Nat} {k : IntKind} {a : Int} (hc : jf P t e sz by_) (hx : aX fr x = some (.sc (.slice (some ⟨b, off, none⟩) n cap))) (hy : aX fr y = some (.sc (.int k a))) (ha : a = (hi : Int)) (h : hi ≤ cap) : Av P ⟨dd, .slice t x none (some y) none, ty, pos, af, g⟩ fr (.sc (.slice (some ⟨b, off, none⟩) hi cap)) := by
 intro σ ρ w hρ _
 subst ha
 haveI := hc
 refine ⟨_, ?_, .sc _⟩
 by_cases h3 : cap = 0
 ·have : hi = 0 := by omega
  subst h3; subst this
  simp [execOp, (hρ x _ hx).sc_inv, (hρ y _ hy).sc_inv, Instr.sliceAt, Instr.slice, Instr.sliceBounds, Instr.sliceBound, asIntOf, run_underlying hc.under, cq (t := t)]
 ·simp [execOp, (hρ x _ hx).sc_inv, (hρ y _ hy).sc_inv, Instr.sliceAt, Instr.slice, Instr.sliceBounds, Instr.sliceBound, asIntOf, run_underlying hc.under, cq (t := t), h, h3, cU]
theorem nX : ∀ {L : AL} {i b : Nat} {a : AB}, L[i]? = some (b, a) → eQ L i a = L
 | [], _, _, _, h => by simp at h
 | (c, x) :: L, 0, b, a, h => by
  simp at h
  rw [h.2]
  rfl
 | (c, x) :: L, i + 1, b, a, h => by
  have := nX (L := L) (i := i) (by simpa using h)
  rw [eQ, this]
theorem u5 (i : Nat) {dd : Option Tmp} {e sz by_ b off m k cp : Nat} {cs : List AV} {zs : List Value} (hc : jf P t e sz by_) (hs0 : 0 < sz) (hz : CZ P e zs) (hz1 : zs.all (·.oneCell') = true) (hx : aX fr x = some (.sc (.slice (some ⟨b, off, none⟩) k cp))) (ho : off = m * sz ∨ k = 0) (hL : L[i]? = some (b, .box cs e)) (hfit : m * sz + k * sz ≤ cs.length) :
  AO P ⟨dd, .call ⟨.builtin .clear, #[x], #[t]⟩, ty, pos, af, g⟩ fr B L (fun c L' => ∃ cs', c = .sc (.tuple #[]) ∧ cs'.length = cs.length ∧ cs'.take (m * sz) = cs.take (m * sz) ∧ L' = eQ L i (.box cs' e)) := by
 intro σ ρ w hρ hw
 haveI := hc
 obtain ⟨i0, zv, hi0, hs1, hs2, hzv, hzs⟩ := hc.info
 obtain ⟨zv', hz2, hz3⟩ := hz.run
 have hzz : zv = zv' := by
  have := hz3 w
  simp [zeroValue, typeInfo, hi0, hzv] at this
  exact this
 subst hzz
 have hxv := (hρ x _ hx).sc_inv
 obtain ⟨vs, hb, hvs, h1⟩ := hw.boxCell hL
 have hl := hvs.1
 unfold fw
 by_cases hk0 : k = 0
 ·subst hk0
  rw [show (execOp ρ ⟨dd, .call ⟨.builtin .clear, #[x], #[t]⟩, ty, pos, af, g⟩).run P w = .ok (.value (.tuple #[])) w by
   simp [execOp, resolve, hxv, invoke, builtin, Builtin.clear_, run_underlying hc.under, hz3, Builtin.zeroCells, storeCells]]
  refine ⟨σ, .sc _, _, bK.le_refl _, .sc _, ?_, cs, rfl, rfl, rfl, rfl⟩
  rw [nX hL]
  exact hw
 obtain rfl : off = m * sz := ho.resolve_right hk0
 have hzl : (Builtin.zeroCells zv.cells k).toList.length = k * sz := by simp [Builtin.zeroCells, hzs]
 have hone : ∀ v ∈ (Builtin.zeroCells zv.cells k).toList, v.oneCell' = true := fun v hv => by
  have := gc hv
  have hzl2 : zv.cells.toList = zs := by rw [hz2]
  rw [hzl2] at this
  exact List.all_eq_true.1 hz1 v this
 have hrun := run_storeCells_cells (P := P) b (m * sz) (Builtin.zeroCells zv.cells k).toList 0 w (fun j hj => by rw [Nat.add_zero, cn hb]; rw [hzl] at hj; simp; omega) (fun j hj => ol hb) hone
 simp only [Nat.add_zero] at hrun
 obtain ⟨hg, cs', hh, hs', hj⟩ := g9 b (Builtin.zeroCells zv.cells k).toList (m * sz) w _ e (0, 0) hb
 obtain ⟨q, hq⟩ : ∃ q, k = q + 1 := ⟨k - 1, by omega⟩
 rw [show (execOp ρ ⟨dd, .call ⟨.builtin .clear, #[x], #[t]⟩, ty, pos, af, g⟩).run P w = .ok (.value (.tuple #[])) (w.setCells b (m * sz) (Builtin.zeroCells zv.cells k).toList) by
  rw [hq] at hxv hrun ⊢
  simp [execOp, resolve, hxv, invoke, builtin, Builtin.clear_, run_underlying hc.under, hz3, hrun]]
 generalize hzz : (Builtin.zeroCells zv.cells k).toList = ys at *
 refine ⟨σ, .sc _, _, bK.le_refl _, .sc _, hw.putAt (a' := .box (eI cs (m * sz) (ys.map .sc)) e) hL (fun _ => trivial) hg hh ⟨cs'.toList, by simp, ⟨by rw [fL, hl]; simp [hs'], fun i c u hc hu => ?_⟩, fun u hu => ?_⟩, _, rfl, fL .., ?_, rfl⟩
 ·have hu' : cs'[i]? = some u := by simpa using hu
  rw [hj i] at hu'
  rw [ez _ _ _ _ (by simp; omega)] at hc
  simp only [Du] at hc
  have hvz : vs.toArray.size = vs.length := rfl
  by_cases hi : m * sz ≤ i ∧ i < m * sz + ys.length
  ·rw [if_pos hi] at hc
   rw [if_pos ⟨hi.1, hi.2, by omega⟩] at hu'
   rw [List.getElem?_map, hu'] at hc
   cases hc
   exact .sc _
  ·rw [if_neg hi] at hc
   rw [if_neg (fun e => hi ⟨e.1, e.2.1⟩)] at hu'
   exact hvs.2 i c u hc (by simpa using hu')
 ·obtain ⟨i, hi⟩ := List.mem_iff_getElem?.1 hu
  have hu' : cs'[i]? = some u := by simpa using hi
  rw [hj i] at hu'
  split at hu'
  ·exact hone _ (Dw hu')
  ·exact h1 _ (Dw (by simpa using hu'))
 ·refine List.ext_getElem? fun j => ?_
  by_cases hjm : j < m * sz
  ·rw [List.getElem?_take_of_lt hjm, List.getElem?_take_of_lt hjm, ez _ _ _ _ (by simp; omega), if_neg (by omega)]
  ·rw [List.getElem?_eq_none (by rw [List.length_take]; omega), List.getElem?_eq_none (by rw [List.length_take]; omega)]
end
section
variable {P : Program} {tt : TT} {r : Option Nat} {ops : Array Oper} {Q : Exit → Act → World → Prop} {nt : Nat} {D : List Deferred} {fr : bw} {B : Bs} {L : AL} {rest : List Oper} {d : Nat} {ty t t' : TypeId} {pos : String} {af : Array Edge} {x y z : Operand} {u : AV}
theorem j4 (ok : dl P tt) (i : Nat) {e sz by_ b n cap m : Nat} {cs es : List AV} {zs : List Value} (ht : iJ tt t = some (e, sz, by_)) (hz : zI tt e = some zs) (hz1 : zs.all (·.oneCell') = true) (hx : aX fr x = some (.sc (.slice (some ⟨b, 0, none⟩) n cap))) (hy : rr fr B L y sz m es) (hL : L[i]? = some (b, .box cs e)) (hcl : cap * sz ≤ cs.length) (hn : n ≤ cap) (hcm : cap ≤ maxLen) (h63 : n + m ≤ maxLen) (hby : (n + m) * by_ ≤ 140737488355328) (hd : Nat.ble nt d = false)
  (h : ∀ b' cs' cap', cap' * sz ≤ cs'.length → cs'.take ((n + m) * sz) = cs.take (n * sz) ++ es → n + m ≤ cap' → cap' ≤ maxLen → (n + m ≤ cap → b' = b ∧ cap' = cap ∧ cs' = cs.take (n * sz) ++ es ++ cs.drop (n * sz + m * sz)) → bh P r ops Q nt D rest ((d, .sc (.slice (some ⟨b', 0, none⟩) (n + m) cap')) :: fr) B ((b', .box cs' e) :: L.eraseIdx i)) :
  bh P r ops Q nt D (⟨some d, .call ⟨.builtin .append, #[x, y], #[t, t]⟩, ty, pos, af, none⟩ :: rest) fr B L :=
 c6 hd rfl (rB i (b9 ok ht).1 (b9 ok ht).2 (eH ok hz) hz1 hx hy hL hcl hn hcm h63 hby) fun c L' ⟨b', cs', cap', h1, h2, h3, h4, h5, h6, h7⟩ => by subst h1; subst h7; exact h b' cs' cap' h2 h3 h4 h5 h6
theorem B3 (ok : dl P tt) (hi : Nat) {e sz by_ b off n cap : Nat} {k k' : IntKind} {a a' : Int} (ht : iJ tt t = some (e, sz, by_)) (hx : aX fr x = some (.sc (.slice (some ⟨b, off, none⟩) n cap))) (hy : aX fr y = some (.sc (.int k a))) (ha : a = (hi : Int)) (hz : aX fr z = some (.sc (.int k' a'))) (ha' : a' = (hi : Int)) (h1 : hi ≤ cap) (hd : Nat.ble nt d = false) (h : bh P r ops Q nt D rest ((d, .sc (.slice (some ⟨b, off, none⟩) hi hi)) :: fr) B L) :
  bh P r ops Q nt D (⟨some d, .slice t x none (some y) (some z), ty, pos, af, none⟩ :: rest) fr B L := bO (Ad (b9 ok ht).1 hx hy ha hz ha' h1) hd rfl h
theorem tA (ok : dl P tt) (hi : Nat) {e sz by_ b off n cap : Nat} {k : IntKind} {a : Int} (ht : iJ tt t = some (e, sz, by_)) (hx : aX fr x = some (.sc (.slice (some ⟨b, off, none⟩) n cap))) (hy : aX fr y = some (.sc (.int k a))) (ha : a = (hi : Int)) (h1 : hi ≤ cap) (hd : Nat.ble nt d = false) (h : bh P r ops Q nt D rest ((d, .sc (.slice (some ⟨b, off, none⟩) hi cap)) :: fr) B L) :
  bh P r ops Q nt D (⟨some d, .slice t x none (some y) none, ty, pos, af, none⟩ :: rest) fr B L := bO (sV (b9 ok ht).1 hx hy ha h1) hd rfl h
theorem x3 (ok : dl P tt) (i : Nat) {e sz by_ b off m k cp : Nat} {cs : List AV} {zs : List Value} (ht : iJ tt t = some (e, sz, by_)) (hz : zI tt e = some zs) (hz1 : zs.all (·.oneCell') = true) (hx : aX fr x = some (.sc (.slice (some ⟨b, off, none⟩) k cp))) (ho : off = m * sz ∨ k = 0) (hL : L[i]? = some (b, .box cs e)) (hfit : m * sz + k * sz ≤ cs.length)
  (h : ∀ cs', cs'.length = cs.length → cs'.take (m * sz) = cs.take (m * sz) → bh P r ops Q nt D rest fr B (eQ L i (.box cs' e))) :
  bh P r ops Q nt D (⟨none, .call ⟨.builtin .clear, #[x], #[t]⟩, ty, pos, af, none⟩ :: rest) fr B L :=
 il rfl (u5 i (b9 ok ht).1 (b9 ok ht).2 (eH ok hz) hz1 hx ho hL hfit) fun c L' ⟨cs', h1, h2, h3, h4⟩ => by subst h4; exact h cs' h2 h3
end
end Go.Proofs.YtpmdfoaadejmkaaGreatDoor
namespace Go.Proofs.YtpmdfoaadejmkaaGreatDoor
open Go.RowKit
def zG (P : Program) : Nat → List Field → Prop
 | _, [] => True
 | k, f :: fs => (f.name ≠ "_" ∧ f.offset = k ∧ P.underlying f.type = some (.int .i64)) ∧ zG P (k + 1) fs
structure CQ (P : Program) (t : TypeId) (n : Nat) : Prop where
 ex : ∃ fs : Array Field, P.underlying t = some (.struct fs) ∧ fs.size = n ∧ zG P 0 fs.toList
 st : P.stoodInHeld t = false
 gd : P.eqGuardType P.depth t = false
def De (l : List Int) : List Value := l.map fun z => .int .i64 z
end Go.Proofs.YtpmdfoaadejmkaaGreatDoor
namespace Go.Proofs.YtpmdfoaadejmkaaGreatDoor
open Go.RowKit
attribute [local irreducible] AT bh AX AO Av Kt b6 di DA cC
def dJ (a b : AV) : Prop := ∀ σ v, VR σ a v → VR σ b v
def nU : List AV → List AV → Prop
 | [], [] => True
 | a :: r, b :: q => dJ a b ∧ nU r q
 | _, _ => False
def A8 : List (List AV) → List (List AV) → Prop
 | [], [] => True
 | a :: r, b :: q => nU a b ∧ A8 r q
 | _, _ => False
theorem dJ.refl (a : AV) : dJ a a := fun _ _ h => h
theorem dJ.nil (n : Nat) : dJ (.sc (.slice none 0 0)) (.imm n []) := fun _ _ h => ja n h
theorem nU.len : ∀ {a b : List AV}, nU a b → a.length = b.length
 | [], [], _ => rfl
 | _ :: _, _ :: _, h => by simp [h.2.len]
theorem nU.at : ∀ {a b : List AV}, nU a b → ∀ (i : Nat) c c', a[i]? = some c → b[i]? = some c' → dJ c c'
 | x :: a, y :: b, h, 0, c, c', h1, h2 => by
  simp at h1 h2
  subst h1; subst h2
  exact h.1
 | _ :: a, _ :: b, h, i + 1, c, c', h1, h2 => h.2.at i c c' (by simpa using h1) (by simpa using h2)
theorem nU.vrs {a b : List AV} (h : nU a b) {σ : bK} {vs : List Value} (hv : cG σ a vs) : cG σ b vs := zB h.len (fun i c c' h1 h2 => h.at i c c' h1 h2 σ) hv
theorem A8.len : ∀ {a b : List (List AV)}, A8 a b → a.length = b.length
 | [], [], _ => rfl
 | _ :: _, _ :: _, h => by simp [h.2.len]
theorem A8.at : ∀ {a b : List (List AV)}, A8 a b → ∀ (i : Nat) c c', a[i]? = some c → b[i]? = some c' → nU c c'
 | x :: a, y :: b, h, 0, c, c', h1, h2 => by
  simp at h1 h2
  subst h1; subst h2
  exact h.1
 | _ :: a, _ :: b, h, i + 1, c, c', h1, h2 => h.2.at i c c' (by simpa using h1) (by simpa using h2)
theorem dJ.imm {s : Nat} {a b : List (List AV)} (h : A8 a b) : dJ (.imm s a) (.imm s b) := fun σ v hv => by
 cases hv with
 | imm _ _ A cap hc hm hs ha hx hh =>
  have hl := h.len
  rw [hl]
  have get : ∀ {i : Nat} {e : List AV}, b[i]? = some e → ∃ e', a[i]? = some e' ∧ nU e' e := fun {i e} he => by
   have hi : i < a.length := by rw [hl]; exact (Dp he).1
   exact ⟨_, Bn hi, h.at i _ _ (Bn hi) he⟩
  refine .imm s b A cap (hl ▸ hc) hm (fun e he => ?_) (fun hb => ha fun e => hb (List.eq_nil_of_length_eq_zero (by rw [← hl, e]; rfl))) (fun i b' off j hA hi hj => hx i b' off j hA (hl ▸ hi) hj) fun i e b' off j c u he hA hj hu => ?_
  ·obtain ⟨i, hi⟩ := List.mem_iff_getElem?.1 he
   obtain ⟨e', h1, h2⟩ := get hi
   rw [← h2.len]
   exact hs _ (Dw h1)
  ·obtain ⟨e', h1, h2⟩ := get he
   have hj' : j < e'.length := by rw [h2.len]; exact (Dp hj).1
   exact h2.at j _ c (Bn hj') hj σ u (hh i e' b' off j _ u h1 hA (Bn hj') hu)
theorem AC.args {P : Program} {f : FuncId} {a b : List AV} {L : AL} {Post : AV → AL → Prop} (h : AC P f b L Post) (k : nU a b) : AC P f a L Post := fun σ w vs hv hs => h σ w vs (k.vrs hv) hs
section
variable {P : Program} {nt : Nat} {fr : bw} {B : Bs} {L : AL}
theorem pG {fn : Func} {t : Tmp} {e : TypeId} {b k : Nat} {cs : List Value} {tmps : Array Value} {w : World} [zZ P e k] (h : fn.results = #[.cell t e]) (ht : tmps.getD t undef = .pointer (some ⟨b, 0, none⟩)) (hl : cs.length = k) (hc : ∀ j v, cs[j]? = some v → w.cell? ⟨b, 0 + j, none⟩ = some v) :
  (results fn tmps).run P w = .ok (.agg cs.toArray) w := by
 rw [Array.getD_eq_getD_getElem?] at ht
 simp [results, h, ht, asAddr, eA hl hc]
theorem yc (ok : dl P tt) (i : Nat) {fn : Func} {Post : AV → AL → Prop} {t : Tmp} {e e' : TypeId} {b k : Nat} {cs : List AV} (hr : fn.results = #[.cell t e]) (hk : BJ tt e = some k) (hv : bF fr t = some (.sc (.pointer (some ⟨b, 0, none⟩)))) (hL : L[i]? = some (b, .box cs e')) (hl : Nat.beq cs.length k = true) (h : Post (.agg cs) L) :
  AX P .ret (bodyPost P fn (gB B Post)) nt [] fr B L := by
 unfold AX
 intro σ a w ha hw
 haveI := dE ok hk
 obtain ⟨vs, hb, hs, h1⟩ := hw.boxCell hL
 have hl := Nat.eq_of_beq_eq_true hl
 refine ⟨ha.defers, _, pG (cs := vs) hr (ha.look t _ hv).sc_inv (hs.1.symm.trans hl) (fun j v hj => by rw [cn hb, Nat.zero_add]; simpa using hj), _, σ, _, L, rfl, .agg cs vs hs.1 hs.2 h1, hw, h⟩
end
end Go.Proofs.YtpmdfoaadejmkaaGreatDoor
namespace Go.Proofs.YtpmdfoaadejmkaaGreatDoor
open Go.RowKit
attribute [local irreducible] AT bh AX AO Av Kt b6 di DA cC
abbrev ek (b : Nat) : AV := .sc (.pointer (some ⟨b, 0, none⟩))
abbrev CG : AV := .sc (.pointer none)
structure eo where
 rb : Nat
 cap : Nat
 junk : List AV
def bq (run : List aG) : List AV := (run.map bN).flatten
def dv (q : Option eo) (run : List aG) : AV := match q with
 | none => .imm 6 []
 | some m => .sc (.slice (some ⟨m.rb, 0, none⟩) run.length m.cap)
def lf (q : Option eo) (run : List aG) : AL := match q with
 | none => []
 | some m => [(m.rb, .box (bq run ++ m.junk) 67)]
structure cT (q : Option eo) (run : List aG) : Prop where
 emp : q = none → run = []
 fit : ∀ m, q = some m → run.length ≤ m.cap ∧ m.cap ≤ maxLen ∧ m.cap * 6 ≤ (bq run ++ m.junk).length
abbrev rm (wb : Nat) (eng : AV) (q : Option eo) (run : List aG) : AL := (wb, .box [eng, dv q run] 102) :: lf q run
theorem cy (run : List aG) : (bq run).length = run.length * 6 := by
 induction run with
 | nil => rfl
 | cons x r ih => simp [bq] at ih ⊢; simp [bN, ih]; omega
theorem jx (x : aG) (r : List aG) : bq (x :: r) = bN x ++ bq r := by simp [bq]
theorem fp (a b : List aG) : bq (a ++ b) = bq a ++ bq b := by simp [bq]
theorem oa : ∀ {run : List aG} {i j : Nat} {x : aG} {u : AV} (junk : List AV), run[i]? = some x → (bN x)[j]? = some u → (bq run ++ junk)[i * 6 + j]? = some u
 | [], i, _, _, _, _, h, _ => by simp at h
 | y :: r, 0, j, x, u, junk, h, hj => by
  simp at h
  subst h
  rw [jx, List.append_assoc, Nat.zero_mul, Nat.zero_add, List.getElem?_append_left (Dp hj).1]
  exact hj
 | y :: r, i + 1, j, x, u, junk, h, hj => by
  rw [jx, List.append_assoc, List.getElem?_append_right (by simp [bN]; omega)]
  have := oa (i := i) junk (by simpa using h) hj
  rw [show (i + 1) * 6 + j - (bN y).length = i * 6 + j by simp [bN]; omega]
  exact this
structure m9 where
 l : aQ
 cls : List Int
 fore : List (List Int)
 back : List (List Int)
 foreE : List Nat
 backE : List Nat
abbrev gg (z : Nat) : AV := .sc (.int .u64 (z : Int))
def eJ (l : List Nat) : List (List AV) := l.map fun z => [gg z]
def dw (r : aV) : aV := { r with Back := [], Ahead := [] }
def ga (l : aQ) : aQ := { l with Rules := l.Rules.map dw }
def BL (e : m9) : List AV := [.imm 1 (aT e.cls), .imm 1 (b8 e.fore), .imm 1 (b8 e.back), .imm 1 (eJ e.foreE), .imm 1 (eJ e.backE)]
def dO (e : m9) : List AV := [aA e.l.Kind, dx e.l.Ignore, .imm 6 ((ga e.l).Rules.map bI), .imm 1 (aT e.cls), .imm 1 (b8 e.fore), .imm 1 (b8 e.back), .imm 1 (eJ e.foreE), .imm 1 (eJ e.backE), aA (ee e.l.Rules), aA (fy e.l.Rules)]
def kR (l : List Bool) : List (List AV) := l.map fun b => [dx b]
theorem qh (l : List Bool) : (kR l).length = l.length := by simp [kR]
theorem w5 {l : List Bool} {i : Nat} {b : Bool} (h : l[i]? = some b) : (kR l)[i]? = some [dx b] := by simp [kR, h]
structure ma where
 lks : List m9
 ms : List Bool
def da (E : ma) : List AV := [.imm 10 (E.lks.map dO), .imm 1 (kR E.ms)]
theorem cT.lt {q : Option eo} {run : List aG} (h : cT q run) {i : Nat} (hi : i < run.length) : ∃ m, q = some m := by
 cases q with
 | none => rw [h.emp rfl] at hi; simp at hi
 | some m => exact ⟨m, rfl⟩
section
variable {P : Program} {tt : TT} {r : Option Nat} {ops : Array Oper} {Q : Exit → Act → World → Prop} {nt : Nat} {D : List Deferred} {fr : bw} {B : Bs} {L : AL} {rest : List Oper} {d : Nat} {ty t t' : TypeId} {pos : String} {af : Array Edge} {g : Option (Nat × Bool)} {x y z : Operand} {q : Option eo} {run : List aG}
theorem Am {dd : Option Tmp} {e sz by_ : Nat} (hc : jf P t e sz by_) (hq : cT q run) (hx : aX fr x = some (dv q run)) : Av P ⟨dd, .call ⟨.builtin .len, #[x], #[t]⟩, ty, pos, af, g⟩ fr (.sc (.int .i64 run.length)) := by
 cases q with
 | none =>
  rw [hq.emp rfl] at hx ⊢
  exact rt hc hx rfl
 | some m => exact vE hc hx
theorem jB (ok : dl P tt) {e sz by_ : Nat} (ht : iJ tt t = some (e, sz, by_)) (hq : cT q run) (hx : aX fr x = some (dv q run)) (hd : Nat.ble nt d = false) (h : bh P r ops Q nt D rest ((d, .sc (.int .i64 run.length)) :: fr) B L) : bh P r ops Q nt D (⟨some d, .call ⟨.builtin .len, #[x], #[t]⟩, ty, pos, af, none⟩ :: rest) fr B L := bO (Am (b9 ok ht).1 hq hx) hd rfl h
end
theorem lH {run : List aG} {i j : Nat} {x : aG} {u : AV} (junk : List AV) (h : run[i]? = some x) (hj : (bN x)[j]? = some u) : (bq run ++ junk)[0 + ((i : Nat) : Int).toNat * 6 + j]? = some u := by
 rw [Int.toNat_natCast, Nat.zero_add]
 exact oa junk h hj
set_option maxHeartbeats 1000000 in
theorem pI (E : ma) (e : m9) (wb : Nat) (m : eo) (run : List aG) (i : Nat) (x : aG) (hx : run[i]? = some x) : AC Tryz.prog 186 [ek wb, .iptr (dO e), aA i] (rm wb (.iptr (da E)) (some m) run) fun c L => c = dx (lW E.ms e.l.Ignore x) ∧ L = rm wb (.iptr (da E)) (some m) run := by
 refine aC Tryz.func186 rfl Tryz.ntmps186 rfl fun B => ?_
 have hil := (Dp hx).1
 have h0 := lH (j := 0) m.junk hx rfl
 have hbl := qh E.ms
 repeat' (first|refine a9 ?_|refine a4 ?_|refine a6 ?_|refine a7 ?_|refine a8 a5 rfl rfl ?_)
 refine bk 16 [(0, .v), (1, .v), (2, .v), (3, .l), (4, .v), (5, .v), (6, .v), (7, .l), (8, .v), (9, .v), (10, .v), (11, .l), (12, .v), (13, .v), (14, .v), (15, .v)] none ?_ trivial rfl (by kernel_rfl) (by kernel_rfl) (by kernel_rfl) c9 (by kernel_rfl) rfl
 repeat' (first|refine aD ?_|refine bi a5 ?_|refine bX a5 0 rfl rfl rfl rfl (by first|trivial|rfl) ?_)
 refine cK a5 rfl rfl rfl ⟨by omega, by omega⟩ trivial ?_
 repeat' (first|refine aD ?_|refine bi a5 ?_|fail)
 refine bX a5 1 rfl rfl rfl h0 trivial ?_
 repeat' (first|refine aD ?_|refine bi a5 ?_|refine bX a5 0 rfl rfl rfl rfl (by first|trivial|rfl) ?_)
 refine bz [1, 7, 23] rfl rfl ?_
 have hs : lW E.ms e.l.Ignore x = (!e.l.Ignore || (decide (x.Glyph < 0) || (decide (x.Glyph ≥ E.ms.length) || !(E.ms.getD x.Glyph.toNat false)))) := by
  unfold lW zT
  by_cases h1 : 0 ≤ x.Glyph
  ·by_cases h2 : x.Glyph ≥ E.ms.length
   ·rw [List.getD_eq_getElem?_getD, List.getElem?_eq_none (by omega)]; simp [h1, h2]
   ·rw [decide_eq_false h2, decide_eq_false (by omega : ¬ x.Glyph < 0), decide_eq_true h1]; cases e.l.Ignore <;> simp
  ·simp [h1, show x.Glyph < 0 by omega]
 rw [hs]
 repeat' (first|refine a9 ?_|refine a4 ?_|refine ah ?_|refine a6 ?_|refine a7 ?_|refine a8 a5 rfl rfl ?_|refine am rfl rfl ?_|refine ax rfl rfl rfl rfl ?_|refine aI rfl rfl rfl (fun _ => ?_) (fun _ => ?_))
 ·rename_i h1 h2 h3
  have h4 : ¬ ((kR E.ms).length : Int) ≤ x.Glyph := Dy h3
  have h5 := Dy h2
  obtain ⟨b, hb⟩ : ∃ b, E.ms[x.Glyph.toNat]? = some b := ⟨_, Bn (by omega)⟩
  have hbg := w5 hb
  repeat' (first|refine ah ?_|refine a6 ?_|refine a7 ?_|refine a8 a5 rfl rfl ?_|refine am rfl rfl ?_|(apply aF; first|refine aE a5 ?_|refine aB a5 ?_)|fail)
  refine an rfl rfl ⟨?_, rfl⟩
  rw [h1, h2, decide_eq_false (by omega : ¬ x.Glyph ≥ E.ms.length), List.getD_eq_getElem?_getD, hb]
  rfl
 ·rename_i h1 h2 h3
  refine an rfl rfl ⟨?_, rfl⟩
  rw [hbl] at h3
  rw [h1, h2, show decide (x.Glyph ≥ E.ms.length) = true from h3]
  rfl
 ·rename_i h1 h2
  refine an rfl rfl ⟨?_, rfl⟩
  rw [h1, h2]
  rfl
 ·rename_i h1
  refine an rfl rfl ⟨?_, rfl⟩
  rw [h1]
  rfl
end Go.Proofs.YtpmdfoaadejmkaaGreatDoor
namespace Go.Proofs.YtpmdfoaadejmkaaGreatDoor
open Go.RowKit
attribute [local irreducible] AT bh AX AO Av Kt b6 di DA cC
section
variable {ms : List Bool} {ig : Bool} {run : List aG}
theorem og {i : Nat} (h : run.length ≤ i) : dm ms ig run i = [] := by
 unfold dm
 rw [show run.length - i = 0 by omega]
 rfl
theorem jz {i : Nat} (h : i < run.length) : dm ms ig run i = if gW ms ig run i = true then i :: dm ms ig run (i + 1) else dm ms ig run (i + 1) := by
 unfold dm
 rw [show run.length - i = (run.length - (i + 1)) + 1 by omega, List.range'_succ, List.filter_cons]
theorem lg {i : Nat} {x : aG} (h : run[i]? = some x) : gW ms ig run i = lW ms ig x := by
 unfold gW
 rw [h]
theorem s8 {i : Nat} {x : aG} (h : run[i]? = some x) : ev run i = x.Glyph := by
 unfold ev
 rw [h]
theorem wA {i : Nat} : ∀ p ∈ dm ms ig run i, i ≤ p ∧ p < run.length ∧ gW ms ig run p = true := fun p hp => by
 unfold dm at hp
 obtain ⟨h1, h2⟩ := List.mem_filter.1 hp
 obtain ⟨h3, h4⟩ := List.mem_range'_1.1 h1
 exact ⟨h3, by omega, h2⟩
end
end Go.Proofs.YtpmdfoaadejmkaaGreatDoor
namespace Go.Proofs.YtpmdfoaadejmkaaGreatDoor
open Go.RowKit
attribute [local irreducible] AT bh AX AO Av Kt b6 di DA cC
def cF (l : List Nat) : List (List AV) := aT (l.map Int.ofNat)
theorem j5 (l : List Nat) : (cF l).length = l.length := by simp [cF, aT]
theorem uP (l : List Nat) (i : Nat) : cF l ++ [[aA i]] = cF (l ++ [i]) := by simp [cF, aT]
def m6 (run : List aG) (l : List Nat) : List (List AV) := aT (l.map (ev run))
theorem wF (run : List aG) (l : List Nat) : (m6 run l).length = l.length := by simp [m6, aT]
theorem wE {run : List aG} (l : List Nat) {i : Nat} {x : aG} (h : run[i]? = some x) : m6 run l ++ [[aA x.Glyph]] = m6 run (l ++ [i]) := by simp [m6, aT, s8 h]
def fN (ms : List Bool) (ig : Bool) (run : List aG) (up : Bool) (a : Int) : List Nat := if up = true then dm ms ig run a.toNat else jP ms ig run (a + 1).toNat
def kF (up : Bool) : Int := if up = true then 1 else -1
def jo (run : List aG) (up : Bool) (a : Int) : Prop := -1 ≤ a ∧ (up = true → 0 ≤ a) ∧ (up = false → a < run.length)
theorem vb {ms : List Bool} {ig : Bool} {run : List aG} {up : Bool} {a : Int} (h : jo run up a) (ho : ¬ (0 ≤ a ∧ a < run.length)) : fN ms ig run up a = [] := by
 obtain ⟨h1, h2, h3⟩ := h
 unfold fN
 cases up with
 | true => exact og (by have := h2 rfl; omega)
 | false =>
  have := h3 rfl
  rw [show (a + 1).toNat = 0 by omega]
  rfl
theorem xt {ms : List Bool} {ig : Bool} {run : List aG} {up : Bool} {a : Int} (h0 : 0 ≤ a) (h1 : a < run.length) : fN ms ig run up a = if gW ms ig run a.toNat = true then a.toNat :: fN ms ig run up (a + kF up) else fN ms ig run up (a + kF up) := by
 unfold fN kF
 cases up with
 | true =>
  rw [if_pos rfl, if_pos rfl, if_pos rfl, jz (by omega), show (a + 1).toNat = a.toNat + 1 by omega]
 | false =>
  simp only [Bool.false_eq_true, if_false]
  rw [show (a + 1).toNat = a.toNat + 1 by omega, jP, show (a + -1 + 1).toNat = a.toNat by omega]
theorem jo.next {run : List aG} {up : Bool} {a : Int} (h0 : 0 ≤ a) (h1 : a < run.length) : jo run up (a + kF up) := by
 unfold jo kF
 cases up <;> simp <;> omega
def lK (run : List aG) (up : Bool) (a : Int) : Nat := if up = true then (run.length - a).toNat else (a + 1).toNat
theorem sf {run : List aG} {up : Bool} {a : Int} (h0 : 0 ≤ a) (h1 : a < run.length) : lK run up (a + kF up) < lK run up a := by
 unfold lK kF
 cases up <;> simp <;> omega
set_option maxHeartbeats 4000000 in
theorem tO (E : ma) (e : m9) (wb : Nat) (q : Option eo) (run : List aG) (hq : cT q run) (hr : run.length ≤ 1000000) (up : Bool) (a : Int) (ha : jo run up a) (ha2 : a ≤ 1000000) (most : Nat) : AC Tryz.prog 188 [ek wb, .iptr (dO e), aA a, aA (kF up), aA most] (rm wb (.iptr (da E)) q run) fun c L => c = .tup [.imm 1 (cF ((fN E.ms e.l.Ignore run up a).take most)), .imm 1 (m6 run ((fN E.ms e.l.Ignore run up a).take most))] ∧ L = rm wb (.iptr (da E)) q run := by
 refine aC Tryz.func188 rfl Tryz.ntmps188 rfl fun B => ?_
 repeat' (first|refine a9 ?_|refine a4 ?_|refine ak ?_|refine a6 ?_|refine a7 ?_|refine a8 a5 rfl rfl ?_)
 refine cY (bT (t := 10) (c' := .vec none 1 []) rfl fun σ v h => eF 1 h) ?_
 refine cY (bT (t := 11) (c' := .vec none 1 []) rfl fun σ v h => eF 1 h) ?_
 refine aL [0, 1, 3, 4] (α := Int × List Nat × Option (Nat × Nat) × Option (Nat × Nat)) (fun x => [(12, aA x.1), (10, .vec x.2.2.1 1 (cF x.2.1)), (11, .vec x.2.2.2 1 (m6 run x.2.1))]) (fun x => jo run up x.1 ∧ x.1 ≤ 1000000 ∧ fN E.ms e.l.Ignore run up a = x.2.1 ++ fN E.ms e.l.Ignore run up x.1 ∧ x.2.1.length ≤ most ∧ x.2.1.length + lK run up x.1 ≤ lK run up a) (fun x => rm wb (.iptr (da E)) q run ++ (tok x.2.2.1 3 1 (cF x.2.1).length ++ tok x.2.2.2 3 1 (m6 run x.2.1).length)) (fun x => lK run up x.1) (a, [], none, none) rfl ⟨rfl, rfl, rfl, trivial⟩ ⟨ha, ha2, by simp, Nat.zero_le _, by simp⟩ (fun _ _ h => by simpa [tok] using h) ?_
 have hlN : lK run up a ≤ 1000001 := by
  have := ha.1
  unfold lK
  have := ha.2.1
  cases up <;> simp at this ⊢ <;> omega
 rintro ⟨k, ps, q1, q2⟩ ⟨hk, hk2, hps, hpl, hpk⟩
 dsimp only at hk hk2 hps hpl hpk ⊢
 have hnl := j5 ps
 have hgl := wF run ps
 try dsimp only [Ds, Dr, Dq, Dn]
 repeat' (first|refine a9 ?_|refine a4 ?_|refine a8 a5 rfl rfl ?_)
 refine bH [0, 1, 3, 4, 10, 11, 12] ((0 ≤ k ∧ k < run.length) ∧ ps.length < most) rfl (fun Q' K => ?_) (fun hC => ?_) (fun hC => ?_)
 ·repeat' (first|refine a7 ?_|refine a8 a5 rfl rfl ?_|refine am rfl rfl ?_|refine ax rfl rfl rfl rfl ?_|(apply bE; first|refine aj a5 0 rfl rfl rfl rfl rfl ?_|refine aj a5 1 rfl rfl rfl rfl rfl ?_|refine aj a5 2 rfl rfl rfl rfl rfl ?_|refine aj a5 3 rfl rfl rfl rfl rfl ?_|refine ay a5 0 rfl rfl rfl rfl rfl ?_|refine ay a5 1 rfl rfl rfl rfl rfl ?_|refine ay a5 2 rfl rfl rfl rfl rfl ?_|refine aj a5 1 rfl rfl rfl (by assumption) rfl ?_|refine aj a5 0 rfl rfl rfl (by assumption) rfl ?_|fail)|refine aI rfl rfl rfl (fun _ => ?_) (fun _ => ?_))
  ·refine jB a5 rfl hq rfl rfl ?_
   repeat' (first|refine a7 ?_|refine a8 a5 rfl rfl ?_|refine am rfl rfl ?_|refine ax rfl rfl rfl rfl ?_|refine aI rfl rfl rfl (fun _ => ?_) (fun _ => ?_))
   all_goals exact K _ _ rfl rfl (by simp_all <;> omega)
  ·exact K _ _ rfl rfl (by simp_all <;> omega)
 ·obtain ⟨⟨h0, h1⟩, h2⟩ := hC
  obtain ⟨m, rfl⟩ := hq.lt (i := k.toNat) (by omega)
  obtain ⟨x, hx⟩ : ∃ x, run[k.toNat]? = some x := ⟨_, Bn (by omega)⟩
  have hk0 : ((k.toNat : Nat) : Int) = k := Int.toNat_of_nonneg h0
  have hse := pI E e wb m run k.toNat x hx
  rw [hk0] at hse
  have hst := xt (ms := E.ms) (ig := e.l.Ignore) (up := up) h0 h1
  rw [lg hx] at hst
  have hnx := jo.next (up := up) h0 h1
  have hln := sf (up := up) h0 h1
  have hk3 : k + kF up ≤ 1000000 := by have := hnx.1; unfold kF; split <;> omega
  have hk4 : -9223372036854775808 ≤ k + kF up ∧ k + kF up ≤ 9223372036854775807 := by have := hnx.1; omega
  repeat' (first|refine a9 ?_|refine a4 ?_|refine ak ?_|refine ai ?_|refine a6 ?_|refine a8 a5 rfl rfl ?_)
  refine aO (rm wb (.iptr (da E)) (some m) run) _ hse rfl rfl (Do _) rfl fun c L1 ⟨hc, hL⟩ => ?_
  subst hc; subst hL
  repeat' (first|refine a6 ?_|refine a7 ?_)
  refine ar rfl (fun hb => ?_) (fun hb => ?_)
  ·rw [hb, if_pos rfl] at hst
   repeat' (first|refine a9 ?_|refine a4 ?_|refine a8 a5 rfl rfl ?_|refine ce a5 ?_|fail)
   refine cj a5 (rm wb (.iptr (da E)) (some m) run ++ tok q2 3 1 (m6 run ps).length) rfl rfl rfl rfl ?_ (by rw [hnl]; simp; omega) (by rw [hnl]; simp; omega) rfl fun q1' => ?_
   ·exact (List.perm_append_comm_assoc ..)
   refine aR (aY (L' := rm wb (.iptr (da E)) (some m) run ++ (tok q1' 3 1 (cF ps ++ [[aA k]]).length ++ tok q2 3 1 (m6 run ps).length)) (List.perm_append_comm_assoc ..)) ?_
   have hg0 := lH (j := 0) m.junk hx rfl
   rw [hk0] at hg0
   repeat' (first|refine a4 ?_|refine a6 ?_|refine a7 ?_|refine a8 a5 rfl rfl ?_|(apply bE; first|refine aj a5 0 rfl rfl rfl rfl rfl ?_|refine aj a5 1 rfl rfl rfl rfl rfl ?_|refine aj a5 2 rfl rfl rfl rfl rfl ?_|refine aj a5 3 rfl rfl rfl rfl rfl ?_|refine ay a5 0 rfl rfl rfl rfl rfl ?_|refine ay a5 1 rfl rfl rfl rfl rfl ?_|refine ay a5 2 rfl rfl rfl rfl rfl ?_|refine aj a5 1 rfl rfl rfl (by assumption) rfl ?_|refine aj a5 0 rfl rfl rfl (by assumption) rfl ?_|fail)|(apply aF; first|refine aE a5 ?_|refine aB a5 ?_)|refine ce a5 ?_|fail)
   refine cj a5 (rm wb (.iptr (da E)) (some m) run ++ tok q1' 3 1 (cF ps ++ [[aA k]]).length) rfl rfl rfl rfl ?_ (by rw [hgl]; simp; omega) (by rw [hgl]; simp; omega) rfl fun q2' => ?_
   ·rw [← List.append_assoc]
    exact List.perm_append_comm
   refine aR (aY (L' := rm wb (.iptr (da E)) (some m) run ++ (tok q1' 3 1 (cF ps ++ [[aA k]]).length ++ tok q2' 3 1 (m6 run ps ++ [[aA x.Glyph]]).length)) (List.perm_append_comm.trans (by rw [List.append_assoc]))) ?_
   repeat' (first|refine a4 ?_|refine a6 ?_|refine aH ?_|refine a7 ?_|refine a8 a5 rfl rfl ?_|(apply aU; refine aS ?_)|fail)
   have e1 : cF ps ++ [[aA k]] = cF (ps ++ [k.toNat]) := by rw [← uP, hk0]
   have e2 := wE ps hx
   exact az (k + kF up, ps ++ [k.toNat], q1', q2') rfl ⟨rfl, by rw [← e1]; rfl, by rw [← e2]; rfl, trivial⟩ ⟨hnx, hk3, by rw [hps, hst]; simp, by rw [List.length_append, List.length_singleton]; omega, by rw [List.length_append, List.length_singleton]; dsimp only; omega⟩ hln (fun _ _ h => by dsimp only; rw [← e1, ← e2]; exact h)
  ·rw [hb, if_neg (by decide)] at hst
   repeat' (first|refine a4 ?_|refine ai ?_|refine a6 ?_|refine aH ?_|refine a7 ?_|refine a8 a5 rfl rfl ?_|(apply aU; refine aS ?_)|fail)
   exact az (k + kF up, ps, q1, q2) rfl ⟨rfl, rfl, rfl, trivial⟩ ⟨hnx, hk3, by rw [hps, hst], hpl, by dsimp only; omega⟩ hln (fun _ _ h => h)
 ·have hres : (fN E.ms e.l.Ignore run up a).take most = ps := by
   by_cases h1 : ps.length < most
   ·rw [hps, vb hk (fun h => hC ⟨h, h1⟩), List.append_nil, List.take_of_length_le (by omega)]
   ·rw [hps, List.take_append_of_le_length (by omega), List.take_of_length_le (by omega)]
  rw [hres]
  repeat' (first|refine a9 ?_|refine a4 ?_|refine ah ?_|refine aM ?_|refine a6 ?_|refine au ?_|refine aw ?_|refine av ?_|refine a7 ?_|refine a8 a5 rfl rfl ?_)
  refine dk (L' := rm wb (.iptr (da E)) q run) (List.sublist_append_left ..) ?_
  refine bB (bT (t := 10) (c' := .imm 1 (cF ps)) rfl fun σ v h => VR.im h) ?_
  refine bB (bT (t := 11) (c' := .imm 1 (m6 run ps)) rfl fun σ v h => VR.im h) ?_
  exact aK rfl rfl rfl ⟨rfl, rfl⟩
end Go.Proofs.YtpmdfoaadejmkaaGreatDoor
namespace Go.Proofs.YtpmdfoaadejmkaaGreatDoor
open Go.RowKit
section
variable {P : Program} {tt : TT} {r : Option Nat} {ops : Array Oper} {Q : Exit → Act → World → Prop} {nt : Nat} {D : List Deferred} {fr : bw} {B : Bs} {L : AL} {rest : List Oper} {d : Nat} {ty t t' : TypeId} {pos : String} {af : Array Edge} {g : Option (Nat × Bool)} {x y z : Operand} {u : AV}
theorem Ax {dd : Option Tmp} {k kk : IntKind} {a b : Int} (i : Nat) (hx : aX fr x = some (.sc (.int k a))) (hy : aX fr y = some (.sc (.int kk b))) (hb : b = (i : Int)) : Av P ⟨dd, .binOp .shr t x y t', ty, pos, af, g⟩ fr (.sc (.int k (a / 2 ^ min i k.bits))) := by
 intro σ ρ w hρ _
 subst hb
 refine ⟨_, ?_, .sc _⟩
 have h := shift_shr_any k kk a (i : Int) (Int.natCast_nonneg i)
 simp [execOp, (hρ x _ hx).sc_inv, (hρ y _ hy).sc_inv, eqGuard, binOp, h]
theorem Aa {dd : Option Tmp} {k : IntKind} {a b : Int} (hx : aX fr x = some (.sc (.int k a))) (hy : aX fr y = some (.sc (.int k b))) : Av P ⟨dd, .binOp .and t x y t', ty, pos, af, g⟩ fr (.sc (.int k (bits .and k a b))) := by
 intro σ ρ w hρ _
 refine ⟨_, ?_, .sc _⟩
 simp [execOp, (hρ x _ hx).sc_inv, (hρ y _ hy).sc_inv, eqGuard, binOp, intBits_and]
theorem sU {dd : Option Tmp} {k : IntKind} {a b : Int} (hx : aX fr x = some (.sc (.int k a))) (hy : aX fr y = some (.sc (.int k b))) : Av P ⟨dd, .binOp .or t x y t', ty, pos, af, g⟩ fr (.sc (.int k (bits .or k a b))) := by
 intro σ ρ w hρ _
 refine ⟨_, ?_, .sc _⟩
 simp [execOp, (hρ x _ hx).sc_inv, (hρ y _ hy).sc_inv, eqGuard, binOp, intBits_or]
theorem sr (i : Nat) {k kk : IntKind} {a b : Int} (hx : aX fr x = some (.sc (.int k a))) (hy : aX fr y = some (.sc (.int kk b))) (hb : b = (i : Int)) (hd : Nat.ble nt d = false) (h : bh P r ops Q nt D rest ((d, .sc (.int k (a / 2 ^ min i k.bits))) :: fr) B L) :
  bh P r ops Q nt D (⟨some d, .binOp .shr t x y t', ty, pos, af, none⟩ :: rest) fr B L := bO (Ax i hx hy hb) hd rfl h
theorem pj {k : IntKind} {a b : Int} (hx : aX fr x = some (.sc (.int k a))) (hy : aX fr y = some (.sc (.int k b))) (hd : Nat.ble nt d = false) (h : bh P r ops Q nt D rest ((d, .sc (.int k (bits .and k a b))) :: fr) B L) :
  bh P r ops Q nt D (⟨some d, .binOp .and t x y t', ty, pos, af, none⟩ :: rest) fr B L := bO (Aa hx hy) hd rfl h
theorem pk {k : IntKind} {a b : Int} (hx : aX fr x = some (.sc (.int k a))) (hy : aX fr y = some (.sc (.int k b))) (hd : Nat.ble nt d = false) (h : bh P r ops Q nt D rest ((d, .sc (.int k (bits .or k a b))) :: fr) B L) :
  bh P r ops Q nt D (⟨some d, .binOp .or t x y t', ty, pos, af, none⟩ :: rest) fr B L := bO (sU hx hy) hd rfl h
end
end Go.Proofs.YtpmdfoaadejmkaaGreatDoor
