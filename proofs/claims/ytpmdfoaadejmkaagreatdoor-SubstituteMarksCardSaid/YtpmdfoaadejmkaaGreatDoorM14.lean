/-
  A row that is written, grown ahead: in a block of its own, where there is no room.
-/
import Derived.Test.YtpmdfoaadejmkaaGreatDoorM13
import Derived.Test.YtpmdfoaadejmkaaGreatDoorM07
import Derived.Scope
import Derived.Test.YtpmdfoaadejmkaaGreatDoorM10
import Derived.Test.YtpmdfoaadejmkaaGreatDoorM05
namespace Go.Proofs.YtpmdfoaadejmkaaGreatDoor
open Go.RowKit
theorem i7 {P : Program} (w : World) (t tn ty e : TypeId) (i : TypeInfo) (z : Value) (k kn : IntKind) (ht : P.underlying t = some (.slice e)) (htn : P.underlying tn = some (.int kn)) (hi : P.info? e = some i) (hz : i.zero = some z)
  (b : Addr) (sLen sCap : Nat) (olds : List Value) (hlo : olds.length = sLen * i.size) (holds : ∀ j v, olds[j]? = some v → w.cell? (b.add j) = some v)
  (n : Nat) (h0 : 0 < n) (hs : 0 < i.size) (hg : sCap < sLen + n) (h63 : ((sLen + n : Nat) : Int) ≤ 9223372036854775807) (h48 : n * i.bytes ≤ 281474976710656) (hfit : Builtin.nextslicecap (sLen + n) sCap * i.bytes ≤ 281474976710656) :
  (Builtin.append_ #[t, tn] ty #[.slice (some b) sLen sCap, .int k n]).run P w =
   .ok (.slice (some ⟨w.heap.size, 0, none⟩) (sLen + n) (grownCap w (sLen + n) sCap e)) (w.drew.alloc (.cells (olds.toArray ++ Builtin.zeroCells z.cells n ++ Builtin.zeroCells z.cells (grownCap w (sLen + n) sCap e - (sLen + n))) e)) := by
 have hn : n ≠ 0 := by omega
 have hnn : ¬ (sLen + n ≤ sCap) := by omega
 have hw : IntKind.i64.wrap (n : Int) = n := by rw [IntKind.wrap_i64]; omega
 have h63' : ¬ (9223372036854775807 < ((sLen : Int) + (n : Int))) := by omega
 have h48' : ¬ (281474976710656 < Builtin.nextslicecap (sLen + n) sCap * i.bytes) := by omega
 have h48i : ¬ (281474976710656 < (n : Int) * (i.bytes : Int)) := by
  rw [← Int.natCast_mul]
  omega
 have hneg : ¬ ((n : Int) < 0) := by omega
 have hns : ¬ (n * i.size = 0) := Nat.mul_ne_zero hn (by omega)
 have hfo := run_firstCells_some (P := P) w.drew i.size sLen b sLen sCap olds hlo (by simpa using holds)
 simp [Builtin.append_, run_underlying ht, run_underlying htn, sizeOf, typeInfo, zeroValue, hi, hz, asInt, asIntOf, hw, hn, hnn, hneg, hns, h63', h48', h48i, Question.forced, hfo, newRow, grownCap]
section
variable {P : Program} {fr : bw} {B : Bs} {L : AL} {d : Option Tmp} {ty t t' tn : TypeId} {pos : String} {af : Array Edge} {g : Option (Nat × Bool)} {x y z q : Operand} {u : AV}
theorem q7 (i : Nat) {e sz by_ b n cap m : Nat} {k kn : IntKind} {a : Int} {cs : List AV} {zs : List Value} (hc : jf P t e sz by_) (hs0 : 0 < sz) (hz : CZ P e zs) (hz1 : zs.all (·.oneCell') = true) (hn' : P.underlying tn = some (.int kn)) (hx : aX fr x = some (.sc (.slice (some ⟨b, 0, none⟩) n cap))) (hy : aX fr y = some (.sc (.int k a))) (ha : a = (m : Int)) (h0 : 0 < m) (hL : L[i]? = some (b, .box cs e)) (hcl : cap * sz ≤ cs.length) (hn : n ≤ cap) (hg : cap < n + m) (h63 : n + m ≤ maxLen) (hby : (n + m) * by_ ≤ 140737488355328) :
  AO P ⟨d, .call ⟨.builtin .append, #[x, y], #[t, tn]⟩, ty, pos, af, g⟩ fr B L (fun r L' => ∃ b' cs' cap', r = .sc (.slice (some ⟨b', 0, none⟩) (n + m) cap') ∧ cap' * sz ≤ cs'.length ∧ cs'.take (n * sz) = cs.take (n * sz) ∧ n + m ≤ cap' ∧ cap' ≤ maxLen ∧ L' = (b', .box cs' e) :: L) := by
 intro σ ρ w hρ hw
 subst ha
 have hxv := (hρ x _ hx).sc_inv
 haveI := hc
 obtain ⟨inf, zz, hi, hsz, rfl, hzz, hzs⟩ := hc.info
 have hzc := hz.cells hi hzz w
 obtain ⟨o, ho, vs, rfl, hvs, h1⟩ := hw.here _ (Dw hL)
 have hl := hvs.1
 have hnc : n * sz ≤ cap * sz := Nat.mul_le_mul_right _ hn
 have hm63 := h63
 unfold maxLen at h63
 unfold fw
 have holds : ∀ j v, (vs.take (n * sz))[j]? = some v → w.cell? ((⟨b, 0, none⟩ : Addr).add j) = some v := fun j v hj => by
  rw [cU, Nat.zero_add, cn ho]
  have hjl := (Dp hj).1
  rw [List.length_take] at hjl
  rw [List.getElem?_take_of_lt (by omega)] at hj
  simpa using hj
 have hbm : m * inf.bytes ≤ (n + m) * inf.bytes := Nat.mul_le_mul_right _ (by omega)
 have hr := i7 (P := P) w t tn ty e inf zz k kn hc.under hn' hi hzz ⟨b, 0, none⟩ n cap (vs.take (n * sz)) (by rw [hsz, List.length_take]; omega) holds m h0 (by omega) hg (by omega) (by omega) (growslice_fits (by omega) hby)
 rw [show (execOp ρ ⟨d, .call ⟨.builtin .append, #[x, y], #[t, tn]⟩, ty, pos, af, g⟩).run P w = .ok (.value (.slice (some ⟨w.heap.size, 0, none⟩) (n + m) (grownCap w (n + m) cap e))) (w.drew.alloc (.cells ((vs.take (n * sz)).toArray ++ Builtin.zeroCells zz.cells m ++ Builtin.zeroCells zz.cells (grownCap w (n + m) cap e - (n + m))) e)) by
  simp [execOp, resolve, hxv, (hρ y _ hy).sc_inv, invoke, builtin, hr]]
 have hge := grownCap_ge w (n + m) cap e
 have hgm := grownCap_le_maxLen w (n + m) cap e hm63
 have hzl : ∀ k, (Builtin.zeroCells zz.cells k).toList.length = k * sz := fun k => by rw [Array.length_toList, size_zeroCells, hzs]
 have hzm : ∀ k, ∀ v ∈ (Builtin.zeroCells zz.cells k).toList, v.oneCell' = true := fun k v hv => by
  have := gc hv
  rw [hzc] at this
  exact List.all_eq_true.1 hz1 v (by simpa using this)
 generalize grownCap w (n + m) cap e = cap' at *
 have hmc : cap' * sz = n * sz + (m * sz + (cap' - (n + m)) * sz) := by rw [← Nat.add_mul, ← Nat.add_mul]; congr 1; omega
 have hzl' := hzl (cap' - (n + m))
 have hzm' := hzm (cap' - (n + m))
 have hzl2 := hzl m
 have hzm2 := hzm m
 generalize Builtin.zeroCells zz.cells (cap' - (n + m)) = zc at *
 generalize Builtin.zeroCells zz.cells m = zd at *
 refine ⟨σ, .sc _, _, bK.le_refl _, .sc _, (hw.drew _).alloc _ (.box (cs.take (n * sz) ++ zd.toList.map AV.sc ++ zc.toList.map AV.sc) e) ⟨vs.take (n * sz) ++ zd.toList ++ zc.toList, by simp, eG (eG (fR hvs _) (pR _)) (pR _), fun u hu => ?_⟩, w.heap.size, _, cap', rfl, ?_, ?_, hge, hgm, rfl⟩
 ·rcases List.mem_append.1 hu with hu | hu
  ·rcases List.mem_append.1 hu with hu | hu
   ·exact h1 _ (List.mem_of_mem_take hu)
   ·exact hzm2 u hu
  ·exact hzm' u hu
 ·simp only [List.length_append, Du, hzl', hzl2, List.length_take]; omega
 ·rw [List.append_assoc, List.take_append_of_le_length (by simp; omega), List.take_of_length_le (by simp; omega)]
end
section
variable {P : Program} {tt : TT} {r : Option Nat} {ops : Array Oper} {Q : Exit → Act → World → Prop} {nt : Nat} {D : List Deferred} {fr : bw} {B : Bs} {L : AL} {rest : List Oper} {d : Nat} {ty t t' tn : TypeId} {pos : String} {af : Array Edge} {x y z : Operand} {u : AV}
theorem sn (ok : dl P tt) (i m : Nat) {e sz by_ b n cap : Nat} {k kn : IntKind} {a : Int} {cs : List AV} {zs : List Value} (ht : iJ tt t = some (e, sz, by_)) (hz : zI tt e = some zs) (hz1 : zs.all (·.oneCell') = true) (hn' : P.underlying tn = some (.int kn)) (hx : aX fr x = some (.sc (.slice (some ⟨b, 0, none⟩) n cap))) (hy : aX fr y = some (.sc (.int k a))) (ha : a = (m : Int)) (h0 : 0 < m) (hL : L[i]? = some (b, .box cs e)) (hcl : cap * sz ≤ cs.length) (hn : n ≤ cap) (hg : cap < n + m) (h63 : n + m ≤ maxLen) (hby : (n + m) * by_ ≤ 140737488355328) (hd : Nat.ble nt d = false)
  (h : ∀ b' cs' cap', cap' * sz ≤ cs'.length → cs'.take (n * sz) = cs.take (n * sz) → n + m ≤ cap' → cap' ≤ maxLen → bh P r ops Q nt D rest ((d, .sc (.slice (some ⟨b', 0, none⟩) (n + m) cap')) :: fr) B ((b', .box cs' e) :: L)) :
  bh P r ops Q nt D (⟨some d, .call ⟨.builtin .append, #[x, y], #[t, tn]⟩, ty, pos, af, none⟩ :: rest) fr B L :=
 c6 hd rfl (q7 i (b9 ok ht).1 (b9 ok ht).2 (eH ok hz) hz1 hn' hx hy ha h0 hL hcl hn hg h63 hby) fun c L' ⟨b', cs', cap', h1, h2, h3, h4, h5, h7⟩ => by subst h1; subst h7; exact h b' cs' cap' h2 h3 h4 h5
theorem B0 (ok : dl P tt) (lo hi : Nat) {e sz by_ b n cap : Nat} {k k2 : IntKind} {a a2 : Int} {q : Operand} (ht : iJ tt t = some (e, sz, by_)) (hx : aX fr x = some (.sc (.slice (some ⟨b, 0, none⟩) n cap))) (hq : aX fr q = some (.sc (.int k2 a2))) (ha2 : a2 = (lo : Int)) (hy : aX fr y = some (.sc (.int k a))) (ha : a = (hi : Int)) (h0 : lo < hi) (h1 : hi ≤ cap) (hd : Nat.ble nt d = false) (h : bh P r ops Q nt D rest ((d, .sc (.slice (some ⟨b, lo * sz, none⟩) (hi - lo) (cap - lo))) :: fr) B L) :
  bh P r ops Q nt D (⟨some d, .slice t x (some q) (some y) none, ty, pos, af, none⟩ :: rest) fr B L := by
 refine bO (fun σ ρ w hρ _ => ?_) hd rfl h
 haveI := (b9 ok ht).1
 subst ha; subst ha2
 have e6 : ¬ (cap - lo = 0) := by omega
 have e7 : ¬ (cap = lo) := by omega
 have e8 : lo ≤ hi := by omega
 refine ⟨_, ?_, .sc _⟩
 simp [execOp, (hρ x _ hx).sc_inv, (hρ y _ hy).sc_inv, (hρ q _ hq).sc_inv, Instr.sliceAt, Instr.slice, Instr.sliceBounds, Instr.sliceBound, asIntOf, run_underlying (b9 ok ht).1.under, cq (t := t), e6, e7, e8, h1, cU]
theorem B2 (ok : dl P tt) (lo hi m : Nat) {e sz by_ b n cap : Nat} {k k' k2 : IntKind} {a a' a2 : Int} {q : Operand} (ht : iJ tt t = some (e, sz, by_)) (hx : aX fr x = some (.sc (.slice (some ⟨b, 0, none⟩) n cap))) (hq : aX fr q = some (.sc (.int k2 a2))) (ha2 : a2 = (lo : Int)) (hy : aX fr y = some (.sc (.int k a))) (ha : a = (hi : Int)) (hz : aX fr z = some (.sc (.int k' a'))) (ha' : a' = (m : Int)) (h0 : lo < hi) (h1 : hi ≤ m) (h2 : m ≤ cap) (hd : Nat.ble nt d = false) (h : bh P r ops Q nt D rest ((d, .sc (.slice (some ⟨b, lo * sz, none⟩) (hi - lo) (m - lo))) :: fr) B L) :
  bh P r ops Q nt D (⟨some d, .slice t x (some q) (some y) (some z), ty, pos, af, none⟩ :: rest) fr B L := by
 refine bO (fun σ ρ w hρ _ => ?_) hd rfl h
 haveI := (b9 ok ht).1
 subst ha; subst ha'; subst ha2
 have e4 : ¬ (cap < m) := by omega
 have e6 : ¬ (m - lo = 0) := by omega
 have e7 : ¬ (m = lo) := by omega
 have e8 : lo ≤ hi := by omega
 refine ⟨_, ?_, .sc _⟩
 simp [execOp, (hρ x _ hx).sc_inv, (hρ y _ hy).sc_inv, (hρ z _ hz).sc_inv, (hρ q _ hq).sc_inv, Instr.sliceAt, Instr.slice, Instr.sliceBounds, Instr.sliceBound, asIntOf, run_underlying (b9 ok ht).1.under, cq (t := t), e4, e6, e7, e8, h1, h2, cU]
end
theorem xX {P : Program} {fr : bw} {t ty : TypeId} {x y : Operand} {pos : String} {af : Array Edge} {g : Option (Nat × Bool)} {dd : Option Tmp} {e sz by_ b n cap lo : Nat} {k : IntKind} {a : Int} (hc : jf P t e sz by_) (hx : aX fr x = some (.sc (.slice (some ⟨b, 0, none⟩) n cap))) (hy : aX fr y = some (.sc (.int k a))) (ha : a = (lo : Int)) (h : lo ≤ n) (hn : n ≤ cap) : Av P ⟨dd, .slice t x (some y) none none, ty, pos, af, g⟩ fr (.sc (.slice (some ⟨b, if cap = lo then 0 else lo * sz, none⟩) (n - lo) (cap - lo))) := by
 intro σ ρ w hρ _
 subst ha
 haveI := hc
 refine ⟨_, ?_, .sc _⟩
 by_cases h3 : cap = lo
 ·have : n = lo := by omega
  subst h3; subst this
  simp [execOp, (hρ x _ hx).sc_inv, (hρ y _ hy).sc_inv, Instr.sliceAt, Instr.slice, Instr.sliceBounds, Instr.sliceBound, asIntOf, run_underlying hc.under, cq (t := t)]
 ·simp [execOp, (hρ x _ hx).sc_inv, (hρ y _ hy).sc_inv, Instr.sliceAt, Instr.slice, Instr.sliceBounds, Instr.sliceBound, asIntOf, run_underlying hc.under, cq (t := t), h, h3, cU]
section
variable {P : Program} {tt : TT} {l : List Oper} {fr : bw} {fin : jn} {sk : lm} {acc : bw} {L : AL} {k : Nat} {dd : Option Tmp} {ty t : TypeId} {pos : String} {af : Array Edge} {g : Option (Nat × Bool)} {x y : Operand}
theorem yl (ok : dl P tt) (hi : Nat) {e sz by_ b off n cap : Nat} {q : IntKind} {a : Int} (ht : iJ tt t = some (e, sz, by_)) (hx : aX (cl l.toArray acc fr af.toList) x = some (.sc (.slice (some ⟨b, off, none⟩) n cap))) (hy : aX (cl l.toArray acc fr af.toList) y = some (.sc (.int q a))) (ha : a = (hi : Int)) (h1 : hi ≤ cap) (hg : iQ ⟨dd, .slice t x none (some y) none, ty, pos, af, g⟩ acc) (h : DA P l fr fin sk ((k, .sc (.slice (some ⟨b, off, none⟩) hi cap)) :: acc) L) : cC P l fr fin k .v ⟨dd, .slice t x none (some y) none, ty, pos, af, g⟩ sk acc L := eR hg (z1 (sV (b9 ok ht).1 hx hy ha h1)) h
theorem t8 (ok : dl P tt) (lo : Nat) {e sz by_ b n cap : Nat} {q : IntKind} {a : Int} (ht : iJ tt t = some (e, sz, by_)) (hx : aX (cl l.toArray acc fr af.toList) x = some (.sc (.slice (some ⟨b, 0, none⟩) n cap))) (hy : aX (cl l.toArray acc fr af.toList) y = some (.sc (.int q a))) (ha : a = (lo : Int)) (h1 : lo ≤ n) (hn : n ≤ cap) (hg : iQ ⟨dd, .slice t x (some y) none none, ty, pos, af, g⟩ acc) (h : DA P l fr fin sk ((k, .sc (.slice (some ⟨b, if cap = lo then 0 else lo * sz, none⟩) (n - lo) (cap - lo))) :: acc) L) : cC P l fr fin k .v ⟨dd, .slice t x (some y) none none, ty, pos, af, g⟩ sk acc L := eR hg (z1 (xX (b9 ok ht).1 hx hy ha h1 hn)) h
end
section
variable {P : Program} {tt : TT} {l : List Oper} {fr : bw} {fin : jn} {sk : lm} {acc : bw} {L : AL} {k : Nat} {dd : Option Tmp} {ty t : TypeId} {pos : String} {af : Array Edge} {g : Option (Nat × Bool)} {x y : Operand} {u : AV}
theorem wm (ok : dl P tt) (i : Nat) {b q n : Nat} {cs ys : List AV} {e : TypeId} (ht : Bo tt t = some n) (hx : aX (cl l.toArray acc fr af.toList) x = some (.sc (.pointer (some ⟨b, q, none⟩)))) (hy : aX (cl l.toArray acc fr af.toList) y = some u) (hu : u.cells = some ys) (hL : L[i]? = some (b, .box cs e)) (hn : Nat.beq ys.length n = true) (hk : Nat.ble (q + n) cs.length = true) (hK : eL fin.gs (eQ L i (.box (eI cs q ys) e))) (hg : iQ ⟨dd, .store t x y, ty, pos, af, g⟩ acc) (h : ∀ c, DA P l fr fin sk ((k, c) :: acc) (eQ L i (.box (eI cs q ys) e))) :
  cC P l fr fin k .f ⟨dd, .store t x y, ty, pos, af, g⟩ sk acc L := tc (fun c L' h1 _ => by subst h1; exact hK) hg (fun _ => jN i (kx ok ht) hx hy hu hL hn hk) fun c L' h1 => by subst h1; exact h c
end
theorem k9 {q : Nat × Nat × AV} {L : AL} (i : Nat) {cs : List AV} {e : TypeId} (hL : L[i]? = some (q.1, .box cs e)) (hc : cs[q.2.1]? = some q.2.2) : eL [.cell q] L := fun p hp => by
 rw [List.mem_singleton] at hp
 subst hp
 exact ⟨cs, e, Dw hL, hc⟩
end Go.Proofs.YtpmdfoaadejmkaaGreatDoor
namespace Go.Proofs.YtpmdfoaadejmkaaGreatDoor
open Go.RowKit
section
variable {P : Program} {b : Frame} {a : Act} {k : List Item} {cs : List Frame} {w : World} {Q : Exit → Act → World → Prop} {F : Fence} {n : Nat}
theorem ei {c : Code} : step P (lone (b.atR a (.code (.scope c) :: k)) cs w) = .next (lone (b.atR a (.code c :: .inScope c :: k)) cs w) :=
 step_lone_go (by simp [stepG, stepG.exec, Frame.atR])
theorem nQ {c : Code} : step P (lone (b.atR a (.inScope c :: k)) cs w) = .next (lone (b.atR a k) cs w) :=
 step_lone_go (by simp [stepG, stepG.exec, Frame.atR])
theorem sP {c : Code} (h : c.wpIn F n P (Exit.noGoto Q) a w) : (Code.scope c).wpIn F n P Q a w := by
 intro b k cs hro hb hr
 have h0 : (lone (b.atR a (.code (.scope c) :: k)) cs w).fenced P F := fenced_calm hb hr rfl
 obtain ⟨e, a₁, w₁, hq, harr⟩ := h b (.inScope c :: k) cs hro hb hr
 cases e with
 | normal => exact ⟨.normal, a₁, w₁, hq, .head h0 ei (StepsIn.trans harr (.one (fenced_calm hb hr rfl) nQ))⟩
 | exit id =>
  have hx : exitTo id (.inScope c :: k) = exitTo id k := by simp [exitTo]
  exact ⟨.exit id, a₁, w₁, hq, fun k' hk => .head h0 ei (harr.1 k' (by rw [hx]; exact hk)),
   fun hr' hk => let ⟨k₁, h1, h2⟩ := harr.2 hr' (by rw [hx]; exact hk); ⟨k₁, h1, .head h0 ei h2⟩⟩
 | goto l => exact hq.elim
 | ret => exact ⟨_, a₁, w₁, hq, .of_steps (.one h0 ei) harr⟩
 | panic ch => exact ⟨_, a₁, w₁, hq, .of_steps (.one h0 ei) harr⟩
 | outgrown => exact ⟨_, a₁, w₁, hq, .of_steps (.one h0 ei) harr⟩
end
section
variable {P : Program} {r : Option Nat} {Q : Exit → Act → World → Prop} {nt : Nat} {D : List Deferred} {fr : bw} {B : Bs} {L : AL}
theorem vU {c : Code} (h : AT P r c (Exit.noGoto Q) nt D fr B L) : AT P r (.scope c) Q nt D fr B L := fun σ a w ha hw => sP (h σ a w ha hw)
theorem AF (h : AX P .normal Q nt D fr B L) : AX P .normal (Exit.noGoto Q) nt D fr B L := fun σ a w ha hw => h σ a w ha hw
end
end Go.Proofs.YtpmdfoaadejmkaaGreatDoor
namespace Go.Proofs.YtpmdfoaadejmkaaGreatDoor
open Go.RowKit
section
variable {nt : Nat} {fr : bw} {B : Bs} {L : AL} {D : List Deferred}
theorem iL {t b e sz n cap : Nat} {cs : List AV} {l : List (List AV)} (i : Nat) (hl : bF fr t = some (.sc (.slice (some ⟨b, 0, none⟩) n cap))) (hL : L[i]? = some (b, .box cs e)) (hc : cs.take (n * sz) = l.flatten) (hcl : n * sz ≤ cs.length) (hs : ∀ q ∈ l, q.length = sz) (hn : l.length = n) (hnc : n ≤ cap) (hm : cap ≤ maxLen) : jL nt D B fr L ((t, .imm sz l) :: fr) (L.eraseIdx i) := by
 intro σ a w ha hw0
 have hw := hw0.perm (ec hL)
 obtain ⟨o, ho, vs, rfl, hvs, h1⟩ := hw.here _ (List.mem_cons_self ..)
 have hfree := hw.free _ (List.mem_cons_self ..)
 have hvl : vs.length = cs.length := hvs.1.symm
 have hst : cm B σ ((b, .vec e cs.length 0 1) :: L.eraseIdx i) w := by
  refine ⟨hw.os, hw.tape, hw.output, hw.size, hw.old, fun p hp => ?_, fun p hp => ?_, by simpa using hw.apart, hw.froz, fun p hp off hm => ?_, hw.grow, hw.same⟩
  ·rcases List.mem_cons.1 hp with rfl | hp'
   ·exact ⟨_, ho, _, rfl, by simp [hvl], Nat.zero_le _, by unfold maxLen; omega⟩
   ·exact hw.here p (Dt _ hp')
  ·rcases List.mem_cons.1 hp with rfl | hp'
   ·exact hw.mine (b, .box cs e) (List.mem_cons_self ..)
   ·exact hw.mine p (Dt _ hp')
  ·rcases List.mem_cons.1 hp with rfl | hp'
   ·exact hfree off trivial
   ·exact hw.free p (Dt _ hp') off hm
 obtain ⟨hst', hle⟩ := hst.freezeHead (n' := 1) (xs := vs) (fun j u hj => by rw [cn ho]; simpa using hj) (by omega) (Nat.zero_le _) (Nat.le_refl _)
 have hv : VR (σ.add b vs) (.vec (some (b, cap)) sz l) (.slice (some ⟨b, 0, none⟩) n cap) := by
  have := iM (σ := σ.add b vs) (b := b) (cap := cap) hs (by rw [← hc]; exact (fR hvs _).mono hle) (fun u hu => h1 u (List.mem_of_mem_take hu)) (by omega) hm (fun j u hj => bK.add_at (by
   rw [List.getElem?_take] at hj
   split at hj
   ·exact hj
   ·cases hj))
  rwa [hn] at this
 refine ⟨_, ?_, hst'.sublist (.cons _ (List.Sublist.refl _))⟩
 have ha' := ha.mono hle
 refine ⟨ha'.size, ha'.defers, fun t' v' hl' => ?_⟩
 rw [bM] at hl'
 by_cases e : t = t'
 ·subst e
  simp only [if_true, Option.some.injEq] at hl'
  subst hl'
  rw [(ha.look t _ hl).sc_inv]
  exact hv.im
 ·rw [if_neg e] at hl'
  exact ha'.look t' v' hl'
end
end Go.Proofs.YtpmdfoaadejmkaaGreatDoor
namespace Go.Proofs.YtpmdfoaadejmkaaGreatDoor
open Go.RowKit
attribute [local irreducible] AT bh AX AO Av Kt b6 di DA cC
def BV (l : List ByteArray) (s : ByteArray) : Bool := l.any fun t => decide (t = s)
def zP (f : aN) (n : Int) : Bool := match f.Lookups[n.toNat]? with
 | some l => decide (0 ≤ n ∧ (l.Kind = 1 ∨ l.Kind = 2 ∨ l.Kind = 3 ∨ l.Kind = 4))
 | none => false
def xy (l : List (List Int)) : Nat := (l.map fun q => 1 + q.length).sum
def Ca (r : aV) : Nat := r.Out.length + r.Calls.length + (xy r.Back + xy r.In + xy r.Ahead)
def Bi (l : List aV) : Nat := l.length + (l.map Ca).sum
def AM (g : bb) : Nat := g.Points.length + g.Parts.length + g.Anchors.length + g.Deltas.length + g.Hint.length + g.Name.size / 100
def BS (t : bQ) : Nat := t.Lookups.length + t.Name.size / 100
def BT (f : aN) : Nat := f.Glyphs.length + f.Chars.length + f.Lookups.length + f.Features.length + f.Axes.length + f.Regions.length + f.Funcs.length + f.Cvt.length + (f.Glyphs.map AM).sum + (f.Lookups.map fun l => Bi l.Rules).sum + (f.Funcs.map (·.length)).sum + (f.Features.map BS).sum + (f.Regions.map (·.length)).sum
def Bu (f : aN) : Prop := BT f ≤ 2000
section
variable {f : aN} (hs : Bu f)
include hs
end
inductive pW (f : aN) (fs : List ByteArray) : Int → Prop
 | base {t : bQ} {n : Int} (h : t ∈ f.Features) (hn : BV fs t.Name = true) (hm : n ∈ t.Lookups) (h0 : 0 ≤ n) (h1 : n < f.Lookups.length) : pW f fs n
 | call {m : Int} {l : aQ} {r : aV} {c : ic} (h : pW f fs m) (hl : f.Lookups[m.toNat]? = some l) (hk : l.Kind = 4) (hr : r ∈ l.Rules) (hc : c ∈ r.Calls) (hn : zP f c.Lookup = true) : pW f fs c.Lookup
open Classical in
noncomputable def CN (f : aN) (fs : List ByteArray) : List Int := ((List.range f.Lookups.length).map Int.ofNat).filter fun z => decide (pW f fs z)
theorem dR {l : List Int} {n : Nat} (h : l.Nodup) (hi : ∀ z ∈ l, 0 ≤ z ∧ z < n) : l.length ≤ n := by
 induction n generalizing l with
 | zero =>
  cases l with
  | nil => exact Nat.zero_le _
  | cons a l => have := hi a (List.mem_cons_self ..); omega
 | succ n ih =>
  by_cases hm : (n : Int) ∈ l
  ·have h1 := ih (l := l.erase n) (h.erase _) fun z hz => by
    have := (h.mem_erase_iff).1 hz
    have := hi z this.2
    omega
   rw [List.length_erase_of_mem hm] at h1
   omega
  ·have := ih h fun z hz => by
    have := hi z hz
    have : z ≠ n := fun e => hm (e ▸ hz)
    omega
   omega
end Go.Proofs.YtpmdfoaadejmkaaGreatDoor
namespace Go.Proofs.YtpmdfoaadejmkaaGreatDoor
open Go.RowKit
attribute [local irreducible] AT bh AX AO Av Kt b6 di DA cC
def ii (l : List Int) : Prop := l.Pairwise (· < ·)
theorem xl {l : List Int} (h : ii l) {i : Nat} {x y : Int} (hx : l[i]? = some x) (hy : l[i + 1]? = some y) : x < y := by
 obtain ⟨h1, h2⟩ := Dp hx
 obtain ⟨h3, h4⟩ := Dp hy
 have := List.pairwise_iff_getElem.1 h i (i + 1) h1 h3 (by omega)
 rw [h2, h4] at this
 exact this
theorem f0 {l : List Int} (h : ii l) : l.Nodup := h.imp fun hlt => by omega
theorem pK (l : List Int) (h : ii l) : bn Tryz.prog 253 [.imm 1 (aT l)] (dx true) := by
 refine aC Tryz.func253 rfl Tryz.ntmps253 rfl fun B => ?_
 refine ci 0 rfl rfl fun hlen => ?_
 have hll := aW l
 rw [hll] at hlen
 repeat' (first|refine a9 ?_|refine a4 ?_|refine ak ?_|refine a6 ?_|refine a7 ?_|refine a8 a5 rfl rfl ?_)
 refine aL [0] (α := Nat) (fun i => [(3, aA ((i : Int) + 1))]) (fun i => i ≤ l.length) (fun _ => []) (fun i => l.length - i) 0 rfl ⟨rfl, trivial⟩ (Nat.zero_le _) (fun _ _ h => h) fun i hi => ?_
 try dsimp only [Ds, Dr, Dq, Dn]
 repeat' (first|refine a9 ?_|refine a4 ?_|refine a6 ?_|refine a7 ?_|refine a8 a5 rfl rfl ?_)
 refine ar rfl (fun h1 => ?_) (fun h1 => ?_)
 ·have hil : i + 1 < l.length := by have := Dz h1; omega
  obtain ⟨x, hx⟩ : ∃ z, l[i]? = some z := ⟨_, Bn (by omega)⟩
  obtain ⟨y, hy⟩ : ∃ z, l[i + 1]? = some z := ⟨_, Bn hil⟩
  have hxy := xl h hx hy
  have e1 : ((i : Int) + 1).toNat = i + 1 := by omega
  have e2 : ((i : Int) + 1 - 1).toNat = i := by omega
  have hxg : (aT l)[((i : Int) + 1 - 1).toNat]? = some [aA x] := by rw [e2]; exact bJ hx
  have hyg : (aT l)[((i : Int) + 1).toNat]? = some [aA y] := by rw [e1]; exact bJ hy
  clear h1
  repeat' (first|refine a9 ?_|refine ak ?_|refine ai ?_|refine a6 ?_)
  refine bk 9 [(0, .v), (1, .v), (2, .v), (3, .v), (4, .v), (5, .v), (6, .v), (7, .v), (8, .v)] none ?_ trivial rfl (by kernel_rfl) (by kernel_rfl) (by kernel_rfl) c9 (by kernel_rfl) rfl
  repeat' (first|refine aD ?_|refine bi a5 ?_|(apply ir;refine lE ?_)|(apply cD;refine d3 a5 ?_)|fail)
  refine bz [0, 3, 13, 18] rfl rfl ?_
  repeat' (first|refine a6 ?_|refine a7 ?_|refine a8 a5 rfl rfl ?_)
  refine ar rfl (fun h2 => ?_) (fun _ => ?_)
  ·have := Dz h2
   omega
  repeat' (first|refine a4 ?_|refine ai ?_|refine a6 ?_|refine aH ?_|refine a7 ?_|refine a8 a5 rfl rfl ?_|(apply aU; refine aS ?_)|fail)
  exact az (i + 1) rfl ⟨by rw [Dv]; rfl, trivial⟩ (by omega) (by omega) (fun _ _ h => h)
 ·repeat' (first|refine a9 ?_|refine a4 ?_|refine ah ?_|refine aM ?_|refine a6 ?_|refine au ?_|refine aw ?_|refine av ?_|refine a7 ?_|refine a8 a5 rfl rfl ?_)
  exact an rfl rfl rfl
theorem xw (l : List Int) (h : ii l) : bn Tryz.prog 177 [.imm 1 (aT l)] (.imm 1 (aT l)) := by
 refine aC Tryz.func177 rfl Tryz.ntmps177 rfl fun B => ?_
 haveI := AD.mk (pK l h)
 repeat' (first|refine a9 ?_|refine a4 ?_|refine ah ?_|refine a6 ?_|refine aq ?_|refine a7 ?_|refine a8 a5 rfl rfl ?_|(apply bc;refine b7 ?_)|refine bv rfl ?_)
 exact an rfl rfl rfl
def tM (k : Int) (t : List Int) : Value → Option AV
 | .int .i64 z => if t.contains z = true then some (aA (k + (t.idxOf z : Nat))) else none
 | _ => none
theorem xD (k : Int) : tM k [] = fun _ => none := by
 funext v
 unfold tM
 split <;> rfl
theorem pP {k : Int} {t : List Int} {z : Int} (h : z ∈ t) : tM k t (.int .i64 z) = some (aA (k + (t.idxOf z : Nat))) := if_pos (List.contains_iff_mem.2 h)
theorem tS {k : Int} {t : List Int} {z : Int} (h : z ∉ t) : tM k t (.int .i64 z) = none := if_neg fun e => h (List.contains_iff_mem.1 e)
theorem xF {k : Int} {t : List Int} {z : Int} (h : z ∉ t) : tM k (cV t z) (.int .i64 z) = some (aA (k + (t.length : Nat))) := by rw [pP (iK t z), kz h]
theorem tR {k : Int} {t : List Int} {z : Int} (h : z ∉ t) : ∀ q, q ≠ .int .i64 z → tM k (cV t z) q = tM k t q := by
 intro q hq
 unfold tM
 split
 ·rename_i y
  have hne : y ≠ z := fun e => hq (by rw [e])
  have hm : (cV t z).contains y = t.contains y := by
   rw [eD h, Bool.eq_iff_iff, List.contains_iff_mem, List.contains_iff_mem]
   simp [hne]
  rw [hm]
  split
  ·rename_i hc
   rw [nz z (List.contains_iff_mem.1 hc)]
  ·rfl
 ·rfl
theorem zu (k : Int) (t : List Int) : ∀ v, (tM k t v).isSome = true ↔ v ∈ t.map (Value.int .i64) := by
 intro v
 unfold tM
 split
 ·rename_i z
  rw [List.mem_map]
  split
  ·rename_i hc
   exact ⟨fun _ => ⟨z, List.contains_iff_mem.1 hc, rfl⟩, fun _ => rfl⟩
  ·rename_i hc
   refine ⟨fun h => (by cases h), fun ⟨y, hy, he⟩ => ?_⟩
   cases he
   exact absurd (List.contains_iff_mem.2 hy) hc
 ·rename_i hv
  refine ⟨fun h => (by cases h), fun h => ?_⟩
  obtain ⟨y, _, rfl⟩ := List.mem_map.1 h
  exact absurd rfl (hv y)
theorem sd {t : List Int} (h : t.Nodup) : (t.map (Value.int .i64)).Pairwise (· ≠ ·) := List.pairwise_map.2 (h.imp fun hne e => hne (by cases e; rfl))
def cJ (l : List Int) : List AV := l.map fun z => aA z
theorem fA (l : List Int) : (cJ l).length = l.length := by simp [cJ]
theorem mG {l : List Int} {i : Nat} {z : Int} (h : l[i]? = some z) : (cJ l)[0 + ((i : Nat) : Int).toNat * 1]? = some (aA z) := by simp [cJ, h]
theorem fB {l : List Int} {i : Nat} {z : Int} : eI (cJ l) (0 + ((i : Nat) : Int).toNat * 1) [aA z] = cJ (l.set i z) := by
 rw [fM]
 unfold cJ
 rw [List.map_set]
 simp
theorem lB (n : Nat) : (List.replicate n [aA 0]).flatten = cJ (List.replicate n 0) := by
 induction n with
 | zero => rfl
 | succ n ih => rw [List.replicate_succ, List.flatten_cons, ih, List.replicate_succ]; rfl
theorem lA (l : List Int) : cJ l = (aT l).flatten := by
 induction l with
 | nil => rfl
 | cons z l ih => simp [cJ, aT] at ih ⊢; exact ih
theorem jR {mb cb : Nat} {M : AB} {c c' : List AV} (h : c = c') : [(mb, M), (cb, AB.box c 3)] = [(mb, M), (cb, .box c' 3)] := by rw [h]
theorem yQ {l : List Int} {g : Int} {z : Int} (h : l[g.toNat]? = some z) : l.getD g.toNat 0 = z := by rw [List.getD_eq_getElem?_getD, h]; rfl
theorem vm {l : List Int} {k : Nat} {z : Int} (h : l[k]? = some z) : (eE (l.take k) ++ l.drop k).set k ((cV (fS (l.take k)) z).idxOf z : Nat) = eE (l.take (k + 1)) ++ l.drop (k + 1) := by
 have hk := (Dp h).1
 rw [List.set_append, if_neg (by rw [eW, List.length_take]; omega), eW, List.length_take, Nat.min_eq_left (by omega), Nat.sub_self, List.drop_eq_getElem_cons hk, List.set_cons_zero, List.take_add_one, h]
 dsimp only [Option.toList]
 rw [sN, List.append_assoc]
 rfl
theorem zy {l : List Int} {k : Nat} {z : Int} (h : l[k]? = some z) : (eE (l.take k) ++ l.drop k)[k]? = some z := by
 have hk := (Dp h).1
 rw [List.getElem?_append_right (by rw [eW, List.length_take]; omega), eW, List.length_take, Nat.min_eq_left (by omega), Nat.sub_self, List.getElem?_drop]
 exact h
theorem vh {l : List Int} {k : Nat} {z : Int} (h : l[k]? = some z) : fS (l.take (k + 1)) = cV (fS (l.take k)) z := by
 rw [List.take_add_one, h]
 exact gy _ _
set_option maxHeartbeats 8000000 in
theorem nN (n : Nat) (h0 : 0 < n) (hn : n ≤ 65536) (sets : List (List Int)) (hs : ∀ s ∈ sets, ii s ∧ ∀ g ∈ s, 0 ≤ g ∧ g < (n : Int)) (hsl : sets.length ≤ 1000000) : bn Tryz.prog 98 [aA n, .imm 1 (b8 sets)] (.imm 1 (aT (cR n sets))) := by
 refine aC Tryz.func98 rfl Tryz.ntmps98 rfl fun B => ?_
 have hrl := bS sets
 repeat' (first|refine a9 ?_|refine a4 ?_|refine a6 ?_|refine a7 ?_|refine a8 a5 rfl rfl ?_)
 refine bH [0, 1] False rfl (fun Q' K => ?_) (fun hC => hC.elim) (fun _ => ?_)
 ·repeat' (first|refine a7 ?_|refine a8 a5 rfl rfl ?_|refine am rfl rfl ?_|refine ax rfl rfl rfl rfl ?_|refine aI rfl rfl rfl (fun _ => ?_) (fun _ => ?_))
  all_goals exact K _ _ rfl rfl (by simp_all <;> omega)
 repeat' (first|refine a9 ?_|refine a4 ?_|refine ai ?_|refine a6 ?_|refine a8 a5 rfl rfl ?_)
 refine iE a5 n rfl rfl rfl rfl rfl rfl rfl (by omega) (by omega) rfl fun cb => ?_
 rw [show (List.replicate n (List.map AV.sc [Value.int .i64 0])).flatten = cJ (List.replicate n 0) from lB n]
 repeat' (first|refine a9 ?_|refine a4 ?_|refine ak ?_|refine a6 ?_|refine a7 ?_|refine a8 a5 rfl rfl ?_)
 refine aL [0, 5, 28, 29] (α := Nat × List Int × Int) (fun s => [(30, aA s.1), (6, aA s.2.2)]) (fun s => s.1 ≤ sets.length ∧ (sets.drop s.1).foldl gU (s.2.1, s.2.2) = kq n sets ∧ s.2.1.length = n ∧ 0 ≤ s.2.2 ∧ s.2.2 ≤ 1 + s.1 * 65536) (fun s => [(cb, .box (cJ s.2.1) 3)]) (fun s => sets.length - s.1) (0, List.replicate n 0, 1) rfl ⟨rfl, rfl, trivial⟩ ⟨Nat.zero_le _, rfl, by simp, by dsimp only; omega, by dsimp only; omega⟩ (fun _ _ h => h) ?_
 ·rintro ⟨k, cls, k0⟩ ⟨hk, hf, hcl, hk0, hk1⟩
  dsimp only at hk hf hcl hk0 hk1 ⊢
  try dsimp only [Ds, Dr, Dq, Dn]
  repeat' (first|refine a9 ?_|refine a4 ?_|refine a6 ?_|refine a7 ?_|refine a8 a5 rfl rfl ?_)
  refine ar rfl (fun h1 => ?_) (fun h1 => ?_)
  ·have hk2 : k < sets.length := by have := Dz h1; omega
   obtain ⟨s, hsk⟩ : ∃ z, sets[k]? = some z := ⟨_, Bn hk2⟩
   have hsg := fu hsk
   obtain ⟨hri, hdm⟩ := hs s (Dw hsk)
   have hsn : s.length ≤ n := dR (f0 hri) hdm
   have hil := aW s
   haveI := AD.mk (xw s hri)
   rw [List.drop_eq_getElem_cons hk2, (Dp hsk).2, List.foldl_cons] at hf
   clear h1
   repeat' (first|refine a9 ?_|refine a4 ?_|refine ak ?_|refine ai ?_|refine a6 ?_|refine a7 ?_|refine a8 a5 rfl rfl ?_|(apply aF; first|refine aE a5 ?_|refine aB a5 ?_)|fail)
   refine eg KJ fun mb => ?_
   rw [← xD k0]
   repeat' (first|refine a9 ?_|refine a4 ?_|refine ak ?_|refine a6 ?_|refine a7 ?_|refine a8 a5 rfl rfl ?_|(apply bc;refine b7 ?_)|fail)
   refine aL [0, 5, 9, 28, 29, 30, 36, 37] (α := Nat × List Int × List Int) (fun t => [(38, aA t.1), (6, aA (k0 + (t.2.2.length : Nat)))]) (fun t => t.1 ≤ s.length ∧ (s.drop t.1).foldl (fG k0) (t.2.1, t.2.2) = s.foldl (fG k0) (cls, []) ∧ t.2.1.length = n ∧ t.2.2.length ≤ t.1) (fun t => [(mb, cg KJ (tM k0 t.2.2)), (cb, .box (cJ t.2.1) 3)]) (fun t => s.length - t.1) (0, cls, []) rfl ⟨rfl, by simp; rfl, trivial⟩ ⟨Nat.zero_le _, rfl, hcl, Nat.le_refl _⟩ (fun _ _ h => h) ?_
   rintro ⟨j, cl1, ap⟩ ⟨hj, hjf, hjl, hja⟩
   dsimp only at hj hjf hjl hja ⊢
   try dsimp only [Ds, Dr, Dq, Dn]
   repeat' (first|refine a9 ?_|refine a4 ?_|refine a6 ?_|refine a7 ?_|refine a8 a5 rfl rfl ?_)
   refine ar rfl (fun h1 => ?_) (fun h1 => ?_)
   ·have hj2 : j < s.length := by have := Dz h1; omega
    obtain ⟨g, hg⟩ : ∃ z, s[j]? = some z := ⟨_, Bn hj2⟩
    have hgg := bJ hg
    obtain ⟨hg0, hgn⟩ := hdm g (Dw hg)
    obtain ⟨z, hz⟩ : ∃ z, cl1[g.toNat]? = some z := ⟨_, Bn (by omega)⟩
    have hgt : ((g.toNat : Nat) : Int) = g := Int.toNat_of_nonneg hg0
    have hzc := mG hz
    rw [hgt] at hzc
    have hcc := fA cl1
    have hput : ∀ y, eI (cJ cl1) (0 + g.toNat * 1) [aA y] = cJ (cl1.set g.toNat y) := fun y => by
     have := fB (l := cl1) (i := g.toNat) (z := y)
     rwa [hgt] at this
    rw [List.drop_eq_getElem_cons hj2, (Dp hg).2, List.foldl_cons] at hjf
    have hmk : fG k0 (cl1, ap) g = (cl1.set g.toNat (k0 + ((cV ap z).idxOf z : Nat)), cV ap z) := by
     unfold fG
     rw [yQ hz]
    rw [hmk] at hjf
    have hal := nA ap z
    clear h1
    repeat' (first|refine a9 ?_|refine a4 ?_|refine ak ?_|refine ai ?_|refine a6 ?_|refine a7 ?_|refine a8 a5 rfl rfl ?_|(apply aF; first|refine aE a5 ?_|refine aB a5 ?_)|fail)
    refine bH [0, 5, 6, 9, 11, 28, 29, 30, 36, 37, 38] False rfl (fun Q' K => ?_) (fun hC => hC.elim) (fun _ => ?_)
    ·repeat' (first|refine a7 ?_|refine a8 a5 rfl rfl ?_|refine am rfl rfl ?_|refine ax rfl rfl rfl rfl ?_|refine aI rfl rfl rfl (fun _ => ?_) (fun _ => ?_))
     all_goals exact K _ _ rfl rfl (by simp_all <;> omega)
    repeat' (first|refine a9 ?_|refine a4 ?_|refine ai ?_|refine a6 ?_|refine a7 ?_|refine a8 a5 rfl rfl ?_|(apply bE; first|refine aj a5 0 rfl rfl rfl rfl rfl ?_|refine aj a5 1 rfl rfl rfl rfl rfl ?_|refine aj a5 2 rfl rfl rfl rfl rfl ?_|refine aj a5 3 rfl rfl rfl rfl rfl ?_|refine ay a5 0 rfl rfl rfl rfl rfl ?_|refine ay a5 1 rfl rfl rfl rfl rfl ?_|refine ay a5 2 rfl rfl rfl rfl rfl ?_|refine aj a5 1 rfl rfl rfl (by assumption) rfl ?_|refine aj a5 0 rfl rfl rfl (by assumption) rfl ?_|fail)|(apply aF; first|refine aE a5 ?_|refine aB a5 ?_)|fail)
    refine fq 0 (.int .i64 0) Tryz.underlying257 Tryz.underlying3 rfl rfl rfl rfl (by kernel_rfl) rfl ?_
    by_cases hm : z ∈ ap
    ·have hgs := pP (k := k0) hm
     have hta := dT hm
     rw [hta] at hjf
     rw [hgs]
     repeat' (first|refine a9 ?_|refine a4 ?_|refine ai ?_|refine a6 ?_|refine a7 ?_|refine a8 a5 rfl rfl ?_|refine bC rfl ?_)
     refine kj 0 (.int .i64 0) Tryz.underlying257 Tryz.underlying3 rfl rfl rfl rfl (by kernel_rfl) rfl ?_
     rw [hgs]
     repeat' (first|(apply aF; first|refine aE a5 ?_|refine aB a5 ?_)|fail)
     refine ad a5 1 rfl rfl rfl rfl rfl rfl (Nat.ble_eq_true_of_le (by rw [hcc]; simp; omega)) ?_
     refine aR (aY (L' := [(mb, cg KJ (tM k0 ap)), (cb, .box (cJ (cl1.set g.toNat (k0 + (ap.idxOf z : Nat)))) 3)]) (List.Perm.of_eq (jR (hput _)))) ?_
     repeat' (first|refine a4 ?_|refine a6 ?_|refine aH ?_|refine a7 ?_|refine a8 a5 rfl rfl ?_|(apply aU; refine aS ?_)|fail)
     exact az (j + 1, _, ap) rfl ⟨by rw [Dv]; rfl, rfl, trivial⟩ ⟨hj2, hjf, by rw [List.length_set]; exact hjl, by dsimp only; omega⟩ (by dsimp only; omega) (fun _ _ h => h)
    ·have hgn2 := tS (k := k0) hm
     have hgp := xF (k := k0) hm
     have hnew := kz hm
     have hnl : (cV ap z).length = ap.length + 1 := by rw [eD hm, List.length_append, List.length_singleton]
     rw [hgn2]
     repeat' (first|refine a9 ?_|refine a4 ?_|refine a6 ?_|refine a7 ?_|refine a8 a5 rfl rfl ?_|refine bv rfl ?_)
     refine d5 0 (tM k0 (cV ap z)) Tryz.underlying257 Tryz.underlying3 rfl rfl rfl rfl rfl hgp (tR hm) ?_
     repeat' (first|refine a4 ?_|refine a6 ?_|refine a7 ?_|refine a8 a5 rfl rfl ?_|(apply aU; refine aS ?_)|fail)
     refine kj 0 (.int .i64 0) Tryz.underlying257 Tryz.underlying3 rfl rfl rfl rfl (by kernel_rfl) rfl ?_
     rw [hgp]
     repeat' (first|(apply aF; first|refine aE a5 ?_|refine aB a5 ?_)|fail)
     refine ad a5 1 rfl rfl rfl rfl rfl rfl (Nat.ble_eq_true_of_le (by rw [hcc]; simp; omega)) ?_
     refine aR (aY (L' := [(mb, cg KJ (tM k0 (cV ap z))), (cb, .box (cJ (cl1.set g.toNat (k0 + (ap.length : Nat)))) 3)]) (List.Perm.of_eq (jR (hput _)))) ?_
     repeat' (first|refine a4 ?_|refine a6 ?_|refine aH ?_|refine a7 ?_|refine a8 a5 rfl rfl ?_|(apply aU; refine aS ?_)|fail)
     rw [hnew] at hjf
     refine az (j + 1, _, cV ap z) rfl ⟨by rw [Dv]; rfl, ?_, trivial⟩ ⟨hj2, hjf, by rw [List.length_set]; exact hjl, by dsimp only; omega⟩ (by dsimp only; omega) (fun _ _ h => h)
     show some (AV.sc (.int .i64 (k0 + (ap.length : Nat) + 1))) = some (aA (k0 + ((cV ap z).length : Nat)))
     rw [hnl, Dv, Int.add_assoc]
     rfl
   ·have hj2 : j = s.length := by have := Dy h1; omega
    subst hj2
    rw [List.drop_length] at hjf
    have hjf2 : (cl1, ap) = s.foldl (fG k0) (cls, []) := hjf
    have hps : gU (cls, k0) s = (cl1, k0 + (ap.length : Nat)) := by
     unfold gU
     dsimp only
     rw [← hjf2]
    rw [hps] at hf
    clear h1
    repeat' (first|refine a4 ?_|refine aM ?_|refine a6 ?_|refine au ?_|refine aH ?_|refine aw ?_|refine av ?_|refine a7 ?_|refine a8 a5 rfl rfl ?_|(apply aU; refine aS ?_)|fail)
    exact az (k + 1, cl1, k0 + (ap.length : Nat)) rfl ⟨by rw [Dv]; rfl, rfl, trivial⟩ ⟨hk2, hf, hjl, by dsimp only; omega, by dsimp only; omega⟩ (by dsimp only; omega) (fun _ _ h => h.sublist (List.sublist_cons_self ..))
  ·have hk2 : k = sets.length := by have := Dy h1; omega
   subst hk2
   rw [List.drop_length] at hf
   have hf2 : (cls, k0) = kq n sets := hf
   have hpv : cR n sets = eE cls := by unfold cR; rw [← hf2]
   rw [hpv]
   clear h1
   repeat' (first|refine a9 ?_|refine a4 ?_|refine aM ?_|refine a6 ?_|refine au ?_|refine aw ?_|refine av ?_)
   refine eg KJ fun tb => ?_
   rw [← xD 0]
   repeat' (first|refine a9 ?_|refine a4 ?_|refine ak ?_|refine a6 ?_|refine a7 ?_|refine a8 a5 rfl rfl ?_)
   refine aL [5, 15, 75, 76] (α := Nat) (fun i => [(77, aA i)]) (fun i => i ≤ cls.length) (fun i => [(tb, cg KJ (tM 0 (fS (cls.take i)))), (cb, .box (cJ (eE (cls.take i) ++ cls.drop i)) 3)]) (fun i => cls.length - i) 0 rfl ⟨rfl, trivial⟩ (Nat.zero_le _) (fun _ _ h => h) fun i hi => ?_
   try dsimp only [Ds, Dr, Dq, Dn]
   repeat' (first|refine a9 ?_|refine a4 ?_|refine a6 ?_|refine a7 ?_|refine a8 a5 rfl rfl ?_)
   refine ar rfl (fun h1 => ?_) (fun h1 => ?_)
   ·have hi2 : i < cls.length := by have := Dz h1; omega
    obtain ⟨z, hz⟩ : ∃ z, cls[i]? = some z := ⟨_, Bn hi2⟩
    have hzc := mG (zy hz)
    have hcc := fA (eE (cls.take i) ++ cls.drop i)
    have hcl2 : (eE (cls.take i) ++ cls.drop i).length = cls.length := by rw [List.length_append, eW, List.length_take, List.length_drop]; omega
    have htc := vm hz
    have htt := vh hz
    have hnd := sI (cls.take i)
    clear h1
    repeat' (first|refine a9 ?_|refine a4 ?_|refine ak ?_|refine ai ?_|refine a6 ?_|refine a7 ?_|refine a8 a5 rfl rfl ?_|(apply bE; first|refine aj a5 0 rfl rfl rfl rfl rfl ?_|refine aj a5 1 rfl rfl rfl rfl rfl ?_|refine aj a5 2 rfl rfl rfl rfl rfl ?_|refine aj a5 3 rfl rfl rfl rfl rfl ?_|refine ay a5 0 rfl rfl rfl rfl rfl ?_|refine ay a5 1 rfl rfl rfl rfl rfl ?_|refine ay a5 2 rfl rfl rfl rfl rfl ?_|refine aj a5 1 rfl rfl rfl (by assumption) rfl ?_|refine aj a5 0 rfl rfl rfl (by assumption) rfl ?_|fail)|(apply aF; first|refine aE a5 ?_|refine aB a5 ?_)|fail)
    refine fq 0 (.int .i64 0) Tryz.underlying257 Tryz.underlying3 rfl rfl rfl rfl (by kernel_rfl) rfl ?_
    by_cases hm : z ∈ fS (cls.take i)
    ·have hgs := pP (k := 0) hm
     have hta := dT hm
     rw [hta] at htc htt
     rw [hgs]
     repeat' (first|refine a9 ?_|refine a4 ?_|refine ai ?_|refine a6 ?_|refine a7 ?_|refine a8 a5 rfl rfl ?_|refine bC rfl ?_)
     refine kj 0 (.int .i64 0) Tryz.underlying257 Tryz.underlying3 rfl rfl rfl rfl (by kernel_rfl) rfl ?_
     rw [hgs]
     repeat' (first|(apply aF; first|refine aE a5 ?_|refine aB a5 ?_)|fail)
     refine ad a5 1 rfl rfl rfl rfl rfl rfl (Nat.ble_eq_true_of_le (by rw [hcc, hcl2, Int.toNat_natCast]; show 0 + i * 1 + 1 ≤ _; omega)) ?_
     refine aR (aY (L' := [(tb, cg KJ (tM 0 (fS (cls.take i)))), (cb, .box (cJ (eE (cls.take (i + 1)) ++ cls.drop (i + 1))) 3)]) (List.Perm.of_eq (jR (by rw [← htc, ← fB, Int.zero_add])))) ?_
     repeat' (first|refine a4 ?_|refine a6 ?_|refine aH ?_|refine a7 ?_|refine a8 a5 rfl rfl ?_|(apply aU; refine aS ?_)|fail)
     exact az (i + 1) rfl ⟨by rw [Dv]; rfl, trivial⟩ (by omega) (by omega) (fun _ _ h => by rw [htt]; exact h)
    ·have hgn2 := tS (k := 0) hm
     have hgp := xF (k := 0) hm
     have hnew := kz hm
     rw [hgn2]
     repeat' (first|refine a9 ?_|refine a4 ?_|refine a6 ?_|refine a7 ?_|refine a8 a5 rfl rfl ?_|refine bv rfl ?_)
     refine x6 0 _ Tryz.underlying257 rfl rfl (sd hnd) (zu 0 _) rfl ?_
     rw [Du]
     rw [Int.zero_add] at hgp
     repeat' (first|fail)
     refine d5 0 (tM 0 (cV (fS (cls.take i)) z)) Tryz.underlying257 Tryz.underlying3 rfl rfl rfl rfl rfl hgp (tR hm) ?_
     repeat' (first|refine a4 ?_|refine a6 ?_|refine a7 ?_|refine a8 a5 rfl rfl ?_)
     refine kj 0 (.int .i64 0) Tryz.underlying257 Tryz.underlying3 rfl rfl rfl rfl (by kernel_rfl) rfl ?_
     rw [hgp]
     repeat' (first|(apply aF; first|refine aE a5 ?_|refine aB a5 ?_)|fail)
     refine ad a5 1 rfl rfl rfl rfl rfl rfl (Nat.ble_eq_true_of_le (by rw [hcc, hcl2, Int.toNat_natCast]; show 0 + i * 1 + 1 ≤ _; omega)) ?_
     refine aR (aY (L' := [(tb, cg KJ (tM 0 (cV (fS (cls.take i)) z))), (cb, .box (cJ (eE (cls.take (i + 1)) ++ cls.drop (i + 1))) 3)]) (List.Perm.of_eq (jR (by rw [← htc, ← fB, hnew])))) ?_
     repeat' (first|refine a4 ?_|refine a6 ?_|refine aH ?_|refine a7 ?_|refine a8 a5 rfl rfl ?_|(apply aU; refine aS ?_)|fail)
     exact az (i + 1) rfl ⟨by rw [Dv]; rfl, trivial⟩ (by omega) (by omega) (fun _ _ h => by rw [htt]; exact h)
   ·have hi2 : i = cls.length := by have := Dy h1; omega
    subst hi2
    rw [List.take_length, List.drop_length, List.append_nil]
    clear h1
    repeat' (first|refine a9 ?_|refine a4 ?_|refine ah ?_|refine aM ?_|refine a6 ?_|refine au ?_|refine aw ?_|refine av ?_|refine a7 ?_|refine a8 a5 rfl rfl ?_)
    have htl := eW cls
    have hcc := fA (eE cls)
    refine bB (iL (t := 4) (sz := 1) (n := n) (cap := n) (l := aT (eE cls)) 1 rfl rfl ?_ (by omega) (fun e he => ?_) (by rw [aW]; omega) (Nat.le_refl _) (by unfold maxLen; omega)) ?_
    ·rw [← lA, Nat.mul_one, List.take_of_length_le (by omega)]
    ·unfold aT at he
     obtain ⟨y, _, rfl⟩ := List.mem_map.1 he
     rfl
    refine dk (List.nil_sublist _) ?_
    exact an rfl rfl rfl
abbrev Pl := Nat × Nat
section
variable {cls : List Int} {rows : List (List (List Int))} {have_ : Nat → Bool} {L : Nat}
theorem oX (hL : ∀ r ∈ rows, r.length ≤ L) {p : Pl} {c : Nat} (h : (br cls rows p c).2 ≠ 0) : (br cls rows p c).1 ≤ L ∧ (br cls rows p c).2 < 2 ^ rows.length ∧ br cls rows p c = (p.1 + 1, p.2 &&& gq cls rows p.1 c) := by
 unfold br at h ⊢
 split
 ·rename_i h0
  rw [if_pos h0] at h
  exact absurd rfl h
 ·rename_i h0
  refine ⟨?_, Nat.lt_of_le_of_lt Nat.and_le_right (jQ _ _), rfl⟩
  have hn : gq cls rows p.1 c ≠ 0 := fun e => h0 (by rw [e, Nat.and_zero])
  have : ¬ ∀ i, i < rows.length → ji cls rows p.1 c i = false := fun hh => hn (mC.2 hh)
  apply Classical.byContradiction
  intro hlt
  refine this fun i hi => ?_
  unfold ji
  rw [Bn hi]
  dsimp only
  rw [List.getElem?_eq_none (by have := hL _ (List.getElem_mem hi); dsimp only at hlt; omega)]
structure ge (rows : List (List (List Int))) (have_ : Nat → Bool) (L : Nat) (M : List Pl) : Prop where
 first : M[0]? = some (jw rows have_)
 nodup : M.Nodup
 small : ∀ p ∈ M, p.1 ≤ L ∧ p.2 < 2 ^ rows.length
theorem ge.start : ge rows have_ L [jw rows have_] := ⟨rfl, by simp, fun p hp => by
 rw [List.mem_singleton] at hp
 subst hp
 exact ⟨Nat.zero_le _, jQ _ _⟩⟩
theorem ge.meet {M : List Pl} (h : ge rows have_ L M) (hL : ∀ r ∈ rows, r.length ≤ L) {p : Pl} {c : Nat} (hne : (br cls rows p c).2 ≠ 0) : ge rows have_ L (cV M (br cls rows p c)) := by
 refine ⟨ky _ h.first, jG _ h.nodup, fun q hq => ?_⟩
 by_cases hm : br cls rows p c ∈ M
 ·rw [dT hm] at hq; exact h.small q hq
 ·rw [eD hm, List.mem_append, List.mem_singleton] at hq
  rcases hq with hq | rfl
  ·exact h.small q hq
  ·have := oX hL hne
   exact ⟨this.1, this.2.1⟩
theorem ge.few {M : List Pl} (h : ge rows have_ L M) : M.length ≤ (L + 1) * 2 ^ rows.length := by
 have hk : 0 < 2 ^ rows.length := Nat.pow_pos (by omega)
 have hs := h.small
 generalize 2 ^ rows.length = K at hk hs
 have h1 : (M.map fun p : Pl => ((p.1 * K + p.2 : Nat) : Int)).Nodup := by
  refine List.pairwise_map.2 (h.nodup.imp_of_mem fun {a b} ha hb hab => fun e => hab ?_)
  have e' : a.1 * K + a.2 = b.1 * K + b.2 := by omega
  have ha2 := (hs a ha).2
  have hb2 := (hs b hb).2
  have e1 : a.1 = b.1 := by
   have h3 : (a.1 * K + a.2) / K = a.1 := by rw [Nat.mul_comm, Nat.mul_add_div hk, Nat.div_eq_of_lt ha2, Nat.add_zero]
   have h4 : (b.1 * K + b.2) / K = b.1 := by rw [Nat.mul_comm, Nat.mul_add_div hk, Nat.div_eq_of_lt hb2, Nat.add_zero]
   rw [← h3, ← h4, e']
  exact Prod.ext e1 (by rw [e1] at e'; omega)
 have h2 := dR (n := (L + 1) * K) h1 fun z hz => by
  obtain ⟨p, hp, rfl⟩ := List.mem_map.1 hz
  obtain ⟨a1, a2⟩ := hs p hp
  have : p.1 * K + p.2 < (L + 1) * K := by
   have : p.1 * K ≤ L * K := Nat.mul_le_mul_right _ a1
   rw [Nat.add_mul, Nat.one_mul]
   omega
  exact ⟨by omega, by omega⟩
 rwa [Du] at h2
def fY (cls : List Int) (rows : List (List (List Int))) (M : List Pl) (p : Pl) (c : Nat) (z : Int) : Prop :=
 ((br cls rows p c).2 = 0 ∧ z = -1) ∨ ((br cls rows p c).2 ≠ 0 ∧ 0 ≤ z ∧ M[z.toNat]? = some (br cls rows p c))
theorem fY.more {M : List Pl} {p q : Pl} {c : Nat} {z : Int} (h : fY cls rows M p c z) : fY cls rows (cV M q) p c z := by
 rcases h with h | ⟨h1, h2, h3⟩
 ·exact Or.inl h
 ·exact Or.inr ⟨h1, h2, ky _ h3⟩
theorem fY.new {M : List Pl} {p : Pl} {c : Nat} (h : (br cls rows p c).2 ≠ 0) : fY cls rows (cV M (br cls rows p c)) p c ((cV M (br cls rows p c)).idxOf (br cls rows p c) : Nat) :=
 Or.inr ⟨h, by omega, by rw [Int.toNat_natCast]; exact zt⟩
structure eO (cls : List Int) (rows : List (List (List Int))) (C : Nat) (M : List Pl) (tab : List (List Int)) (ends : List Nat) : Prop where
 len : ends.length = tab.length
 ends : ∀ (i : Nat) p, i < tab.length → M[i]? = some p → ends[i]? = some (gj rows p)
 tab : ∀ (i : Nat) p q, M[i]? = some p → tab[i]? = some q → q.length = C ∧ ∀ (c : Nat) z, q[c]? = some z → fY cls rows M p c z
theorem eO.nil {C : Nat} {M : List Pl} : eO cls rows C M [] [] := ⟨rfl, fun i p h => by simp at h, fun i p q _ h => by simp at h⟩
theorem eO.more {C : Nat} {M : List Pl} {tab : List (List Int)} {ends : List Nat} (h : eO cls rows C M tab ends) (hl : tab.length ≤ M.length) (q : Pl) : eO cls rows C (cV M q) tab ends := by
 have hb : ∀ (i : Nat) p, i < tab.length → (cV M q)[i]? = some p → M[i]? = some p := fun i p hi hp => by
  obtain ⟨x, hx⟩ : ∃ x, M[i]? = some x := ⟨_, Bn (by omega)⟩
  have := ky q hx
  rw [hp] at this
  cases this
  exact hx
 refine ⟨h.len, fun i p hi hp => h.ends i p hi (hb i p hi hp), fun i p r hp hr => ?_⟩
 obtain ⟨h1, h2⟩ := h.tab i p r (hb i p (Dp hr).1 hp) hr
 exact ⟨h1, fun c z hz => (h2 c z hz).more⟩
theorem eO.snoc {C : Nat} {M : List Pl} {tab : List (List Int)} {ends : List Nat} (h : eO cls rows C M tab ends) {p : Pl} {dr : List Int} (hp : M[tab.length]? = some p) (hr : dr.length = C) (hc : ∀ (c : Nat) z, dr[c]? = some z → fY cls rows M p c z) : eO cls rows C M (tab ++ [dr]) (ends ++ [gj rows p]) := by
 refine ⟨by simp [h.len], fun i q hi hq => ?_, fun i q r hq hr' => ?_⟩
 ·rw [List.length_append, List.length_singleton] at hi
  by_cases hit : i < tab.length
  ·rw [List.getElem?_append_left (by rw [h.len]; exact hit)]
   exact h.ends i q hit hq
  ·have e : i = tab.length := by omega
   subst e
   rw [hp] at hq
   cases hq
   rw [List.getElem?_append_right (by rw [h.len]; exact Nat.le_refl _), h.len, Nat.sub_self]
   rfl
 ·by_cases hit : i < tab.length
  ·rw [List.getElem?_append_left hit] at hr'
   exact h.tab i q r hq hr'
  ·rw [List.getElem?_append_right (by omega)] at hr'
   have hi0 : i - tab.length = 0 := by
    have := (Dp hr').1
    simp at this
    omega
   have e : i = tab.length := by omega
   subst e
   rw [Nat.sub_self] at hr'
   simp at hr'
   subst hr'
   rw [hp] at hq
   cases hq
   exact ⟨hr, hc⟩
theorem eO.done {C : Nat} {M : List Pl} {tab : List (List Int)} {ends : List Nat} (h : eO cls rows C M tab ends) (hs : ge rows have_ L M) (hl : tab.length = M.length) : nT cls rows have_ C tab ends :=
 ⟨M, hs.first, hl.symm, by rw [h.len, hl], fun i p hp => h.ends i p (by rw [hl]; exact (Dp hp).1) hp, fun i p q hp hq => h.tab i p q hp hq⟩
end
end Go.Proofs.YtpmdfoaadejmkaaGreatDoor
