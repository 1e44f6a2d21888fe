/-
  A row that is written, grown ahead: in a block of its own, where there is no room.
-/
import Derived.Test.YtpmdfoaadejmkaaGreatDoorM13
import Derived.Test.YtpmdfoaadejmkaaGreatDoorM07
import Derived.Scope
import Derived.Test.YtpmdfoaadejmkaaGreatDoorM10
import Derived.Test.YtpmdfoaadejmkaaGreatDoorM05
namespace Go.Proofs.YtpmdfoaadejmkaaGreatDoor
open Go.RowKit
theorem hZ {P : Program} (w : World) (t tn ty e : TypeId) (i : TypeInfo) (z : Value) (k kn : IntKind) (ht : P.underlying t = some (.slice e)) (htn : P.underlying tn = some (.int kn)) (hi : P.info? e = some i) (hz : i.zero = some z)
  (b : Addr) (sLen sCap : Nat) (olds : List Value) (hlo : olds.length = sLen * i.size) (holds : ∀ j v, olds[j]? = some v → w.cell? (b.add j) = some v)
  (n : Nat) (h0 : 0 < n) (hs : 0 < i.size) (hg : sCap < sLen + n) (h63 : ((sLen + n : Nat) : Int) ≤ 9223372036854775807) (h48 : n * i.bytes ≤ 281474976710656) (hfit : Builtin.nextslicecap (sLen + n) sCap * i.bytes ≤ 281474976710656) :
  (Builtin.append_ #[t, tn] ty #[.slice (some b) sLen sCap, .int k n]).run P w =
   .ok (.slice (some ⟨w.heap.size, 0, none⟩) (sLen + n) (grownCap w (sLen + n) sCap e)) (w.drew.alloc (.cells (olds.toArray ++ Builtin.zeroCells z.cells n ++ Builtin.zeroCells z.cells (grownCap w (sLen + n) sCap e - (sLen + n))) e)) := by
 have hn : n ≠ 0 := by omega
 have hnn : ¬ (sLen + n ≤ sCap) := by omega
 have hw : IntKind.i64.wrap (n : Int) = n := by rw [IntKind.wrap_i64]; omega
 have h63' : ¬ (9223372036854775807 < ((sLen : Int) + (n : Int))) := by omega
 have h48' : ¬ (281474976710656 < Builtin.nextslicecap (sLen + n) sCap * i.bytes) := by omega
 have h48i : ¬ (281474976710656 < (n : Int) * (i.bytes : Int)) := by
  rw [← Int.natCast_mul]
  omega
 have hneg : ¬ ((n : Int) < 0) := by omega
 have hns : ¬ (n * i.size = 0) := Nat.mul_ne_zero hn (by omega)
 have hfo := run_firstCells_some (P := P) w.drew i.size sLen b sLen sCap olds hlo (by simpa using holds)
 simp [Builtin.append_, run_underlying ht, run_underlying htn, sizeOf, typeInfo, zeroValue, hi, hz, asInt, asIntOf, hw, hn, hnn, hneg, hns, h63', h48', h48i, Question.forced, hfo, newRow, grownCap]
section
variable {P : Program} {fr : bw} {B : Bs} {L : AL} {d : Option Tmp} {ty t t' tn : TypeId} {pos : String} {af : Array Edge} {g : Option (Nat × Bool)} {x y z q : Operand} {u : AV}
theorem q5 (i : Nat) {e sz by_ b n cap m : Nat} {k kn : IntKind} {a : Int} {cs : List AV} {zs : List Value} (hc : j9 P t e sz by_) (hs0 : 0 < sz) (hz : CZ P e zs) (hz1 : zs.all (·.oneCell') = true) (hn' : P.underlying tn = some (.int kn)) (hx : aW fr x = some (.sc (.slice (some ⟨b, 0, none⟩) n cap))) (hy : aW fr y = some (.sc (.int k a))) (ha : a = (m : Int)) (h0 : 0 < m) (hL : L[i]? = some (b, .box cs e)) (hcl : cap * sz ≤ cs.length) (hn : n ≤ cap) (hg : cap < n + m) (h63 : n + m ≤ maxLen) (hby : (n + m) * by_ ≤ 140737488355328) :
  AO P ⟨d, .call ⟨.builtin .append, #[x, y], #[t, tn]⟩, ty, pos, af, g⟩ fr B L (fun r L' => ∃ b' cs' cap', r = .sc (.slice (some ⟨b', 0, none⟩) (n + m) cap') ∧ cap' * sz ≤ cs'.length ∧ cs'.take (n * sz) = cs.take (n * sz) ∧ n + m ≤ cap' ∧ cap' ≤ maxLen ∧ L' = (b', .box cs' e) :: L) := by
 intro σ ρ w hρ hw
 subst ha
 have hxv := (hρ x _ hx).sc_inv
 haveI := hc
 obtain ⟨inf, zz, hi, hsz, rfl, hzz, hzs⟩ := hc.info
 have hzc := hz.cells hi hzz w
 obtain ⟨o, ho, vs, rfl, hvs, h1⟩ := hw.here _ (Dw hL)
 have hl := hvs.1
 have hnc : n * sz ≤ cap * sz := Nat.mul_le_mul_right _ hn
 have hm63 := h63
 unfold maxLen at h63
 unfold fq
 have holds : ∀ j v, (vs.take (n * sz))[j]? = some v → w.cell? ((⟨b, 0, none⟩ : Addr).add j) = some v := fun j v hj => by
  rw [cS, Nat.zero_add, cl ho]
  have hjl := (Dp hj).1
  rw [List.length_take] at hjl
  rw [List.getElem?_take_of_lt (by omega)] at hj
  simpa using hj
 have hbm : m * inf.bytes ≤ (n + m) * inf.bytes := Nat.mul_le_mul_right _ (by omega)
 have hr := hZ (P := P) w t tn ty e inf zz k kn hc.under hn' hi hzz ⟨b, 0, none⟩ n cap (vs.take (n * sz)) (by rw [hsz, List.length_take]; omega) holds m h0 (by omega) hg (by omega) (by omega) (growslice_fits (by omega) hby)
 rw [show (execOp ρ ⟨d, .call ⟨.builtin .append, #[x, y], #[t, tn]⟩, ty, pos, af, g⟩).run P w = .ok (.value (.slice (some ⟨w.heap.size, 0, none⟩) (n + m) (grownCap w (n + m) cap e))) (w.drew.alloc (.cells ((vs.take (n * sz)).toArray ++ Builtin.zeroCells zz.cells m ++ Builtin.zeroCells zz.cells (grownCap w (n + m) cap e - (n + m))) e)) by
  simp [execOp, resolve, hxv, (hρ y _ hy).sc_inv, invoke, builtin, hr]]
 have hge := grownCap_ge w (n + m) cap e
 have hgm := grownCap_le_maxLen w (n + m) cap e hm63
 have hzl : ∀ k, (Builtin.zeroCells zz.cells k).toList.length = k * sz := fun k => by rw [Array.length_toList, size_zeroCells, hzs]
 have hzm : ∀ k, ∀ v ∈ (Builtin.zeroCells zz.cells k).toList, v.oneCell' = true := fun k v hv => by
  have := g8 hv
  rw [hzc] at this
  exact List.all_eq_true.1 hz1 v (by simpa using this)
 generalize grownCap w (n + m) cap e = cap' at *
 have hmc : cap' * sz = n * sz + (m * sz + (cap' - (n + m)) * sz) := by rw [← Nat.add_mul, ← Nat.add_mul]; congr 1; omega
 have hzl' := hzl (cap' - (n + m))
 have hzm' := hzm (cap' - (n + m))
 have hzl2 := hzl m
 have hzm2 := hzm m
 generalize Builtin.zeroCells zz.cells (cap' - (n + m)) = zc at *
 generalize Builtin.zeroCells zz.cells m = zd at *
 refine ⟨σ, .sc _, _, bJ.le_refl _, .sc _, (hw.drew _).alloc _ (.box (cs.take (n * sz) ++ zd.toList.map AV.sc ++ zc.toList.map AV.sc) e) ⟨vs.take (n * sz) ++ zd.toList ++ zc.toList, by simp, eC (eC (fN hvs _) (pP _)) (pP _), fun u hu => ?_⟩, w.heap.size, _, cap', rfl, ?_, ?_, hge, hgm, rfl⟩
 ·rcases List.mem_append.1 hu with hu | hu
  ·rcases List.mem_append.1 hu with hu | hu
   ·exact h1 _ (List.mem_of_mem_take hu)
   ·exact hzm2 u hu
  ·exact hzm' u hu
 ·simp only [List.length_append, Du, hzl', hzl2, List.length_take]; omega
 ·rw [List.append_assoc, List.take_append_of_le_length (by simp; omega), List.take_of_length_le (by simp; omega)]
end
section
variable {P : Program} {tt : TT} {r : Option Nat} {ops : Array Oper} {Q : Exit → Act → World → Prop} {nt : Nat} {D : List Deferred} {fr : bw} {B : Bs} {L : AL} {rest : List Oper} {d : Nat} {ty t t' tn : TypeId} {pos : String} {af : Array Edge} {x y z : Operand} {u : AV}
theorem sm (ok : dg P tt) (i m : Nat) {e sz by_ b n cap : Nat} {k kn : IntKind} {a : Int} {cs : List AV} {zs : List Value} (ht : iF tt t = some (e, sz, by_)) (hz : zI tt e = some zs) (hz1 : zs.all (·.oneCell') = true) (hn' : P.underlying tn = some (.int kn)) (hx : aW fr x = some (.sc (.slice (some ⟨b, 0, none⟩) n cap))) (hy : aW fr y = some (.sc (.int k a))) (ha : a = (m : Int)) (h0 : 0 < m) (hL : L[i]? = some (b, .box cs e)) (hcl : cap * sz ≤ cs.length) (hn : n ≤ cap) (hg : cap < n + m) (h63 : n + m ≤ maxLen) (hby : (n + m) * by_ ≤ 140737488355328) (hd : Nat.ble nt d = false)
  (h : ∀ b' cs' cap', cap' * sz ≤ cs'.length → cs'.take (n * sz) = cs.take (n * sz) → n + m ≤ cap' → cap' ≤ maxLen → bf P r ops Q nt D rest ((d, .sc (.slice (some ⟨b', 0, none⟩) (n + m) cap')) :: fr) B ((b', .box cs' e) :: L)) :
  bf P r ops Q nt D (⟨some d, .call ⟨.builtin .append, #[x, y], #[t, tn]⟩, ty, pos, af, none⟩ :: rest) fr B L :=
 c6 hd rfl (q5 i (b8 ok ht).1 (b8 ok ht).2 (eD ok hz) hz1 hn' hx hy ha h0 hL hcl hn hg h63 hby) fun c L' ⟨b', cs', cap', h1, h2, h3, h4, h5, h7⟩ => by subst h1; subst h7; exact h b' cs' cap' h2 h3 h4 h5
theorem AS (ok : dg P tt) (lo hi : Nat) {e sz by_ b n cap : Nat} {k k2 : IntKind} {a a2 : Int} {q : Operand} (ht : iF tt t = some (e, sz, by_)) (hx : aW fr x = some (.sc (.slice (some ⟨b, 0, none⟩) n cap))) (hq : aW fr q = some (.sc (.int k2 a2))) (ha2 : a2 = (lo : Int)) (hy : aW fr y = some (.sc (.int k a))) (ha : a = (hi : Int)) (h0 : lo < hi) (h1 : hi ≤ cap) (hd : Nat.ble nt d = false) (h : bf P r ops Q nt D rest ((d, .sc (.slice (some ⟨b, lo * sz, none⟩) (hi - lo) (cap - lo))) :: fr) B L) :
  bf P r ops Q nt D (⟨some d, .slice t x (some q) (some y) none, ty, pos, af, none⟩ :: rest) fr B L := by
 refine bT (fun σ ρ w hρ _ => ?_) hd rfl h
 haveI := (b8 ok ht).1
 subst ha; subst ha2
 have e6 : ¬ (cap - lo = 0) := by omega
 have e7 : ¬ (cap = lo) := by omega
 have e8 : lo ≤ hi := by omega
 refine ⟨_, ?_, .sc _⟩
 simp [execOp, (hρ x _ hx).sc_inv, (hρ y _ hy).sc_inv, (hρ q _ hq).sc_inv, Instr.sliceAt, Instr.slice, Instr.sliceBounds, Instr.sliceBound, asIntOf, run_underlying (b8 ok ht).1.under, cn (t := t), e6, e7, e8, h1, cS]
theorem AU (ok : dg P tt) (lo hi m : Nat) {e sz by_ b n cap : Nat} {k k' k2 : IntKind} {a a' a2 : Int} {q : Operand} (ht : iF tt t = some (e, sz, by_)) (hx : aW fr x = some (.sc (.slice (some ⟨b, 0, none⟩) n cap))) (hq : aW fr q = some (.sc (.int k2 a2))) (ha2 : a2 = (lo : Int)) (hy : aW fr y = some (.sc (.int k a))) (ha : a = (hi : Int)) (hz : aW fr z = some (.sc (.int k' a'))) (ha' : a' = (m : Int)) (h0 : lo < hi) (h1 : hi ≤ m) (h2 : m ≤ cap) (hd : Nat.ble nt d = false) (h : bf P r ops Q nt D rest ((d, .sc (.slice (some ⟨b, lo * sz, none⟩) (hi - lo) (m - lo))) :: fr) B L) :
  bf P r ops Q nt D (⟨some d, .slice t x (some q) (some y) (some z), ty, pos, af, none⟩ :: rest) fr B L := by
 refine bT (fun σ ρ w hρ _ => ?_) hd rfl h
 haveI := (b8 ok ht).1
 subst ha; subst ha'; subst ha2
 have e4 : ¬ (cap < m) := by omega
 have e6 : ¬ (m - lo = 0) := by omega
 have e7 : ¬ (m = lo) := by omega
 have e8 : lo ≤ hi := by omega
 refine ⟨_, ?_, .sc _⟩
 simp [execOp, (hρ x _ hx).sc_inv, (hρ y _ hy).sc_inv, (hρ z _ hz).sc_inv, (hρ q _ hq).sc_inv, Instr.sliceAt, Instr.slice, Instr.sliceBounds, Instr.sliceBound, asIntOf, run_underlying (b8 ok ht).1.under, cn (t := t), e4, e6, e7, e8, h1, h2, cS]
end
theorem xP {P : Program} {fr : bw} {t ty : TypeId} {x y : Operand} {pos : String} {af : Array Edge} {g : Option (Nat × Bool)} {dd : Option Tmp} {e sz by_ b n cap lo : Nat} {k : IntKind} {a : Int} (hc : j9 P t e sz by_) (hx : aW fr x = some (.sc (.slice (some ⟨b, 0, none⟩) n cap))) (hy : aW fr y = some (.sc (.int k a))) (ha : a = (lo : Int)) (h : lo ≤ n) (hn : n ≤ cap) : Av P ⟨dd, .slice t x (some y) none none, ty, pos, af, g⟩ fr (.sc (.slice (some ⟨b, if cap = lo then 0 else lo * sz, none⟩) (n - lo) (cap - lo))) := by
 intro σ ρ w hρ _
 subst ha
 haveI := hc
 refine ⟨_, ?_, .sc _⟩
 by_cases h3 : cap = lo
 ·have : n = lo := by omega
  subst h3; subst this
  simp [execOp, (hρ x _ hx).sc_inv, (hρ y _ hy).sc_inv, Instr.sliceAt, Instr.slice, Instr.sliceBounds, Instr.sliceBound, asIntOf, run_underlying hc.under, cn (t := t)]
 ·simp [execOp, (hρ x _ hx).sc_inv, (hρ y _ hy).sc_inv, Instr.sliceAt, Instr.slice, Instr.sliceBounds, Instr.sliceBound, asIntOf, run_underlying hc.under, cn (t := t), h, h3, cS]
section
variable {P : Program} {tt : TT} {l : List Oper} {fr : bw} {fin : jh} {sk : lg} {acc : bw} {L : AL} {k : Nat} {dd : Option Tmp} {ty t : TypeId} {pos : String} {af : Array Edge} {g : Option (Nat × Bool)} {x y : Operand}
theorem yf (ok : dg P tt) (hi : Nat) {e sz by_ b off n cap : Nat} {q : IntKind} {a : Int} (ht : iF tt t = some (e, sz, by_)) (hx : aW (ci l.toArray acc fr af.toList) x = some (.sc (.slice (some ⟨b, off, none⟩) n cap))) (hy : aW (ci l.toArray acc fr af.toList) y = some (.sc (.int q a))) (ha : a = (hi : Int)) (h1 : hi ≤ cap) (hg : iK ⟨dd, .slice t x none (some y) none, ty, pos, af, g⟩ acc) (h : DA P l fr fin sk ((k, .sc (.slice (some ⟨b, off, none⟩) hi cap)) :: acc) L) : cA P l fr fin k .v ⟨dd, .slice t x none (some y) none, ty, pos, af, g⟩ sk acc L := eO hg (yU (sT (b8 ok ht).1 hx hy ha h1)) h
theorem t4 (ok : dg P tt) (lo : Nat) {e sz by_ b n cap : Nat} {q : IntKind} {a : Int} (ht : iF tt t = some (e, sz, by_)) (hx : aW (ci l.toArray acc fr af.toList) x = some (.sc (.slice (some ⟨b, 0, none⟩) n cap))) (hy : aW (ci l.toArray acc fr af.toList) y = some (.sc (.int q a))) (ha : a = (lo : Int)) (h1 : lo ≤ n) (hn : n ≤ cap) (hg : iK ⟨dd, .slice t x (some y) none none, ty, pos, af, g⟩ acc) (h : DA P l fr fin sk ((k, .sc (.slice (some ⟨b, if cap = lo then 0 else lo * sz, none⟩) (n - lo) (cap - lo))) :: acc) L) : cA P l fr fin k .v ⟨dd, .slice t x (some y) none none, ty, pos, af, g⟩ sk acc L := eO hg (yU (xP (b8 ok ht).1 hx hy ha h1 hn)) h
end
section
variable {P : Program} {tt : TT} {l : List Oper} {fr : bw} {fin : jh} {sk : lg} {acc : bw} {L : AL} {k : Nat} {dd : Option Tmp} {ty t : TypeId} {pos : String} {af : Array Edge} {g : Option (Nat × Bool)} {x y : Operand} {u : AV}
theorem wd (ok : dg P tt) (i : Nat) {b q n : Nat} {cs ys : List AV} {e : TypeId} (ht : Bk tt t = some n) (hx : aW (ci l.toArray acc fr af.toList) x = some (.sc (.pointer (some ⟨b, q, none⟩)))) (hy : aW (ci l.toArray acc fr af.toList) y = some u) (hu : u.cells = some ys) (hL : L[i]? = some (b, .box cs e)) (hn : Nat.beq ys.length n = true) (hk : Nat.ble (q + n) cs.length = true) (hK : eH fin.gs (eM L i (.box (eE cs q ys) e))) (hg : iK ⟨dd, .store t x y, ty, pos, af, g⟩ acc) (h : ∀ c, DA P l fr fin sk ((k, c) :: acc) (eM L i (.box (eE cs q ys) e))) :
  cA P l fr fin k .f ⟨dd, .store t x y, ty, pos, af, g⟩ sk acc L := t7 (fun c L' h1 _ => by subst h1; exact hK) hg (fun _ => jH i (kq ok ht) hx hy hu hL hn hk) fun c L' h1 => by subst h1; exact h c
end
theorem jY {q : Nat × Nat × AV} {L : AL} (i : Nat) {cs : List AV} {e : TypeId} (hL : L[i]? = some (q.1, .box cs e)) (hc : cs[q.2.1]? = some q.2.2) : eH [.cell q] L := fun p hp => by
 rw [List.mem_singleton] at hp
 subst hp
 exact ⟨cs, e, Dw hL, hc⟩
end Go.Proofs.YtpmdfoaadejmkaaGreatDoor
namespace Go.Proofs.YtpmdfoaadejmkaaGreatDoor
open Go.RowKit
section
variable {P : Program} {b : Frame} {a : Act} {k : List Item} {cs : List Frame} {w : World} {Q : Exit → Act → World → Prop} {F : Fence} {n : Nat}
theorem ee {c : Code} : step P (lone (b.atR a (.code (.scope c) :: k)) cs w) = .next (lone (b.atR a (.code c :: .inScope c :: k)) cs w) :=
 step_lone_go (by simp [stepG, stepG.exec, Frame.atR])
theorem nN {c : Code} : step P (lone (b.atR a (.inScope c :: k)) cs w) = .next (lone (b.atR a k) cs w) :=
 step_lone_go (by simp [stepG, stepG.exec, Frame.atR])
theorem sN {c : Code} (h : c.wpIn F n P (Exit.noGoto Q) a w) : (Code.scope c).wpIn F n P Q a w := by
 intro b k cs hro hb hr
 have h0 : (lone (b.atR a (.code (.scope c) :: k)) cs w).fenced P F := fenced_calm hb hr rfl
 obtain ⟨e, a₁, w₁, hq, harr⟩ := h b (.inScope c :: k) cs hro hb hr
 cases e with
 | normal => exact ⟨.normal, a₁, w₁, hq, .head h0 ee (StepsIn.trans harr (.one (fenced_calm hb hr rfl) nN))⟩
 | exit id =>
  have hx : exitTo id (.inScope c :: k) = exitTo id k := by simp [exitTo]
  exact ⟨.exit id, a₁, w₁, hq, fun k' hk => .head h0 ee (harr.1 k' (by rw [hx]; exact hk)),
   fun hr' hk => let ⟨k₁, h1, h2⟩ := harr.2 hr' (by rw [hx]; exact hk); ⟨k₁, h1, .head h0 ee h2⟩⟩
 | goto l => exact hq.elim
 | ret => exact ⟨_, a₁, w₁, hq, .of_steps (.one h0 ee) harr⟩
 | panic ch => exact ⟨_, a₁, w₁, hq, .of_steps (.one h0 ee) harr⟩
 | outgrown => exact ⟨_, a₁, w₁, hq, .of_steps (.one h0 ee) harr⟩
end
section
variable {P : Program} {r : Option Nat} {Q : Exit → Act → World → Prop} {nt : Nat} {D : List Deferred} {fr : bw} {B : Bs} {L : AL}
theorem vM {c : Code} (h : AT P r c (Exit.noGoto Q) nt D fr B L) : AT P r (.scope c) Q nt D fr B L := fun σ a w ha hw => sN (h σ a w ha hw)
theorem Ay (h : AX P .normal Q nt D fr B L) : AX P .normal (Exit.noGoto Q) nt D fr B L := fun σ a w ha hw => h σ a w ha hw
end
end Go.Proofs.YtpmdfoaadejmkaaGreatDoor
namespace Go.Proofs.YtpmdfoaadejmkaaGreatDoor
open Go.RowKit
section
variable {nt : Nat} {fr : bw} {B : Bs} {L : AL} {D : List Deferred}
theorem gt {t b e sz n cap : Nat} {cs : List AV} {l : List (List AV)} (i : Nat) (hl : bE fr t = some (.sc (.slice (some ⟨b, 0, none⟩) n cap))) (hL : L[i]? = some (b, .box cs e)) (hc : cs.take (n * sz) = l.flatten) (hcl : n * sz ≤ cs.length) (hs : ∀ q ∈ l, q.length = sz) (hn : l.length = n) (hnc : n ≤ cap) (hm : cap ≤ maxLen) : jF nt D B fr L ((t, .imm sz l) :: fr) (L.eraseIdx i) := by
 intro σ a w ha hw0
 have hw := hw0.perm (dZ hL)
 obtain ⟨o, ho, vs, rfl, hvs, h1⟩ := hw.here _ (List.mem_cons_self ..)
 have hfree := hw.free _ (List.mem_cons_self ..)
 have hvl : vs.length = cs.length := hvs.1.symm
 have hst : ck B σ ((b, .vec e cs.length 0 1) :: L.eraseIdx i) w := by
  refine ⟨hw.os, hw.tape, hw.output, hw.size, hw.old, fun p hp => ?_, fun p hp => ?_, by simpa using hw.apart, hw.froz, fun p hp off hm => ?_, hw.grow, hw.same⟩
  ·rcases List.mem_cons.1 hp with rfl | hp'
   ·exact ⟨_, ho, _, rfl, by simp [hvl], Nat.zero_le _, by unfold maxLen; omega⟩
   ·exact hw.here p (Dt _ hp')
  ·rcases List.mem_cons.1 hp with rfl | hp'
   ·exact hw.mine (b, .box cs e) (List.mem_cons_self ..)
   ·exact hw.mine p (Dt _ hp')
  ·rcases List.mem_cons.1 hp with rfl | hp'
   ·exact hfree off trivial
   ·exact hw.free p (Dt _ hp') off hm
 obtain ⟨hst', hle⟩ := hst.freezeHead (n' := 1) (xs := vs) (fun j u hj => by rw [cl ho]; simpa using hj) (by omega) (Nat.zero_le _) (Nat.le_refl _)
 have hv : VR (σ.add b vs) (.vec (some (b, cap)) sz l) (.slice (some ⟨b, 0, none⟩) n cap) := by
  have := iH (σ := σ.add b vs) (b := b) (cap := cap) hs (by rw [← hc]; exact (fN hvs _).mono hle) (fun u hu => h1 u (List.mem_of_mem_take hu)) (by omega) hm (fun j u hj => bJ.add_at (by
   rw [List.getElem?_take] at hj
   split at hj
   ·exact hj
   ·cases hj))
  rwa [hn] at this
 refine ⟨_, ?_, hst'.sublist (.cons _ (List.Sublist.refl _))⟩
 have ha' := ha.mono hle
 refine ⟨ha'.size, ha'.defers, fun t' v' hl' => ?_⟩
 rw [bL] at hl'
 by_cases e : t = t'
 ·subst e
  simp only [if_true, Option.some.injEq] at hl'
  subst hl'
  rw [(ha.look t _ hl).sc_inv]
  exact hv.im
 ·rw [if_neg e] at hl'
  exact ha'.look t' v' hl'
end
end Go.Proofs.YtpmdfoaadejmkaaGreatDoor
namespace Go.Proofs.YtpmdfoaadejmkaaGreatDoor
open Go.RowKit
attribute [local irreducible] AT bf AX AO Av Kt aZ df DA cA
def BP (l : List ByteArray) (s : ByteArray) : Bool := l.any fun t => decide (t = s)
def zK (f : aM) (n : Int) : Bool := match f.Lookups[n.toNat]? with
 | some l => decide (0 ≤ n ∧ (l.Kind = 1 ∨ l.Kind = 2 ∨ l.Kind = 3 ∨ l.Kind = 4))
 | none => false
def xo (l : List (List Int)) : Nat := (l.map fun q => 1 + q.length).sum
def C4 (r : aT) : Nat := r.Out.length + r.Calls.length + (xo r.Back + xo r.In + xo r.Ahead)
def Bd (l : List aT) : Nat := l.length + (l.map C4).sum
def AH (g : b9) : Nat := g.Points.length + g.Parts.length + g.Anchors.length + g.Deltas.length + g.Hint.length + g.Name.size / 100
def BM (t : bO) : Nat := t.Lookups.length + t.Name.size / 100
def BN (f : aM) : Nat := f.Glyphs.length + f.Chars.length + f.Lookups.length + f.Features.length + f.Axes.length + f.Regions.length + f.Funcs.length + f.Cvt.length + (f.Glyphs.map AH).sum + (f.Lookups.map fun l => Bd l.Rules).sum + (f.Funcs.map (·.length)).sum + (f.Features.map BM).sum + (f.Regions.map (·.length)).sum
def Bp (f : aM) : Prop := BN f ≤ 2000
section
variable {f : aM} (hs : Bp f)
include hs
end
inductive pU (f : aM) (fs : List ByteArray) : Int → Prop
 | base {t : bO} {n : Int} (h : t ∈ f.Features) (hn : BP fs t.Name = true) (hm : n ∈ t.Lookups) (h0 : 0 ≤ n) (h1 : n < f.Lookups.length) : pU f fs n
 | call {m : Int} {l : aQ} {r : aT} {c : i6} (h : pU f fs m) (hl : f.Lookups[m.toNat]? = some l) (hk : l.Kind = 4) (hr : r ∈ l.Rules) (hc : c ∈ r.Calls) (hn : zK f c.Lookup = true) : pU f fs c.Lookup
open Classical in
noncomputable def CH (f : aM) (fs : List ByteArray) : List Int := ((List.range f.Lookups.length).map Int.ofNat).filter fun z => decide (pU f fs z)
theorem dO {l : List Int} {n : Nat} (h : l.Nodup) (hi : ∀ z ∈ l, 0 ≤ z ∧ z < n) : l.length ≤ n := by
 induction n generalizing l with
 | zero =>
  cases l with
  | nil => exact Nat.zero_le _
  | cons a l => have := hi a (List.mem_cons_self ..); omega
 | succ n ih =>
  by_cases hm : (n : Int) ∈ l
  ·have h1 := ih (l := l.erase n) (h.erase _) fun z hz => by
    have := (h.mem_erase_iff).1 hz
    have := hi z this.2
    omega
   rw [List.length_erase_of_mem hm] at h1
   omega
  ·have := ih h fun z hz => by
    have := hi z hz
    have : z ≠ n := fun e => hm (e ▸ hz)
    omega
   omega
end Go.Proofs.YtpmdfoaadejmkaaGreatDoor
namespace Go.Proofs.YtpmdfoaadejmkaaGreatDoor
open Go.RowKit
attribute [local irreducible] AT bf AX AO Av Kt aZ df DA cA
def i8 (l : List Int) : Prop := l.Pairwise (· < ·)
theorem xd {l : List Int} (h : i8 l) {i : Nat} {x y : Int} (hx : l[i]? = some x) (hy : l[i + 1]? = some y) : x < y := by
 obtain ⟨h1, h2⟩ := Dp hx
 obtain ⟨h3, h4⟩ := Dp hy
 have := List.pairwise_iff_getElem.1 h i (i + 1) h1 h3 (by omega)
 rw [h2, h4] at this
 exact this
theorem eZ {l : List Int} (h : i8 l) : l.Nodup := h.imp fun hlt => by omega
theorem pI (l : List Int) (h : i8 l) : bk Tryz.prog 253 [.imm 1 (aU l)] (dx true) := by
 refine aB Tryz.func253 rfl Tryz.ntmps253 rfl fun B => ?_
 refine cf 0 rfl rfl fun hlen => ?_
 have hll := b6 l
 rw [hll] at hlen
 repeat' (first|refine a8 ?_|refine a0 ?_|refine aj ?_|refine a5 ?_|refine a6 ?_|refine a7 a4 rfl rfl ?_)
 refine aK [0] (α := Nat) (fun i => [(3, az ((i : Int) + 1))]) (fun i => i ≤ l.length) (fun _ => []) (fun i => l.length - i) 0 rfl ⟨rfl, trivial⟩ (Nat.zero_le _) (fun _ _ h => h) fun i hi => ?_
 try dsimp only [Ds, Dr, Dq, Dn]
 repeat' (first|refine a8 ?_|refine a0 ?_|refine a5 ?_|refine a6 ?_|refine a7 a4 rfl rfl ?_)
 refine aq rfl (fun h1 => ?_) (fun h1 => ?_)
 ·have hil : i + 1 < l.length := by have := Dz h1; omega
  obtain ⟨x, hx⟩ : ∃ z, l[i]? = some z := ⟨_, Bj (by omega)⟩
  obtain ⟨y, hy⟩ : ∃ z, l[i + 1]? = some z := ⟨_, Bj hil⟩
  have hxy := xd h hx hy
  have e1 : ((i : Int) + 1).toNat = i + 1 := by omega
  have e2 : ((i : Int) + 1 - 1).toNat = i := by omega
  have hxg : (aU l)[((i : Int) + 1 - 1).toNat]? = some [az x] := by rw [e2]; exact bI hx
  have hyg : (aU l)[((i : Int) + 1).toNat]? = some [az y] := by rw [e1]; exact bI hy
  clear h1
  repeat' (first|refine a8 ?_|refine aj ?_|refine ah ?_|refine a5 ?_)
  refine bj 9 [(0, .v), (1, .v), (2, .v), (3, .v), (4, .v), (5, .v), (6, .v), (7, .v), (8, .v)] none ?_ trivial rfl (by kernel_rfl) (by kernel_rfl) (by kernel_rfl) c9 (by kernel_rfl) rfl
  repeat' (first|refine aC ?_|refine bh a4 ?_|(apply io;refine lx ?_)|(apply cC;refine cZ a4 ?_)|fail)
  refine bv [0, 3, 13, 18] rfl rfl ?_
  repeat' (first|refine a5 ?_|refine a6 ?_|refine a7 a4 rfl rfl ?_)
  refine aq rfl (fun h2 => ?_) (fun _ => ?_)
  ·have := Dz h2
   omega
  repeat' (first|refine a0 ?_|refine ah ?_|refine a5 ?_|refine aH ?_|refine a6 ?_|refine a7 a4 rfl rfl ?_|(apply aS; refine aR ?_)|fail)
  exact ay (i + 1) rfl ⟨by rw [Dv]; rfl, trivial⟩ (by omega) (by omega) (fun _ _ h => h)
 ·repeat' (first|refine a8 ?_|refine a0 ?_|refine ae ?_|refine aL ?_|refine a5 ?_|refine ar ?_|refine av ?_|refine au ?_|refine a6 ?_|refine a7 a4 rfl rfl ?_)
  exact ak rfl rfl rfl
theorem xn (l : List Int) (h : i8 l) : bk Tryz.prog 177 [.imm 1 (aU l)] (.imm 1 (aU l)) := by
 refine aB Tryz.func177 rfl Tryz.ntmps177 rfl fun B => ?_
 haveI := AD.mk (pI l h)
 repeat' (first|refine a8 ?_|refine a0 ?_|refine ae ?_|refine a5 ?_|refine am ?_|refine a6 ?_|refine a7 a4 rfl rfl ?_|(apply bb;refine b4 ?_)|refine br rfl ?_)
 exact ak rfl rfl rfl
def tM (k : Int) (t : List Int) : Value → Option AV
 | .int .i64 z => if t.contains z = true then some (az (k + (t.idxOf z : Nat))) else none
 | _ => none
theorem xu (k : Int) : tM k [] = fun _ => none := by
 funext v
 unfold tM
 split <;> rfl
theorem pN {k : Int} {t : List Int} {z : Int} (h : z ∈ t) : tM k t (.int .i64 z) = some (az (k + (t.idxOf z : Nat))) := if_pos (List.contains_iff_mem.2 h)
theorem tL {k : Int} {t : List Int} {z : Int} (h : z ∉ t) : tM k t (.int .i64 z) = none := if_neg fun e => h (List.contains_iff_mem.1 e)
theorem xv {k : Int} {t : List Int} {z : Int} (h : z ∉ t) : tM k (cU t z) (.int .i64 z) = some (az (k + (t.length : Nat))) := by rw [pN (iG t z), ku h]
theorem tK {k : Int} {t : List Int} {z : Int} (h : z ∉ t) : ∀ q, q ≠ .int .i64 z → tM k (cU t z) q = tM k t q := by
 intro q hq
 unfold tM
 split
 ·rename_i y
  have hne : y ≠ z := fun e => hq (by rw [e])
  have hm : (cU t z).contains y = t.contains y := by
   rw [ez h, Bool.eq_iff_iff, List.contains_iff_mem, List.contains_iff_mem]
   simp [hne]
  rw [hm]
  split
  ·rename_i hc
   rw [nu z (List.contains_iff_mem.1 hc)]
  ·rfl
 ·rfl
theorem zm (k : Int) (t : List Int) : ∀ v, (tM k t v).isSome = true ↔ v ∈ t.map (Value.int .i64) := by
 intro v
 unfold tM
 split
 ·rename_i z
  rw [List.mem_map]
  split
  ·rename_i hc
   exact ⟨fun _ => ⟨z, List.contains_iff_mem.1 hc, rfl⟩, fun _ => rfl⟩
  ·rename_i hc
   refine ⟨fun h => (by cases h), fun ⟨y, hy, he⟩ => ?_⟩
   cases he
   exact absurd (List.contains_iff_mem.2 hy) hc
 ·rename_i hv
  refine ⟨fun h => (by cases h), fun h => ?_⟩
  obtain ⟨y, _, rfl⟩ := List.mem_map.1 h
  exact absurd rfl (hv y)
theorem sb {t : List Int} (h : t.Nodup) : (t.map (Value.int .i64)).Pairwise (· ≠ ·) := List.pairwise_map.2 (h.imp fun hne e => hne (by cases e; rfl))
def cB (l : List Int) : List AV := l.map fun z => az z
theorem eN (l : List Int) : (cB l).length = l.length := by simp [cB]
theorem mA {l : List Int} {i : Nat} {z : Int} (h : l[i]? = some z) : (cB l)[0 + ((i : Nat) : Int).toNat * 1]? = some (az z) := by simp [cB, h]
theorem fx {l : List Int} {i : Nat} {z : Int} : eE (cB l) (0 + ((i : Nat) : Int).toNat * 1) [az z] = cB (l.set i z) := by
 rw [fI]
 unfold cB
 rw [List.map_set]
 simp
theorem il (n : Nat) : (List.replicate n [az 0]).flatten = cB (List.replicate n 0) := by
 induction n with
 | zero => rfl
 | succ n ih => rw [List.replicate_succ, List.flatten_cons, ih, List.replicate_succ]; rfl
theorem ij (l : List Int) : cB l = (aU l).flatten := by
 induction l with
 | nil => rfl
 | cons z l ih => simp [cB, aU] at ih ⊢; exact ih
theorem jL {mb cb : Nat} {M : AB} {c c' : List AV} (h : c = c') : [(mb, M), (cb, AB.box c 3)] = [(mb, M), (cb, .box c' 3)] := by rw [h]
theorem yK {l : List Int} {g : Int} {z : Int} (h : l[g.toNat]? = some z) : l.getD g.toNat 0 = z := by rw [List.getD_eq_getElem?_getD, h]; rfl
theorem vf {l : List Int} {k : Nat} {z : Int} (h : l[k]? = some z) : (eA (l.take k) ++ l.drop k).set k ((cU (fO (l.take k)) z).idxOf z : Nat) = eA (l.take (k + 1)) ++ l.drop (k + 1) := by
 have hk := (Dp h).1
 rw [List.set_append, if_neg (by rw [eU, List.length_take]; omega), eU, List.length_take, Nat.min_eq_left (by omega), Nat.sub_self, List.drop_eq_getElem_cons hk, List.set_cons_zero, List.take_add_one, h]
 dsimp only [Option.toList]
 rw [sL, List.append_assoc]
 rfl
theorem zp {l : List Int} {k : Nat} {z : Int} (h : l[k]? = some z) : (eA (l.take k) ++ l.drop k)[k]? = some z := by
 have hk := (Dp h).1
 rw [List.getElem?_append_right (by rw [eU, List.length_take]; omega), eU, List.length_take, Nat.min_eq_left (by omega), Nat.sub_self, List.getElem?_drop]
 exact h
theorem va {l : List Int} {k : Nat} {z : Int} (h : l[k]? = some z) : fO (l.take (k + 1)) = cU (fO (l.take k)) z := by
 rw [List.take_add_one, h]
 exact gr _ _
set_option maxHeartbeats 8000000 in
theorem nK (n : Nat) (h0 : 0 < n) (hn : n ≤ 65536) (sets : List (List Int)) (hs : ∀ s ∈ sets, i8 s ∧ ∀ g ∈ s, 0 ≤ g ∧ g < (n : Int)) (hsl : sets.length ≤ 1000000) : bk Tryz.prog 98 [az n, .imm 1 (b7 sets)] (.imm 1 (aU (cP n sets))) := by
 refine aB Tryz.func98 rfl Tryz.ntmps98 rfl fun B => ?_
 have hrl := bQ sets
 repeat' (first|refine a8 ?_|refine a0 ?_|refine a5 ?_|refine a6 ?_|refine a7 a4 rfl rfl ?_)
 refine bG [0, 1] False rfl (fun Q' K => ?_) (fun hC => hC.elim) (fun _ => ?_)
 ·repeat' (first|refine a6 ?_|refine a7 a4 rfl rfl ?_|refine an rfl rfl ?_|refine aw rfl rfl rfl rfl ?_|refine aG rfl rfl rfl (fun _ => ?_) (fun _ => ?_))
  all_goals exact K _ _ rfl rfl (by simp_all <;> omega)
 repeat' (first|refine a8 ?_|refine a0 ?_|refine ah ?_|refine a5 ?_|refine a7 a4 rfl rfl ?_)
 refine gP a4 n rfl rfl rfl rfl rfl rfl rfl (by omega) (by omega) rfl fun cb => ?_
 rw [show (List.replicate n (List.map AV.sc [Value.int .i64 0])).flatten = cB (List.replicate n 0) from il n]
 repeat' (first|refine a8 ?_|refine a0 ?_|refine aj ?_|refine a5 ?_|refine a6 ?_|refine a7 a4 rfl rfl ?_)
 refine aK [0, 5, 28, 29] (α := Nat × List Int × Int) (fun s => [(30, az s.1), (6, az s.2.2)]) (fun s => s.1 ≤ sets.length ∧ (sets.drop s.1).foldl gQ (s.2.1, s.2.2) = kj n sets ∧ s.2.1.length = n ∧ 0 ≤ s.2.2 ∧ s.2.2 ≤ 1 + s.1 * 65536) (fun s => [(cb, .box (cB s.2.1) 3)]) (fun s => sets.length - s.1) (0, List.replicate n 0, 1) rfl ⟨rfl, rfl, trivial⟩ ⟨Nat.zero_le _, rfl, by simp, by dsimp only; omega, by dsimp only; omega⟩ (fun _ _ h => h) ?_
 ·rintro ⟨k, cls, k0⟩ ⟨hk, hf, hcl, hk0, hk1⟩
  dsimp only at hk hf hcl hk0 hk1 ⊢
  try dsimp only [Ds, Dr, Dq, Dn]
  repeat' (first|refine a8 ?_|refine a0 ?_|refine a5 ?_|refine a6 ?_|refine a7 a4 rfl rfl ?_)
  refine aq rfl (fun h1 => ?_) (fun h1 => ?_)
  ·have hk2 : k < sets.length := by have := Dz h1; omega
   obtain ⟨s, hsk⟩ : ∃ z, sets[k]? = some z := ⟨_, Bj hk2⟩
   have hsg := fm hsk
   obtain ⟨hri, hdm⟩ := hs s (Dw hsk)
   have hsn : s.length ≤ n := dO (eZ hri) hdm
   have hil := b6 s
   haveI := AD.mk (xn s hri)
   rw [List.drop_eq_getElem_cons hk2, (Dp hsk).2, List.foldl_cons] at hf
   clear h1
   repeat' (first|refine a8 ?_|refine a0 ?_|refine aj ?_|refine ah ?_|refine a5 ?_|refine a6 ?_|refine a7 a4 rfl rfl ?_|(apply aE; first|refine aD a4 ?_|refine aA a4 ?_)|fail)
   refine ea KJ fun mb => ?_
   rw [← xu k0]
   repeat' (first|refine a8 ?_|refine a0 ?_|refine aj ?_|refine a5 ?_|refine a6 ?_|refine a7 a4 rfl rfl ?_|(apply bb;refine b4 ?_)|fail)
   refine aK [0, 5, 9, 28, 29, 30, 36, 37] (α := Nat × List Int × List Int) (fun t => [(38, az t.1), (6, az (k0 + (t.2.2.length : Nat)))]) (fun t => t.1 ≤ s.length ∧ (s.drop t.1).foldl (fC k0) (t.2.1, t.2.2) = s.foldl (fC k0) (cls, []) ∧ t.2.1.length = n ∧ t.2.2.length ≤ t.1) (fun t => [(mb, ce KJ (tM k0 t.2.2)), (cb, .box (cB t.2.1) 3)]) (fun t => s.length - t.1) (0, cls, []) rfl ⟨rfl, by simp; rfl, trivial⟩ ⟨Nat.zero_le _, rfl, hcl, Nat.le_refl _⟩ (fun _ _ h => h) ?_
   rintro ⟨j, cl1, ap⟩ ⟨hj, hjf, hjl, hja⟩
   dsimp only at hj hjf hjl hja ⊢
   try dsimp only [Ds, Dr, Dq, Dn]
   repeat' (first|refine a8 ?_|refine a0 ?_|refine a5 ?_|refine a6 ?_|refine a7 a4 rfl rfl ?_)
   refine aq rfl (fun h1 => ?_) (fun h1 => ?_)
   ·have hj2 : j < s.length := by have := Dz h1; omega
    obtain ⟨g, hg⟩ : ∃ z, s[j]? = some z := ⟨_, Bj hj2⟩
    have hgg := bI hg
    obtain ⟨hg0, hgn⟩ := hdm g (Dw hg)
    obtain ⟨z, hz⟩ : ∃ z, cl1[g.toNat]? = some z := ⟨_, Bj (by omega)⟩
    have hgt : ((g.toNat : Nat) : Int) = g := Int.toNat_of_nonneg hg0
    have hzc := mA hz
    rw [hgt] at hzc
    have hcc := eN cl1
    have hput : ∀ y, eE (cB cl1) (0 + g.toNat * 1) [az y] = cB (cl1.set g.toNat y) := fun y => by
     have := fx (l := cl1) (i := g.toNat) (z := y)
     rwa [hgt] at this
    rw [List.drop_eq_getElem_cons hj2, (Dp hg).2, List.foldl_cons] at hjf
    have hmk : fC k0 (cl1, ap) g = (cl1.set g.toNat (k0 + ((cU ap z).idxOf z : Nat)), cU ap z) := by
     unfold fC
     rw [yK hz]
    rw [hmk] at hjf
    have hal := nv ap z
    clear h1
    repeat' (first|refine a8 ?_|refine a0 ?_|refine aj ?_|refine ah ?_|refine a5 ?_|refine a6 ?_|refine a7 a4 rfl rfl ?_|(apply aE; first|refine aD a4 ?_|refine aA a4 ?_)|fail)
    refine bG [0, 5, 6, 9, 11, 28, 29, 30, 36, 37, 38] False rfl (fun Q' K => ?_) (fun hC => hC.elim) (fun _ => ?_)
    ·repeat' (first|refine a6 ?_|refine a7 a4 rfl rfl ?_|refine an rfl rfl ?_|refine aw rfl rfl rfl rfl ?_|refine aG rfl rfl rfl (fun _ => ?_) (fun _ => ?_))
     all_goals exact K _ _ rfl rfl (by simp_all <;> omega)
    repeat' (first|refine a8 ?_|refine a0 ?_|refine ah ?_|refine a5 ?_|refine a6 ?_|refine a7 a4 rfl rfl ?_|(apply bD; first|refine ai a4 0 rfl rfl rfl rfl rfl ?_|refine ai a4 1 rfl rfl rfl rfl rfl ?_|refine ai a4 2 rfl rfl rfl rfl rfl ?_|refine ai a4 3 rfl rfl rfl rfl rfl ?_|refine ax a4 0 rfl rfl rfl rfl rfl ?_|refine ax a4 1 rfl rfl rfl rfl rfl ?_|refine ax a4 2 rfl rfl rfl rfl rfl ?_|refine ai a4 1 rfl rfl rfl (by assumption) rfl ?_|refine ai a4 0 rfl rfl rfl (by assumption) rfl ?_|fail)|(apply aE; first|refine aD a4 ?_|refine aA a4 ?_)|fail)
    refine fk 0 (.int .i64 0) Tryz.underlying257 Tryz.underlying3 rfl rfl rfl rfl (by kernel_rfl) rfl ?_
    by_cases hm : z ∈ ap
    ·have hgs := pN (k := k0) hm
     have hta := dQ hm
     rw [hta] at hjf
     rw [hgs]
     repeat' (first|refine a8 ?_|refine a0 ?_|refine ah ?_|refine a5 ?_|refine a6 ?_|refine a7 a4 rfl rfl ?_|refine bB rfl ?_)
     refine kc 0 (.int .i64 0) Tryz.underlying257 Tryz.underlying3 rfl rfl rfl rfl (by kernel_rfl) rfl ?_
     rw [hgs]
     repeat' (first|(apply aE; first|refine aD a4 ?_|refine aA a4 ?_)|fail)
     refine aa a4 1 rfl rfl rfl rfl rfl rfl (Nat.ble_eq_true_of_le (by rw [hcc]; simp; omega)) ?_
     refine aP (aV (L' := [(mb, ce KJ (tM k0 ap)), (cb, .box (cB (cl1.set g.toNat (k0 + (ap.idxOf z : Nat)))) 3)]) (List.Perm.of_eq (jL (hput _)))) ?_
     repeat' (first|refine a0 ?_|refine a5 ?_|refine aH ?_|refine a6 ?_|refine a7 a4 rfl rfl ?_|(apply aS; refine aR ?_)|fail)
     exact ay (j + 1, _, ap) rfl ⟨by rw [Dv]; rfl, rfl, trivial⟩ ⟨hj2, hjf, by rw [List.length_set]; exact hjl, by dsimp only; omega⟩ (by dsimp only; omega) (fun _ _ h => h)
    ·have hgn2 := tL (k := k0) hm
     have hgp := xv (k := k0) hm
     have hnew := ku hm
     have hnl : (cU ap z).length = ap.length + 1 := by rw [ez hm, List.length_append, List.length_singleton]
     rw [hgn2]
     repeat' (first|refine a8 ?_|refine a0 ?_|refine a5 ?_|refine a6 ?_|refine a7 a4 rfl rfl ?_|refine br rfl ?_)
     refine d3 0 (tM k0 (cU ap z)) Tryz.underlying257 Tryz.underlying3 rfl rfl rfl rfl rfl hgp (tK hm) ?_
     repeat' (first|refine a0 ?_|refine a5 ?_|refine a6 ?_|refine a7 a4 rfl rfl ?_|(apply aS; refine aR ?_)|fail)
     refine kc 0 (.int .i64 0) Tryz.underlying257 Tryz.underlying3 rfl rfl rfl rfl (by kernel_rfl) rfl ?_
     rw [hgp]
     repeat' (first|(apply aE; first|refine aD a4 ?_|refine aA a4 ?_)|fail)
     refine aa a4 1 rfl rfl rfl rfl rfl rfl (Nat.ble_eq_true_of_le (by rw [hcc]; simp; omega)) ?_
     refine aP (aV (L' := [(mb, ce KJ (tM k0 (cU ap z))), (cb, .box (cB (cl1.set g.toNat (k0 + (ap.length : Nat)))) 3)]) (List.Perm.of_eq (jL (hput _)))) ?_
     repeat' (first|refine a0 ?_|refine a5 ?_|refine aH ?_|refine a6 ?_|refine a7 a4 rfl rfl ?_|(apply aS; refine aR ?_)|fail)
     rw [hnew] at hjf
     refine ay (j + 1, _, cU ap z) rfl ⟨by rw [Dv]; rfl, ?_, trivial⟩ ⟨hj2, hjf, by rw [List.length_set]; exact hjl, by dsimp only; omega⟩ (by dsimp only; omega) (fun _ _ h => h)
     show some (AV.sc (.int .i64 (k0 + (ap.length : Nat) + 1))) = some (az (k0 + ((cU ap z).length : Nat)))
     rw [hnl, Dv, Int.add_assoc]
     rfl
   ·have hj2 : j = s.length := by have := Dy h1; omega
    subst hj2
    rw [List.drop_length] at hjf
    have hjf2 : (cl1, ap) = s.foldl (fC k0) (cls, []) := hjf
    have hps : gQ (cls, k0) s = (cl1, k0 + (ap.length : Nat)) := by
     unfold gQ
     dsimp only
     rw [← hjf2]
    rw [hps] at hf
    clear h1
    repeat' (first|refine a0 ?_|refine aL ?_|refine a5 ?_|refine ar ?_|refine aH ?_|refine av ?_|refine au ?_|refine a6 ?_|refine a7 a4 rfl rfl ?_|(apply aS; refine aR ?_)|fail)
    exact ay (k + 1, cl1, k0 + (ap.length : Nat)) rfl ⟨by rw [Dv]; rfl, rfl, trivial⟩ ⟨hk2, hf, hjl, by dsimp only; omega, by dsimp only; omega⟩ (by dsimp only; omega) (fun _ _ h => h.sublist (List.sublist_cons_self ..))
  ·have hk2 : k = sets.length := by have := Dy h1; omega
   subst hk2
   rw [List.drop_length] at hf
   have hf2 : (cls, k0) = kj n sets := hf
   have hpv : cP n sets = eA cls := by unfold cP; rw [← hf2]
   rw [hpv]
   clear h1
   repeat' (first|refine a8 ?_|refine a0 ?_|refine aL ?_|refine a5 ?_|refine ar ?_|refine av ?_|refine au ?_)
   refine ea KJ fun tb => ?_
   rw [← xu 0]
   repeat' (first|refine a8 ?_|refine a0 ?_|refine aj ?_|refine a5 ?_|refine a6 ?_|refine a7 a4 rfl rfl ?_)
   refine aK [5, 15, 75, 76] (α := Nat) (fun i => [(77, az i)]) (fun i => i ≤ cls.length) (fun i => [(tb, ce KJ (tM 0 (fO (cls.take i)))), (cb, .box (cB (eA (cls.take i) ++ cls.drop i)) 3)]) (fun i => cls.length - i) 0 rfl ⟨rfl, trivial⟩ (Nat.zero_le _) (fun _ _ h => h) fun i hi => ?_
   try dsimp only [Ds, Dr, Dq, Dn]
   repeat' (first|refine a8 ?_|refine a0 ?_|refine a5 ?_|refine a6 ?_|refine a7 a4 rfl rfl ?_)
   refine aq rfl (fun h1 => ?_) (fun h1 => ?_)
   ·have hi2 : i < cls.length := by have := Dz h1; omega
    obtain ⟨z, hz⟩ : ∃ z, cls[i]? = some z := ⟨_, Bj hi2⟩
    have hzc := mA (zp hz)
    have hcc := eN (eA (cls.take i) ++ cls.drop i)
    have hcl2 : (eA (cls.take i) ++ cls.drop i).length = cls.length := by rw [List.length_append, eU, List.length_take, List.length_drop]; omega
    have htc := vf hz
    have htt := va hz
    have hnd := sG (cls.take i)
    clear h1
    repeat' (first|refine a8 ?_|refine a0 ?_|refine aj ?_|refine ah ?_|refine a5 ?_|refine a6 ?_|refine a7 a4 rfl rfl ?_|(apply bD; first|refine ai a4 0 rfl rfl rfl rfl rfl ?_|refine ai a4 1 rfl rfl rfl rfl rfl ?_|refine ai a4 2 rfl rfl rfl rfl rfl ?_|refine ai a4 3 rfl rfl rfl rfl rfl ?_|refine ax a4 0 rfl rfl rfl rfl rfl ?_|refine ax a4 1 rfl rfl rfl rfl rfl ?_|refine ax a4 2 rfl rfl rfl rfl rfl ?_|refine ai a4 1 rfl rfl rfl (by assumption) rfl ?_|refine ai a4 0 rfl rfl rfl (by assumption) rfl ?_|fail)|(apply aE; first|refine aD a4 ?_|refine aA a4 ?_)|fail)
    refine fk 0 (.int .i64 0) Tryz.underlying257 Tryz.underlying3 rfl rfl rfl rfl (by kernel_rfl) rfl ?_
    by_cases hm : z ∈ fO (cls.take i)
    ·have hgs := pN (k := 0) hm
     have hta := dQ hm
     rw [hta] at htc htt
     rw [hgs]
     repeat' (first|refine a8 ?_|refine a0 ?_|refine ah ?_|refine a5 ?_|refine a6 ?_|refine a7 a4 rfl rfl ?_|refine bB rfl ?_)
     refine kc 0 (.int .i64 0) Tryz.underlying257 Tryz.underlying3 rfl rfl rfl rfl (by kernel_rfl) rfl ?_
     rw [hgs]
     repeat' (first|(apply aE; first|refine aD a4 ?_|refine aA a4 ?_)|fail)
     refine aa a4 1 rfl rfl rfl rfl rfl rfl (Nat.ble_eq_true_of_le (by rw [hcc, hcl2, Int.toNat_natCast]; show 0 + i * 1 + 1 ≤ _; omega)) ?_
     refine aP (aV (L' := [(tb, ce KJ (tM 0 (fO (cls.take i)))), (cb, .box (cB (eA (cls.take (i + 1)) ++ cls.drop (i + 1))) 3)]) (List.Perm.of_eq (jL (by rw [← htc, ← fx, Int.zero_add])))) ?_
     repeat' (first|refine a0 ?_|refine a5 ?_|refine aH ?_|refine a6 ?_|refine a7 a4 rfl rfl ?_|(apply aS; refine aR ?_)|fail)
     exact ay (i + 1) rfl ⟨by rw [Dv]; rfl, trivial⟩ (by omega) (by omega) (fun _ _ h => by rw [htt]; exact h)
    ·have hgn2 := tL (k := 0) hm
     have hgp := xv (k := 0) hm
     have hnew := ku hm
     rw [hgn2]
     repeat' (first|refine a8 ?_|refine a0 ?_|refine a5 ?_|refine a6 ?_|refine a7 a4 rfl rfl ?_|refine br rfl ?_)
     refine wX 0 _ Tryz.underlying257 rfl rfl (sb hnd) (zm 0 _) rfl ?_
     rw [Du]
     rw [Int.zero_add] at hgp
     repeat' (first|fail)
     refine d3 0 (tM 0 (cU (fO (cls.take i)) z)) Tryz.underlying257 Tryz.underlying3 rfl rfl rfl rfl rfl hgp (tK hm) ?_
     repeat' (first|refine a0 ?_|refine a5 ?_|refine a6 ?_|refine a7 a4 rfl rfl ?_)
     refine kc 0 (.int .i64 0) Tryz.underlying257 Tryz.underlying3 rfl rfl rfl rfl (by kernel_rfl) rfl ?_
     rw [hgp]
     repeat' (first|(apply aE; first|refine aD a4 ?_|refine aA a4 ?_)|fail)
     refine aa a4 1 rfl rfl rfl rfl rfl rfl (Nat.ble_eq_true_of_le (by rw [hcc, hcl2, Int.toNat_natCast]; show 0 + i * 1 + 1 ≤ _; omega)) ?_
     refine aP (aV (L' := [(tb, ce KJ (tM 0 (cU (fO (cls.take i)) z))), (cb, .box (cB (eA (cls.take (i + 1)) ++ cls.drop (i + 1))) 3)]) (List.Perm.of_eq (jL (by rw [← htc, ← fx, hnew])))) ?_
     repeat' (first|refine a0 ?_|refine a5 ?_|refine aH ?_|refine a6 ?_|refine a7 a4 rfl rfl ?_|(apply aS; refine aR ?_)|fail)
     exact ay (i + 1) rfl ⟨by rw [Dv]; rfl, trivial⟩ (by omega) (by omega) (fun _ _ h => by rw [htt]; exact h)
   ·have hi2 : i = cls.length := by have := Dy h1; omega
    subst hi2
    rw [List.take_length, List.drop_length, List.append_nil]
    clear h1
    repeat' (first|refine a8 ?_|refine a0 ?_|refine ae ?_|refine aL ?_|refine a5 ?_|refine ar ?_|refine av ?_|refine au ?_|refine a6 ?_|refine a7 a4 rfl rfl ?_)
    have htl := eU cls
    have hcc := eN (eA cls)
    refine bA (gt (t := 4) (sz := 1) (n := n) (cap := n) (l := aU (eA cls)) 1 rfl rfl ?_ (by omega) (fun e he => ?_) (by rw [b6]; omega) (Nat.le_refl _) (by unfold maxLen; omega)) ?_
    ·rw [← ij, Nat.mul_one, List.take_of_length_le (by omega)]
    ·unfold aU at he
     obtain ⟨y, _, rfl⟩ := List.mem_map.1 he
     rfl
    refine du (List.nil_sublist _) ?_
    exact ak rfl rfl rfl
abbrev Pl := Nat × Nat
section
variable {cls : List Int} {rows : List (List (List Int))} {have_ : Nat → Bool} {L : Nat}
theorem oV (hL : ∀ r ∈ rows, r.length ≤ L) {p : Pl} {c : Nat} (h : (bq cls rows p c).2 ≠ 0) : (bq cls rows p c).1 ≤ L ∧ (bq cls rows p c).2 < 2 ^ rows.length ∧ bq cls rows p c = (p.1 + 1, p.2 &&& gj cls rows p.1 c) := by
 unfold bq at h ⊢
 split
 ·rename_i h0
  rw [if_pos h0] at h
  exact absurd rfl h
 ·rename_i h0
  refine ⟨?_, Nat.lt_of_le_of_lt Nat.and_le_right (jK _ _), rfl⟩
  have hn : gj cls rows p.1 c ≠ 0 := fun e => h0 (by rw [e, Nat.and_zero])
  have : ¬ ∀ i, i < rows.length → jc cls rows p.1 c i = false := fun hh => hn (mv.2 hh)
  apply Classical.byContradiction
  intro hlt
  refine this fun i hi => ?_
  unfold jc
  rw [Bj hi]
  dsimp only
  rw [List.getElem?_eq_none (by have := hL _ (List.getElem_mem hi); dsimp only at hlt; omega)]
structure g9 (rows : List (List (List Int))) (have_ : Nat → Bool) (L : Nat) (M : List Pl) : Prop where
 first : M[0]? = some (jq rows have_)
 nodup : M.Nodup
 small : ∀ p ∈ M, p.1 ≤ L ∧ p.2 < 2 ^ rows.length
theorem g9.start : g9 rows have_ L [jq rows have_] := ⟨rfl, by simp, fun p hp => by
 rw [List.mem_singleton] at hp
 subst hp
 exact ⟨Nat.zero_le _, jK _ _⟩⟩
theorem g9.meet {M : List Pl} (h : g9 rows have_ L M) (hL : ∀ r ∈ rows, r.length ≤ L) {p : Pl} {c : Nat} (hne : (bq cls rows p c).2 ≠ 0) : g9 rows have_ L (cU M (bq cls rows p c)) := by
 refine ⟨kr _ h.first, jA _ h.nodup, fun q hq => ?_⟩
 by_cases hm : bq cls rows p c ∈ M
 ·rw [dQ hm] at hq; exact h.small q hq
 ·rw [ez hm, List.mem_append, List.mem_singleton] at hq
  rcases hq with hq | rfl
  ·exact h.small q hq
  ·have := oV hL hne
   exact ⟨this.1, this.2.1⟩
theorem g9.few {M : List Pl} (h : g9 rows have_ L M) : M.length ≤ (L + 1) * 2 ^ rows.length := by
 have hk : 0 < 2 ^ rows.length := Nat.pow_pos (by omega)
 have hs := h.small
 generalize 2 ^ rows.length = K at hk hs
 have h1 : (M.map fun p : Pl => ((p.1 * K + p.2 : Nat) : Int)).Nodup := by
  refine List.pairwise_map.2 (h.nodup.imp_of_mem fun {a b} ha hb hab => fun e => hab ?_)
  have e' : a.1 * K + a.2 = b.1 * K + b.2 := by omega
  have ha2 := (hs a ha).2
  have hb2 := (hs b hb).2
  have e1 : a.1 = b.1 := by
   have h3 : (a.1 * K + a.2) / K = a.1 := by rw [Nat.mul_comm, Nat.mul_add_div hk, Nat.div_eq_of_lt ha2, Nat.add_zero]
   have h4 : (b.1 * K + b.2) / K = b.1 := by rw [Nat.mul_comm, Nat.mul_add_div hk, Nat.div_eq_of_lt hb2, Nat.add_zero]
   rw [← h3, ← h4, e']
  exact Prod.ext e1 (by rw [e1] at e'; omega)
 have h2 := dO (n := (L + 1) * K) h1 fun z hz => by
  obtain ⟨p, hp, rfl⟩ := List.mem_map.1 hz
  obtain ⟨a1, a2⟩ := hs p hp
  have : p.1 * K + p.2 < (L + 1) * K := by
   have : p.1 * K ≤ L * K := Nat.mul_le_mul_right _ a1
   rw [Nat.add_mul, Nat.one_mul]
   omega
  exact ⟨by omega, by omega⟩
 rwa [Du] at h2
def fU (cls : List Int) (rows : List (List (List Int))) (M : List Pl) (p : Pl) (c : Nat) (z : Int) : Prop :=
 ((bq cls rows p c).2 = 0 ∧ z = -1) ∨ ((bq cls rows p c).2 ≠ 0 ∧ 0 ≤ z ∧ M[z.toNat]? = some (bq cls rows p c))
theorem fU.more {M : List Pl} {p q : Pl} {c : Nat} {z : Int} (h : fU cls rows M p c z) : fU cls rows (cU M q) p c z := by
 rcases h with h | ⟨h1, h2, h3⟩
 ·exact Or.inl h
 ·exact Or.inr ⟨h1, h2, kr _ h3⟩
theorem fU.new {M : List Pl} {p : Pl} {c : Nat} (h : (bq cls rows p c).2 ≠ 0) : fU cls rows (cU M (bq cls rows p c)) p c ((cU M (bq cls rows p c)).idxOf (bq cls rows p c) : Nat) :=
 Or.inr ⟨h, by omega, by rw [Int.toNat_natCast]; exact zl⟩
structure eK (cls : List Int) (rows : List (List (List Int))) (C : Nat) (M : List Pl) (tab : List (List Int)) (ends : List Nat) : Prop where
 len : ends.length = tab.length
 ends : ∀ (i : Nat) p, i < tab.length → M[i]? = some p → ends[i]? = some (gc rows p)
 tab : ∀ (i : Nat) p q, M[i]? = some p → tab[i]? = some q → q.length = C ∧ ∀ (c : Nat) z, q[c]? = some z → fU cls rows M p c z
theorem eK.nil {C : Nat} {M : List Pl} : eK cls rows C M [] [] := ⟨rfl, fun i p h => by simp at h, fun i p q _ h => by simp at h⟩
theorem eK.more {C : Nat} {M : List Pl} {tab : List (List Int)} {ends : List Nat} (h : eK cls rows C M tab ends) (hl : tab.length ≤ M.length) (q : Pl) : eK cls rows C (cU M q) tab ends := by
 have hb : ∀ (i : Nat) p, i < tab.length → (cU M q)[i]? = some p → M[i]? = some p := fun i p hi hp => by
  obtain ⟨x, hx⟩ : ∃ x, M[i]? = some x := ⟨_, Bj (by omega)⟩
  have := kr q hx
  rw [hp] at this
  cases this
  exact hx
 refine ⟨h.len, fun i p hi hp => h.ends i p hi (hb i p hi hp), fun i p r hp hr => ?_⟩
 obtain ⟨h1, h2⟩ := h.tab i p r (hb i p (Dp hr).1 hp) hr
 exact ⟨h1, fun c z hz => (h2 c z hz).more⟩
theorem eK.snoc {C : Nat} {M : List Pl} {tab : List (List Int)} {ends : List Nat} (h : eK cls rows C M tab ends) {p : Pl} {dl : List Int} (hp : M[tab.length]? = some p) (hr : dl.length = C) (hc : ∀ (c : Nat) z, dl[c]? = some z → fU cls rows M p c z) : eK cls rows C M (tab ++ [dl]) (ends ++ [gc rows p]) := by
 refine ⟨by simp [h.len], fun i q hi hq => ?_, fun i q r hq hr' => ?_⟩
 ·rw [List.length_append, List.length_singleton] at hi
  by_cases hit : i < tab.length
  ·rw [List.getElem?_append_left (by rw [h.len]; exact hit)]
   exact h.ends i q hit hq
  ·have e : i = tab.length := by omega
   subst e
   rw [hp] at hq
   cases hq
   rw [List.getElem?_append_right (by rw [h.len]; exact Nat.le_refl _), h.len, Nat.sub_self]
   rfl
 ·by_cases hit : i < tab.length
  ·rw [List.getElem?_append_left hit] at hr'
   exact h.tab i q r hq hr'
  ·rw [List.getElem?_append_right (by omega)] at hr'
   have hi0 : i - tab.length = 0 := by
    have := (Dp hr').1
    simp at this
    omega
   have e : i = tab.length := by omega
   subst e
   rw [Nat.sub_self] at hr'
   simp at hr'
   subst hr'
   rw [hp] at hq
   cases hq
   exact ⟨hr, hc⟩
theorem eK.done {C : Nat} {M : List Pl} {tab : List (List Int)} {ends : List Nat} (h : eK cls rows C M tab ends) (hs : g9 rows have_ L M) (hl : tab.length = M.length) : nQ cls rows have_ C tab ends :=
 ⟨M, hs.first, hl.symm, by rw [h.len, hl], fun i p hp => h.ends i p (by rw [hl]; exact (Dp hp).1) hp, fun i p q hp hq => h.tab i p q hp hq⟩
end
end Go.Proofs.YtpmdfoaadejmkaaGreatDoor
