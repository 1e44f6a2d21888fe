/-
  Shifts to the left, arrays as rows, rows of bytes as texts.
-/
import Derived.Test.YtpmdfoaadejmkaaGreatDoorM13
import Derived.Test.YtpmdfoaadejmkaaGreatDoorM12
import Derived.Laws.BytesString
import Derived.Test.YtpmdfoaadejmkaaGreatDoorM06
import Derived.WalkSpells
import Derived.Test.YtpmdfoaadejmkaaGreatDoorM14
import Derived.Test.YtpmdfoaadejmkaaGreatDoorM11
namespace Go.Proofs.YtpmdfoaadejmkaaGreatDoor
open Go.RowKit
section
variable {P : Program} {fr : bw} {B : Bs} {L : AL} {d : Option Tmp} {ty t t' : TypeId} {pos : String} {af : Array Edge} {g : Option (Nat × Bool)} {x y z : Operand} {u : AV}
theorem Aq {dd : Option Tmp} {k kk : IntKind} {a b : Int} (i : Nat) (hx : aW fr x = some (.sc (.int k a))) (hy : aW fr y = some (.sc (.int kk b))) (hb : b = (i : Int)) : Av P ⟨dd, .binOp .shl t x y t', ty, pos, af, g⟩ fr (.sc (.int k (k.wrap (a * 2 ^ min i k.bits)))) := by
 intro σ ρ w hρ _
 subst hb
 refine ⟨_, ?_, .sc _⟩
 have h := shift_shl_any k kk a (i : Int) (Int.natCast_nonneg i)
 simp [execOp, (hρ x _ hx).sc_inv, (hρ y _ hy).sc_inv, eqGuard, binOp, h]
theorem vu {dd : Option Tmp} {n e sz b : Nat} (ha : P.underlying t = some (.array n e)) (hs : (P.info? e).map (·.size) = some sz) (hx : aW fr x = some (.sc (.pointer (some ⟨b, 0, none⟩)))) : Av P ⟨dd, .slice t x none none none, ty, pos, af, g⟩ fr (.sc (.slice (some ⟨b, 0, none⟩) n n)) := by
 intro σ ρ w hρ _
 refine ⟨_, ?_, .sc _⟩
 obtain ⟨i, hi, hi2⟩ : ∃ i, P.info? e = some i ∧ i.size = sz := by
  cases hi : P.info? e with
  | none => rw [hi] at hs; cases hs
  | some i => rw [hi] at hs; exact ⟨i, rfl, by simpa using hs⟩
 simp [execOp, (hρ x _ hx).sc_inv, Instr.sliceAt, Instr.sliceBounds, Instr.sureAddr, run_underlying ha, sizeOf, typeInfo, hi, cS]
theorem tY (i : Nat) {dd : Option Tmp} {e sz by_ b n cap : Nat} {e' : TypeId} (ns : List Int) (hs : j9 P t e sz by_) (he : xH P e .u8) (hd : xI P t') (hx : aW fr x = some (.sc (.slice (some ⟨b, 0, none⟩) n cap))) (hL : L[i]? = some (b, .box (ns.map fun z => .sc (.int .u8 z)) e')) (hn : ns.length = n) :
  AO P ⟨dd, .convert t t' x, ty, pos, af, g⟩ fr B L (fun c L' => c = .sc (.string (ns.foldl (fun r n => r.push (UInt8.ofNat n.toNat)) ByteArray.empty)) ∧ L' = L) := by
 intro σ ρ w hρ hw
 obtain ⟨o, ho, vs, rfl, hvs, h1⟩ := hw.here _ (Dw hL)
 have hvs' : vs = ns.map (Value.int .u8) := by
  have hl := hvs.1
  rw [Du] at hl
  apply List.ext_getElem?
  intro j
  by_cases hj : j < ns.length
  ·obtain ⟨z, hz⟩ : ∃ z, ns[j]? = some z := ⟨_, Bj hj⟩
   obtain ⟨v, hv⟩ : ∃ v, vs[j]? = some v := ⟨_, Bj (by omega)⟩
   have := hvs.2 j _ v (by rw [List.getElem?_map, hz]; rfl) hv
   rw [hv, List.getElem?_map, hz, this.sc_inv]
   rfl
  ·rw [List.getElem?_eq_none (by omega), List.getElem?_eq_none (by rw [Du]; omega)]
 have hload : (loadCells ⟨b, 0, none⟩ n).run P w = .ok (ns.map (Value.int .u8)).toArray w := by
  have := run_loadCells_list (P := P) w ⟨b, 0, none⟩ vs fun j v hj => by
   rw [cS, Nat.zero_add, cl ho]
   simpa using hj
  rw [← hvs.1, Du, hn] at this
  rw [this, hvs']
 have hr := run_bytesToString (P := P) w ⟨b, 0, none⟩ n cap ns hload
 haveI := hs
 unfold fq
 rw [show (execOp ρ ⟨dd, .convert t t' x, ty, pos, af, g⟩).run P w = .ok (.value (.string (ns.foldl (fun r n => r.push (UInt8.ofNat n.toNat)) ByteArray.empty))) w by
  simp [execOp, (hρ x _ hx).sc_inv, run_convert_bytes_string w t t' e _ _ _ hs.under he.under hd.under, hr]]
 exact ⟨σ, .sc _, _, bJ.le_refl _, .sc _, hw, rfl, rfl⟩
end
section
variable {P : Program} {tt : TT} {r : Option Nat} {ops : Array Oper} {Q : Exit → Act → World → Prop} {nt : Nat} {D : List Deferred} {fr : bw} {B : Bs} {L : AL} {rest : List Oper} {d : Nat} {ty t t' : TypeId} {pos : String} {af : Array Edge} {x y z : Operand} {u : AV}
theorem wV (ok : dg P tt) {n e sz b : Nat} (ha : xY tt t = some (n, e, sz)) (hx : aW fr x = some (.sc (.pointer (some ⟨b, 0, none⟩)))) (hd : Nat.ble nt d = false) (h : bf P r ops Q nt D rest ((d, .sc (.slice (some ⟨b, 0, none⟩) n n)) :: fr) B L) : bf P r ops Q nt D (⟨some d, .slice t x none none none, ty, pos, af, none⟩ :: rest) fr B L :=
 bT (vu (iN ok ha).1 (iN ok ha).2 hx) hd rfl h
theorem wT (ok : dg P tt) (i : Nat) (ns : List Int) {e sz by_ b n cap : Nat} {e' : TypeId} {ti ti' : TI} (ht : iF tt t = some (e, sz, by_)) (he : cG tt e = some ti) (hk : ti.k = .int .u8) (ht' : cG tt t' = some ti') (hk' : ti'.k = .str) (hx : aW fr x = some (.sc (.slice (some ⟨b, 0, none⟩) n cap))) (hL : L[i]? = some (b, .box (ns.map fun z => .sc (.int .u8 z)) e')) (hn : ns.length = n) (hd : Nat.ble nt d = false) (h : bf P r ops Q nt D rest ((d, .sc (.string (ns.foldl (fun r n => r.push (UInt8.ofNat n.toNat)) ByteArray.empty))) :: fr) B L) : bf P r ops Q nt D (⟨some d, .convert t t' x, ty, pos, af, none⟩ :: rest) fr B L :=
 c6 hd rfl (tY i ns (b8 ok ht).1 (ok.int he hk) (ok.str ht' hk') hx hL hn) fun c L' ⟨h1, h2⟩ => by subst h1; subst h2; exact h
end
section
variable {P : Program} {tt : TT} {l : List Oper} {fr : bw} {fin : jh} {sk : lg} {acc : bw} {L : AL} {k : Nat} {dd : Option Tmp} {ty t t' : TypeId} {pos : String} {af : Array Edge} {g : Option (Nat × Bool)} {x y : Operand} {u : AV}
theorem rT (i : Nat) {q q' : IntKind} {a b : Int} (hx : aW (ci l.toArray acc fr af.toList) x = some (.sc (.int q a))) (hy : aW (ci l.toArray acc fr af.toList) y = some (.sc (.int q' b))) (hb : b = (i : Int)) (hg : iK ⟨dd, .binOp .shl t x y t', ty, pos, af, g⟩ acc) (h : DA P l fr fin sk ((k, .sc (.int q (q.wrap (a * 2 ^ min i q.bits)))) :: acc) L) : cA P l fr fin k .v ⟨dd, .binOp .shl t x y t', ty, pos, af, g⟩ sk acc L := eO hg (yU (Aq i hx hy hb)) h
theorem yd {q : IntKind} {a b : Int} (hx : aW (ci l.toArray acc fr af.toList) x = some (.sc (.int q a))) (hy : aW (ci l.toArray acc fr af.toList) y = some (.sc (.int q b))) (hg : iK ⟨dd, .binOp .or t x y t', ty, pos, af, g⟩ acc) (h : DA P l fr fin sk ((k, .sc (.int q (bits .or q a b))) :: acc) L) : cA P l fr fin k .v ⟨dd, .binOp .or t x y t', ty, pos, af, g⟩ sk acc L := eO hg (yU (sS hx hy)) h
end
end Go.Proofs.YtpmdfoaadejmkaaGreatDoor
namespace Go.Proofs.YtpmdfoaadejmkaaGreatDoor
open Go.RowKit
def gz (P : Program) (u : AV) (args : List AV) (L : AL) (Post : AV → AL → Prop) : Prop := (∃ f caps, bi P f ∧ hQ u = some (f, caps) ∧ AC P f (args ++ caps) L Post) ∨ ∃ f fs caps, bi P f ∧ u = .fnB f fs caps ∧ AC P f (fs ++ (args ++ caps)) L Post
theorem gz.fn {P : Program} {f : FuncId} {caps args : List AV} {L : AL} {Post : AV → AL → Prop} [h : bi P f] (k : AC P f (args ++ caps) L Post) : gz P (.fn f caps) args L Post := .inl ⟨f, caps, h, rfl, k⟩
theorem gz.fn0 {P : Program} {f : FuncId} {args : List AV} {L : AL} {Post : AV → AL → Prop} [h : bi P f] (k : AC P f (args ++ []) L Post) : gz P (.sc (.func (.func f) #[] #[])) args L Post := .inl ⟨f, [], h, rfl, k⟩
theorem gz.fnB {P : Program} {f : FuncId} {fs caps args : List AV} {L : AL} {Post : AV → AL → Prop} [h : bi P f] (k : AC P f (fs ++ (args ++ caps)) L Post) : gz P (.fnB f fs caps) args L Post := .inr ⟨f, fs, caps, h, rfl, k⟩
def CT (u : AV) : Bool := match u with
 | .fn _ _ => true
 | .fnB _ _ _ => true
 | .sc _ => true
 | _ => false
section
variable {P : Program} {r : Option Nat} {ops : Array Oper} {Q : Exit → Act → World → Prop} {nt : Nat} {D : List Deferred} {fr : bw} {B : Bs} {L : AL} {rest : List Oper} {d : Nat} {ty t : TypeId} {pos : String} {af : Array Edge} {x y z : Operand} {u : AV} {g : Option (Nat × Bool)}
theorem vD (Lc Lf : AL) {d : Option Tmp} {f : FuncId} {args : Array Operand} {ts : Array TypeId} {cs fs caps : List AV} {Post : AV → AL → Prop} [hf : bi P f] (hx : aW fr x = some (.fnB f fs caps)) (hv : dz fr args.toList = some cs) (hL : L.Perm (Lc ++ Lf)) (h : AC P f (fs ++ (cs ++ caps)) Lc Post) :
  AO P ⟨d, .call ⟨.value x, args, ts⟩, ty, pos, af, g⟩ fr B L (fun c L' => ∃ L1, Post c L1 ∧ L' = L1 ++ Lf) := by
 intro σ ρ w hρ hw0
 have hw := hw0.perm hL
 obtain ⟨qs, ws, hw1, hw0', hw2⟩ := (hρ x _ hx).fnB_inv
 have hvs := dA hρ _ _ hv
 have e : args.map ρ = (args.toList.map ρ).toArray := by apply Array.toList_inj.1; simp
 unfold fq
 rw [show (execOp ρ ⟨d, .call ⟨.value x, args, ts⟩, ty, pos, af, g⟩).run P w = .ok (.enter f (qs ++ (args.toList.map ρ ++ ws)).toArray) w by
  simp [execOp, resolve, hw1, Deferred.ofValue, invoke, hf.enters]]
 have happ : ∀ {ps bs : List AV} {us vs : List Value}, cI σ ps us → cI σ bs vs → cI σ (ps ++ bs) (us ++ vs) := by
  intro ps bs us vs ha hb
  refine ⟨by rw [List.length_append, List.length_append, ha.1, hb.1], fun i c u hc hu => ?_⟩
  have hq := ha.1
  by_cases hi : i < ps.length
  ·rw [List.getElem?_append_left hi] at hc
   rw [List.getElem?_append_left (by omega)] at hu
   exact ha.2 i c u hc hu
  ·rw [List.getElem?_append_right (by omega)] at hc
   rw [List.getElem?_append_right (by omega), ← hq] at hu
   exact hb.2 _ c u hc hu
 have hall := happ hw0' (happ hvs hw2)
 refine (h σ w _ hall hw.enter).mono fun en w' ⟨v, τ, c, L', h1, h2, h3, h4⟩ => ⟨v, h1, τ, c, L' ++ Lf, h3.grow, h2, hw.leave h3, L', h4, rfl⟩
theorem fS {args : Array Operand} {ts : Array TypeId} {cs : List AV} {Post : AV → AL → Prop} (Lc Lf : AL) (hc : gz P u cs Lc Post) (hx : aW fr x = some u) (hv : dz fr args.toList = some cs) (hL : L.Perm (Lc ++ Lf)) (hn : Oper.noDefer ⟨some d, .call ⟨.value x, args, ts⟩, ty, pos, af, none⟩ = true) (hd : Nat.ble nt d = false) (h : ∀ c L1, Post c L1 → bf P r ops Q nt D rest ((d, c) :: fr) B (L1 ++ Lf)) :
  bf P r ops Q nt D (⟨some d, .call ⟨.value x, args, ts⟩, ty, pos, af, none⟩ :: rest) fr B L := by
 rcases hc with ⟨f, caps, hf, hu, hc⟩ | ⟨f, fs, caps, hf, rfl, hc⟩
 ·exact c6 hd hn (q6 Lc Lf hx hu hv hL hc) fun c L' ⟨L1, h1, h2⟩ => by subst h2; exact h c L1 h1
 ·exact c6 hd hn (vD Lc Lf hx hv hL hc) fun c L' ⟨L1, h1, h2⟩ => by subst h2; exact h c L1 h1
end
end Go.Proofs.YtpmdfoaadejmkaaGreatDoor
namespace Go.Proofs.YtpmdfoaadejmkaaGreatDoor
open Go.RowKit
section
variable {P : Program} {tt : TT} {r : Option Nat} {ops : Array Oper} {Q : Exit → Act → World → Prop} {nt : Nat} {D : List Deferred} {fr : bw} {B : Bs} {L : AL} {rest : List Oper} {d : Nat} {ty t t' : TypeId} {pos : String} {af : Array Edge} {x y z : Operand} {u : AV} {g : Option (Nat × Bool)}
theorem vF {dd : Option Tmp} {e sz by_ s : Nat} {l : List (List AV)} (hc : j9 P t e sz by_) (hx : aW fr x = some u) (hu : u.im = .imm s l) (hy : aW fr y = some (.sc (.slice none 0 0))) :
  AO P ⟨dd, .binOp .eql t x y t', ty, pos, af, g⟩ fr B L (fun c L' => ∃ b, c = .sc (.bool b) ∧ (b = true → l = []) ∧ L' = L) := by
 intro σ ρ w hρ hw
 have hxv := (hρ x u hx).im
 rw [hu] at hxv
 have hyv := (hρ y _ hy).sc_inv
 have key : ∀ v, VR σ (.imm s l) v → ∃ A cap, v = .slice A l.length cap ∧ (l ≠ [] → ∃ b off, A = some ⟨b, off, none⟩) := by
  intro v hv
  cases hv with
  | imm sz l A cap h1 h2 h3 ha hx2 h4 => exact ⟨A, cap, rfl, ha⟩
 obtain ⟨A, cap, hval, ha⟩ := key _ hxv
 ·have hrun := Lib.run_eql_slice_nil (P := P) w t e A l.length cap 0 0 hc.under
  unfold fq
  rw [show (execOp ρ ⟨dd, .binOp .eql t x y t', ty, pos, af, g⟩).run P w = .ok (.value (.bool A.isNone)) w by
   simp [execOp, hval, hyv, eqGuard, hrun]]
  refine ⟨σ, .sc _, L, bJ.le_refl σ, .sc _, hw, A.isNone, rfl, fun h => ?_, rfl⟩
  cases A with
  | none => exact Decidable.byContradiction fun hn => by obtain ⟨b, o, hh⟩ := ha hn; cases hh
  | some a => cases h
theorem pk (ok : dg P tt) {e sz by_ s : Nat} {l : List (List AV)} (ht : iF tt t = some (e, sz, by_)) (hx : aW fr x = some u) (hu : hY u = some (s, l)) (hy : aW fr y = some (.sc (.slice none 0 0))) (hd : Nat.ble nt d = false) (h : ∀ b, (b = true → l = []) → bf P r ops Q nt D rest ((d, .sc (.bool b)) :: fr) B L) :
  bf P r ops Q nt D (⟨some d, .binOp .eql t x y t', ty, pos, af, none⟩ :: rest) fr B L :=
 c6 hd rfl (vF (b8 ok ht).1 hx (cN hu) hy) fun c L' ⟨b, h1, h2, h3⟩ => by subst h1; subst h3; exact h b h2
end
section
variable {P : Program} {nt : Nat} {fr : bw} {B : Bs} {L L' : AL}
theorem fc (L' : AL) {fn : Func} {Post : AV → AL → Prop} {cs : List AV} (hr : nf P fr L fn.results.toList cs) (hs : L'.Sublist L) (h : Post (qP cs) L') : AX P .ret (bodyPost P fn (gx B Post)) nt [] fr B L := by
 intro σ a w ha hw
 obtain ⟨v, h1, h2⟩ := iE ha hw hr
 exact ⟨ha.defers, v, h1, v, σ, qP cs, L', rfl, h2, hw.sublist hs, h⟩
end
end Go.Proofs.YtpmdfoaadejmkaaGreatDoor
namespace Go.Proofs.YtpmdfoaadejmkaaGreatDoor
open Go.RowKit
attribute [local irreducible] AT bf AX AO Av Kt aZ df DA cA
def fa (cls : List Int) (n : Nat) (nx : List Nat) (g : Int) : List Nat := nx.set (cls.getD g.toNat 0).toNat (nx.getD (cls.getD g.toNat 0).toNat 0 ||| 2 ^ n)
def di (cls : List Int) (rows : List (List (List Int))) (m C n : Nat) : List Nat := (List.range C).map fun c => bF (jc cls rows m c) n
theorem eR {cls : List Int} {rows : List (List (List Int))} {m C n : Nat} : (di cls rows m C n).length = C := by simp [di]
theorem iZ {cls : List Int} {rows : List (List (List Int))} {m C n c : Nat} (h : c < C) : (di cls rows m C n)[c]? = some (bF (jc cls rows m c) n) := by simp [di, h]
theorem pu {cls : List Int} {c : Nat} {s : List Int} {g : Int} : dI cls c (s ++ [g]) = (dI cls c s || dI cls c [g]) := by simp [dI]
theorem iW {cls : List Int} {n : Nat} : ∀ {s : List Int} {nx : List Nat}, (s.foldl (fa cls n) nx).length = nx.length
 | [], _ => rfl
 | g :: s, nx => by rw [List.foldl_cons, iW]; unfold fa; rw [List.length_set]
section
variable {cls : List Int} {C : Nat} (hd : ∀ z ∈ cls, 0 ≤ z ∧ z < (C : Int))
include hd
theorem qj {g : Int} (hg : 0 ≤ g ∧ g < cls.length) : ∃ c : Nat, cls[g.toNat]? = some (c : Int) ∧ c < C ∧ cls.getD g.toNat 0 = (c : Int) := by
 obtain ⟨z, hz⟩ : ∃ z, cls[g.toNat]? = some z := ⟨_, Bj (by omega)⟩
 obtain ⟨h0, h1⟩ := hd z (Dw hz)
 refine ⟨z.toNat, by rw [hz]; congr 1; omega, by omega, ?_⟩
 rw [List.getD_eq_getElem?_getD, hz]
 show z = _
 omega
theorem ov {n : Nat} {nx : List Nat} (hl : nx.length = C) : ∀ {s : List Int}, (∀ g ∈ s, 0 ≤ g ∧ g < (cls.length : Int)) → ∀ c, c < C → (s.foldl (fa cls n) nx)[c]? = some (nx.getD c 0 ||| (if dI cls c s = true then 2 ^ n else 0)) := by
 intro s
 refine kw (P := fun s => (∀ g ∈ s, 0 ≤ g ∧ g < (cls.length : Int)) → ∀ c, c < C → (s.foldl (fa cls n) nx)[c]? = some (nx.getD c 0 ||| (if dI cls c s = true then 2 ^ n else 0))) ?_ ?_ s
 ·intro _ c hc
  rw [List.foldl_nil, List.getD_eq_getElem?_getD, Bj (by omega)]
  simp [dI]
 ·intro s g ih hs c hc
  have ih' := ih (fun x hx => hs x (by simp [hx]))
  obtain ⟨k, hk, hkC, hkd⟩ := qj hd (hs g (by simp))
  have hml := iW (cls := cls) (n := n) (s := s) (nx := nx)
  rw [List.foldl_append, List.foldl_cons, List.foldl_nil]
  unfold fa at hml ⊢
  rw [hkd, Int.toNat_natCast]
  have hg1 : dI cls c [g] = decide (k = c) := by
   unfold dI
   have hg := hs g (by simp)
   have hkd2 : cls.getD g.toNat (-1) = (k : Int) := by rw [List.getD_eq_getElem?_getD, hk]; rfl
   simp only [List.any_cons, List.any_nil, Bool.or_false, hkd2, decide_eq_true hg.1, decide_eq_true hg.2, Bool.true_and]
   exact decide_eq_decide.2 (by omega)
  rw [pu, hg1]
  by_cases hkc : k = c
  ·subst hkc
   rw [List.getElem?_set_self (by omega), List.getD_eq_getElem?_getD]
   have := ih' k hc
   unfold fa at this
   rw [this]
   simp only [Option.getD_some, decide_true, Bool.or_true, if_true]
   congr 1
   split
   ·rw [Nat.or_assoc, Nat.or_self]
   ·rw [Nat.or_zero]
  ·rw [List.getElem?_set_ne hkc]
   have := ih' c hc
   unfold fa at this
   rw [this]
   simp [hkc]
theorem su {rows : List (List (List Int))} {m n : Nat} {dl : List (List Int)} (hr : rows[n]? = some dl) {s : List Int} (hs : dl[m]? = some s) (hg : ∀ g ∈ s, 0 ≤ g ∧ g < (cls.length : Int)) : s.foldl (fa cls n) (di cls rows m C n) = di cls rows m C (n + 1) := by
 apply List.ext_getElem?
 intro c
 by_cases hc : c < C
 ·rw [ov hd eR hg c hc, iZ hc, List.getD_eq_getElem?_getD, iZ hc, bF]
  have : jc cls rows m c n = dI cls c s := by
   unfold jc
   rw [hr]
   dsimp only
   rw [hs]
  rw [this]
  rfl
 ·rw [List.getElem?_eq_none (by rw [iW, eR]; omega), List.getElem?_eq_none (by rw [eR]; omega)]
end
theorem n7 {cls : List Int} {rows : List (List (List Int))} {m C n : Nat} {dl : List (List Int)} (hr : rows[n]? = some dl) (hs : dl.length ≤ m) : di cls rows m C (n + 1) = di cls rows m C n := by
 unfold di
 refine List.map_congr_left fun c _ => ?_
 rw [bF]
 have : jc cls rows m c n = false := by
  unfold jc
  rw [hr]
  dsimp only
  rw [List.getElem?_eq_none hs]
 rw [this]
 simp
theorem tN (n : Nat) (h : n < 64) : IntKind.u64.wrap (1 * 2 ^ min n IntKind.u64.bits) = ((2 ^ n : Nat) : Int) := by
 have e : min n IntKind.u64.bits = n := by show min n 64 = n; omega
 have h1 : 2 ^ n < 2 ^ 64 := Nat.pow_lt_pow_right (by omega) h
 have e2 : (2 : Int) ^ n = ((2 ^ n : Nat) : Int) := (Int.natCast_pow 2 n).symm
 rw [e, Int.one_mul, e2]
 generalize 2 ^ n = k at h1
 have h64 : (2 : Nat) ^ 64 = 18446744073709551616 := by decide
 rw [h64] at h1
 rw [IntKind.wrap_u64]
 exact Int.emod_eq_of_lt (by omega) (by omega)
theorem kL {p : Nat → Bool} {n : Nat} (h : n ≤ 64) : bF p n < 2 ^ 64 := Nat.lt_of_lt_of_le (jK p n) (Nat.pow_le_pow_right (by omega) h)
theorem zH {n : Nat} (h : n < 64) : 2 ^ n < 2 ^ 64 := Nat.pow_lt_pow_right (by omega) h
def ek (l : List Nat) : List AV := l.map fun z => ga z
theorem mB (l : List Nat) : (ek l).length = l.length := by simp [ek]
theorem rN {l : List Nat} {i : Nat} {z : Nat} (h : l[i]? = some z) : (ek l)[0 + ((i : Nat) : Int).toNat * 1]? = some (ga z) := by simp [ek, h]
theorem rO {l : List Nat} {i : Nat} {z : Nat} : eE (ek l) (0 + ((i : Nat) : Int).toNat * 1) [ga z] = ek (l.set i z) := by
 rw [fI]
 unfold ek
 rw [List.map_set]
 simp
theorem qi (n : Nat) : (List.replicate n [ga 0]).flatten = ek (List.replicate n 0) := by
 induction n with
 | zero => rfl
 | succ n ih => rw [List.replicate_succ, List.flatten_cons, ih, List.replicate_succ]; rfl
theorem vh (l : List Nat) : ek l = (eF l).flatten := by
 induction l with
 | nil => rfl
 | cons z l ih => simp [ek, eF] at ih ⊢; exact ih
def gq (l : List (List (List Int))) : List (List AV) := l.map fun r => [.imm 1 (b7 r)]
theorem oC (l : List (List (List Int))) : (gq l).length = l.length := by simp [gq]
theorem uS {l : List (List (List Int))} {i : Nat} {r : List (List Int)} (h : l[i]? = some r) : (gq l)[i]? = some [.imm 1 (b7 r)] := by simp [gq, h]
structure RD where
 rows : List (List (List Int))
 have_ : Nat
 cls : List Int
 C : Nat
structure vl (R : RD) : Prop where
 few : R.rows.length ≤ 6
 dom : ∀ z ∈ R.cls, 0 ≤ z ∧ z < (R.C : Int)
 sets : ∀ r ∈ R.rows, ∀ s ∈ r, (∀ g ∈ s, 0 ≤ g ∧ g < (R.cls.length : Int)) ∧ s.length ≤ 1000000
 long : ∀ r ∈ R.rows, r.length ≤ 1000000
 many : R.C ≤ 1000000 ∧ R.cls.length ≤ 1000000
def y8 (R : RD) (lv : AV) : List AV := [.imm 1 (gq R.rows), ga R.have_, .imm 1 (aU R.cls), az R.C, lv]
def ii (R : RD) (m : Nat) : List AV := [.imm 1 (eF (di R.cls R.rows m R.C R.rows.length)), ga (bF (gb R.rows m) R.rows.length)]
set_option maxHeartbeats 8000000 in
theorem pc (R : RD) (h : vl R) (rb : Nat) (lv : AV) (m : Nat) (hm : m ≤ 1000000) : AC Tryz.prog 285 [eh rb, az m] [(rb, .box (y8 R lv) 268)] fun c L => c = .agg (ii R m) ∧ L = [(rb, .box (y8 R lv) 268)] := by
 refine aB Tryz.func285 rfl Tryz.ntmps285 rfl fun B => ?_
 have hrl := oC R.rows
 have hil := b6 R.cls
 obtain ⟨hC, hN⟩ := h.many
 have hfew := h.few
 repeat' (first|refine a8 ?_|refine a0 ?_|refine a5 ?_|refine a6 ?_|refine a7 a4 rfl rfl ?_|(apply bD; first|refine ai a4 0 rfl rfl rfl rfl rfl ?_|refine ai a4 1 rfl rfl rfl rfl rfl ?_|refine ai a4 2 rfl rfl rfl rfl rfl ?_|refine ai a4 3 rfl rfl rfl rfl rfl ?_|refine ax a4 0 rfl rfl rfl rfl rfl ?_|refine ax a4 1 rfl rfl rfl rfl rfl ?_|refine ax a4 2 rfl rfl rfl rfl rfl ?_|refine ai a4 1 rfl rfl rfl (by assumption) rfl ?_|refine ai a4 0 rfl rfl rfl (by assumption) rfl ?_|fail)|refine aY a4 fun _=>?_|fail)
 refine gP a4 R.C rfl rfl rfl rfl rfl rfl rfl (by omega) (by omega) rfl fun nb => ?_
 rw [show (List.replicate R.C (List.map AV.sc [Value.int .u64 0])).flatten = ek (List.replicate R.C 0) from qi R.C]
 repeat' (first|refine a8 ?_|refine a0 ?_|refine aj ?_|refine a5 ?_|refine a6 ?_|refine a7 a4 rfl rfl ?_|(apply bD; first|refine ai a4 0 rfl rfl rfl rfl rfl ?_|refine ai a4 1 rfl rfl rfl rfl rfl ?_|refine ai a4 2 rfl rfl rfl rfl rfl ?_|refine ai a4 3 rfl rfl rfl rfl rfl ?_|refine ax a4 0 rfl rfl rfl rfl rfl ?_|refine ax a4 1 rfl rfl rfl rfl rfl ?_|refine ax a4 2 rfl rfl rfl rfl rfl ?_|refine ai a4 1 rfl rfl rfl (by assumption) rfl ?_|refine ai a4 0 rfl rfl rfl (by assumption) rfl ?_|fail)|(apply aO; first|refine aa a4 0 rfl rfl rfl rfl rfl rfl rfl ?_|refine aa a4 1 rfl rfl rfl rfl rfl rfl rfl ?_|refine aa a4 2 rfl rfl rfl rfl rfl rfl rfl ?_|refine aa a4 3 rfl rfl rfl rfl rfl rfl rfl ?_|fail)|refine aY a4 fun _=>?_|fail)
 rename_i r4 l5
 refine aK [0, 1, 4, 5, 19, 20] (α := Nat) (fun n => [(21, az n)]) (fun n => n ≤ R.rows.length) (fun n => [(l5, .box [.sc (.slice (some ⟨nb, 0, none⟩) R.C R.C), ga (bF (gb R.rows m) n)] 330), (nb, .box (ek (di R.cls R.rows m R.C n)) 246), (r4, .box [.sc (.slice none 0 0), ga 0] 330), (rb, .box (y8 R lv) 268)]) (fun n => R.rows.length - n) 0 rfl ⟨rfl, trivial⟩ (Nat.zero_le _) (fun _ _ hh => ?_) fun n hn => ?_
 ·rw [show di R.cls R.rows m R.C 0 = List.replicate R.C 0 by unfold di bF; rw [List.map_const', List.length_range]]
  exact hh
 ·try dsimp only [Ds, Dr, Dq, Dn]
  repeat' (first|refine a8 ?_|refine a0 ?_|refine a5 ?_|refine a6 ?_|refine a7 a4 rfl rfl ?_)
  refine aq rfl (fun h1 => ?_) (fun h1 => ?_)
  ·have hn2 : n < R.rows.length := by have := Dz h1; omega
   obtain ⟨dl, hrow⟩ : ∃ z, R.rows[n]? = some z := ⟨_, Bj hn2⟩
   have hrg := uS hrow
   have hrwl := bQ dl
   have hrm := Dw hrow
   have hlong := h.long dl hrm
   have hends : bF (gb R.rows m) (n + 1) = bF (gb R.rows m) n ||| (if dl.length = m then 2 ^ n else 0) := by
    rw [bF]
    unfold gb
    rw [hrow]
    simp only [decide_eq_true_eq]
   have hb1 := kL (p := gb R.rows m) (n := n) (by omega)
   have hb2 := zH (n := n) (by omega)
   have hub := tN n (by omega)
   clear h1
   repeat' (first|refine a8 ?_|refine a0 ?_|refine aj ?_|refine ah ?_|refine a5 ?_|refine a6 ?_|refine a7 a4 rfl rfl ?_|(apply aE; first|refine aD a4 ?_|refine aA a4 ?_)|fail)
   refine aq rfl (fun h1 => ?_) (fun h1 => ?_)
   ·have hlm : dl.length = m := by have := Dz h1; omega
    rw [if_pos hlm] at hends
    have hsk := n7 (cls := R.cls) (C := R.C) hrow (Nat.le_of_eq hlm)
    clear h1
    repeat' (first|fail)
    refine bj 4 [(0, .v), (1, .l), (2, .v), (3, .v)] none ?_ trivial rfl (by kernel_rfl) (by kernel_rfl) (by kernel_rfl) c9 (by kernel_rfl) rfl
    repeat' (first|refine aC ?_|refine bh a4 ?_|refine bW a4 0 rfl rfl rfl rfl (by first|trivial|rfl) ?_)
    refine rT n rfl rfl rfl trivial ?_
    repeat' (first|fail)
    refine bv [0, 1, 4, 5, 6, 7, 19, 20, 21, 31, 33] rfl rfl ?_
    refine pi rfl rfl rfl ?_
    rw [hub, u64_or_nat _ _ hb1 hb2, ← hends]
    repeat' (first|refine a8 ?_|refine a0 ?_|refine a5 ?_|refine a6 ?_|refine a7 a4 rfl rfl ?_|(apply aO; first|refine aa a4 0 rfl rfl rfl rfl rfl rfl rfl ?_|refine aa a4 1 rfl rfl rfl rfl rfl rfl rfl ?_|refine aa a4 2 rfl rfl rfl rfl rfl rfl rfl ?_|refine aa a4 3 rfl rfl rfl rfl rfl rfl rfl ?_|fail))
    refine aq rfl (fun h2 => ?_) (fun h2 => ?_)
    ·repeat' (first|refine a0 ?_|refine aL ?_|refine a5 ?_|refine ar ?_|refine av ?_|refine a6 ?_|refine a7 a4 rfl rfl ?_|(apply aS; refine aR ?_)|fail)
     exact ay (n + 1) rfl ⟨by rw [Dv]; rfl, trivial⟩ hn2 (by omega) (fun _ _ hh => by rw [hsk]; exact hh)
    ·have := Dy h2
     omega
   ·have hlm : ¬ dl.length = m := by have := Dy h1; omega
    rw [if_neg hlm, Nat.or_zero] at hends
    clear h1
    repeat' (first|refine a8 ?_|refine a0 ?_|refine ah ?_|refine a5 ?_|refine a6 ?_|refine a7 a4 rfl rfl ?_)
    refine aq rfl (fun h2 => ?_) (fun h2 => ?_)
    ·have hsk := n7 (cls := R.cls) (C := R.C) (m := m) hrow (by have := Dz h2; omega)
     repeat' (first|refine a0 ?_|refine aL ?_|refine a5 ?_|refine ar ?_|refine av ?_|refine a6 ?_|refine a7 a4 rfl rfl ?_|(apply aS; refine aR ?_)|fail)
     exact ay (n + 1) rfl ⟨by rw [Dv]; rfl, trivial⟩ hn2 (by omega) (fun _ _ hh => by rw [hsk, hends]; exact hh)
    ·have hml : m < dl.length := by have := Dy h2; omega
     obtain ⟨s, hs⟩ : ∃ z, dl[m]? = some z := ⟨_, Bj hml⟩
     have hsg := fm hs
     obtain ⟨hsd, hsl⟩ := h.sets dl hrm s (Dw hs)
     have hsil := b6 s
     have hst := su h.dom hrow hs hsd
     clear h2
     repeat' (first|refine a8 ?_|refine a0 ?_|refine aj ?_|refine ah ?_|refine a5 ?_|refine a6 ?_|refine a7 a4 rfl rfl ?_|(apply aE; first|refine aD a4 ?_|refine aA a4 ?_)|fail)
     refine aK [0, 1, 4, 5, 6, 19, 20, 21, 43, 44] (α := Nat) (fun j => [(45, az j)]) (fun j => j ≤ s.length) (fun j => [(l5, .box [.sc (.slice (some ⟨nb, 0, none⟩) R.C R.C), ga (bF (gb R.rows m) n)] 330), (nb, .box (ek ((s.take j).foldl (fa R.cls n) (di R.cls R.rows m R.C n))) 246), (r4, .box [.sc (.slice none 0 0), ga 0] 330), (rb, .box (y8 R lv) 268)]) (fun j => s.length - j) 0 rfl ⟨rfl, trivial⟩ (Nat.zero_le _) (fun _ _ hh => hh) fun j hj => ?_
     try dsimp only [Ds, Dr, Dq, Dn]
     repeat' (first|refine a8 ?_|refine a0 ?_|refine a5 ?_|refine a6 ?_|refine a7 a4 rfl rfl ?_)
     refine aq rfl (fun h2 => ?_) (fun h2 => ?_)
     ·have hj2 : j < s.length := by have := Dz h2; omega
      obtain ⟨g, hg⟩ : ∃ z, s[j]? = some z := ⟨_, Bj hj2⟩
      have hgg := bI hg
      have hgd := hsd g (Dw hg)
      obtain ⟨c, hc, hcC, hcd⟩ := qj h.dom hgd
      have hcg : (aU R.cls)[g.toNat]? = some [az c] := bI hc
      have hnl : ((s.take j).foldl (fa R.cls n) (di R.cls R.rows m R.C n)).length = R.C := by rw [iW, eR]
      obtain ⟨v, hv⟩ : ∃ z, ((s.take j).foldl (fa R.cls n) (di R.cls R.rows m R.C n))[c]? = some z := ⟨_, Bj (by omega)⟩
      have hv64 : v < 2 ^ 64 := by
       have := ov h.dom (n := n) (nx := di R.cls R.rows m R.C n) eR (s := s.take j) (fun x hx => hsd x (List.mem_of_mem_take hx)) c hcC
       rw [hv, List.getD_eq_getElem?_getD, iZ hcC] at this
       cases this
       exact x2 (kL (by omega)) (by split; exact hb2; omega)
      have htk : s.take (j + 1) = s.take j ++ [g] := by rw [List.take_add_one, hg]; rfl
      have hfs : (s.take (j + 1)).foldl (fa R.cls n) (di R.cls R.rows m R.C n) = ((s.take j).foldl (fa R.cls n) (di R.cls R.rows m R.C n)).set c (v ||| 2 ^ n) := by
       rw [htk, List.foldl_append, List.foldl_cons, List.foldl_nil]
       generalize (s.take j).foldl (fa R.cls n) (di R.cls R.rows m R.C n) = nx at hv
       unfold fa
       rw [hcd, Int.toNat_natCast, List.getD_eq_getElem?_getD, hv]
       rfl
      generalize (s.take j).foldl (fa R.cls n) (di R.cls R.rows m R.C n) = nx at *
      have hvc := rN hv
      have hul := mB nx
      clear h2
      repeat' (first|refine a8 ?_|refine a0 ?_|refine aj ?_|refine ah ?_|refine a5 ?_|refine a6 ?_|refine a7 a4 rfl rfl ?_|(apply aE; first|refine aD a4 ?_|refine aA a4 ?_)|fail)
      refine bG [0, 1, 4, 5, 6, 9, 19, 20, 21, 43, 44, 45] True rfl (fun Q' K => ?_) (fun _ => ?_) (fun hC => absurd trivial hC)
      ·repeat' (first|refine a6 ?_|refine a7 a4 rfl rfl ?_|refine an rfl rfl ?_|refine aw rfl rfl rfl rfl ?_|(apply bD; first|refine ai a4 0 rfl rfl rfl rfl rfl ?_|refine ai a4 1 rfl rfl rfl rfl rfl ?_|refine ai a4 2 rfl rfl rfl rfl rfl ?_|refine ai a4 3 rfl rfl rfl rfl rfl ?_|refine ax a4 0 rfl rfl rfl rfl rfl ?_|refine ax a4 1 rfl rfl rfl rfl rfl ?_|refine ax a4 2 rfl rfl rfl rfl rfl ?_|refine ai a4 1 rfl rfl rfl (by assumption) rfl ?_|refine ai a4 0 rfl rfl rfl (by assumption) rfl ?_|fail)|refine aG rfl rfl rfl (fun _ => ?_) (fun _ => ?_))
       all_goals exact K _ _ rfl rfl (by simp_all <;> omega)
      repeat' (first|fail)
      refine bj 14 [(0, .v), (1, .l), (2, .v), (3, .v), (4, .v), (5, .l), (6, .v), (7, .v), (8, .v), (9, .v), (10, .l), (11, .v), (12, .v), (13, .v)] none ?_ trivial rfl (by kernel_rfl) (by kernel_rfl) (by kernel_rfl) c9 (by kernel_rfl) rfl
      repeat' (first|refine aC ?_|refine bh a4 ?_|refine bW a4 0 rfl rfl rfl rfl (by first|trivial|rfl) ?_)
      refine bW a4 3 rfl rfl rfl rfl trivial ?_
      repeat' (first|refine aC ?_|refine bh a4 ?_|(apply cC;refine cZ a4 ?_)|fail)
      refine cJ a4 rfl rfl rfl ⟨by omega, by omega⟩ trivial ?_
      repeat' (first|refine aC ?_|fail)
      refine bW a4 1 rfl rfl rfl hvc trivial ?_
      repeat' (first|refine aC ?_|refine bh a4 ?_|fail)
      refine rT n rfl rfl rfl trivial ?_
      repeat' (first|refine aC ?_|fail)
      refine yd rfl rfl trivial ?_
      repeat' (first|fail)
      refine bv [0, 1, 4, 5, 6, 19, 20, 21, 43, 44, 45, 61, 68, 73] rfl rfl ?_
      rw [hub, u64_or_nat _ _ hv64 hb2]
      repeat' (first|(apply aE; first|refine aD a4 ?_|refine aA a4 ?_)|fail)
      refine aa a4 1 rfl rfl rfl rfl rfl rfl (Nat.ble_eq_true_of_le (by rw [hul, hnl, Int.toNat_natCast]; show 0 + c * 1 + 1 ≤ _; omega)) ?_
      rw [rO]
      repeat' (first|refine a0 ?_|refine a5 ?_|refine aH ?_|refine a6 ?_|refine a7 a4 rfl rfl ?_|(apply aS; refine aR ?_)|fail)
      exact ay (j + 1) rfl ⟨by rw [Dv]; rfl, trivial⟩ hj2 (by omega) (fun _ _ hh => by rw [hfs]; exact hh)
     ·have hj2 : j = s.length := by have := Dy h2; omega
      subst hj2
      rw [List.take_length, hst]
      clear h2
      repeat' (first|refine a0 ?_|refine aL ?_|refine a5 ?_|refine ar ?_|refine aH ?_|refine av ?_|refine au ?_|refine a6 ?_|refine a7 a4 rfl rfl ?_|(apply aS; refine aR ?_)|fail)
      exact ay (n + 1) rfl ⟨by rw [Dv]; rfl, trivial⟩ hn2 (by omega) (fun _ _ hh => by rw [hends]; exact hh)
  ·have hn2 : n = R.rows.length := by have := Dy h1; omega
   subst hn2
   clear h1
   repeat' (first|refine a8 ?_|refine a0 ?_|refine ae ?_|refine aL ?_|refine a5 ?_|refine ar ?_|refine av ?_|refine au ?_|refine a6 ?_|(apply bD; first|refine ai a4 0 rfl rfl rfl rfl rfl ?_|refine ai a4 1 rfl rfl rfl rfl rfl ?_|refine ai a4 2 rfl rfl rfl rfl rfl ?_|refine ai a4 3 rfl rfl rfl rfl rfl ?_|refine ax a4 0 rfl rfl rfl rfl rfl ?_|refine ax a4 1 rfl rfl rfl rfl rfl ?_|refine ax a4 2 rfl rfl rfl rfl rfl ?_|refine ai a4 1 rfl rfl rfl (by assumption) rfl ?_|refine ai a4 0 rfl rfl rfl (by assumption) rfl ?_|fail)|(apply aO; first|refine aa a4 0 rfl rfl rfl rfl rfl rfl rfl ?_|refine aa a4 1 rfl rfl rfl rfl rfl rfl rfl ?_|refine aa a4 2 rfl rfl rfl rfl rfl rfl rfl ?_|refine aa a4 3 rfl rfl rfl rfl rfl rfl rfl ?_|fail))
   have hcu := mB (di R.cls R.rows m R.C R.rows.length)
   rw [eR] at hcu
   refine du (L' := [(nb, .box (ek (di R.cls R.rows m R.C R.rows.length)) 246), (r4, .box [.sc (.slice (some ⟨nb, 0, none⟩) R.C R.C), ga (bF (gb R.rows m) R.rows.length)] 330), (rb, .box (y8 R lv) 268)]) (List.sublist_cons_self ..) ?_
   refine bA (vg (k := 0) (sz := 1) (n := R.C) (cap := R.C) (l := eF (di R.cls R.rows m R.C R.rows.length)) rfl (by rw [← vh, List.take_of_length_le (by omega)]) (by omega) (fun e he => by unfold eF at he; obtain ⟨z, _, rfl⟩ := List.mem_map.1 he; rfl) (by rw [kz, eR]) (Nat.le_refl _) (by unfold maxLen; omega)) ?_
   exact fc (cs := [.agg (ii R m)]) [(rb, .box (y8 R lv) 268)] ⟨⟨_, 0, _, _, rfl, rfl, .inr ⟨dB a4 rfl, rfl⟩⟩, trivial⟩ (List.sublist_cons_self ..) ⟨rfl, rfl⟩
end Go.Proofs.YtpmdfoaadejmkaaGreatDoor
namespace Go.Proofs.YtpmdfoaadejmkaaGreatDoor
open Go.RowKit
attribute [local irreducible] AT bf AX AO Av Kt aZ df DA cA
def uC (R : RD) (k : Nat) : List (List AV) := (List.range k).map (ii R)
theorem tq (R : RD) (k : Nat) : (uC R k).length = k := by simp [uC]
theorem qK (R : RD) (k : Nat) : uC R k ++ [ii R k] = uC R (k + 1) := by simp [uC, List.range_succ]
theorem yR (R : RD) {k m : Nat} (h : m < k) : (uC R k)[m]? = some (ii R m) := by simp [uC, h]
abbrev ng (R : RD) (rb k : Nat) (q : Option (Nat × Nat)) : Nat × AB := (rb, .box (y8 R (.vec q 2 (uC R k))) 268)
abbrev dw (R : RD) (rb k : Nat) (q : Option (Nat × Nat)) : AL := ng R rb k q :: tok q 330 2 k
def m4 (R : RD) (rb : Nat) (u : AV) : AV → AL → Prop := fun c L => c = u ∧ ∃ k q, k ≤ 1000001 ∧ L = dw R rb k q
theorem C2 {a b : Nat × AB} {X : AL} : (a :: b :: X).Perm (b :: a :: X) := List.Perm.swap ..
set_option maxHeartbeats 4000000 in
theorem qH (R : RD) (h : vl R) (rb k : Nat) (q : Option (Nat × Nat)) (hk : k ≤ 1000001) (m : Nat) (hm : m ≤ 1000000) : AC Tryz.prog 255 [eh rb, az m] (dw R rb k q) (m4 R rb (.agg (ii R m))) := by
 refine aB Tryz.func255 rfl Tryz.ntmps255 rfl fun B => ?_
 repeat' (first|refine a8 ?_|refine a0 ?_|refine aj ?_|refine a5 ?_|refine a6 ?_|refine aY a4 fun _=>?_|fail)
 rename_i r4
 refine aK [0, 1, 4] (α := Nat × Option (Nat × Nat)) (fun _ => []) (fun s => s.1 ≤ 1000001) (fun s => (r4, .box [.sc (.slice none 0 0), ga 0] 330) :: dw R rb s.1 s.2) (fun s => m + 1 - s.1) (k, q) rfl trivial hk (fun _ _ hh => hh) ?_
 rintro ⟨k1, q1⟩ hk1
 dsimp only at hk1 ⊢
 try dsimp only [Ds, Dr, Dq, Dn]
 have hlen := tq R k1
 repeat' (first|refine a8 ?_|refine a0 ?_|refine a5 ?_|refine a6 ?_|refine a7 a4 rfl rfl ?_|(apply bD; first|refine ai a4 0 rfl rfl rfl rfl rfl ?_|refine ai a4 1 rfl rfl rfl rfl rfl ?_|refine ai a4 2 rfl rfl rfl rfl rfl ?_|refine ai a4 3 rfl rfl rfl rfl rfl ?_|refine ax a4 0 rfl rfl rfl rfl rfl ?_|refine ax a4 1 rfl rfl rfl rfl rfl ?_|refine ax a4 2 rfl rfl rfl rfl rfl ?_|refine ai a4 1 rfl rfl rfl (by assumption) rfl ?_|refine ai a4 0 rfl rfl rfl (by assumption) rfl ?_|fail)|fail)
 refine aq rfl (fun h1 => ?_) (fun h1 => ?_)
 ·have hkm : k1 ≤ m := by have := Dz h1; omega
  have hml := pc R h rb (.vec q1 2 (uC R k1)) k1 (by omega)
  clear h1
  repeat' (first|refine aj ?_|refine ah ?_|refine a5 ?_)
  refine mp [.cell (rb, 4, .vec q1 2 (uC R k1))] 14 [(0, .v), (1, .v), (2, .v), (3, .v), (4, .k), (5, .v), (6, .v), (7, .v), (8, .v), (9, .l), (10, .v), (11, .f), (12, .v), (13, .e)] none ?_ trivial rfl (by kernel_rfl) (by kernel_rfl) (by kernel_rfl) c9 (by kernel_rfl) rfl
  repeat' (first|refine aC ?_|refine bh a4 ?_|fail)
  refine t6 a4 0 rfl rfl rfl (jY 1 rfl rfl) trivial ?_
  repeat' (first|refine aC ?_|refine bh a4 ?_|refine bW a4 1 rfl rfl rfl rfl (by first|trivial|rfl) ?_)
  refine ye [ng R rb k1 q1] ((r4, .box [.sc (.slice none 0 0), ga 0] 330) :: tok q1 330 2 k1) hml rfl (by rw [hlen]; rfl) C2 trivial (fun c L1 ⟨hc, hL⟩ hK => by subst hL; exact jY 0 rfl rfl) fun c L1 ⟨hc, hL⟩ => ?_
  subst hc; subst hL
  repeat' (first|refine aC ?_|refine ly a4 ?_|fail)
  refine jP a4 [ng R rb k1 q1, (r4, .box [.sc (.slice none 0 0), ga 0] 330)] rfl rfl rfl rfl ?_ (by rw [hlen]; simp; omega) (by rw [hlen]; simp; omega) trivial fun q' => ?_
  ·rw [hlen]
   exact List.perm_append_comm (l₁ := [_, _])
  repeat' (first|fail)
  refine bv [0, 1, 4, 12, 25] rfl rfl ?_
  refine aP (aV (L' := ng R rb k1 q1 :: (r4, .box [.sc (.slice none 0 0), ga 0] 330) :: tok q' 330 2 (uC R k1 ++ [ii R k1]).length) (List.perm_append_comm (l₂ := [_, _]))) ?_
  repeat' (first|refine aH ?_|refine a6 ?_|refine a7 a4 rfl rfl ?_|(apply aO; first|refine aa a4 0 rfl rfl rfl rfl rfl rfl rfl ?_|refine aa a4 1 rfl rfl rfl rfl rfl rfl rfl ?_|refine aa a4 2 rfl rfl rfl rfl rfl rfl rfl ?_|refine aa a4 3 rfl rfl rfl rfl rfl rfl rfl ?_|fail))
  refine ay (k1 + 1, q') rfl trivial (by dsimp only; omega) (by dsimp only; omega) (fun σ w hh => ?_)
  rw [qK, tq] at hh
  refine ck.perm (L := ng R rb (k1 + 1) q' :: (r4, .box [.sc (.slice none 0 0), ga 0] 330) :: tok q' 330 2 (k1 + 1)) ?_ C2
  unfold ng
  rw [← qK]
  exact hh
 ·have hkm : m < k1 := by have := Dy h1; omega
  have hlg := yR R hkm
  clear h1
  repeat' (first|refine a8 ?_|refine a0 ?_|refine ae ?_|refine aL ?_|refine a5 ?_|refine ar ?_|refine av ?_|refine au ?_|refine a6 ?_|refine a7 a4 rfl rfl ?_|(apply bD; first|refine ai a4 0 rfl rfl rfl rfl rfl ?_|refine ai a4 1 rfl rfl rfl rfl rfl ?_|refine ai a4 2 rfl rfl rfl rfl rfl ?_|refine ai a4 3 rfl rfl rfl rfl rfl ?_|refine ax a4 0 rfl rfl rfl rfl rfl ?_|refine ax a4 1 rfl rfl rfl rfl rfl ?_|refine ax a4 2 rfl rfl rfl rfl rfl ?_|refine ai a4 1 rfl rfl rfl (by assumption) rfl ?_|refine ai a4 0 rfl rfl rfl (by assumption) rfl ?_|fail)|(apply aE; first|refine aD a4 ?_|refine aA a4 ?_)|(apply aO; first|refine aa a4 0 rfl rfl rfl rfl rfl rfl rfl ?_|refine aa a4 1 rfl rfl rfl rfl rfl rfl rfl ?_|refine aa a4 2 rfl rfl rfl rfl rfl rfl rfl ?_|refine aa a4 3 rfl rfl rfl rfl rfl rfl rfl ?_|fail))
  exact fc (cs := [.agg (ii R m)]) (dw R rb k1 q1) ⟨⟨_, 0, _, _, rfl, rfl, .inr ⟨dB a4 rfl, rfl⟩⟩, trivial⟩ (List.sublist_cons_self ..) ⟨rfl, k1, q1, hk1, rfl⟩
def jm (p : Pl) : List AV := [az p.1, ga p.2]
theorem uR (R : RD) (rb k : Nat) (q : Option (Nat × Nat)) (hk : k ≤ 1000001) : AC Tryz.prog 180 [eh rb] (dw R rb k q) (m4 R rb (.agg (jm (0, R.have_)))) := by
 refine aB Tryz.func180 rfl Tryz.ntmps180 rfl fun B => ?_
 repeat' (first|refine a8 ?_|refine a0 ?_|refine ae ?_|refine a5 ?_|refine a6 ?_|refine a7 a4 rfl rfl ?_|(apply bD; first|refine ai a4 0 rfl rfl rfl rfl rfl ?_|refine ai a4 1 rfl rfl rfl rfl rfl ?_|refine ai a4 2 rfl rfl rfl rfl rfl ?_|refine ai a4 3 rfl rfl rfl rfl rfl ?_|refine ax a4 0 rfl rfl rfl rfl rfl ?_|refine ax a4 1 rfl rfl rfl rfl rfl ?_|refine ax a4 2 rfl rfl rfl rfl rfl ?_|refine ai a4 1 rfl rfl rfl (by assumption) rfl ?_|refine ai a4 0 rfl rfl rfl (by assumption) rfl ?_|fail)|(apply aO; first|refine aa a4 0 rfl rfl rfl rfl rfl rfl rfl ?_|refine aa a4 1 rfl rfl rfl rfl rfl rfl rfl ?_|refine aa a4 2 rfl rfl rfl rfl rfl rfl rfl ?_|refine aa a4 3 rfl rfl rfl rfl rfl rfl rfl ?_|fail)|refine aY a4 fun _=>?_|fail)
 exact fc (cs := [.agg (jm (0, R.have_))]) (dw R rb k q) ⟨⟨_, 0, _, _, rfl, rfl, .inr ⟨dB a4 rfl, rfl⟩⟩, trivial⟩ (List.sublist_cons_self ..) ⟨rfl, k, q, hk, rfl⟩
theorem wY {R : RD} {m c : Nat} (hc : c < R.C) : (eF (di R.cls R.rows m R.C R.rows.length))[((c : Nat) : Int).toNat]? = some [ga (gj R.cls R.rows m c)] := by
 rw [Int.toNat_natCast]
 exact rk (iZ hc)
set_option maxHeartbeats 4000000 in
theorem u4 (R : RD) (h : vl R) (rb k : Nat) (q : Option (Nat × Nat)) (hk : k ≤ 1000001) (p : Pl) (hp : p.1 ≤ 1000000) (hp2 : p.2 < 2 ^ 64) (c : Nat) (hc : c < R.C) : AC Tryz.prog 181 [eh rb, .agg (jm p), az c] (dw R rb k q) (m4 R rb (.agg (jm (bq R.cls R.rows p c)))) := by
 refine aB Tryz.func181 rfl Tryz.ntmps181 rfl fun B => ?_
 obtain ⟨pm, pr⟩ := p
 dsimp only at hp hp2
 have hlv := qH R h rb k q hk pm hp
 have hnl := wY (R := R) (m := pm) hc
 have hn64 : gj R.cls R.rows pm c < 2 ^ 64 := kL (by have := h.few; omega)
 have hbe : bq R.cls R.rows (pm, pr) c = if pr &&& gj R.cls R.rows pm c = 0 then (0, 0) else (pm + 1, pr &&& gj R.cls R.rows pm c) := rfl
 repeat' (first|refine a8 ?_|refine a0 ?_|refine a5 ?_|refine a6 ?_|refine a7 a4 rfl rfl ?_|refine aX ?_|refine aY a4 fun _=>?_|fail)
 rename_i r6
 refine aq rfl (fun h1 => ?_) (fun h1 => ?_)
 ·clear h1
  repeat' (first|refine a0 ?_|refine a7 a4 rfl rfl ?_)
  refine aN (dw R rb k q) [(r6, .box [az 0, ga 0] 261)] hlv rfl rfl (List.perm_append_comm (l₁ := [_])) rfl fun c1 L1 ⟨hc1, k1, q1, hk1, hL⟩ => ?_
  subst hc1; subst hL
  refine aP (aV (L' := (r6, .box [az 0, ga 0] 261) :: dw R rb k1 q1) (List.perm_append_comm (l₂ := [_]))) ?_
  repeat' (first|refine a7 a4 rfl rfl ?_|(apply aE; first|refine aD a4 ?_|refine aA a4 ?_)|fail)
  refine ph rfl rfl rfl ?_
  rw [u64_and_nat _ _ hp2 hn64]
  repeat' (first|refine a8 ?_|refine a0 ?_|refine a5 ?_|refine a6 ?_|refine a7 a4 rfl rfl ?_)
  refine aq rfl (fun h2 => ?_) (fun h2 => ?_)
  ·have hz : pr &&& gj R.cls R.rows pm c = 0 := by have := Dz h2; omega
   rw [if_pos hz] at hbe
   rw [hbe]
   repeat' (first|refine a8 ?_|refine a0 ?_|refine ae ?_|refine a5 ?_|refine am ?_|refine a6 ?_|refine a7 a4 rfl rfl ?_|(apply aO; first|refine aa a4 0 rfl rfl rfl rfl rfl rfl rfl ?_|refine aa a4 1 rfl rfl rfl rfl rfl rfl rfl ?_|refine aa a4 2 rfl rfl rfl rfl rfl rfl rfl ?_|refine aa a4 3 rfl rfl rfl rfl rfl rfl rfl ?_|fail))
   exact fc (cs := [.agg (jm (0, 0))]) (dw R rb k1 q1) ⟨⟨_, 0, _, _, rfl, rfl, .inr ⟨dB a4 rfl, rfl⟩⟩, trivial⟩ (List.sublist_cons_self ..) ⟨rfl, k1, q1, hk1, rfl⟩
  ·have hz : pr &&& gj R.cls R.rows pm c ≠ 0 := by have := Dy h2; omega
   rw [if_neg hz] at hbe
   rw [hbe]
   repeat' (first|refine a8 ?_|refine a0 ?_|refine ah ?_|refine ae ?_|refine a5 ?_|refine a6 ?_|refine a7 a4 rfl rfl ?_|(apply aS; refine aR ?_)|(apply aO; first|refine aa a4 0 rfl rfl rfl rfl rfl rfl rfl ?_|refine aa a4 1 rfl rfl rfl rfl rfl rfl rfl ?_|refine aa a4 2 rfl rfl rfl rfl rfl rfl rfl ?_|refine aa a4 3 rfl rfl rfl rfl rfl rfl rfl ?_|fail))
   refine fc (cs := [.agg (jm (pm + 1, pr &&& gj R.cls R.rows pm c))]) (dw R rb k1 q1) ⟨⟨_, 0, _, _, rfl, rfl, .inr ⟨dB a4 rfl, rfl⟩⟩, trivial⟩ (List.sublist_cons_self ..) ⟨rfl, k1, q1, hk1, rfl⟩
 ·have hz : pr = 0 := by have := Dy h1; simpa using this
  subst hz
  rw [Nat.zero_and, if_pos rfl] at hbe
  rw [hbe]
  repeat' (first|refine a8 ?_|refine a0 ?_|refine ah ?_|refine ae ?_|refine a5 ?_|refine am ?_|refine a6 ?_|refine a7 a4 rfl rfl ?_|(apply aO; first|refine aa a4 0 rfl rfl rfl rfl rfl rfl rfl ?_|refine aa a4 1 rfl rfl rfl rfl rfl rfl rfl ?_|refine aa a4 2 rfl rfl rfl rfl rfl rfl rfl ?_|refine aa a4 3 rfl rfl rfl rfl rfl rfl rfl ?_|fail)|refine br rfl ?_)
  exact fc (cs := [.agg (jm (0, 0))]) (dw R rb k q) ⟨⟨_, 0, _, _, rfl, rfl, .inr ⟨dB a4 rfl, rfl⟩⟩, trivial⟩ (List.sublist_cons_self ..) ⟨rfl, k, q, hk, rfl⟩
set_option maxHeartbeats 4000000 in
theorem yD (R : RD) (h : vl R) (rb k : Nat) (q : Option (Nat × Nat)) (hk : k ≤ 1000001) (p : Pl) (hp : p.1 ≤ 1000000) (hp2 : p.2 < 2 ^ 64) : AC Tryz.prog 182 [eh rb, .agg (jm p)] (dw R rb k q) (m4 R rb (ga (gc R.rows p))) := by
 refine aB Tryz.func182 rfl Tryz.ntmps182 rfl fun B => ?_
 obtain ⟨pm, pr⟩ := p
 dsimp only at hp hp2
 have hlv := qH R h rb k q hk pm hp
 have hn64 : bF (gb R.rows pm) R.rows.length < 2 ^ 64 := kL (by have := h.few; omega)
 have hen : gc R.rows (pm, pr) = if pr = 0 then 0 else pr &&& bF (gb R.rows pm) R.rows.length := rfl
 repeat' (first|refine a8 ?_|refine a0 ?_|refine a5 ?_|refine a6 ?_|refine a7 a4 rfl rfl ?_|refine aX ?_|fail)
 refine aq rfl (fun h1 => ?_) (fun h1 => ?_)
 ·have hz : pr = 0 := by have := Dz h1; omega
  rw [if_pos hz] at hen
  rw [hen]
  repeat' (first|refine a8 ?_|refine a0 ?_|refine ae ?_|refine a5 ?_|refine am ?_|refine a6 ?_|refine a7 a4 rfl rfl ?_)
  exact ak rfl rfl ⟨rfl, k, q, hk, rfl⟩
 ·have hz : pr ≠ 0 := by have := Dy h1; omega
  rw [if_neg hz] at hen
  rw [hen]
  clear h1
  repeat' (first|refine a8 ?_|refine ah ?_|refine a5 ?_)
  refine bj 7 [(0, .v), (1, .v), (2, .v), (3, .v), (4, .v), (5, .e), (6, .v)] none ?_ trivial rfl (by kernel_rfl) (by kernel_rfl) (by kernel_rfl) c9 (by kernel_rfl) rfl
  repeat' (first|refine aC ?_|refine bh a4 ?_|fail)
  refine iP (dw R rb k q) [] hlv rfl rfl (by rw [List.append_nil]) trivial fun c1 L1 ⟨hc1, k1, q1, hk1, hL⟩ => ?_
  subst hc1; subst hL
  repeat' (first|refine aC ?_|refine bh a4 ?_|fail)
  refine bv [9, 14] rfl rfl ?_
  repeat' (first|fail)
  refine ph rfl rfl rfl ?_
  rw [u64_and_nat _ _ hp2 hn64]
  repeat' (first|refine ae ?_|refine a5 ?_|refine a6 ?_|refine a7 a4 rfl rfl ?_)
  exact ak rfl rfl ⟨rfl, k1, q1, hk1, by rw [List.append_nil]⟩
def mx (m r : Nat) : List Int := [m, 0, 0, 0, 0, 0, 0, 0, r, 0, 0, 0, 0, 0, 0, 0]
def fM (p : Pl) : ByteArray := (mx p.1 p.2).foldl (fun r n => r.push (UInt8.ofNat n.toNat)) ByteArray.empty
def i9 (p : Pl) : Prop := p.1 < 256 ∧ p.2 < 256
theorem sJ (p : Pl) : (fM p).data.toList = (mx p.1 p.2).map fun n => UInt8.ofNat n.toNat := by
 unfold fM
 have : ∀ (l : List Int) (b : ByteArray), (l.foldl (fun r n => r.push (UInt8.ofNat n.toNat)) b).data.toList = b.data.toList ++ l.map fun n => UInt8.ofNat n.toNat := by
  intro l
  induction l with
  | nil => intro b; simp
  | cons x l ih => intro b; rw [List.foldl_cons, ih]; simp [ByteArray.push]
 rw [this]
 rfl
theorem xD {a b : Nat} (ha : a < 256) (hb : b < 256) (h : UInt8.ofNat a = UInt8.ofNat b) : a = b := by
 have := congrArg UInt8.toNat h
 simpa [UInt8.toNat_ofNat', Nat.mod_eq_of_lt ha, Nat.mod_eq_of_lt hb] using this
theorem oJ {p q : Pl} (hp : i9 p) (hq : i9 q) (h : fM p = fM q) : p = q := by
 have hd := congrArg (fun b => b.data.toList) h
 simp only [sJ] at hd
 unfold mx at hd
 simp only [Dq, List.cons.injEq, Int.toNat_natCast] at hd
 exact Prod.ext (xD hp.1 hq.1 hd.1) (xD hp.2 hq.2 hd.2.2.2.2.2.2.2.2.1)
def pL (M : List Pl) (v : Value) : Option AV := match v with
 | .string s => (M.findIdx? fun p => decide (fM p = s)).map fun i => az (i : Nat)
 | _ => none
theorem zj : pL [] = fun _ => none := by
 funext v
 unfold pL
 split <;> rfl
section
variable {M : List Pl} (hM : ∀ x ∈ M, i9 x) {p : Pl} (hp : i9 p)
include hM hp
theorem r9 (h : p ∈ M) : pL M (.string (fM p)) = some (az (M.idxOf p : Nat)) := by
  have hi := List.idxOf_lt_length_of_mem h
  have : (M.findIdx? fun x => decide (fM x = fM p)) = some (M.idxOf p) := by
    rw [List.findIdx?_eq_some_iff_getElem]
    refine ⟨hi, by simp [List.getElem_idxOf hi], fun j hj => ?_⟩
    have hne : M[j] ≠ p := by
      intro e
      have := List.not_of_lt_findIdx (p := (· == p)) (xs := M) hj
      rw [e] at this
      simp at this
    simp only [decide_eq_true_eq]
    exact fun e => hne (oJ (hM _ (List.getElem_mem _)) hp e)
  unfold pL
  dsimp only
  rw [this]
  rfl
theorem xr (h : p ∉ M) : pL M (.string (fM p)) = none := by
 have : (M.findIdx? fun x => decide (fM x = fM p)) = none := by
  rw [List.findIdx?_eq_none_iff]
  intro x hx
  rw [decide_eq_false_iff_not]
  exact fun e => h (oJ (hM x hx) hp e ▸ hx)
 unfold pL
 dsimp only
 rw [this]
 rfl
theorem zk (h : p ∉ M) : pL (M ++ [p]) (.string (fM p)) = some (az (M.length : Nat)) := by
 rw [r9 (fun x hx => by rw [List.mem_append, List.mem_singleton] at hx; rcases hx with hx | rfl; exact hM x hx; exact hp) hp (by simp), List.idxOf_append, if_neg h, List.idxOf_cons_self, Nat.zero_add]
end
theorem v9 {M : List Pl} {p : Pl} : ∀ v, v ≠ .string (fM p) → pL (M ++ [p]) v = pL M v := by
 intro v hv
 unfold pL
 split
 ·rename_i s
  have : decide (fM p = s) = false := by rw [decide_eq_false_iff_not]; exact fun e => hv (by rw [e])
  rw [List.findIdx?_append]
  simp [this]
 ·rfl
def mz (l : List Int) : List AV := l.map fun z => .sc (.int .u8 z)
def nn (m r i : Nat) : List Int := if i = 0 then List.replicate 16 0 else mx m r
theorem C7 {m r : Nat} (hm : m < 256) (hr : r < 256) {i : Nat} (hi : i < 8) : eE (eE (mz (nn m r i)) (0 + i * 1) [.sc (.int .u8 (IntKind.u8.wrap ((m : Int) / 2 ^ min (8 * i) IntKind.i64.bits)))]) (0 + (8 + i) * 1) [.sc (.int .u8 (IntKind.u8.wrap ((r : Int) / 2 ^ min (8 * i) IntKind.u64.bits)))] = mz (nn m r (i + 1)) := by
 have h0 : ∀ z : Nat, z < 256 → ∀ k, 0 < k → k < 8 → IntKind.u8.wrap ((z : Int) / 2 ^ min (8 * k) 64) = 0 := by
  intro z hz k hk hk8
  have : (z : Int) / 2 ^ min (8 * k) 64 = 0 := by
   have e : min (8 * k) 64 = 8 * k := by omega
   rw [e]
   have h1 : 2 ^ 8 ≤ 2 ^ (8 * k) := Nat.pow_le_pow_right (by omega) (by omega)
   have h2 : z / 2 ^ (8 * k) = 0 := Nat.div_eq_of_lt (by omega)
   have h3 : (2 : Int) ^ (8 * k) = ((2 ^ (8 * k) : Nat) : Int) := (Int.natCast_pow 2 _).symm
   rw [h3, ← Int.natCast_ediv, h2]
   rfl
  rw [this]
  decide
 have h1 : ∀ z : Nat, z < 256 → IntKind.u8.wrap ((z : Int) / 2 ^ min (8 * 0) 64) = (z : Int) := by
  intro z hz
  rw [Nat.mul_zero, Nat.zero_min, Int.pow_zero, Int.ediv_one, IntKind.wrap_u8]
  omega
 show eE (eE _ _ [.sc (.int .u8 (IntKind.u8.wrap ((m : Int) / 2 ^ min (8 * i) 64)))]) _ [.sc (.int .u8 (IntKind.u8.wrap ((r : Int) / 2 ^ min (8 * i) 64)))] = _
 match i, hi with
 | 0, _ => rw [h1 m hm, h1 r hr]; rfl
 | 1, _ => rw [h0 m hm 1 (by omega) (by omega), h0 r hr 1 (by omega) (by omega)]; rfl
 | 2, _ => rw [h0 m hm 2 (by omega) (by omega), h0 r hr 2 (by omega) (by omega)]; rfl
 | 3, _ => rw [h0 m hm 3 (by omega) (by omega), h0 r hr 3 (by omega) (by omega)]; rfl
 | 4, _ => rw [h0 m hm 4 (by omega) (by omega), h0 r hr 4 (by omega) (by omega)]; rfl
 | 5, _ => rw [h0 m hm 5 (by omega) (by omega), h0 r hr 5 (by omega) (by omega)]; rfl
 | 6, _ => rw [h0 m hm 6 (by omega) (by omega), h0 r hr 6 (by omega) (by omega)]; rfl
 | 7, _ => rw [h0 m hm 7 (by omega) (by omega), h0 r hr 7 (by omega) (by omega)]; rfl
set_option maxHeartbeats 4000000 in
theorem zo (p : Pl) (hp : i9 p) : bk Tryz.prog 179 [.agg (jm p)] (.sc (.string (fM p))) := by
 refine aB Tryz.func179 rfl Tryz.ntmps179 rfl fun B => ?_
 obtain ⟨m, r⟩ := p
 obtain ⟨hm, hr⟩ := hp
 dsimp only at hm hr
 repeat' (first|refine a8 ?_|refine a0 ?_|refine aj ?_|refine a5 ?_|refine a6 ?_|refine a7 a4 rfl rfl ?_|refine aX ?_|refine aY a4 fun _=>?_|fail)
 rename_i ab
 refine aK [1, 3] (α := Nat) (fun i => [(5, az i)]) (fun i => i ≤ 8) (fun i => [(ab, .box (mz (nn m r i)) 328)]) (fun i => 8 - i) 0 rfl ⟨rfl, trivial⟩ (Nat.zero_le _) (fun _ _ h => h) fun i hi => ?_
 try dsimp only [Ds, Dr, Dq, Dn]
 repeat' (first|refine a8 ?_|refine a0 ?_|refine a5 ?_|refine a6 ?_|refine a7 a4 rfl rfl ?_)
 refine aq rfl (fun h1 => ?_) (fun h1 => ?_)
 ·have hi8 : i < 8 := by have := Dz h1; omega
  have hst := C7 hm hr hi8
  have hcl : (mz (nn m r i)).length = 16 := by unfold mz nn; split <;> rfl
  clear h1
  repeat' (first|refine a8 ?_|refine a0 ?_|refine aj ?_|refine ah ?_|refine a5 ?_|refine a6 ?_|refine a7 a4 rfl rfl ?_|(apply aS; refine aR ?_)|fail)
  refine sq (8 * i) rfl rfl (by rw [Int.natCast_mul]; rfl) rfl ?_
  repeat' (first|fail)
  refine k9 a4 rfl rfl rfl rfl rfl rfl ?_
  refine sn a4 i rfl rfl rfl rfl (by omega) rfl ?_
  refine aa a4 0 rfl rfl rfl rfl rfl rfl (Nat.ble_eq_true_of_le (by rw [hcl]; show 0 + i * 1 + 1 ≤ 16; omega)) ?_
  repeat' (first|refine a0 ?_|refine a5 ?_|refine a6 ?_|refine a7 a4 rfl rfl ?_|(apply aS; refine aR ?_)|fail)
  refine sq (8 * i) rfl rfl (by rw [Int.natCast_mul]; rfl) rfl ?_
  refine k9 a4 rfl rfl rfl rfl rfl rfl ?_
  refine sn a4 (8 + i) rfl rfl rfl (by rw [Dv]; rfl) (by omega) rfl ?_
  refine aa a4 0 rfl rfl rfl rfl rfl rfl (Nat.ble_eq_true_of_le (by rw [fH, hcl]; show 0 + (8 + i) * 1 + 1 ≤ 16; omega)) ?_
  repeat' (first|refine a0 ?_|refine a5 ?_|refine aH ?_|refine a6 ?_|refine a7 a4 rfl rfl ?_|(apply aS; refine aR ?_)|fail)
  exact ay (i + 1) rfl ⟨by rw [Dv]; rfl, trivial⟩ (by omega) (by omega) (fun _ _ h => by rw [← hst]; exact h)
 ·have hi8 : i = 8 := by have := Dy h1; omega
  subst hi8
  repeat' (first|refine a8 ?_|refine a0 ?_|refine aL ?_|refine a5 ?_|refine ar ?_|refine av ?_|refine au ?_)
  refine wV a4 rfl rfl rfl ?_
  refine wT a4 0 (mx m r) rfl rfl rfl rfl rfl rfl rfl rfl rfl ?_
  repeat' (first|refine ae ?_|refine a5 ?_|refine a6 ?_|refine a7 a4 rfl rfl ?_)
  refine du (List.nil_sublist _) ?_
  exact ak rfl rfl rfl
end Go.Proofs.YtpmdfoaadejmkaaGreatDoor
