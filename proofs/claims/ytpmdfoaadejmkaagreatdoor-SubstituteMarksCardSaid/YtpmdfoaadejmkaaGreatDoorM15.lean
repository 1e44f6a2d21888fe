/-
  Shifts to the left, arrays as rows, rows of bytes as texts.
-/
import Derived.Test.YtpmdfoaadejmkaaGreatDoorM13
import Derived.Test.YtpmdfoaadejmkaaGreatDoorM12
import Derived.Laws.BytesString
import Derived.Test.YtpmdfoaadejmkaaGreatDoorM06
import Derived.WalkSpells
import Derived.Test.YtpmdfoaadejmkaaGreatDoorM14
import Derived.Test.YtpmdfoaadejmkaaGreatDoorM11
namespace Go.Proofs.YtpmdfoaadejmkaaGreatDoor
open Go.RowKit
section
variable {P : Program} {fr : bw} {B : Bs} {L : AL} {d : Option Tmp} {ty t t' : TypeId} {pos : String} {af : Array Edge} {g : Option (Nat × Bool)} {x y z : Operand} {u : AV}
theorem Aw {dd : Option Tmp} {k kk : IntKind} {a b : Int} (i : Nat) (hx : aX fr x = some (.sc (.int k a))) (hy : aX fr y = some (.sc (.int kk b))) (hb : b = (i : Int)) : Av P ⟨dd, .binOp .shl t x y t', ty, pos, af, g⟩ fr (.sc (.int k (k.wrap (a * 2 ^ min i k.bits)))) := by
 intro σ ρ w hρ _
 subst hb
 refine ⟨_, ?_, .sc _⟩
 have h := shift_shl_any k kk a (i : Int) (Int.natCast_nonneg i)
 simp [execOp, (hρ x _ hx).sc_inv, (hρ y _ hy).sc_inv, eqGuard, binOp, h]
theorem vB {dd : Option Tmp} {n e sz b : Nat} (ha : P.underlying t = some (.array n e)) (hs : (P.info? e).map (·.size) = some sz) (hx : aX fr x = some (.sc (.pointer (some ⟨b, 0, none⟩)))) : Av P ⟨dd, .slice t x none none none, ty, pos, af, g⟩ fr (.sc (.slice (some ⟨b, 0, none⟩) n n)) := by
 intro σ ρ w hρ _
 refine ⟨_, ?_, .sc _⟩
 obtain ⟨i, hi, hi2⟩ : ∃ i, P.info? e = some i ∧ i.size = sz := by
  cases hi : P.info? e with
  | none => rw [hi] at hs; cases hs
  | some i => rw [hi] at hs; exact ⟨i, rfl, by simpa using hs⟩
 simp [execOp, (hρ x _ hx).sc_inv, Instr.sliceAt, Instr.sliceBounds, Instr.sureAddr, run_underlying ha, sizeOf, typeInfo, hi, cU]
theorem u4 (i : Nat) {dd : Option Tmp} {e sz by_ b n cap : Nat} {e' : TypeId} (ns : List Int) (hs : jf P t e sz by_) (he : xP P e .u8) (hd : xQ P t') (hx : aX fr x = some (.sc (.slice (some ⟨b, 0, none⟩) n cap))) (hL : L[i]? = some (b, .box (ns.map fun z => .sc (.int .u8 z)) e')) (hn : ns.length = n) :
  AO P ⟨dd, .convert t t' x, ty, pos, af, g⟩ fr B L (fun c L' => c = .sc (.string (ns.foldl (fun r n => r.push (UInt8.ofNat n.toNat)) ByteArray.empty)) ∧ L' = L) := by
 intro σ ρ w hρ hw
 obtain ⟨o, ho, vs, rfl, hvs, h1⟩ := hw.here _ (Dw hL)
 have hvs' : vs = ns.map (Value.int .u8) := by
  have hl := hvs.1
  rw [Du] at hl
  apply List.ext_getElem?
  intro j
  by_cases hj : j < ns.length
  ·obtain ⟨z, hz⟩ : ∃ z, ns[j]? = some z := ⟨_, Bn hj⟩
   obtain ⟨v, hv⟩ : ∃ v, vs[j]? = some v := ⟨_, Bn (by omega)⟩
   have := hvs.2 j _ v (by rw [List.getElem?_map, hz]; rfl) hv
   rw [hv, List.getElem?_map, hz, this.sc_inv]
   rfl
  ·rw [List.getElem?_eq_none (by omega), List.getElem?_eq_none (by rw [Du]; omega)]
 have hload : (loadCells ⟨b, 0, none⟩ n).run P w = .ok (ns.map (Value.int .u8)).toArray w := by
  have := run_loadCells_list (P := P) w ⟨b, 0, none⟩ vs fun j v hj => by
   rw [cU, Nat.zero_add, cn ho]
   simpa using hj
  rw [← hvs.1, Du, hn] at this
  rw [this, hvs']
 have hr := run_bytesToString (P := P) w ⟨b, 0, none⟩ n cap ns hload
 haveI := hs
 unfold fw
 rw [show (execOp ρ ⟨dd, .convert t t' x, ty, pos, af, g⟩).run P w = .ok (.value (.string (ns.foldl (fun r n => r.push (UInt8.ofNat n.toNat)) ByteArray.empty))) w by
  simp [execOp, (hρ x _ hx).sc_inv, run_convert_bytes_string w t t' e _ _ _ hs.under he.under hd.under, hr]]
 exact ⟨σ, .sc _, _, bK.le_refl _, .sc _, hw, rfl, rfl⟩
end
section
variable {P : Program} {tt : TT} {r : Option Nat} {ops : Array Oper} {Q : Exit → Act → World → Prop} {nt : Nat} {D : List Deferred} {fr : bw} {B : Bs} {L : AL} {rest : List Oper} {d : Nat} {ty t t' : TypeId} {pos : String} {af : Array Edge} {x y z : Operand} {u : AV}
theorem x4 (ok : dl P tt) {n e sz b : Nat} (ha : vR tt t = some (n, e, sz)) (hx : aX fr x = some (.sc (.pointer (some ⟨b, 0, none⟩)))) (hd : Nat.ble nt d = false) (h : bh P r ops Q nt D rest ((d, .sc (.slice (some ⟨b, 0, none⟩) n n)) :: fr) B L) : bh P r ops Q nt D (⟨some d, .slice t x none none none, ty, pos, af, none⟩ :: rest) fr B L :=
 bO (vB (gh ok ha).1 (gh ok ha).2 hx) hd rfl h
theorem x2 (ok : dl P tt) (i : Nat) (ns : List Int) {e sz by_ b n cap : Nat} {e' : TypeId} {ti ti' : TI} (ht : iJ tt t = some (e, sz, by_)) (he : cI tt e = some ti) (hk : ti.k = .int .u8) (ht' : cI tt t' = some ti') (hk' : ti'.k = .str) (hx : aX fr x = some (.sc (.slice (some ⟨b, 0, none⟩) n cap))) (hL : L[i]? = some (b, .box (ns.map fun z => .sc (.int .u8 z)) e')) (hn : ns.length = n) (hd : Nat.ble nt d = false) (h : bh P r ops Q nt D rest ((d, .sc (.string (ns.foldl (fun r n => r.push (UInt8.ofNat n.toNat)) ByteArray.empty))) :: fr) B L) : bh P r ops Q nt D (⟨some d, .convert t t' x, ty, pos, af, none⟩ :: rest) fr B L :=
 c6 hd rfl (u4 i ns (b9 ok ht).1 (ok.int he hk) (ok.str ht' hk') hx hL hn) fun c L' ⟨h1, h2⟩ => by subst h1; subst h2; exact h
end
section
variable {P : Program} {tt : TT} {l : List Oper} {fr : bw} {fin : jn} {sk : lm} {acc : bw} {L : AL} {k : Nat} {dd : Option Tmp} {ty t t' : TypeId} {pos : String} {af : Array Edge} {g : Option (Nat × Bool)} {x y : Operand} {u : AV}
theorem rT (i : Nat) {q q' : IntKind} {a b : Int} (hx : aX (cl l.toArray acc fr af.toList) x = some (.sc (.int q a))) (hy : aX (cl l.toArray acc fr af.toList) y = some (.sc (.int q' b))) (hb : b = (i : Int)) (hg : iQ ⟨dd, .binOp .shl t x y t', ty, pos, af, g⟩ acc) (h : DA P l fr fin sk ((k, .sc (.int q (q.wrap (a * 2 ^ min i q.bits)))) :: acc) L) : cC P l fr fin k .v ⟨dd, .binOp .shl t x y t', ty, pos, af, g⟩ sk acc L := eR hg (z1 (Aw i hx hy hb)) h
theorem yj {q : IntKind} {a b : Int} (hx : aX (cl l.toArray acc fr af.toList) x = some (.sc (.int q a))) (hy : aX (cl l.toArray acc fr af.toList) y = some (.sc (.int q b))) (hg : iQ ⟨dd, .binOp .or t x y t', ty, pos, af, g⟩ acc) (h : DA P l fr fin sk ((k, .sc (.int q (bits .or q a b))) :: acc) L) : cC P l fr fin k .v ⟨dd, .binOp .or t x y t', ty, pos, af, g⟩ sk acc L := eR hg (z1 (sU hx hy)) h
end
end Go.Proofs.YtpmdfoaadejmkaaGreatDoor
namespace Go.Proofs.YtpmdfoaadejmkaaGreatDoor
open Go.RowKit
def gD (P : Program) (u : AV) (args : List AV) (L : AL) (Post : AV → AL → Prop) : Prop := (∃ f caps, bj P f ∧ i5 u = some (f, caps) ∧ AC P f (args ++ caps) L Post) ∨ ∃ f fs caps, bj P f ∧ u = .fnB f fs caps ∧ AC P f (fs ++ (args ++ caps)) L Post
theorem gD.fn {P : Program} {f : FuncId} {caps args : List AV} {L : AL} {Post : AV → AL → Prop} [h : bj P f] (k : AC P f (args ++ caps) L Post) : gD P (.fn f caps) args L Post := .inl ⟨f, caps, h, rfl, k⟩
theorem gD.fn0 {P : Program} {f : FuncId} {args : List AV} {L : AL} {Post : AV → AL → Prop} [h : bj P f] (k : AC P f (args ++ []) L Post) : gD P (.sc (.func (.func f) #[] #[])) args L Post := .inl ⟨f, [], h, rfl, k⟩
theorem gD.fnB {P : Program} {f : FuncId} {fs caps args : List AV} {L : AL} {Post : AV → AL → Prop} [h : bj P f] (k : AC P f (fs ++ (args ++ caps)) L Post) : gD P (.fnB f fs caps) args L Post := .inr ⟨f, fs, caps, h, rfl, k⟩
def D1 (u : AV) : Bool := match u with
 | .fn _ _ => true
 | .fnB _ _ _ => true
 | .sc _ => true
 | _ => false
section
variable {P : Program} {r : Option Nat} {ops : Array Oper} {Q : Exit → Act → World → Prop} {nt : Nat} {D : List Deferred} {fr : bw} {B : Bs} {L : AL} {rest : List Oper} {d : Nat} {ty t : TypeId} {pos : String} {af : Array Edge} {x y z : Operand} {u : AV} {g : Option (Nat × Bool)}
theorem vK (Lc Lf : AL) {d : Option Tmp} {f : FuncId} {args : Array Operand} {ts : Array TypeId} {cs fs caps : List AV} {Post : AV → AL → Prop} [hf : bj P f] (hx : aX fr x = some (.fnB f fs caps)) (hv : dC fr args.toList = some cs) (hL : L.Perm (Lc ++ Lf)) (h : AC P f (fs ++ (cs ++ caps)) Lc Post) :
  AO P ⟨d, .call ⟨.value x, args, ts⟩, ty, pos, af, g⟩ fr B L (fun c L' => ∃ L1, Post c L1 ∧ L' = L1 ++ Lf) := by
 intro σ ρ w hρ hw0
 have hw := hw0.perm hL
 obtain ⟨qs, ws, hw1, hw0', hw2⟩ := (hρ x _ hx).fnB_inv
 have hvs := dD hρ _ _ hv
 have e : args.map ρ = (args.toList.map ρ).toArray := by apply Array.toList_inj.1; simp
 unfold fw
 rw [show (execOp ρ ⟨d, .call ⟨.value x, args, ts⟩, ty, pos, af, g⟩).run P w = .ok (.enter f (qs ++ (args.toList.map ρ ++ ws)).toArray) w by
  simp [execOp, resolve, hw1, Deferred.ofValue, invoke, hf.enters]]
 have happ : ∀ {ps bs : List AV} {us vs : List Value}, cG σ ps us → cG σ bs vs → cG σ (ps ++ bs) (us ++ vs) := by
  intro ps bs us vs ha hb
  refine ⟨by rw [List.length_append, List.length_append, ha.1, hb.1], fun i c u hc hu => ?_⟩
  have hq := ha.1
  by_cases hi : i < ps.length
  ·rw [List.getElem?_append_left hi] at hc
   rw [List.getElem?_append_left (by omega)] at hu
   exact ha.2 i c u hc hu
  ·rw [List.getElem?_append_right (by omega)] at hc
   rw [List.getElem?_append_right (by omega), ← hq] at hu
   exact hb.2 _ c u hc hu
 have hall := happ hw0' (happ hvs hw2)
 refine (h σ w _ hall hw.enter).mono fun en w' ⟨v, τ, c, L', h1, h2, h3, h4⟩ => ⟨v, h1, τ, c, L' ++ Lf, h3.grow, h2, hw.leave h3, L', h4, rfl⟩
theorem fW {args : Array Operand} {ts : Array TypeId} {cs : List AV} {Post : AV → AL → Prop} (Lc Lf : AL) (hc : gD P u cs Lc Post) (hx : aX fr x = some u) (hv : dC fr args.toList = some cs) (hL : L.Perm (Lc ++ Lf)) (hn : Oper.noDefer ⟨some d, .call ⟨.value x, args, ts⟩, ty, pos, af, none⟩ = true) (hd : Nat.ble nt d = false) (h : ∀ c L1, Post c L1 → bh P r ops Q nt D rest ((d, c) :: fr) B (L1 ++ Lf)) :
  bh P r ops Q nt D (⟨some d, .call ⟨.value x, args, ts⟩, ty, pos, af, none⟩ :: rest) fr B L := by
 rcases hc with ⟨f, caps, hf, hu, hc⟩ | ⟨f, fs, caps, hf, rfl, hc⟩
 ·exact c6 hd hn (q9 Lc Lf hx hu hv hL hc) fun c L' ⟨L1, h1, h2⟩ => by subst h2; exact h c L1 h1
 ·exact c6 hd hn (vK Lc Lf hx hv hL hc) fun c L' ⟨L1, h1, h2⟩ => by subst h2; exact h c L1 h1
end
end Go.Proofs.YtpmdfoaadejmkaaGreatDoor
namespace Go.Proofs.YtpmdfoaadejmkaaGreatDoor
open Go.RowKit
section
variable {P : Program} {tt : TT} {r : Option Nat} {ops : Array Oper} {Q : Exit → Act → World → Prop} {nt : Nat} {D : List Deferred} {fr : bw} {B : Bs} {L : AL} {rest : List Oper} {d : Nat} {ty t t' : TypeId} {pos : String} {af : Array Edge} {x y z : Operand} {u : AV} {g : Option (Nat × Bool)}
theorem vM {dd : Option Tmp} {e sz by_ s : Nat} {l : List (List AV)} (hc : jf P t e sz by_) (hx : aX fr x = some u) (hu : u.im = .imm s l) (hy : aX fr y = some (.sc (.slice none 0 0))) :
  AO P ⟨dd, .binOp .eql t x y t', ty, pos, af, g⟩ fr B L (fun c L' => ∃ b, c = .sc (.bool b) ∧ (b = true → l = []) ∧ L' = L) := by
 intro σ ρ w hρ hw
 have hxv := (hρ x u hx).im
 rw [hu] at hxv
 have hyv := (hρ y _ hy).sc_inv
 have key : ∀ v, VR σ (.imm s l) v → ∃ A cap, v = .slice A l.length cap ∧ (l ≠ [] → ∃ b off, A = some ⟨b, off, none⟩) := by
  intro v hv
  cases hv with
  | imm sz l A cap h1 h2 h3 ha hx2 h4 => exact ⟨A, cap, rfl, ha⟩
 obtain ⟨A, cap, hval, ha⟩ := key _ hxv
 ·have hrun := Lib.run_eql_slice_nil (P := P) w t e A l.length cap 0 0 hc.under
  unfold fw
  rw [show (execOp ρ ⟨dd, .binOp .eql t x y t', ty, pos, af, g⟩).run P w = .ok (.value (.bool A.isNone)) w by
   simp [execOp, hval, hyv, eqGuard, hrun]]
  refine ⟨σ, .sc _, L, bK.le_refl σ, .sc _, hw, A.isNone, rfl, fun h => ?_, rfl⟩
  cases A with
  | none => exact Decidable.byContradiction fun hn => by obtain ⟨b, o, hh⟩ := ha hn; cases hh
  | some a => cases h
theorem po (ok : dl P tt) {e sz by_ s : Nat} {l : List (List AV)} (ht : iJ tt t = some (e, sz, by_)) (hx : aX fr x = some u) (hu : i6 u = some (s, l)) (hy : aX fr y = some (.sc (.slice none 0 0))) (hd : Nat.ble nt d = false) (h : ∀ b, (b = true → l = []) → bh P r ops Q nt D rest ((d, .sc (.bool b)) :: fr) B L) :
  bh P r ops Q nt D (⟨some d, .binOp .eql t x y t', ty, pos, af, none⟩ :: rest) fr B L :=
 c6 hd rfl (vM (b9 ok ht).1 hx (cP hu) hy) fun c L' ⟨b, h1, h2, h3⟩ => by subst h1; subst h3; exact h b h2
end
section
variable {P : Program} {nt : Nat} {fr : bw} {B : Bs} {L L' : AL}
theorem fi (L' : AL) {fn : Func} {Post : AV → AL → Prop} {cs : List AV} (hr : nj P fr L fn.results.toList cs) (hs : L'.Sublist L) (h : Post (qP cs) L') : AX P .ret (bodyPost P fn (gB B Post)) nt [] fr B L := by
 intro σ a w ha hw
 obtain ⟨v, h1, h2⟩ := iI ha hw hr
 exact ⟨ha.defers, v, h1, v, σ, qP cs, L', rfl, h2, hw.sublist hs, h⟩
end
end Go.Proofs.YtpmdfoaadejmkaaGreatDoor
namespace Go.Proofs.YtpmdfoaadejmkaaGreatDoor
open Go.RowKit
attribute [local irreducible] AT bh AX AO Av Kt b6 di DA cC
def ff (cls : List Int) (n : Nat) (nx : List Nat) (g : Int) : List Nat := nx.set (cls.getD g.toNat 0).toNat (nx.getD (cls.getD g.toNat 0).toNat 0 ||| 2 ^ n)
def dp (cls : List Int) (rows : List (List (List Int))) (m C n : Nat) : List Nat := (List.range C).map fun c => bG (ji cls rows m c) n
theorem eU {cls : List Int} {rows : List (List (List Int))} {m C n : Nat} : (dp cls rows m C n).length = C := by simp [dp]
theorem j6 {cls : List Int} {rows : List (List (List Int))} {m C n c : Nat} (h : c < C) : (dp cls rows m C n)[c]? = some (bG (ji cls rows m c) n) := by simp [dp, h]
theorem pw {cls : List Int} {c : Nat} {s : List Int} {g : Int} : dL cls c (s ++ [g]) = (dL cls c s || dL cls c [g]) := by simp [dL]
theorem j3 {cls : List Int} {n : Nat} : ∀ {s : List Int} {nx : List Nat}, (s.foldl (ff cls n) nx).length = nx.length
 | [], _ => rfl
 | g :: s, nx => by rw [List.foldl_cons, j3]; unfold ff; rw [List.length_set]
section
variable {cls : List Int} {C : Nat} (hd : ∀ z ∈ cls, 0 ≤ z ∧ z < (C : Int))
include hd
theorem ql {g : Int} (hg : 0 ≤ g ∧ g < cls.length) : ∃ c : Nat, cls[g.toNat]? = some (c : Int) ∧ c < C ∧ cls.getD g.toNat 0 = (c : Int) := by
 obtain ⟨z, hz⟩ : ∃ z, cls[g.toNat]? = some z := ⟨_, Bn (by omega)⟩
 obtain ⟨h0, h1⟩ := hd z (Dw hz)
 refine ⟨z.toNat, by rw [hz]; congr 1; omega, by omega, ?_⟩
 rw [List.getD_eq_getElem?_getD, hz]
 show z = _
 omega
theorem oy {n : Nat} {nx : List Nat} (hl : nx.length = C) : ∀ {s : List Int}, (∀ g ∈ s, 0 ≤ g ∧ g < (cls.length : Int)) → ∀ c, c < C → (s.foldl (ff cls n) nx)[c]? = some (nx.getD c 0 ||| (if dL cls c s = true then 2 ^ n else 0)) := by
 intro s
 refine kB (P := fun s => (∀ g ∈ s, 0 ≤ g ∧ g < (cls.length : Int)) → ∀ c, c < C → (s.foldl (ff cls n) nx)[c]? = some (nx.getD c 0 ||| (if dL cls c s = true then 2 ^ n else 0))) ?_ ?_ s
 ·intro _ c hc
  rw [List.foldl_nil, List.getD_eq_getElem?_getD, Bn (by omega)]
  simp [dL]
 ·intro s g ih hs c hc
  have ih' := ih (fun x hx => hs x (by simp [hx]))
  obtain ⟨k, hk, hkC, hkd⟩ := ql hd (hs g (by simp))
  have hml := j3 (cls := cls) (n := n) (s := s) (nx := nx)
  rw [List.foldl_append, List.foldl_cons, List.foldl_nil]
  unfold ff at hml ⊢
  rw [hkd, Int.toNat_natCast]
  have hg1 : dL cls c [g] = decide (k = c) := by
   unfold dL
   have hg := hs g (by simp)
   have hkd2 : cls.getD g.toNat (-1) = (k : Int) := by rw [List.getD_eq_getElem?_getD, hk]; rfl
   simp only [List.any_cons, List.any_nil, Bool.or_false, hkd2, decide_eq_true hg.1, decide_eq_true hg.2, Bool.true_and]
   exact decide_eq_decide.2 (by omega)
  rw [pw, hg1]
  by_cases hkc : k = c
  ·subst hkc
   rw [List.getElem?_set_self (by omega), List.getD_eq_getElem?_getD]
   have := ih' k hc
   unfold ff at this
   rw [this]
   simp only [Option.getD_some, decide_true, Bool.or_true, if_true]
   congr 1
   split
   ·rw [Nat.or_assoc, Nat.or_self]
   ·rw [Nat.or_zero]
  ·rw [List.getElem?_set_ne hkc]
   have := ih' c hc
   unfold ff at this
   rw [this]
   simp [hkc]
theorem sv {rows : List (List (List Int))} {m n : Nat} {dr : List (List Int)} (hr : rows[n]? = some dr) {s : List Int} (hs : dr[m]? = some s) (hg : ∀ g ∈ s, 0 ≤ g ∧ g < (cls.length : Int)) : s.foldl (ff cls n) (dp cls rows m C n) = dp cls rows m C (n + 1) := by
 apply List.ext_getElem?
 intro c
 by_cases hc : c < C
 ·rw [oy hd eU hg c hc, j6 hc, List.getD_eq_getElem?_getD, j6 hc, bG]
  have : ji cls rows m c n = dL cls c s := by
   unfold ji
   rw [hr]
   dsimp only
   rw [hs]
  rw [this]
  rfl
 ·rw [List.getElem?_eq_none (by rw [j3, eU]; omega), List.getElem?_eq_none (by rw [eU]; omega)]
end
theorem nc {cls : List Int} {rows : List (List (List Int))} {m C n : Nat} {dr : List (List Int)} (hr : rows[n]? = some dr) (hs : dr.length ≤ m) : dp cls rows m C (n + 1) = dp cls rows m C n := by
 unfold dp
 refine List.map_congr_left fun c _ => ?_
 rw [bG]
 have : ji cls rows m c n = false := by
  unfold ji
  rw [hr]
  dsimp only
  rw [List.getElem?_eq_none hs]
 rw [this]
 simp
theorem tT (n : Nat) (h : n < 64) : IntKind.u64.wrap (1 * 2 ^ min n IntKind.u64.bits) = ((2 ^ n : Nat) : Int) := by
 have e : min n IntKind.u64.bits = n := by show min n 64 = n; omega
 have h1 : 2 ^ n < 2 ^ 64 := Nat.pow_lt_pow_right (by omega) h
 have e2 : (2 : Int) ^ n = ((2 ^ n : Nat) : Int) := (Int.natCast_pow 2 n).symm
 rw [e, Int.one_mul, e2]
 generalize 2 ^ n = k at h1
 have h64 : (2 : Nat) ^ 64 = 18446744073709551616 := by decide
 rw [h64] at h1
 rw [IntKind.wrap_u64]
 exact Int.emod_eq_of_lt (by omega) (by omega)
theorem kQ {p : Nat → Bool} {n : Nat} (h : n ≤ 64) : bG p n < 2 ^ 64 := Nat.lt_of_lt_of_le (jQ p n) (Nat.pow_le_pow_right (by omega) h)
theorem zO {n : Nat} (h : n < 64) : 2 ^ n < 2 ^ 64 := Nat.pow_lt_pow_right (by omega) h
def er (l : List Nat) : List AV := l.map fun z => gg z
theorem mH (l : List Nat) : (er l).length = l.length := by simp [er]
theorem rN {l : List Nat} {i : Nat} {z : Nat} (h : l[i]? = some z) : (er l)[0 + ((i : Nat) : Int).toNat * 1]? = some (gg z) := by simp [er, h]
theorem rO {l : List Nat} {i : Nat} {z : Nat} : eI (er l) (0 + ((i : Nat) : Int).toNat * 1) [gg z] = er (l.set i z) := by
 rw [fM]
 unfold er
 rw [List.map_set]
 simp
theorem qk (n : Nat) : (List.replicate n [gg 0]).flatten = er (List.replicate n 0) := by
 induction n with
 | zero => rfl
 | succ n ih => rw [List.replicate_succ, List.flatten_cons, ih, List.replicate_succ]; rfl
theorem vo (l : List Nat) : er l = (eJ l).flatten := by
 induction l with
 | nil => rfl
 | cons z l ih => simp [er, eJ] at ih ⊢; exact ih
def gx (l : List (List (List Int))) : List (List AV) := l.map fun r => [.imm 1 (b8 r)]
theorem oE (l : List (List (List Int))) : (gx l).length = l.length := by simp [gx]
theorem uZ {l : List (List (List Int))} {i : Nat} {r : List (List Int)} (h : l[i]? = some r) : (gx l)[i]? = some [.imm 1 (b8 r)] := by simp [gx, h]
structure RD where
 rows : List (List (List Int))
 have_ : Nat
 cls : List Int
 C : Nat
structure vt (R : RD) : Prop where
 few : R.rows.length ≤ 6
 dom : ∀ z ∈ R.cls, 0 ≤ z ∧ z < (R.C : Int)
 sets : ∀ r ∈ R.rows, ∀ s ∈ r, (∀ g ∈ s, 0 ≤ g ∧ g < (R.cls.length : Int)) ∧ s.length ≤ 1000000
 long : ∀ r ∈ R.rows, r.length ≤ 1000000
 many : R.C ≤ 1000000 ∧ R.cls.length ≤ 1000000
def ye (R : RD) (lv : AV) : List AV := [.imm 1 (gx R.rows), gg R.have_, .imm 1 (aT R.cls), aA R.C, lv]
def iq (R : RD) (m : Nat) : List AV := [.imm 1 (eJ (dp R.cls R.rows m R.C R.rows.length)), gg (bG (gi R.rows m) R.rows.length)]
set_option maxHeartbeats 8000000 in
theorem pd (R : RD) (h : vt R) (rb : Nat) (lv : AV) (m : Nat) (hm : m ≤ 1000000) : AC Tryz.prog 285 [ek rb, aA m] [(rb, .box (ye R lv) 268)] fun c L => c = .agg (iq R m) ∧ L = [(rb, .box (ye R lv) 268)] := by
 refine aC Tryz.func285 rfl Tryz.ntmps285 rfl fun B => ?_
 have hrl := oE R.rows
 have hil := aW R.cls
 obtain ⟨hC, hN⟩ := h.many
 have hfew := h.few
 repeat' (first|refine a9 ?_|refine a4 ?_|refine a6 ?_|refine a7 ?_|refine a8 a5 rfl rfl ?_|(apply bE; first|refine aj a5 0 rfl rfl rfl rfl rfl ?_|refine aj a5 1 rfl rfl rfl rfl rfl ?_|refine aj a5 2 rfl rfl rfl rfl rfl ?_|refine aj a5 3 rfl rfl rfl rfl rfl ?_|refine ay a5 0 rfl rfl rfl rfl rfl ?_|refine ay a5 1 rfl rfl rfl rfl rfl ?_|refine ay a5 2 rfl rfl rfl rfl rfl ?_|refine aj a5 1 rfl rfl rfl (by assumption) rfl ?_|refine aj a5 0 rfl rfl rfl (by assumption) rfl ?_|fail)|refine b4 a5 fun _=>?_|fail)
 refine iE a5 R.C rfl rfl rfl rfl rfl rfl rfl (by omega) (by omega) rfl fun nb => ?_
 rw [show (List.replicate R.C (List.map AV.sc [Value.int .u64 0])).flatten = er (List.replicate R.C 0) from qk R.C]
 repeat' (first|refine a9 ?_|refine a4 ?_|refine ak ?_|refine a6 ?_|refine a7 ?_|refine a8 a5 rfl rfl ?_|(apply bE; first|refine aj a5 0 rfl rfl rfl rfl rfl ?_|refine aj a5 1 rfl rfl rfl rfl rfl ?_|refine aj a5 2 rfl rfl rfl rfl rfl ?_|refine aj a5 3 rfl rfl rfl rfl rfl ?_|refine ay a5 0 rfl rfl rfl rfl rfl ?_|refine ay a5 1 rfl rfl rfl rfl rfl ?_|refine ay a5 2 rfl rfl rfl rfl rfl ?_|refine aj a5 1 rfl rfl rfl (by assumption) rfl ?_|refine aj a5 0 rfl rfl rfl (by assumption) rfl ?_|fail)|(apply aP; first|refine ad a5 0 rfl rfl rfl rfl rfl rfl rfl ?_|refine ad a5 1 rfl rfl rfl rfl rfl rfl rfl ?_|refine ad a5 2 rfl rfl rfl rfl rfl rfl rfl ?_|refine ad a5 3 rfl rfl rfl rfl rfl rfl rfl ?_|fail)|refine b4 a5 fun _=>?_|fail)
 rename_i r4 l5
 refine aL [0, 1, 4, 5, 19, 20] (α := Nat) (fun n => [(21, aA n)]) (fun n => n ≤ R.rows.length) (fun n => [(l5, .box [.sc (.slice (some ⟨nb, 0, none⟩) R.C R.C), gg (bG (gi R.rows m) n)] 330), (nb, .box (er (dp R.cls R.rows m R.C n)) 246), (r4, .box [.sc (.slice none 0 0), gg 0] 330), (rb, .box (ye R lv) 268)]) (fun n => R.rows.length - n) 0 rfl ⟨rfl, trivial⟩ (Nat.zero_le _) (fun _ _ hh => ?_) fun n hn => ?_
 ·rw [show dp R.cls R.rows m R.C 0 = List.replicate R.C 0 by unfold dp bG; rw [List.map_const', List.length_range]]
  exact hh
 ·try dsimp only [Ds, Dr, Dq, Dn]
  repeat' (first|refine a9 ?_|refine a4 ?_|refine a6 ?_|refine a7 ?_|refine a8 a5 rfl rfl ?_)
  refine ar rfl (fun h1 => ?_) (fun h1 => ?_)
  ·have hn2 : n < R.rows.length := by have := Dz h1; omega
   obtain ⟨dr, hrow⟩ : ∃ z, R.rows[n]? = some z := ⟨_, Bn hn2⟩
   have hrg := uZ hrow
   have hrwl := bS dr
   have hrm := Dw hrow
   have hlong := h.long dr hrm
   have hends : bG (gi R.rows m) (n + 1) = bG (gi R.rows m) n ||| (if dr.length = m then 2 ^ n else 0) := by
    rw [bG]
    unfold gi
    rw [hrow]
    simp only [decide_eq_true_eq]
   have hb1 := kQ (p := gi R.rows m) (n := n) (by omega)
   have hb2 := zO (n := n) (by omega)
   have hub := tT n (by omega)
   clear h1
   repeat' (first|refine a9 ?_|refine a4 ?_|refine ak ?_|refine ai ?_|refine a6 ?_|refine a7 ?_|refine a8 a5 rfl rfl ?_|(apply aF; first|refine aE a5 ?_|refine aB a5 ?_)|fail)
   refine ar rfl (fun h1 => ?_) (fun h1 => ?_)
   ·have hlm : dr.length = m := by have := Dz h1; omega
    rw [if_pos hlm] at hends
    have hsk := nc (cls := R.cls) (C := R.C) hrow (Nat.le_of_eq hlm)
    clear h1
    repeat' (first|fail)
    refine bk 4 [(0, .v), (1, .l), (2, .v), (3, .v)] none ?_ trivial rfl (by kernel_rfl) (by kernel_rfl) (by kernel_rfl) c9 (by kernel_rfl) rfl
    repeat' (first|refine aD ?_|refine bi a5 ?_|refine bX a5 0 rfl rfl rfl rfl (by first|trivial|rfl) ?_)
    refine rT n rfl rfl rfl trivial ?_
    repeat' (first|fail)
    refine bz [0, 1, 4, 5, 6, 7, 19, 20, 21, 31, 33] rfl rfl ?_
    refine pk rfl rfl rfl ?_
    rw [hub, u64_or_nat _ _ hb1 hb2, ← hends]
    repeat' (first|refine a9 ?_|refine a4 ?_|refine a6 ?_|refine a7 ?_|refine a8 a5 rfl rfl ?_|(apply aP; first|refine ad a5 0 rfl rfl rfl rfl rfl rfl rfl ?_|refine ad a5 1 rfl rfl rfl rfl rfl rfl rfl ?_|refine ad a5 2 rfl rfl rfl rfl rfl rfl rfl ?_|refine ad a5 3 rfl rfl rfl rfl rfl rfl rfl ?_|fail))
    refine ar rfl (fun h2 => ?_) (fun h2 => ?_)
    ·repeat' (first|refine a4 ?_|refine aM ?_|refine a6 ?_|refine au ?_|refine aw ?_|refine a7 ?_|refine a8 a5 rfl rfl ?_|(apply aU; refine aS ?_)|fail)
     exact az (n + 1) rfl ⟨by rw [Dv]; rfl, trivial⟩ hn2 (by omega) (fun _ _ hh => by rw [hsk]; exact hh)
    ·have := Dy h2
     omega
   ·have hlm : ¬ dr.length = m := by have := Dy h1; omega
    rw [if_neg hlm, Nat.or_zero] at hends
    clear h1
    repeat' (first|refine a9 ?_|refine a4 ?_|refine ai ?_|refine a6 ?_|refine a7 ?_|refine a8 a5 rfl rfl ?_)
    refine ar rfl (fun h2 => ?_) (fun h2 => ?_)
    ·have hsk := nc (cls := R.cls) (C := R.C) (m := m) hrow (by have := Dz h2; omega)
     repeat' (first|refine a4 ?_|refine aM ?_|refine a6 ?_|refine au ?_|refine aw ?_|refine a7 ?_|refine a8 a5 rfl rfl ?_|(apply aU; refine aS ?_)|fail)
     exact az (n + 1) rfl ⟨by rw [Dv]; rfl, trivial⟩ hn2 (by omega) (fun _ _ hh => by rw [hsk, hends]; exact hh)
    ·have hml : m < dr.length := by have := Dy h2; omega
     obtain ⟨s, hs⟩ : ∃ z, dr[m]? = some z := ⟨_, Bn hml⟩
     have hsg := fu hs
     obtain ⟨hsd, hsl⟩ := h.sets dr hrm s (Dw hs)
     have hsil := aW s
     have hst := sv h.dom hrow hs hsd
     clear h2
     repeat' (first|refine a9 ?_|refine a4 ?_|refine ak ?_|refine ai ?_|refine a6 ?_|refine a7 ?_|refine a8 a5 rfl rfl ?_|(apply aF; first|refine aE a5 ?_|refine aB a5 ?_)|fail)
     refine aL [0, 1, 4, 5, 6, 19, 20, 21, 43, 44] (α := Nat) (fun j => [(45, aA j)]) (fun j => j ≤ s.length) (fun j => [(l5, .box [.sc (.slice (some ⟨nb, 0, none⟩) R.C R.C), gg (bG (gi R.rows m) n)] 330), (nb, .box (er ((s.take j).foldl (ff R.cls n) (dp R.cls R.rows m R.C n))) 246), (r4, .box [.sc (.slice none 0 0), gg 0] 330), (rb, .box (ye R lv) 268)]) (fun j => s.length - j) 0 rfl ⟨rfl, trivial⟩ (Nat.zero_le _) (fun _ _ hh => hh) fun j hj => ?_
     try dsimp only [Ds, Dr, Dq, Dn]
     repeat' (first|refine a9 ?_|refine a4 ?_|refine a6 ?_|refine a7 ?_|refine a8 a5 rfl rfl ?_)
     refine ar rfl (fun h2 => ?_) (fun h2 => ?_)
     ·have hj2 : j < s.length := by have := Dz h2; omega
      obtain ⟨g, hg⟩ : ∃ z, s[j]? = some z := ⟨_, Bn hj2⟩
      have hgg := bJ hg
      have hgd := hsd g (Dw hg)
      obtain ⟨c, hc, hcC, hcd⟩ := ql h.dom hgd
      have hcg : (aT R.cls)[g.toNat]? = some [aA c] := bJ hc
      have hnl : ((s.take j).foldl (ff R.cls n) (dp R.cls R.rows m R.C n)).length = R.C := by rw [j3, eU]
      obtain ⟨v, hv⟩ : ∃ z, ((s.take j).foldl (ff R.cls n) (dp R.cls R.rows m R.C n))[c]? = some z := ⟨_, Bn (by omega)⟩
      have hv64 : v < 2 ^ 64 := by
       have := oy h.dom (n := n) (nx := dp R.cls R.rows m R.C n) eU (s := s.take j) (fun x hx => hsd x (List.mem_of_mem_take hx)) c hcC
       rw [hv, List.getD_eq_getElem?_getD, j6 hcC] at this
       cases this
       exact xa (kQ (by omega)) (by split; exact hb2; omega)
      have htk : s.take (j + 1) = s.take j ++ [g] := by rw [List.take_add_one, hg]; rfl
      have hfs : (s.take (j + 1)).foldl (ff R.cls n) (dp R.cls R.rows m R.C n) = ((s.take j).foldl (ff R.cls n) (dp R.cls R.rows m R.C n)).set c (v ||| 2 ^ n) := by
       rw [htk, List.foldl_append, List.foldl_cons, List.foldl_nil]
       generalize (s.take j).foldl (ff R.cls n) (dp R.cls R.rows m R.C n) = nx at hv
       unfold ff
       rw [hcd, Int.toNat_natCast, List.getD_eq_getElem?_getD, hv]
       rfl
      generalize (s.take j).foldl (ff R.cls n) (dp R.cls R.rows m R.C n) = nx at *
      have hvc := rN hv
      have hul := mH nx
      clear h2
      repeat' (first|refine a9 ?_|refine a4 ?_|refine ak ?_|refine ai ?_|refine a6 ?_|refine a7 ?_|refine a8 a5 rfl rfl ?_|(apply aF; first|refine aE a5 ?_|refine aB a5 ?_)|fail)
      refine bH [0, 1, 4, 5, 6, 9, 19, 20, 21, 43, 44, 45] True rfl (fun Q' K => ?_) (fun _ => ?_) (fun hC => absurd trivial hC)
      ·repeat' (first|refine a7 ?_|refine a8 a5 rfl rfl ?_|refine am rfl rfl ?_|refine ax rfl rfl rfl rfl ?_|(apply bE; first|refine aj a5 0 rfl rfl rfl rfl rfl ?_|refine aj a5 1 rfl rfl rfl rfl rfl ?_|refine aj a5 2 rfl rfl rfl rfl rfl ?_|refine aj a5 3 rfl rfl rfl rfl rfl ?_|refine ay a5 0 rfl rfl rfl rfl rfl ?_|refine ay a5 1 rfl rfl rfl rfl rfl ?_|refine ay a5 2 rfl rfl rfl rfl rfl ?_|refine aj a5 1 rfl rfl rfl (by assumption) rfl ?_|refine aj a5 0 rfl rfl rfl (by assumption) rfl ?_|fail)|refine aI rfl rfl rfl (fun _ => ?_) (fun _ => ?_))
       all_goals exact K _ _ rfl rfl (by simp_all <;> omega)
      repeat' (first|fail)
      refine bk 14 [(0, .v), (1, .l), (2, .v), (3, .v), (4, .v), (5, .l), (6, .v), (7, .v), (8, .v), (9, .v), (10, .l), (11, .v), (12, .v), (13, .v)] none ?_ trivial rfl (by kernel_rfl) (by kernel_rfl) (by kernel_rfl) c9 (by kernel_rfl) rfl
      repeat' (first|refine aD ?_|refine bi a5 ?_|refine bX a5 0 rfl rfl rfl rfl (by first|trivial|rfl) ?_)
      refine bX a5 3 rfl rfl rfl rfl trivial ?_
      repeat' (first|refine aD ?_|refine bi a5 ?_|(apply cD;refine d3 a5 ?_)|fail)
      refine cK a5 rfl rfl rfl ⟨by omega, by omega⟩ trivial ?_
      repeat' (first|refine aD ?_|fail)
      refine bX a5 1 rfl rfl rfl hvc trivial ?_
      repeat' (first|refine aD ?_|refine bi a5 ?_|fail)
      refine rT n rfl rfl rfl trivial ?_
      repeat' (first|refine aD ?_|fail)
      refine yj rfl rfl trivial ?_
      repeat' (first|fail)
      refine bz [0, 1, 4, 5, 6, 19, 20, 21, 43, 44, 45, 61, 68, 73] rfl rfl ?_
      rw [hub, u64_or_nat _ _ hv64 hb2]
      repeat' (first|(apply aF; first|refine aE a5 ?_|refine aB a5 ?_)|fail)
      refine ad a5 1 rfl rfl rfl rfl rfl rfl (Nat.ble_eq_true_of_le (by rw [hul, hnl, Int.toNat_natCast]; show 0 + c * 1 + 1 ≤ _; omega)) ?_
      rw [rO]
      repeat' (first|refine a4 ?_|refine a6 ?_|refine aH ?_|refine a7 ?_|refine a8 a5 rfl rfl ?_|(apply aU; refine aS ?_)|fail)
      exact az (j + 1) rfl ⟨by rw [Dv]; rfl, trivial⟩ hj2 (by omega) (fun _ _ hh => by rw [hfs]; exact hh)
     ·have hj2 : j = s.length := by have := Dy h2; omega
      subst hj2
      rw [List.take_length, hst]
      clear h2
      repeat' (first|refine a4 ?_|refine aM ?_|refine a6 ?_|refine au ?_|refine aH ?_|refine aw ?_|refine av ?_|refine a7 ?_|refine a8 a5 rfl rfl ?_|(apply aU; refine aS ?_)|fail)
      exact az (n + 1) rfl ⟨by rw [Dv]; rfl, trivial⟩ hn2 (by omega) (fun _ _ hh => by rw [hends]; exact hh)
  ·have hn2 : n = R.rows.length := by have := Dy h1; omega
   subst hn2
   clear h1
   repeat' (first|refine a9 ?_|refine a4 ?_|refine ah ?_|refine aM ?_|refine a6 ?_|refine au ?_|refine aw ?_|refine av ?_|refine a7 ?_|(apply bE; first|refine aj a5 0 rfl rfl rfl rfl rfl ?_|refine aj a5 1 rfl rfl rfl rfl rfl ?_|refine aj a5 2 rfl rfl rfl rfl rfl ?_|refine aj a5 3 rfl rfl rfl rfl rfl ?_|refine ay a5 0 rfl rfl rfl rfl rfl ?_|refine ay a5 1 rfl rfl rfl rfl rfl ?_|refine ay a5 2 rfl rfl rfl rfl rfl ?_|refine aj a5 1 rfl rfl rfl (by assumption) rfl ?_|refine aj a5 0 rfl rfl rfl (by assumption) rfl ?_|fail)|(apply aP; first|refine ad a5 0 rfl rfl rfl rfl rfl rfl rfl ?_|refine ad a5 1 rfl rfl rfl rfl rfl rfl rfl ?_|refine ad a5 2 rfl rfl rfl rfl rfl rfl rfl ?_|refine ad a5 3 rfl rfl rfl rfl rfl rfl rfl ?_|fail))
   have hcu := mH (dp R.cls R.rows m R.C R.rows.length)
   rw [eU] at hcu
   refine dk (L' := [(nb, .box (er (dp R.cls R.rows m R.C R.rows.length)) 246), (r4, .box [.sc (.slice (some ⟨nb, 0, none⟩) R.C R.C), gg (bG (gi R.rows m) R.rows.length)] 330), (rb, .box (ye R lv) 268)]) (List.sublist_cons_self ..) ?_
   refine bB (vn (k := 0) (sz := 1) (n := R.C) (cap := R.C) (l := eJ (dp R.cls R.rows m R.C R.rows.length)) rfl (by rw [← vo, List.take_of_length_le (by omega)]) (by omega) (fun e he => by unfold eJ at he; obtain ⟨z, _, rfl⟩ := List.mem_map.1 he; rfl) (by rw [kE, eU]) (Nat.le_refl _) (by unfold maxLen; omega)) ?_
   exact fi (cs := [.agg (iq R m)]) [(rb, .box (ye R lv) 268)] ⟨⟨_, 0, _, _, rfl, rfl, .inr ⟨dE a5 rfl, rfl⟩⟩, trivial⟩ (List.sublist_cons_self ..) ⟨rfl, rfl⟩
end Go.Proofs.YtpmdfoaadejmkaaGreatDoor
namespace Go.Proofs.YtpmdfoaadejmkaaGreatDoor
open Go.RowKit
attribute [local irreducible] AT bh AX AO Av Kt b6 di DA cC
def uH (R : RD) (k : Nat) : List (List AV) := (List.range k).map (iq R)
theorem tw (R : RD) (k : Nat) : (uH R k).length = k := by simp [uH]
theorem qM (R : RD) (k : Nat) : uH R k ++ [iq R k] = uH R (k + 1) := by simp [uH, List.range_succ]
theorem yX (R : RD) {k m : Nat} (h : m < k) : (uH R k)[m]? = some (iq R m) := by simp [uH, h]
abbrev nk (R : RD) (rb k : Nat) (q : Option (Nat × Nat)) : Nat × AB := (rb, .box (ye R (.vec q 2 (uH R k))) 268)
abbrev dA (R : RD) (rb k : Nat) (q : Option (Nat × Nat)) : AL := nk R rb k q :: tok q 330 2 k
def mc (R : RD) (rb : Nat) (u : AV) : AV → AL → Prop := fun c L => c = u ∧ ∃ k q, k ≤ 1000001 ∧ L = dA R rb k q
theorem C8 {a b : Nat × AB} {X : AL} : (a :: b :: X).Perm (b :: a :: X) := List.Perm.swap ..
set_option maxHeartbeats 4000000 in
theorem qJ (R : RD) (h : vt R) (rb k : Nat) (q : Option (Nat × Nat)) (hk : k ≤ 1000001) (m : Nat) (hm : m ≤ 1000000) : AC Tryz.prog 255 [ek rb, aA m] (dA R rb k q) (mc R rb (.agg (iq R m))) := by
 refine aC Tryz.func255 rfl Tryz.ntmps255 rfl fun B => ?_
 repeat' (first|refine a9 ?_|refine a4 ?_|refine ak ?_|refine a6 ?_|refine a7 ?_|refine b4 a5 fun _=>?_|fail)
 rename_i r4
 refine aL [0, 1, 4] (α := Nat × Option (Nat × Nat)) (fun _ => []) (fun s => s.1 ≤ 1000001) (fun s => (r4, .box [.sc (.slice none 0 0), gg 0] 330) :: dA R rb s.1 s.2) (fun s => m + 1 - s.1) (k, q) rfl trivial hk (fun _ _ hh => hh) ?_
 rintro ⟨k1, q1⟩ hk1
 dsimp only at hk1 ⊢
 try dsimp only [Ds, Dr, Dq, Dn]
 have hlen := tw R k1
 repeat' (first|refine a9 ?_|refine a4 ?_|refine a6 ?_|refine a7 ?_|refine a8 a5 rfl rfl ?_|(apply bE; first|refine aj a5 0 rfl rfl rfl rfl rfl ?_|refine aj a5 1 rfl rfl rfl rfl rfl ?_|refine aj a5 2 rfl rfl rfl rfl rfl ?_|refine aj a5 3 rfl rfl rfl rfl rfl ?_|refine ay a5 0 rfl rfl rfl rfl rfl ?_|refine ay a5 1 rfl rfl rfl rfl rfl ?_|refine ay a5 2 rfl rfl rfl rfl rfl ?_|refine aj a5 1 rfl rfl rfl (by assumption) rfl ?_|refine aj a5 0 rfl rfl rfl (by assumption) rfl ?_|fail)|fail)
 refine ar rfl (fun h1 => ?_) (fun h1 => ?_)
 ·have hkm : k1 ≤ m := by have := Dz h1; omega
  have hml := pd R h rb (.vec q1 2 (uH R k1)) k1 (by omega)
  clear h1
  repeat' (first|refine ak ?_|refine ai ?_|refine a6 ?_)
  refine my [.cell (rb, 4, .vec q1 2 (uH R k1))] 14 [(0, .v), (1, .v), (2, .v), (3, .v), (4, .k), (5, .v), (6, .v), (7, .v), (8, .v), (9, .l), (10, .v), (11, .f), (12, .v), (13, .e)] none ?_ trivial rfl (by kernel_rfl) (by kernel_rfl) (by kernel_rfl) c9 (by kernel_rfl) rfl
  repeat' (first|refine aD ?_|refine bi a5 ?_|fail)
  refine ta a5 0 rfl rfl rfl (k9 1 rfl rfl) trivial ?_
  repeat' (first|refine aD ?_|refine bi a5 ?_|refine bX a5 1 rfl rfl rfl rfl (by first|trivial|rfl) ?_)
  refine yk [nk R rb k1 q1] ((r4, .box [.sc (.slice none 0 0), gg 0] 330) :: tok q1 330 2 k1) hml rfl (by rw [hlen]; rfl) C8 trivial (fun c L1 ⟨hc, hL⟩ hK => by subst hL; exact k9 0 rfl rfl) fun c L1 ⟨hc, hL⟩ => ?_
  subst hc; subst hL
  repeat' (first|refine aD ?_|refine lF a5 ?_|fail)
  refine jV a5 [nk R rb k1 q1, (r4, .box [.sc (.slice none 0 0), gg 0] 330)] rfl rfl rfl rfl ?_ (by rw [hlen]; simp; omega) (by rw [hlen]; simp; omega) trivial fun q' => ?_
  ·rw [hlen]
   exact List.perm_append_comm (l₁ := [_, _])
  repeat' (first|fail)
  refine bz [0, 1, 4, 12, 25] rfl rfl ?_
  refine aR (aY (L' := nk R rb k1 q1 :: (r4, .box [.sc (.slice none 0 0), gg 0] 330) :: tok q' 330 2 (uH R k1 ++ [iq R k1]).length) (List.perm_append_comm (l₂ := [_, _]))) ?_
  repeat' (first|refine aH ?_|refine a7 ?_|refine a8 a5 rfl rfl ?_|(apply aP; first|refine ad a5 0 rfl rfl rfl rfl rfl rfl rfl ?_|refine ad a5 1 rfl rfl rfl rfl rfl rfl rfl ?_|refine ad a5 2 rfl rfl rfl rfl rfl rfl rfl ?_|refine ad a5 3 rfl rfl rfl rfl rfl rfl rfl ?_|fail))
  refine az (k1 + 1, q') rfl trivial (by dsimp only; omega) (by dsimp only; omega) (fun σ w hh => ?_)
  rw [qM, tw] at hh
  refine cm.perm (L := nk R rb (k1 + 1) q' :: (r4, .box [.sc (.slice none 0 0), gg 0] 330) :: tok q' 330 2 (k1 + 1)) ?_ C8
  unfold nk
  rw [← qM]
  exact hh
 ·have hkm : m < k1 := by have := Dy h1; omega
  have hlg := yX R hkm
  clear h1
  repeat' (first|refine a9 ?_|refine a4 ?_|refine ah ?_|refine aM ?_|refine a6 ?_|refine au ?_|refine aw ?_|refine av ?_|refine a7 ?_|refine a8 a5 rfl rfl ?_|(apply bE; first|refine aj a5 0 rfl rfl rfl rfl rfl ?_|refine aj a5 1 rfl rfl rfl rfl rfl ?_|refine aj a5 2 rfl rfl rfl rfl rfl ?_|refine aj a5 3 rfl rfl rfl rfl rfl ?_|refine ay a5 0 rfl rfl rfl rfl rfl ?_|refine ay a5 1 rfl rfl rfl rfl rfl ?_|refine ay a5 2 rfl rfl rfl rfl rfl ?_|refine aj a5 1 rfl rfl rfl (by assumption) rfl ?_|refine aj a5 0 rfl rfl rfl (by assumption) rfl ?_|fail)|(apply aF; first|refine aE a5 ?_|refine aB a5 ?_)|(apply aP; first|refine ad a5 0 rfl rfl rfl rfl rfl rfl rfl ?_|refine ad a5 1 rfl rfl rfl rfl rfl rfl rfl ?_|refine ad a5 2 rfl rfl rfl rfl rfl rfl rfl ?_|refine ad a5 3 rfl rfl rfl rfl rfl rfl rfl ?_|fail))
  exact fi (cs := [.agg (iq R m)]) (dA R rb k1 q1) ⟨⟨_, 0, _, _, rfl, rfl, .inr ⟨dE a5 rfl, rfl⟩⟩, trivial⟩ (List.sublist_cons_self ..) ⟨rfl, k1, q1, hk1, rfl⟩
def js (p : Pl) : List AV := [aA p.1, gg p.2]
theorem uY (R : RD) (rb k : Nat) (q : Option (Nat × Nat)) (hk : k ≤ 1000001) : AC Tryz.prog 180 [ek rb] (dA R rb k q) (mc R rb (.agg (js (0, R.have_)))) := by
 refine aC Tryz.func180 rfl Tryz.ntmps180 rfl fun B => ?_
 repeat' (first|refine a9 ?_|refine a4 ?_|refine ah ?_|refine a6 ?_|refine a7 ?_|refine a8 a5 rfl rfl ?_|(apply bE; first|refine aj a5 0 rfl rfl rfl rfl rfl ?_|refine aj a5 1 rfl rfl rfl rfl rfl ?_|refine aj a5 2 rfl rfl rfl rfl rfl ?_|refine aj a5 3 rfl rfl rfl rfl rfl ?_|refine ay a5 0 rfl rfl rfl rfl rfl ?_|refine ay a5 1 rfl rfl rfl rfl rfl ?_|refine ay a5 2 rfl rfl rfl rfl rfl ?_|refine aj a5 1 rfl rfl rfl (by assumption) rfl ?_|refine aj a5 0 rfl rfl rfl (by assumption) rfl ?_|fail)|(apply aP; first|refine ad a5 0 rfl rfl rfl rfl rfl rfl rfl ?_|refine ad a5 1 rfl rfl rfl rfl rfl rfl rfl ?_|refine ad a5 2 rfl rfl rfl rfl rfl rfl rfl ?_|refine ad a5 3 rfl rfl rfl rfl rfl rfl rfl ?_|fail)|refine b4 a5 fun _=>?_|fail)
 exact fi (cs := [.agg (js (0, R.have_))]) (dA R rb k q) ⟨⟨_, 0, _, _, rfl, rfl, .inr ⟨dE a5 rfl, rfl⟩⟩, trivial⟩ (List.sublist_cons_self ..) ⟨rfl, k, q, hk, rfl⟩
theorem x7 {R : RD} {m c : Nat} (hc : c < R.C) : (eJ (dp R.cls R.rows m R.C R.rows.length))[((c : Nat) : Int).toNat]? = some [gg (gq R.cls R.rows m c)] := by
 rw [Int.toNat_natCast]
 exact rk (j6 hc)
set_option maxHeartbeats 4000000 in
theorem ub (R : RD) (h : vt R) (rb k : Nat) (q : Option (Nat × Nat)) (hk : k ≤ 1000001) (p : Pl) (hp : p.1 ≤ 1000000) (hp2 : p.2 < 2 ^ 64) (c : Nat) (hc : c < R.C) : AC Tryz.prog 181 [ek rb, .agg (js p), aA c] (dA R rb k q) (mc R rb (.agg (js (br R.cls R.rows p c)))) := by
 refine aC Tryz.func181 rfl Tryz.ntmps181 rfl fun B => ?_
 obtain ⟨pm, pr⟩ := p
 dsimp only at hp hp2
 have hlv := qJ R h rb k q hk pm hp
 have hnl := x7 (R := R) (m := pm) hc
 have hn64 : gq R.cls R.rows pm c < 2 ^ 64 := kQ (by have := h.few; omega)
 have hbe : br R.cls R.rows (pm, pr) c = if pr &&& gq R.cls R.rows pm c = 0 then (0, 0) else (pm + 1, pr &&& gq R.cls R.rows pm c) := rfl
 repeat' (first|refine a9 ?_|refine a4 ?_|refine a6 ?_|refine a7 ?_|refine a8 a5 rfl rfl ?_|refine aZ ?_|refine b4 a5 fun _=>?_|fail)
 rename_i r6
 refine ar rfl (fun h1 => ?_) (fun h1 => ?_)
 ·clear h1
  repeat' (first|refine a4 ?_|refine a8 a5 rfl rfl ?_)
  refine aO (dA R rb k q) [(r6, .box [aA 0, gg 0] 261)] hlv rfl rfl (List.perm_append_comm (l₁ := [_])) rfl fun c1 L1 ⟨hc1, k1, q1, hk1, hL⟩ => ?_
  subst hc1; subst hL
  refine aR (aY (L' := (r6, .box [aA 0, gg 0] 261) :: dA R rb k1 q1) (List.perm_append_comm (l₂ := [_]))) ?_
  repeat' (first|refine a8 a5 rfl rfl ?_|(apply aF; first|refine aE a5 ?_|refine aB a5 ?_)|fail)
  refine pj rfl rfl rfl ?_
  rw [u64_and_nat _ _ hp2 hn64]
  repeat' (first|refine a9 ?_|refine a4 ?_|refine a6 ?_|refine a7 ?_|refine a8 a5 rfl rfl ?_)
  refine ar rfl (fun h2 => ?_) (fun h2 => ?_)
  ·have hz : pr &&& gq R.cls R.rows pm c = 0 := by have := Dz h2; omega
   rw [if_pos hz] at hbe
   rw [hbe]
   repeat' (first|refine a9 ?_|refine a4 ?_|refine ah ?_|refine a6 ?_|refine aq ?_|refine a7 ?_|refine a8 a5 rfl rfl ?_|(apply aP; first|refine ad a5 0 rfl rfl rfl rfl rfl rfl rfl ?_|refine ad a5 1 rfl rfl rfl rfl rfl rfl rfl ?_|refine ad a5 2 rfl rfl rfl rfl rfl rfl rfl ?_|refine ad a5 3 rfl rfl rfl rfl rfl rfl rfl ?_|fail))
   exact fi (cs := [.agg (js (0, 0))]) (dA R rb k1 q1) ⟨⟨_, 0, _, _, rfl, rfl, .inr ⟨dE a5 rfl, rfl⟩⟩, trivial⟩ (List.sublist_cons_self ..) ⟨rfl, k1, q1, hk1, rfl⟩
  ·have hz : pr &&& gq R.cls R.rows pm c ≠ 0 := by have := Dy h2; omega
   rw [if_neg hz] at hbe
   rw [hbe]
   repeat' (first|refine a9 ?_|refine a4 ?_|refine ai ?_|refine ah ?_|refine a6 ?_|refine a7 ?_|refine a8 a5 rfl rfl ?_|(apply aU; refine aS ?_)|(apply aP; first|refine ad a5 0 rfl rfl rfl rfl rfl rfl rfl ?_|refine ad a5 1 rfl rfl rfl rfl rfl rfl rfl ?_|refine ad a5 2 rfl rfl rfl rfl rfl rfl rfl ?_|refine ad a5 3 rfl rfl rfl rfl rfl rfl rfl ?_|fail))
   refine fi (cs := [.agg (js (pm + 1, pr &&& gq R.cls R.rows pm c))]) (dA R rb k1 q1) ⟨⟨_, 0, _, _, rfl, rfl, .inr ⟨dE a5 rfl, rfl⟩⟩, trivial⟩ (List.sublist_cons_self ..) ⟨rfl, k1, q1, hk1, rfl⟩
 ·have hz : pr = 0 := by have := Dy h1; simpa using this
  subst hz
  rw [Nat.zero_and, if_pos rfl] at hbe
  rw [hbe]
  repeat' (first|refine a9 ?_|refine a4 ?_|refine ai ?_|refine ah ?_|refine a6 ?_|refine aq ?_|refine a7 ?_|refine a8 a5 rfl rfl ?_|(apply aP; first|refine ad a5 0 rfl rfl rfl rfl rfl rfl rfl ?_|refine ad a5 1 rfl rfl rfl rfl rfl rfl rfl ?_|refine ad a5 2 rfl rfl rfl rfl rfl rfl rfl ?_|refine ad a5 3 rfl rfl rfl rfl rfl rfl rfl ?_|fail)|refine bv rfl ?_)
  exact fi (cs := [.agg (js (0, 0))]) (dA R rb k q) ⟨⟨_, 0, _, _, rfl, rfl, .inr ⟨dE a5 rfl, rfl⟩⟩, trivial⟩ (List.sublist_cons_self ..) ⟨rfl, k, q, hk, rfl⟩
set_option maxHeartbeats 4000000 in
theorem yJ (R : RD) (h : vt R) (rb k : Nat) (q : Option (Nat × Nat)) (hk : k ≤ 1000001) (p : Pl) (hp : p.1 ≤ 1000000) (hp2 : p.2 < 2 ^ 64) : AC Tryz.prog 182 [ek rb, .agg (js p)] (dA R rb k q) (mc R rb (gg (gj R.rows p))) := by
 refine aC Tryz.func182 rfl Tryz.ntmps182 rfl fun B => ?_
 obtain ⟨pm, pr⟩ := p
 dsimp only at hp hp2
 have hlv := qJ R h rb k q hk pm hp
 have hn64 : bG (gi R.rows pm) R.rows.length < 2 ^ 64 := kQ (by have := h.few; omega)
 have hen : gj R.rows (pm, pr) = if pr = 0 then 0 else pr &&& bG (gi R.rows pm) R.rows.length := rfl
 repeat' (first|refine a9 ?_|refine a4 ?_|refine a6 ?_|refine a7 ?_|refine a8 a5 rfl rfl ?_|refine aZ ?_|fail)
 refine ar rfl (fun h1 => ?_) (fun h1 => ?_)
 ·have hz : pr = 0 := by have := Dz h1; omega
  rw [if_pos hz] at hen
  rw [hen]
  repeat' (first|refine a9 ?_|refine a4 ?_|refine ah ?_|refine a6 ?_|refine aq ?_|refine a7 ?_|refine a8 a5 rfl rfl ?_)
  exact an rfl rfl ⟨rfl, k, q, hk, rfl⟩
 ·have hz : pr ≠ 0 := by have := Dy h1; omega
  rw [if_neg hz] at hen
  rw [hen]
  clear h1
  repeat' (first|refine a9 ?_|refine ai ?_|refine a6 ?_)
  refine bk 7 [(0, .v), (1, .v), (2, .v), (3, .v), (4, .v), (5, .e), (6, .v)] none ?_ trivial rfl (by kernel_rfl) (by kernel_rfl) (by kernel_rfl) c9 (by kernel_rfl) rfl
  repeat' (first|refine aD ?_|refine bi a5 ?_|fail)
  refine iU (dA R rb k q) [] hlv rfl rfl (by rw [List.append_nil]) trivial fun c1 L1 ⟨hc1, k1, q1, hk1, hL⟩ => ?_
  subst hc1; subst hL
  repeat' (first|refine aD ?_|refine bi a5 ?_|fail)
  refine bz [9, 14] rfl rfl ?_
  repeat' (first|fail)
  refine pj rfl rfl rfl ?_
  rw [u64_and_nat _ _ hp2 hn64]
  repeat' (first|refine ah ?_|refine a6 ?_|refine a7 ?_|refine a8 a5 rfl rfl ?_)
  exact an rfl rfl ⟨rfl, k1, q1, hk1, by rw [List.append_nil]⟩
def mE (m r : Nat) : List Int := [m, 0, 0, 0, 0, 0, 0, 0, r, 0, 0, 0, 0, 0, 0, 0]
def fQ (p : Pl) : ByteArray := (mE p.1 p.2).foldl (fun r n => r.push (UInt8.ofNat n.toNat)) ByteArray.empty
def ij (p : Pl) : Prop := p.1 < 256 ∧ p.2 < 256
theorem sL (p : Pl) : (fQ p).data.toList = (mE p.1 p.2).map fun n => UInt8.ofNat n.toNat := by
 unfold fQ
 have : ∀ (l : List Int) (b : ByteArray), (l.foldl (fun r n => r.push (UInt8.ofNat n.toNat)) b).data.toList = b.data.toList ++ l.map fun n => UInt8.ofNat n.toNat := by
  intro l
  induction l with
  | nil => intro b; simp
  | cons x l ih => intro b; rw [List.foldl_cons, ih]; simp [ByteArray.push]
 rw [this]
 rfl
theorem xM {a b : Nat} (ha : a < 256) (hb : b < 256) (h : UInt8.ofNat a = UInt8.ofNat b) : a = b := by
 have := congrArg UInt8.toNat h
 simpa [UInt8.toNat_ofNat', Nat.mod_eq_of_lt ha, Nat.mod_eq_of_lt hb] using this
theorem oL {p q : Pl} (hp : ij p) (hq : ij q) (h : fQ p = fQ q) : p = q := by
 have hd := congrArg (fun b => b.data.toList) h
 simp only [sL] at hd
 unfold mE at hd
 simp only [Dq, List.cons.injEq, Int.toNat_natCast] at hd
 exact Prod.ext (xM hp.1 hq.1 hd.1) (xM hp.2 hq.2 hd.2.2.2.2.2.2.2.2.1)
def pN (M : List Pl) (v : Value) : Option AV := match v with
 | .string s => (M.findIdx? fun p => decide (fQ p = s)).map fun i => aA (i : Nat)
 | _ => none
theorem zq : pN [] = fun _ => none := by
 funext v
 unfold pN
 split <;> rfl
section
variable {M : List Pl} (hM : ∀ x ∈ M, ij x) {p : Pl} (hp : ij p)
include hM hp
theorem r9 (h : p ∈ M) : pN M (.string (fQ p)) = some (aA (M.idxOf p : Nat)) := by
  have hi := List.idxOf_lt_length_of_mem h
  have : (M.findIdx? fun x => decide (fQ x = fQ p)) = some (M.idxOf p) := by
    rw [List.findIdx?_eq_some_iff_getElem]
    refine ⟨hi, by simp [List.getElem_idxOf hi], fun j hj => ?_⟩
    have hne : M[j] ≠ p := by
      intro e
      have := List.not_of_lt_findIdx (p := (· == p)) (xs := M) hj
      rw [e] at this
      simp at this
    simp only [decide_eq_true_eq]
    exact fun e => hne (oL (hM _ (List.getElem_mem _)) hp e)
  unfold pN
  dsimp only
  rw [this]
  rfl
theorem xB (h : p ∉ M) : pN M (.string (fQ p)) = none := by
 have : (M.findIdx? fun x => decide (fQ x = fQ p)) = none := by
  rw [List.findIdx?_eq_none_iff]
  intro x hx
  rw [decide_eq_false_iff_not]
  exact fun e => h (oL (hM x hx) hp e ▸ hx)
 unfold pN
 dsimp only
 rw [this]
 rfl
theorem zr (h : p ∉ M) : pN (M ++ [p]) (.string (fQ p)) = some (aA (M.length : Nat)) := by
 rw [r9 (fun x hx => by rw [List.mem_append, List.mem_singleton] at hx; rcases hx with hx | rfl; exact hM x hx; exact hp) hp (by simp), List.idxOf_append, if_neg h, List.idxOf_cons_self, Nat.zero_add]
end
theorem vg {M : List Pl} {p : Pl} : ∀ v, v ≠ .string (fQ p) → pN (M ++ [p]) v = pN M v := by
 intro v hv
 unfold pN
 split
 ·rename_i s
  have : decide (fQ p = s) = false := by rw [decide_eq_false_iff_not]; exact fun e => hv (by rw [e])
  rw [List.findIdx?_append]
  simp [this]
 ·rfl
def mF (l : List Int) : List AV := l.map fun z => .sc (.int .u8 z)
def nu (m r i : Nat) : List Int := if i = 0 then List.replicate 16 0 else mE m r
theorem Cd {m r : Nat} (hm : m < 256) (hr : r < 256) {i : Nat} (hi : i < 8) : eI (eI (mF (nu m r i)) (0 + i * 1) [.sc (.int .u8 (IntKind.u8.wrap ((m : Int) / 2 ^ min (8 * i) IntKind.i64.bits)))]) (0 + (8 + i) * 1) [.sc (.int .u8 (IntKind.u8.wrap ((r : Int) / 2 ^ min (8 * i) IntKind.u64.bits)))] = mF (nu m r (i + 1)) := by
 have h0 : ∀ z : Nat, z < 256 → ∀ k, 0 < k → k < 8 → IntKind.u8.wrap ((z : Int) / 2 ^ min (8 * k) 64) = 0 := by
  intro z hz k hk hk8
  have : (z : Int) / 2 ^ min (8 * k) 64 = 0 := by
   have e : min (8 * k) 64 = 8 * k := by omega
   rw [e]
   have h1 : 2 ^ 8 ≤ 2 ^ (8 * k) := Nat.pow_le_pow_right (by omega) (by omega)
   have h2 : z / 2 ^ (8 * k) = 0 := Nat.div_eq_of_lt (by omega)
   have h3 : (2 : Int) ^ (8 * k) = ((2 ^ (8 * k) : Nat) : Int) := (Int.natCast_pow 2 _).symm
   rw [h3, ← Int.natCast_ediv, h2]
   rfl
  rw [this]
  decide
 have h1 : ∀ z : Nat, z < 256 → IntKind.u8.wrap ((z : Int) / 2 ^ min (8 * 0) 64) = (z : Int) := by
  intro z hz
  rw [Nat.mul_zero, Nat.zero_min, Int.pow_zero, Int.ediv_one, IntKind.wrap_u8]
  omega
 show eI (eI _ _ [.sc (.int .u8 (IntKind.u8.wrap ((m : Int) / 2 ^ min (8 * i) 64)))]) _ [.sc (.int .u8 (IntKind.u8.wrap ((r : Int) / 2 ^ min (8 * i) 64)))] = _
 match i, hi with
 | 0, _ => rw [h1 m hm, h1 r hr]; rfl
 | 1, _ => rw [h0 m hm 1 (by omega) (by omega), h0 r hr 1 (by omega) (by omega)]; rfl
 | 2, _ => rw [h0 m hm 2 (by omega) (by omega), h0 r hr 2 (by omega) (by omega)]; rfl
 | 3, _ => rw [h0 m hm 3 (by omega) (by omega), h0 r hr 3 (by omega) (by omega)]; rfl
 | 4, _ => rw [h0 m hm 4 (by omega) (by omega), h0 r hr 4 (by omega) (by omega)]; rfl
 | 5, _ => rw [h0 m hm 5 (by omega) (by omega), h0 r hr 5 (by omega) (by omega)]; rfl
 | 6, _ => rw [h0 m hm 6 (by omega) (by omega), h0 r hr 6 (by omega) (by omega)]; rfl
 | 7, _ => rw [h0 m hm 7 (by omega) (by omega), h0 r hr 7 (by omega) (by omega)]; rfl
set_option maxHeartbeats 4000000 in
theorem zx (p : Pl) (hp : ij p) : bn Tryz.prog 179 [.agg (js p)] (.sc (.string (fQ p))) := by
 refine aC Tryz.func179 rfl Tryz.ntmps179 rfl fun B => ?_
 obtain ⟨m, r⟩ := p
 obtain ⟨hm, hr⟩ := hp
 dsimp only at hm hr
 repeat' (first|refine a9 ?_|refine a4 ?_|refine ak ?_|refine a6 ?_|refine a7 ?_|refine a8 a5 rfl rfl ?_|refine aZ ?_|refine b4 a5 fun _=>?_|fail)
 rename_i ab
 refine aL [1, 3] (α := Nat) (fun i => [(5, aA i)]) (fun i => i ≤ 8) (fun i => [(ab, .box (mF (nu m r i)) 328)]) (fun i => 8 - i) 0 rfl ⟨rfl, trivial⟩ (Nat.zero_le _) (fun _ _ h => h) fun i hi => ?_
 try dsimp only [Ds, Dr, Dq, Dn]
 repeat' (first|refine a9 ?_|refine a4 ?_|refine a6 ?_|refine a7 ?_|refine a8 a5 rfl rfl ?_)
 refine ar rfl (fun h1 => ?_) (fun h1 => ?_)
 ·have hi8 : i < 8 := by have := Dz h1; omega
  have hst := Cd hm hr hi8
  have hcl : (mF (nu m r i)).length = 16 := by unfold mF nu; split <;> rfl
  clear h1
  repeat' (first|refine a9 ?_|refine a4 ?_|refine ak ?_|refine ai ?_|refine a6 ?_|refine a7 ?_|refine a8 a5 rfl rfl ?_|(apply aU; refine aS ?_)|fail)
  refine sr (8 * i) rfl rfl (by rw [Int.natCast_mul]; rfl) rfl ?_
  repeat' (first|fail)
  refine gT a5 rfl rfl rfl rfl rfl rfl ?_
  refine so a5 i rfl rfl rfl rfl (by omega) rfl ?_
  refine ad a5 0 rfl rfl rfl rfl rfl rfl (Nat.ble_eq_true_of_le (by rw [hcl]; show 0 + i * 1 + 1 ≤ 16; omega)) ?_
  repeat' (first|refine a4 ?_|refine a6 ?_|refine a7 ?_|refine a8 a5 rfl rfl ?_|(apply aU; refine aS ?_)|fail)
  refine sr (8 * i) rfl rfl (by rw [Int.natCast_mul]; rfl) rfl ?_
  refine gT a5 rfl rfl rfl rfl rfl rfl ?_
  refine so a5 (8 + i) rfl rfl rfl (by rw [Dv]; rfl) (by omega) rfl ?_
  refine ad a5 0 rfl rfl rfl rfl rfl rfl (Nat.ble_eq_true_of_le (by rw [fL, hcl]; show 0 + (8 + i) * 1 + 1 ≤ 16; omega)) ?_
  repeat' (first|refine a4 ?_|refine a6 ?_|refine aH ?_|refine a7 ?_|refine a8 a5 rfl rfl ?_|(apply aU; refine aS ?_)|fail)
  exact az (i + 1) rfl ⟨by rw [Dv]; rfl, trivial⟩ (by omega) (by omega) (fun _ _ h => by rw [← hst]; exact h)
 ·have hi8 : i = 8 := by have := Dy h1; omega
  subst hi8
  repeat' (first|refine a9 ?_|refine a4 ?_|refine aM ?_|refine a6 ?_|refine au ?_|refine aw ?_|refine av ?_)
  refine x4 a5 rfl rfl rfl ?_
  refine x2 a5 0 (mE m r) rfl rfl rfl rfl rfl rfl rfl rfl rfl ?_
  repeat' (first|refine ah ?_|refine a6 ?_|refine a7 ?_|refine a8 a5 rfl rfl ?_)
  refine dk (List.nil_sublist _) ?_
  exact an rfl rfl rfl
end Go.Proofs.YtpmdfoaadejmkaaGreatDoor
