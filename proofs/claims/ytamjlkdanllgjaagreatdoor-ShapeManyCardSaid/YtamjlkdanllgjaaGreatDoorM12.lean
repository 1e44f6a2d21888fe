/-
  Code points as forms, groups, and in the order in which they are shown: plain.
-/
import Derived.Test.YtamjlkdanllgjaaGreatDoorM00
import Derived.Test.YtamjlkdanllgjaaGreatDoorM11
import Derived.Test.YtamjlkdanllgjaaGreatDoorM06
import Derived.WalkSpells
import Derived.Test.YtamjlkdanllgjaaGreatDoorM05
import Derived.Test.YtamjlkdanllgjaaGreatDoorM04
import Derived.Test.YtamjlkdanllgjaaGreatDoorM07
import Derived.Scope
import Derived.Test.YtamjlkdanllgjaaGreatDoorM10
namespace Go.Proofs.YtamjlkdanllgjaaGreatDoor
def cq (r : Int) : Int := if 57344 ≤ r ∧ r ≤ 57599 then 1 else if 57600 ≤ r ∧ r ≤ 57855 then 2 else if 57856 ≤ r ∧ r ≤ 58111 then 3 else if 58112 ≤ r ∧ r ≤ 58367 then 4 else if 58368 ≤ r ∧ r ≤ 58623 then 5 else 0
def ny (r : Int) : Int := if cq r = 3 then bits .and .i64 r 15 else 0
def iz (rs : List Int) : Nat → Nat → Nat → List (Nat × Nat)
 | 0, a, i => if a < i then [(a, i)] else []
 | k + 1, a, i => if i = a ∨ cq (rs.getD i 0) = 3 then iz rs k a (i + 1) else (a, i) :: iz rs k i (i + 1)
def cU (rs : List Int) : List (Nat × Nat) := iz rs rs.length 0 0
def nL (key : Nat → Int) (x : Nat) (p : List Nat) : Nat → Nat
 | 0 => 0
 | j + 1 => if key x < key (p.getD j 0) then nL key x p j else j + 1
def to (key : Nat → Int) (p : List Nat) (x : Nat) : List Nat := p.take (nL key x p p.length) ++ x :: p.drop (nL key x p p.length)
def dX (key : Nat → Int) (l : List Nat) : List Nat := l.foldl (to key) []
def jz (rs : List Int) (a : Nat) : Int := ny (rs.getD a 0)
def cn (rs : List Int) (g : Nat × Nat) : List Nat := if g.1 < g.2 ∧ cq (rs.getD g.1 0) ≠ 3 then g.1 :: dX (jz rs) (List.range' (g.1 + 1) (g.2 - (g.1 + 1))) else dX (jz rs) (List.range' g.1 (g.2 - g.1))
def my (rs : List Int) (s : List Nat × (Nat × Nat)) (g : Nat × Nat) : List Nat × (Nat × Nat) :=
 let k := cq (rs.getD g.1 0)
 let t := if k = 5 then s else (s.1 ++ cn rs s.2, (0, 0))
 if k = 4 then (t.1, g) else (t.1 ++ cn rs g, t.2)
def dw (rs : List Int) : List Nat :=
 let s := (cU rs).foldl (my rs) ([], (0, 0))
 s.1 ++ cn rs s.2
theorem vY (key : Nat → Int) (p : List Nat) (x : Nat) : (to key p x).Perm (p ++ [x]) := by
 unfold to
 generalize nL key x p p.length = j
 have h : (p.take j ++ x :: p.drop j).Perm (x :: (p.take j ++ p.drop j)) := List.perm_middle
 rw [List.take_append_drop] at h
 exact h.trans (List.perm_append_comm (l₁ := [x]))
theorem jq (key : Nat → Int) (l : List Nat) : (dX key l).Perm l := by
 have : ∀ (l p : List Nat), (l.foldl (to key) p).Perm (p ++ l) := by
  intro l
  induction l with
  | nil => intro p; simp
  | cons x r ih =>
   intro p
   rw [List.foldl_cons]
   refine (ih _).trans ?_
   refine ((vY key p x).append_right r).trans ?_
   simp
 simpa [dX] using this l []
theorem kV {a b : Nat} (h : a < b) : List.range' a (b - a) = a :: List.range' (a + 1) (b - (a + 1)) := by
 rw [show b - a = (b - (a + 1)) + 1 by omega, List.range'_succ]
theorem mq (rs : List Int) (g : Nat × Nat) : (cn rs g).Perm (List.range' g.1 (g.2 - g.1)) := by
 unfold cn
 split
 ·rename_i h
  rw [kV h.1]
  exact (jq _ _).cons _
 ·exact jq _ _
theorem dK (rs : List Int) (g : Nat × Nat) : (cn rs g).length = g.2 - g.1 := by rw [(mq rs g).length_eq, List.length_range']
theorem k6 {rs : List Int} {g : Nat × Nat} {x : Nat} (h : x ∈ cn rs g) : g.1 ≤ x ∧ x < g.2 := by
 have := (mq rs g).mem_iff.1 h
 rw [List.mem_range'_1] at this
 omega
def Cw : Nat → List (Nat × Nat) → Nat → Prop
 | a, [], n => a = n
 | a, g :: r, n => g.1 = a ∧ a < g.2 ∧ Cw g.2 r n
theorem lG (rs : List Int) : ∀ (k a i : Nat), a ≤ i → (a = i → k = 0 ∨ i = a) → (a < i ∨ k = 0 ∨ a = i) → Cw a (iz rs k a i) (i + k)
 | 0, a, i, h, _, _ => by
  unfold iz
  split
  ·exact ⟨rfl, by assumption, rfl⟩
  ·show a = i + 0
   omega
 | k + 1, a, i, h, h1, h2 => by
  unfold iz
  split
  ·have := lG rs k a (i + 1) (by omega) (by omega) (by omega)
   rwa [show i + 1 + k = i + (k + 1) by omega] at this
  ·rename_i hn
   have := lG rs k i (i + 1) (by omega) (by omega) (by omega)
   rw [show i + 1 + k = i + (k + 1) by omega] at this
   exact ⟨rfl, by simp only; omega, this⟩
theorem eR (rs : List Int) : Cw 0 (cU rs) rs.length := by
 have := lG rs rs.length 0 0 (Nat.le_refl _) (by omega) (by omega)
 rwa [Nat.zero_add] at this
theorem ku {n : Nat} : ∀ {l : List (Nat × Nat)} {a : Nat}, Cw a l n → ∀ g ∈ l, a ≤ g.1 ∧ g.1 < g.2 ∧ g.2 ≤ n
 | [], _, _, g, h => by cases h
 | x :: r, a, ⟨h1, h2, h3⟩, g, h => by
  have hle : ∀ {l : List (Nat × Nat)} {a : Nat}, Cw a l n → a ≤ n := by
   intro l
   induction l with
   | nil => intro a h; exact Nat.le_of_eq h
   | cons y s ih => intro a h; have := ih h.2.2; have := h.2.1; have := h.1; omega
  rcases List.mem_cons.1 h with rfl | h
  ·exact ⟨by omega, by omega, hle h3⟩
  ·have := ku h3 g h
   omega
structure qW (n a : Nat) (s : List Nat × (Nat × Nat)) : Prop where
 le : s.2.1 ≤ s.2.2
 len : s.1.length + (s.2.2 - s.2.1) = a
 mem : ∀ x ∈ s.1, x < n
 top : s.2.2 ≤ n
theorem v6 {rs : List Int} {n a : Nat} {s : List Nat × (Nat × Nat)} {g : Nat × Nat} (h : qW n a s) (h1 : g.1 = a) (h2 : a < g.2) (h3 : g.2 ≤ n) : qW n g.2 (my rs s g) := by
 have hm : ∀ x ∈ cn rs s.2, x < n := fun x hx => by have := (k6 hx).2; have := h.top; omega
 have hg : ∀ x ∈ cn rs g, x < n := fun x hx => by have := (k6 hx).2; omega
 have hl := dK rs s.2
 have hl2 := dK rs g
 have := h.len
 have := h.le
 unfold my
 by_cases k5 : cq (rs.getD g.1 0) = 5
 ·simp only [k5, if_true]
  refine ⟨h.le, ?_, ?_, h.top⟩
  ·simp; omega
  ·intro x hx
   rcases Ho hx with hx | hx
   ·exact h.mem x hx
   ·exact hg x hx
 ·simp only [k5, if_false]
  split
  ·refine ⟨by simp only; omega, ?_, ?_, h3⟩
   ·simp; omega
   ·intro x hx
    rcases Ho hx with hx | hx
    ·exact h.mem x hx
    ·exact hm x hx
  ·refine ⟨Nat.le_refl _, ?_, ?_, Nat.zero_le _⟩
   ·simp; omega
   ·intro x hx
    rcases Ho hx with hx | hx
    ·rcases Ho hx with hx | hx
     ·exact h.mem x hx
     ·exact hm x hx
    ·exact hg x hx
theorem uA {rs : List Int} {n : Nat} : ∀ {l : List (Nat × Nat)} {a : Nat} {s : List Nat × (Nat × Nat)}, qW n a s → Cw a l n → qW n n (l.foldl (my rs) s)
 | [], a, s, h, hc => by cases hc; exact h
 | g :: r, a, s, h, hc => by
  rw [List.foldl_cons]
  have := ku hc g (List.mem_cons_self ..)
  exact uA (v6 h hc.1 hc.2.1 this.2.2) hc.2.2
theorem kR (rs : List Int) : (dw rs).length = rs.length ∧ ∀ x ∈ dw rs, x < rs.length := by
 have h := uA (rs := rs) (n := rs.length) (s := ([], (0, 0))) ⟨Nat.le_refl _, rfl, (fun x hx => by cases hx), Nat.zero_le _⟩ (eR rs)
 unfold dw
 refine ⟨?_, fun x hx => ?_⟩
 ·have := h.len
  have := h.le
  simp [dK]
  omega
 ·rcases Ho hx with hx | hx
  ·exact h.mem x hx
  ·have := (k6 hx).2
   have := h.top
   omega
def mf (rs fs : List Int) (a b : Nat) : List Int :=
 if cq (rs.getD a 0) = 2 ∧ (cq (rs.getD b 0) = 1 ∨ cq (rs.getD b 0) = 2) then (fs.set b 4).set a (if (fs.set b 4).getD a 0 = 4 then 3 else 2) else fs
def sl (rs : List Int) (s : List Int × Option Nat) (i : Nat) : List Int × Option Nat :=
 let k := cq (rs.getD i 0)
 if k = 3 then s else
  let f := if k = 1 ∨ k = 2 then s.1.set i 1 else s.1
  (match s.2 with | some a => mf rs f a i | none => f, some i)
def fg (rs : List Int) (i : Nat) : List Int × Option Nat := (List.range i).foldl (sl rs) (List.replicate rs.length 0, none)
def nH (rs : List Int) : List Int := (fg rs rs.length).1
theorem md (rs : List Int) (i : Nat) : fg rs (i + 1) = sl rs (fg rs i) i := by
 unfold fg
 rw [List.range_succ, List.foldl_append]
 rfl
structure Cy (n i : Nat) (s : List Int × Option Nat) : Prop where
 len : s.1.length = n
 mem : ∀ x ∈ s.1, 0 ≤ x ∧ x ≤ 4
 at_ : ∀ a, s.2 = some a → a < i
theorem jX {l : List Int} {i : Nat} {v x : Int} (h : x ∈ l.set i v) : x ∈ l ∨ x = v := by
 obtain ⟨j, hj⟩ := List.mem_iff_getElem?.1 h
 by_cases e : i = j
 ·subst e
  by_cases hi : i < l.length
  ·rw [List.getElem?_set_self hi] at hj
   exact .inr (Option.some.inj hj).symm
  ·rw [List.getElem?_eq_none (by simpa using hi)] at hj
   cases hj
 ·rw [List.getElem?_set_ne e] at hj
  exact .inl (Hx hj)
theorem ya (rs fs : List Int) (a b : Nat) : (mf rs fs a b).length = fs.length := by
 unfold mf; split <;> simp
theorem yb {rs fs : List Int} {a b : Nat} (h : ∀ x ∈ fs, 0 ≤ x ∧ x ≤ 4) : ∀ x ∈ mf rs fs a b, 0 ≤ x ∧ x ≤ 4 := by
 intro x hx
 unfold mf at hx
 split at hx
 ·rcases jX hx with hx | hx
  ·rcases jX hx with hx | hx
   ·exact h x hx
   ·subst hx; decide
  ·subst hx; split <;> decide
 ·exact h x hx
theorem zy {rs : List Int} {n i : Nat} {s : List Int × Option Nat} (h : Cy n i s) : Cy n (i + 1) (sl rs s i) := by
 unfold sl
 dsimp only
 split
 ·exact ⟨h.len, h.mem, fun a ha => Nat.lt_succ_of_lt (h.at_ a ha)⟩
 ·have hm : ∀ x ∈ (if cq (rs.getD i 0) = 1 ∨ cq (rs.getD i 0) = 2 then s.1.set i 1 else s.1), 0 ≤ x ∧ x ≤ 4 := by
   intro x hx
   split at hx
   ·rcases jX hx with hx | hx
    ·exact h.mem x hx
    ·subst hx; decide
   ·exact h.mem x hx
  have hl : (if cq (rs.getD i 0) = 1 ∨ cq (rs.getD i 0) = 2 then s.1.set i 1 else s.1).length = n := by
   rw [← h.len]; split <;> simp
  refine ⟨?_, ?_, fun a ha => by cases ha; exact Nat.lt_succ_self _⟩
  ·cases s.2 with
   | none => exact hl
   | some a => dsimp only; rw [ya]; exact hl
  ·cases s.2 with
   | none => exact hm
   | some a => exact yb hm
theorem lD (rs : List Int) : ∀ i, Cy rs.length i (fg rs i)
 | 0 => ⟨by simp [fg], by simp [fg], by simp [fg]⟩
 | i + 1 => by rw [md]; exact zy (lD rs i)
theorem vR (rs : List Int) : (nH rs).length = rs.length := (lD rs rs.length).len
end Go.Proofs.YtamjlkdanllgjaaGreatDoor
namespace Go.Proofs.YtamjlkdanllgjaaGreatDoor
open Go.RowKit
def gk (P : Program) (u : AV) (args : List AV) (L : AL) (Post : AV → AL → Prop) : Prop := (∃ f caps, bv P f ∧ iC u = some (f, caps) ∧ AC P f (args ++ caps) L Post) ∨ ∃ f fs caps, bv P f ∧ u = .fnB f fs caps ∧ AC P f (fs ++ (args ++ caps)) L Post
theorem gk.fn {P : Program} {f : FuncId} {caps args : List AV} {L : AL} {Post : AV → AL → Prop} [h : bv P f] (k : AC P f (args ++ caps) L Post) : gk P (.fn f caps) args L Post := .inl ⟨f, caps, h, rfl, k⟩
theorem gk.fn0 {P : Program} {f : FuncId} {args : List AV} {L : AL} {Post : AV → AL → Prop} [h : bv P f] (k : AC P f (args ++ []) L Post) : gk P (.sc (.func (.func f) #[] #[])) args L Post := .inl ⟨f, [], h, rfl, k⟩
theorem gk.fnB {P : Program} {f : FuncId} {fs caps args : List AV} {L : AL} {Post : AV → AL → Prop} [h : bv P f] (k : AC P f (fs ++ (args ++ caps)) L Post) : gk P (.fnB f fs caps) args L Post := .inr ⟨f, fs, caps, h, rfl, k⟩
def GJ (u : AV) : Bool := match u with
 | .fn _ _ => true
 | .fnB _ _ _ => true
 | .sc _ => true
 | _ => false
section
variable {P : Program} {r : Option Nat} {ops : Array Oper} {Q : Exit → Act → World → Prop} {nt : Nat} {D : List Deferred} {fr : bJ} {B : Bs} {L : AL} {rest : List Oper} {d : Nat} {ty t : TypeId} {pos : String} {af : Array Edge} {x y z : Operand} {u : AV} {g : Option (Nat × Bool)}
theorem xk (Lc Lf : AL) {d : Option Tmp} {f : FuncId} {args : Array Operand} {ts : Array TypeId} {cs fs caps : List AV} {Post : AV → AL → Prop} [hf : bv P f] (hx : bh fr x = some (.fnB f fs caps)) (hv : dZ fr args.toList = some cs) (hL : L.Perm (Lc ++ Lf)) (h : AC P f (fs ++ (cs ++ caps)) Lc Post) :
  AO P ⟨d, .call ⟨.value x, args, ts⟩, ty, pos, af, g⟩ fr B L (fun c L' => ∃ L1, Post c L1 ∧ L' = L1 ++ Lf) := by
 intro σ ρ w hρ hw0
 have hw := hw0.perm hL
 obtain ⟨qs, ws, hw1, hw0', hw2⟩ := (hρ x _ hx).fnB_inv
 have hvs := e6 hρ _ _ hv
 have e : args.map ρ = (args.toList.map ρ).toArray := by apply Array.toList_inj.1; simp
 unfold fw
 rw [show (execOp ρ ⟨d, .call ⟨.value x, args, ts⟩, ty, pos, af, g⟩).run P w = .ok (.enter f (qs ++ (args.toList.map ρ ++ ws)).toArray) w by
  simp [execOp, resolve, hw1, Deferred.ofValue, invoke, hf.enters]]
 have happ : ∀ {ps bs : List AV} {us vs : List Value}, cz σ ps us → cz σ bs vs → cz σ (ps ++ bs) (us ++ vs) := by
  intro ps bs us vs ha hb
  refine ⟨by rw [List.length_append, List.length_append, ha.1, hb.1], fun i c u hc hu => ?_⟩
  have hq := ha.1
  by_cases hi : i < ps.length
  ·rw [List.getElem?_append_left hi] at hc
   rw [List.getElem?_append_left (by omega)] at hu
   exact ha.2 i c u hc hu
  ·rw [List.getElem?_append_right (by omega)] at hc
   rw [List.getElem?_append_right (by omega), ← hq] at hu
   exact hb.2 _ c u hc hu
 have hall := happ hw0' (happ hvs hw2)
 refine (h σ w _ hall hw.enter).mono fun en w' ⟨v, τ, c, L', h1, h2, h3, h4⟩ => ⟨v, h1, τ, c, L' ++ Lf, h3.grow, h2, hw.leave h3, L', h4, rfl⟩
theorem ji {args : Array Operand} {ts : Array TypeId} {cs : List AV} {Post : AV → AL → Prop} (Lc Lf : AL) (hc : gk P u cs Lc Post) (hx : bh fr x = some u) (hv : dZ fr args.toList = some cs) (hL : L.Perm (Lc ++ Lf)) (hn : Oper.noDefer ⟨some d, .call ⟨.value x, args, ts⟩, ty, pos, af, none⟩ = true) (hd : Nat.ble nt d = false) (h : ∀ c L1, Post c L1 → br P r ops Q nt D rest ((d, c) :: fr) B (L1 ++ Lf)) :
  br P r ops Q nt D (⟨some d, .call ⟨.value x, args, ts⟩, ty, pos, af, none⟩ :: rest) fr B L := by
 rcases hc with ⟨f, caps, hf, hu, hc⟩ | ⟨f, fs, caps, hf, rfl, hc⟩
 ·exact bW hd hn (r9 Lc Lf hx hu hv hL hc) fun c L' ⟨L1, h1, h2⟩ => by subst h2; exact h c L1 h1
 ·exact bW hd hn (xk Lc Lf hx hv hL hc) fun c L' ⟨L1, h1, h2⟩ => by subst h2; exact h c L1 h1
end
end Go.Proofs.YtamjlkdanllgjaaGreatDoor
namespace Go.Proofs.YtamjlkdanllgjaaGreatDoor
open Go.RowKit
section
variable {P : Program} {tt : TT} {r : Option Nat} {ops : Array Oper} {Q : Exit → Act → World → Prop} {nt : Nat} {D : List Deferred} {fr : bJ} {B : Bs} {L : AL} {rest : List Oper} {d : Nat} {ty t t' : TypeId} {pos : String} {af : Array Edge} {x y z : Operand} {u : AV} {g : Option (Nat × Bool)}
theorem xn {dd : Option Tmp} {e sz by_ s : Nat} {l : List (List AV)} (hc : ke P t e sz by_) (hx : bh fr x = some u) (hu : u.im = .imm s l) (hy : bh fr y = some (.sc (.slice none 0 0))) :
  AO P ⟨dd, .binOp .eql t x y t', ty, pos, af, g⟩ fr B L (fun c L' => ∃ b, c = .sc (.bool b) ∧ (b = true → l = []) ∧ L' = L) := by
 intro σ ρ w hρ hw
 have hxv := (hρ x u hx).im
 rw [hu] at hxv
 have hyv := (hρ y _ hy).sc_inv
 have key : ∀ v, VR σ (.imm s l) v → ∃ A cap, v = .slice A l.length cap ∧ (l ≠ [] → ∃ b off, A = some ⟨b, off, none⟩) := by
  intro v hv
  cases hv with
  | imm sz l A cap h1 h2 h3 ha hx2 h4 => exact ⟨A, cap, rfl, ha⟩
 obtain ⟨A, cap, hval, ha⟩ := key _ hxv
 ·have hrun := Lib.run_eql_slice_nil (P := P) w t e A l.length cap 0 0 hc.under
  unfold fw
  rw [show (execOp ρ ⟨dd, .binOp .eql t x y t', ty, pos, af, g⟩).run P w = .ok (.value (.bool A.isNone)) w by
   simp [execOp, hval, hyv, eqGuard, hrun]]
  refine ⟨σ, .sc _, L, bT.le_refl σ, .sc _, hw, A.isNone, rfl, fun h => ?_, rfl⟩
  cases A with
  | none => exact Decidable.byContradiction fun hn => by obtain ⟨b, o, hh⟩ := ha hn; cases hh
  | some a => cases h
theorem qm (ok : dG P tt) {e sz by_ s : Nat} {l : List (List AV)} (ht : jH tt t = some (e, sz, by_)) (hx : bh fr x = some u) (hu : iD u = some (s, l)) (hy : bh fr y = some (.sc (.slice none 0 0))) (hd : Nat.ble nt d = false) (h : ∀ b, (b = true → l = []) → br P r ops Q nt D rest ((d, .sc (.bool b)) :: fr) B L) :
  br P r ops Q nt D (⟨some d, .binOp .eql t x y t', ty, pos, af, none⟩ :: rest) fr B L :=
 bW hd rfl (xn (bz ok ht).1 hx (cV hu) hy) fun c L' ⟨b, h1, h2, h3⟩ => by subst h1; subst h3; exact h b h2
end
section
variable {P : Program} {nt : Nat} {fr : bJ} {B : Bs} {L L' : AL}
theorem ez (L' : AL) {fn : Func} {Post : AV → AL → Prop} {cs : List AV} (hr : jF P fr L fn.results.toList cs) (hs : L'.Sublist L) (h : Post (mE cs) L') : AX P .ret (bodyPost P fn (fN B Post)) nt [] fr B L := by
 intro σ a w ha hw
 obtain ⟨v, h1, h2⟩ := gh ha hw hr
 exact ⟨ha.defers, v, h1, v, σ, mE cs, L', rfl, h2, hw.sublist hs, h⟩
end
end Go.Proofs.YtamjlkdanllgjaaGreatDoor
namespace Go.Proofs.YtamjlkdanllgjaaGreatDoor
open Go.RowKit
end Go.Proofs.YtamjlkdanllgjaaGreatDoor
namespace Go.Proofs.YtamjlkdanllgjaaGreatDoor
open Go.RowKit
section
variable {P : Program} {r : Option Nat} {Q : Exit → Act → World → Prop} {nt : Nat} {D : List Deferred} {fr : bJ} {B : Bs} {L : AL}
theorem gW {α : Type} {A C : Code} (ks : List Nat) (fr1 : α → bJ) (L1 : α → AL) (φ : α → Prop) (hA : ∀ Q', (∀ x fr', φ x → eM fr' ks = some (fr1 x) → AX P .normal Q' nt D fr' B (L1 x)) → AT P r A Q' nt D fr B L) (hB : ∀ x, φ x → AT P r C Q nt D (fr1 x) B (L1 x)) : AT P r A (Kt P r C Q) nt D fr B L :=
 hA _ fun x _ hx h => a8 (pV ks h (hB x hx))
end
end Go.Proofs.YtamjlkdanllgjaaGreatDoor
namespace Go.Proofs.YtamjlkdanllgjaaGreatDoor
open Go.RowKit
theorem kG {q : Nat × Nat × AV} {L : AL} (i : Nat) {cs : List AV} {e : TypeId} (hL : L[i]? = some (q.1, .box cs e)) (hc : cs[q.2.1]? = some q.2.2) : fy [.cell q] L := fun p hp => by
 rw [List.mem_singleton] at hp
 subst hp
 exact ⟨cs, e, Hx hL, hc⟩
end Go.Proofs.YtamjlkdanllgjaaGreatDoor
namespace Go.Proofs.YtamjlkdanllgjaaGreatDoor
open Go.RowKit
end Go.Proofs.YtamjlkdanllgjaaGreatDoor
namespace Go.Proofs.YtamjlkdanllgjaaGreatDoor
open Go.RowKit
section
variable {nt : Nat} {fr : bJ} {B : Bs} {L : AL} {D : List Deferred}
theorem cy {t b e sz n cap : Nat} {cs : List AV} {l : List (List AV)} (i : Nat) (hl : bQ fr t = some (.sc (.slice (some ⟨b, 0, none⟩) n cap))) (hL : L[i]? = some (b, .box cs e)) (hc : cs.take (n * sz) = l.flatten) (hcl : n * sz ≤ cs.length) (hs : ∀ q ∈ l, q.length = sz) (hn : l.length = n) (hnc : n ≤ cap) (hm : cap ≤ maxLen) : jM nt D B fr L ((t, .imm sz l) :: fr) (L.eraseIdx i) := by
 intro σ a w ha hw0
 have hw := hw0.perm (eh hL)
 obtain ⟨o, ho, vs, rfl, hvs, h1⟩ := hw.here _ (List.mem_cons_self ..)
 have hfree := hw.free _ (List.mem_cons_self ..)
 have hvl : vs.length = cs.length := hvs.1.symm
 have hst : ct B σ ((b, .vec e cs.length 0 1) :: L.eraseIdx i) w := by
  refine ⟨hw.os, hw.tape, hw.output, hw.size, hw.old, fun p hp => ?_, fun p hp => ?_, by simpa using hw.apart, hw.froz, fun p hp off hm => ?_, hw.grow, hw.same⟩
  ·rcases List.mem_cons.1 hp with rfl | hp'
   ·exact ⟨_, ho, _, rfl, by simp [hvl], Nat.zero_le _, by unfold maxLen; omega⟩
   ·exact hw.here p (Hu _ hp')
  ·rcases List.mem_cons.1 hp with rfl | hp'
   ·exact hw.mine (b, .box cs e) (List.mem_cons_self ..)
   ·exact hw.mine p (Hu _ hp')
  ·rcases List.mem_cons.1 hp with rfl | hp'
   ·exact hfree off trivial
   ·exact hw.free p (Hu _ hp') off hm
 obtain ⟨hst', hle⟩ := hst.freezeHead (n' := 1) (xs := vs) (fun j u hj => by rw [cC ho]; simpa using hj) (by omega) (Nat.zero_le _) (Nat.le_refl _)
 have hv : VR (σ.add b vs) (.vec (some (b, cap)) sz l) (.slice (some ⟨b, 0, none⟩) n cap) := by
  have := iv (σ := σ.add b vs) (b := b) (cap := cap) hs (by rw [← hc]; exact (eZ hvs _).mono hle) (fun u hu => h1 u (List.mem_of_mem_take hu)) (by omega) hm (fun j u hj => bT.add_at (by
   rw [List.getElem?_take] at hj
   split at hj
   ·exact hj
   ·cases hj))
  rwa [hn] at this
 refine ⟨_, ?_, hst'.sublist (.cons _ (List.Sublist.refl _))⟩
 have ha' := ha.mono hle
 refine ⟨ha'.size, ha'.defers, fun t' v' hl' => ?_⟩
 rw [bV] at hl'
 by_cases e : t = t'
 ·subst e
  simp only [if_true, Option.some.injEq] at hl'
  subst hl'
  rw [(ha.look t _ hl).sc_inv]
  exact hv.im
 ·rw [if_neg e] at hl'
  exact ha'.look t' v' hl'
end
end Go.Proofs.YtamjlkdanllgjaaGreatDoor
namespace Go.Proofs.YtamjlkdanllgjaaGreatDoor
open Go.RowKit
theorem AC.sub {P : Program} {f : FuncId} {args : List AV} {L : AL} {Post Post' : AV → AL → Prop} (h : AC P f args L Post) (k : ∀ c L', Post c L' → ∃ L2 : AL, L2.Sublist L' ∧ Post' c L2) : AC P f args L Post' := fun σ w vs hv hs => (h σ w vs hv hs).mono fun _ _ ⟨v, τ, c, L', h1, h2, h3, h4⟩ => by
 obtain ⟨L2, k1, k2⟩ := k c L' h4
 exact ⟨v, τ, c, L2, h1, h2, h3.sublist k1, k2⟩
theorem bw.nil {P : Program} {f : FuncId} {args : List AV} {u : AV} (h : bw P f args u) : AC P f args [] fun c L => c = u ∧ L = [] := AC.sub h fun _ _ hc => ⟨[], List.nil_sublist _, hc, rfl⟩
section
variable {P : Program} {tt : TT} {r : Option Nat} {ops : Array Oper} {Q : Exit → Act → World → Prop} {nt : Nat} {D : List Deferred} {fr : bJ} {B : Bs} {L : AL} {rest : List Oper}
variable {d : Nat} {ty t : TypeId} {pos : String} {af : Array Edge} {x y : Operand} {u : AV}
theorem yV {xs : List Int} {q : Nat} {z : Int} : ew (xs.map aD) q [aD z] = (xs.set q z).map aD := by
 rw [eT]
 rw [List.map_set]
theorem Bl (ok : dG P tt) (i q : Nat) {b p : Nat} {xs : List Int} {e : TypeId} {z : Int} (ht : BC tt t = true) (hx : bh fr x = some (.sc (.pointer (some ⟨b, p, none⟩)))) (hp : p = q) (hL : L[i]? = some (b, .box (xs.map aD) e)) (hz : xs[q]? = some z) (hd : Nat.ble nt d = false) (h : br P r ops Q nt D rest ((d, aD z) :: fr) B L) :
  br P r ops Q nt D (⟨some d, .load t x, ty, pos, af, none⟩ :: rest) fr B L := by
 subst hp
 exact aC ok i ht hx hL (by rw [List.getElem?_map, hz]; rfl) hd h
theorem kL (ok : dG P tt) (i q : Nat) {b p : Nat} {xs : List Int} {e : TypeId} {z : Int} (ht : BT tt t = some 1) (hx : bh fr x = some (.sc (.pointer (some ⟨b, p, none⟩)))) (hp : p = q) (hy : bh fr y = some (aD z)) (hL : L[i]? = some (b, .box (xs.map aD) e)) (hq : q < xs.length) (h : br P r ops Q nt D rest fr B (fC L i (.box ((xs.set q z).map aD) e))) :
  br P r ops Q nt D (⟨none, .store t x y, ty, pos, af, none⟩ :: rest) fr B L := by
 subst hp
 refine aj ok i (ys := [aD z]) ht hx hy rfl hL rfl (Nat.ble_eq_true_of_le (by simp; omega)) ?_
 rw [yV]
 exact h
theorem iX (ok : dG P tt) (i q : Nat) {b p : Nat} {cs : List AV} {e : TypeId} (ht : BT tt t = some 1) (hx : bh fr x = some (.sc (.pointer (some ⟨b, p, none⟩)))) (hp : p = q) (hy : bh fr y = some u) (hu : u.cells = some [u]) (hL : L[i]? = some (b, .box cs e)) (hq : q < cs.length) (h : br P r ops Q nt D rest fr B (fC L i (.box (cs.set q u) e))) :
  br P r ops Q nt D (⟨none, .store t x y, ty, pos, af, none⟩ :: rest) fr B L := by
 subst hp
 refine aj ok i ht hx hy hu hL rfl (Nat.ble_eq_true_of_le hq) ?_
 rw [eT]
 exact h
theorem x7 {dd : Option Tmp} {g : Option (Nat × Bool)} {e sz by_ b off n cap lo : Nat} {k : IntKind} {a : Int} (hc : ke P t e sz by_) (hx : bh fr x = some (.sc (.slice (some ⟨b, off, none⟩) n cap))) (hy : bh fr y = some (.sc (.int k a))) (ha : a = (lo : Int)) (h : lo ≤ n) (hn : n ≤ cap) : Av P ⟨dd, .slice t x (some y) none none, ty, pos, af, g⟩ fr (.sc (.slice (some ⟨b, if cap = lo then off else off + lo * sz, none⟩) (n - lo) (cap - lo))) := by
 intro σ ρ w hρ _
 subst ha
 haveI := hc
 refine ⟨_, ?_, .sc _⟩
 by_cases h3 : cap = lo
 ·have : n = lo := by omega
  subst h3; subst this
  simp [execOp, (hρ x _ hx).sc_inv, (hρ y _ hy).sc_inv, Instr.sliceAt, Instr.slice, Instr.sliceBounds, Instr.sliceBound, asIntOf, run_underlying hc.under, eE (t := t)]
 ·simp [execOp, (hρ x _ hx).sc_inv, (hρ y _ hy).sc_inv, Instr.sliceAt, Instr.slice, Instr.sliceBounds, Instr.sliceBound, asIntOf, run_underlying hc.under, eE (t := t), h, h3, dY]
theorem rS (ok : dG P tt) (lo : Nat) {e sz by_ b off n cap : Nat} {k : IntKind} {a : Int} (ht : jH tt t = some (e, sz, by_)) (hx : bh fr x = some (.sc (.slice (some ⟨b, off, none⟩) n cap))) (hy : bh fr y = some (.sc (.int k a))) (ha : a = (lo : Int)) (h1 : lo ≤ n) (hn : n ≤ cap) (hd : Nat.ble nt d = false) (h : br P r ops Q nt D rest ((d, .sc (.slice (some ⟨b, if cap = lo then off else off + lo * sz, none⟩) (n - lo) (cap - lo))) :: fr) B L) :
  br P r ops Q nt D (⟨some d, .slice t x (some y) none none, ty, pos, af, none⟩ :: rest) fr B L := cg (x7 (bz ok ht).1 hx hy ha h1 hn) hd rfl h
theorem rU (ok : dG P tt) (n : Nat) {e sz by_ : Nat} {k k' : IntKind} {bb : Int} {zs : List Value} (ht : jH tt t = some (e, sz, by_)) (hz : zI tt e = some zs) (h1 : zs.all (·.oneCell') = true) (hx : bh fr x = some (.sc (.int k 0))) (hy : bh fr y = some (.sc (.int k' bb))) (hb : bb = (n : Int)) (hby : by_ * n ≤ 281474976710656) (h63 : n ≤ 9223372036854775807) (hd : Nat.ble nt d = false)
  (h : ∀ b, br P r ops Q nt D rest ((d, .sc (.slice (some ⟨b, 0, none⟩) 0 n)) :: fr) B ((b, .box ((List.replicate n (zs.map .sc)).flatten) e) :: L)) : br P r ops Q nt D (⟨some d, .makeSlice t x y, ty, pos, af, none⟩ :: rest) fr B L := by
 obtain ⟨hc, hsz⟩ := bz ok ht
 have hzz := ek ok hz
 refine bW (R := fun c L' => ∃ b, c = .sc (.slice (some ⟨b, 0, none⟩) 0 n) ∧ L' = (b, .box ((List.replicate n (zs.map .sc)).flatten) e) :: L) hd rfl (fun σ ρ w hρ hw => ?_) fun c L' ⟨b, h1, h2⟩ => by subst h1; subst h2; exact h b
 subst hb
 have hr := jp (n := 0) (d := some d) (ty := ty) (pos := pos) (af := af) (g := none) hc hzz hsz hby h63 (Nat.zero_le n) w ρ (hρ x _ hx).sc_inv (hρ y _ hy).sc_inv
 unfold fw
 rw [hr]
 have hfl : ∀ m, (List.replicate m (zs.map AV.sc)).flatten = ((List.replicate m zs).flatten).map AV.sc := by
  intro m
  induction m with
  | zero => rfl
  | succ m ih => rw [List.replicate_succ, List.replicate_succ, List.flatten_cons, List.flatten_cons, List.map_append, ih]
 refine ⟨σ, _, _, bT.le_refl _, .sc _, hw.alloc _ (.box ((List.replicate n (zs.map .sc)).flatten) e) ⟨_, rfl, ?_, fun u hu => ?_⟩, _, rfl, rfl⟩
 ·rw [hfl]
  refine ⟨by simp, fun i c u hc hu => ?_⟩
  rw [List.getElem?_map, hu] at hc
  simp at hc
  subst hc
  exact .sc u
 ·obtain ⟨q, hq, hu⟩ := List.mem_flatten.1 hu
  rw [List.eq_of_mem_replicate hq] at hu
  exact List.all_eq_true.1 h1 u hu
theorem nX (xs : List Int) : xs.map aD = (aT xs).flatten := by
 induction xs with
 | nil => rfl
 | cons x r ih =>
  show aD x :: r.map aD = _
  rw [ih]
  rfl
theorem wP {t b e n cap : Nat} {xs : List Int} (ys : List Int) (i : Nat) (hl : bQ fr t = some (.sc (.slice (some ⟨b, 0, none⟩) n cap))) (hL : L[i]? = some (b, .box (xs.map aD) e)) (hy : xs.take n = ys) (hn : n ≤ xs.length) (hnc : n ≤ cap) (hm : cap ≤ maxLen) : jM nt D B fr L ((t, .imm 1 (aT ys)) :: fr) (L.eraseIdx i) := by
 subst hy
 refine cy i hl hL ?_ (by simp; omega) (fun q hq => ?_) (by rw [bg, List.length_take]; omega) hnc hm
 ·rw [← nX, Nat.mul_one, List.map_take]
 ·obtain ⟨z, _, rfl⟩ := List.mem_map.1 hq
  rfl
theorem xu {C : Code} (ks : List Nat) (fr1 : bJ) (L1 : AL) (hA : ∀ Q', (∀ fr', eM fr' ks = some fr1 → AX P .normal Q' nt D fr' B L1) → br P r ops Q' nt D rest fr B L) (hB : AT P r C Q nt D fr1 B L1) : br P r ops (Kt P r C Q) nt D rest fr B L :=
 hA _ fun _ h => a8 (pV ks h hB)
theorem Ae {X C : Code} {fr1 : bJ} (ks : List Nat) (L1 : AL) (hk : eM fr ks = some fr1) (hA : ∀ Q', (∀ fr', eM fr' ks = some fr1 → AX P .normal Q' nt D fr' B L1) → br P r ops (Kt P r X Q') nt D rest fr B L) (hB : AT P r C Q nt D fr1 B L1) : br P r ops (Kt P r X (Kt P r C Q)) nt D rest fr B L :=
 hA _ fun _ h => a8 (pV ks h hB)
end
section
variable {P : Program} {tt : TT} {l : List Oper} {fr : bJ} {fin : lc} {sk : mI} {acc : bJ} {L : AL} {k : Nat} {dd : Option Tmp} {ty t t' : TypeId} {pos : String} {af : Array Edge} {g : Option (Nat × Bool)} {x y z : Operand} {u : AV}
theorem kw (ok : dG P tt) (i q : Nat) {b p : Nat} {cs : List AV} {e : TypeId} (ht : BC tt t = true) (hx : bh (cO l.toArray acc fr af.toList) x = some (.sc (.pointer (some ⟨b, p, none⟩)))) (hp : p = q) (hL : L[i]? = some (b, .box cs e)) (hz : cs[q]? = some u) (hg : jL ⟨dd, .load t x, ty, pos, af, g⟩ acc) (h : DA P l fr fin sk ((k, u) :: acc) L) : cw P l fr fin k .l ⟨dd, .load t x, ty, pos, af, g⟩ sk acc L := by
 subst hp
 exact du ok i ht hx hL hz hg h
theorem xN (ok : dG P tt) (i q : Nat) {b p : Nat} {cs : List AV} {e : TypeId} (ht : BT tt t = some 1) (hx : bh (cO l.toArray acc fr af.toList) x = some (.sc (.pointer (some ⟨b, p, none⟩)))) (hp : p = q) (hy : bh (cO l.toArray acc fr af.toList) y = some u) (hu : u.cells = some [u]) (hL : L[i]? = some (b, .box cs e)) (hq : q < cs.length) (hg : jL ⟨dd, .store t x y, ty, pos, af, g⟩ acc) (h : ∀ c, DA P l fr fin sk ((k, c) :: acc) (fC L i (.box (cs.set q u) e))) : cw P l fr fin k .e ⟨dd, .store t x y, ty, pos, af, g⟩ sk acc L := by
 subst hp
 refine ry ok i ht hx hy hu hL rfl (Nat.ble_eq_true_of_le hq) hg fun c => ?_
 rw [eT]
 exact h c
end
end Go.Proofs.YtamjlkdanllgjaaGreatDoor
namespace Go.Proofs.YtamjlkdanllgjaaGreatDoor
open Go.RowKit
attribute [local irreducible] AT br AX AO Av Kt aW cZ DA cw
set_option maxRecDepth 8000
theorem yd (r : Int) : bw Tryz.prog 40 [aD r] (aD (cq r)) := by
 refine aG Tryz.func40 rfl Tryz.ntmps40 rfl fun B => ?_
 repeat' (first|refine ae ?_|refine a6 ?_|refine ar ?_|refine a8 ?_|refine aa ?_|refine ah a7 rfl rfl ?_)
 refine co [0] (57344 ≤ r ∧ r ≤ 57599) rfl (fun Q' K => ?_) (fun hC0 => ?_) (fun hC0 => ?_)
 ·repeat' (first|refine aa ?_|refine ah a7 rfl rfl ?_|refine aB rfl rfl ?_|refine aE rfl rfl rfl rfl ?_|refine aU rfl rfl rfl (fun _ => ?_) (fun _ => ?_))
  all_goals exact K _ _ rfl rfl (by simp_all <;> omega)
 ·repeat' (first|refine ae ?_|refine a6 ?_|refine am ?_|refine a8 ?_|refine aw ?_|refine aK ?_|refine aa ?_|refine ah a7 rfl rfl ?_)
  exact au rfl rfl (by rw [cq, if_pos hC0])
 repeat' (first|refine ae ?_|refine a6 ?_|refine ah a7 rfl rfl ?_)
 refine co [0] (57600 ≤ r ∧ r ≤ 57855) rfl (fun Q' K => ?_) (fun hC1 => ?_) (fun hC1 => ?_)
 ·repeat' (first|refine aa ?_|refine ah a7 rfl rfl ?_|refine aB rfl rfl ?_|refine aE rfl rfl rfl rfl ?_|refine aU rfl rfl rfl (fun _ => ?_) (fun _ => ?_))
  all_goals exact K _ _ rfl rfl (by simp_all <;> omega)
 ·repeat' (first|refine ae ?_|refine a6 ?_|refine am ?_|refine a8 ?_|refine aw ?_|refine aK ?_|refine aa ?_|refine ah a7 rfl rfl ?_)
  exact au rfl rfl (by rw [cq, if_neg hC0, if_pos hC1])
 repeat' (first|refine ae ?_|refine a6 ?_|refine ah a7 rfl rfl ?_)
 refine co [0] (57856 ≤ r ∧ r ≤ 58111) rfl (fun Q' K => ?_) (fun hC2 => ?_) (fun hC2 => ?_)
 ·repeat' (first|refine aa ?_|refine ah a7 rfl rfl ?_|refine aB rfl rfl ?_|refine aE rfl rfl rfl rfl ?_|refine aU rfl rfl rfl (fun _ => ?_) (fun _ => ?_))
  all_goals exact K _ _ rfl rfl (by simp_all <;> omega)
 ·repeat' (first|refine ae ?_|refine a6 ?_|refine am ?_|refine a8 ?_|refine aw ?_|refine aK ?_|refine aa ?_|refine ah a7 rfl rfl ?_)
  exact au rfl rfl (by rw [cq, if_neg hC0, if_neg hC1, if_pos hC2])
 repeat' (first|refine ae ?_|refine a6 ?_|refine ah a7 rfl rfl ?_)
 refine co [0] (58112 ≤ r ∧ r ≤ 58367) rfl (fun Q' K => ?_) (fun hC3 => ?_) (fun hC3 => ?_)
 ·repeat' (first|refine aa ?_|refine ah a7 rfl rfl ?_|refine aB rfl rfl ?_|refine aE rfl rfl rfl rfl ?_|refine aU rfl rfl rfl (fun _ => ?_) (fun _ => ?_))
  all_goals exact K _ _ rfl rfl (by simp_all <;> omega)
 ·repeat' (first|refine ae ?_|refine a6 ?_|refine am ?_|refine a8 ?_|refine aw ?_|refine aK ?_|refine aa ?_|refine ah a7 rfl rfl ?_)
  exact au rfl rfl (by rw [cq, if_neg hC0, if_neg hC1, if_neg hC2, if_pos hC3])
 repeat' (first|refine ae ?_|refine a6 ?_|refine ah a7 rfl rfl ?_)
 refine co [] (58368 ≤ r ∧ r ≤ 58623) rfl (fun Q' K => ?_) (fun hC4 => ?_) (fun hC4 => ?_)
 ·repeat' (first|refine aa ?_|refine ah a7 rfl rfl ?_|refine aB rfl rfl ?_|refine aE rfl rfl rfl rfl ?_|refine aU rfl rfl rfl (fun _ => ?_) (fun _ => ?_))
  all_goals exact K _ _ rfl rfl (by simp_all <;> omega)
 ·repeat' (first|refine ae ?_|refine a6 ?_|refine am ?_|refine a8 ?_|refine aw ?_|refine aK ?_|refine aa ?_|refine ah a7 rfl rfl ?_)
  exact au rfl rfl (by rw [cq, if_neg hC0, if_neg hC1, if_neg hC2, if_neg hC3, if_pos hC4])
 repeat' (first|refine ae ?_|refine a6 ?_|refine aq ?_|refine am ?_|refine a8 ?_|refine aR ?_|refine aa ?_|refine ah a7 rfl rfl ?_)
 exact au rfl rfl (by rw [cq, if_neg hC0, if_neg hC1, if_neg hC2, if_neg hC3, if_neg hC4])
instance (r : Int) : AD Tryz.prog 40 [aD r] (aD (cq r)) := ⟨yd r⟩
theorem vz (r : Int) : bw Tryz.prog 68 [aD r] (aD (ny r)) := by
 refine aG Tryz.func68 rfl Tryz.ntmps68 rfl fun B => ?_
 repeat' (first|refine ae ?_|refine a6 ?_|refine a8 ?_|refine aa ?_|refine ah a7 rfl rfl ?_|(apply bc;refine aX ?_)|fail)
 refine ay rfl (fun h => ?_) (fun h => ?_)
 ·repeat' (first|refine ae ?_|refine a6 ?_|refine am ?_|refine a8 ?_|refine aw ?_|refine aa ?_|refine ah a7 rfl rfl ?_)
  exact au rfl rfl (by rw [ny, if_neg (by simpa using h)])
 ·repeat' (first|refine ae ?_|refine a6 ?_|refine aq ?_|refine a8 ?_|refine ah a7 rfl rfl ?_)
  refine tC rfl rfl rfl ?_
  repeat' (first|refine am ?_|refine a8 ?_|refine aa ?_|refine ah a7 rfl rfl ?_)
  exact au rfl rfl (by rw [ny, if_pos (by simpa using h)])
instance (r : Int) : AD Tryz.prog 68 [aD r] (aD (ny r)) := ⟨vz r⟩
theorem yI (a : Int) : bw Tryz.prog 148 [aD a] (ce false) := by
 refine aG Tryz.func148 rfl Tryz.ntmps148 rfl fun B => ?_
 repeat' (first|refine ae ?_|refine a6 ?_|refine am ?_|refine a8 ?_|refine aa ?_|refine ah a7 rfl rfl ?_)
 exact au rfl rfl (by simp)
instance (a : Int) : AD Tryz.prog 148 [aD a] (ce false) := ⟨yI a⟩
def pZ (a b : Int) : Int := if a < b then -1 else if b < a then 1 else 0
theorem An (a b : Int) : bw Tryz.prog 67 [aD a, aD b] (aD (pZ a b)) := by
 refine aG Tryz.func67 rfl Tryz.ntmps67 rfl fun B => ?_
 repeat' (first|refine ae ?_|refine a6 ?_|refine aq ?_|refine a8 ?_|refine aa ?_|refine ah a7 rfl rfl ?_|(apply bc;refine aX ?_)|refine bi rfl ?_)
 refine ay rfl (fun h => ?_) (fun h => ?_)
 ·repeat' (first|refine ae ?_|refine a6 ?_|refine am ?_|refine a8 ?_|refine aw ?_|refine aa ?_|refine ah a7 rfl rfl ?_)
  exact au rfl rfl (by rw [pZ, if_pos (Hz h)])
 ·repeat' (first|refine ae ?_|refine a6 ?_|refine aq ?_|refine a8 ?_|refine aa ?_|refine ah a7 rfl rfl ?_)
  refine ay rfl (fun h2 => ?_) (fun h2 => ?_)
  ·repeat' (first|refine ae ?_|refine a6 ?_|refine am ?_|refine a8 ?_|refine aw ?_|refine aa ?_|refine ah a7 rfl rfl ?_)
   exact au rfl rfl (by rw [pZ, if_neg (Hy h), if_pos (Hz h2)])
  ·repeat' (first|refine ae ?_|refine a6 ?_|refine aq ?_|refine am ?_|refine a8 ?_|refine aa ?_|refine ah a7 rfl rfl ?_)
   exact au rfl rfl (by rw [pZ, if_neg (Hy h), if_neg (Hy h2)])
instance (a b : Int) : AD Tryz.prog 67 [aD a, aD b] (aD (pZ a b)) := ⟨An a b⟩
theorem e8 {l : List Int} {i : Nat} (h : i < l.length) : l[i]? = some (l.getD i 0) := by
 rw [List.getD_eq_getElem?_getD, Eg h]; rfl
theorem uq (rs : List Int) (a b : Nat) (ha : a < rs.length) (hb : b < rs.length) : bw Tryz.prog 66 [aD a, aD b, .iptr [.imm 1 (aT rs)]] (aD (pZ (jz rs a) (jz rs b))) := by
 refine aG Tryz.func66 rfl Tryz.ntmps66 rfl fun B => ?_
 have h1 := bU (e8 ha)
 have h2 := bU (e8 hb)
 repeat' (first|refine ae ?_|refine a6 ?_|refine a8 ?_|refine aa ?_|refine ah a7 rfl rfl ?_)
 refine bF 9 [(0, .v), (1, .v), (2, .v), (3, .v), (4, .v), (5, .v), (6, .v), (7, .v), (8, .v)] none ?_ trivial rfl (by kernel_rfl) (by kernel_rfl) (by kernel_rfl) mixed (by kernel_rfl) rfl
 repeat' (first|refine aM ?_|refine bD a7 ?_|(apply dk;refine dT a7 ?_)|(apply cL;refine d8 ?_)|fail)
 refine bM [10, 14] rfl rfl ?_
 repeat' (first|refine am ?_|refine a8 ?_|refine aa ?_|refine ah a7 rfl rfl ?_|(apply bc;refine aX ?_)|fail)
 exact au rfl rfl rfl
theorem zr (b : Nat) (rs fs : List Int) (i j : Nat) (hi : i < rs.length) (hj : j < rs.length) (hl : fs.length = rs.length) : AC Tryz.prog 42 [.imm 1 (aT rs), .sc (.slice (some ⟨b, 0, none⟩) rs.length rs.length), aD i, aD j] [(b, .box (fs.map aD) 3)] fun _ L => L = [(b, .box ((mf rs fs i j).map aD) 3)] := by
 refine aG Tryz.func42 rfl Tryz.ntmps42 rfl fun B => ?_
 have h1 := bU (e8 hi)
 have h2 := bU (e8 hj)
 repeat' (first|refine ae ?_)
 refine bF 9 [(0, .v), (1, .v), (2, .v), (3, .v), (4, .v), (5, .v), (6, .v), (7, .v), (8, .v)] none ?_ trivial rfl (by kernel_rfl) (by kernel_rfl) (by kernel_rfl) mixed (by kernel_rfl) rfl
 repeat' (first|refine aM ?_|refine bD a7 ?_|(apply dk;refine dT a7 ?_)|(apply cL;refine d8 ?_)|fail)
 refine bM [1, 2, 3, 14, 18] rfl rfl ?_
 repeat' (first|refine ae ?_|refine a6 ?_|refine a8 ?_|refine aa ?_|refine ah a7 rfl rfl ?_|(apply bc;refine aX ?_)|fail)
 refine co [1, 2, 3] (¬ (cq (rs.getD i 0) = 2 ∧ (cq (rs.getD j 0) = 1 ∨ cq (rs.getD j 0) = 2))) rfl (fun Q' K => ?_) (fun hC => ?_) (fun hC => ?_)
 ·repeat' (first|refine aa ?_|refine ah a7 rfl rfl ?_|refine aB rfl rfl ?_|refine aE rfl rfl rfl rfl ?_|refine cr rfl rfl rfl ?_|refine aU rfl rfl rfl (fun _ => ?_) (fun _ => ?_))
  all_goals exact K _ _ rfl rfl (by simp_all <;> omega)
 ·repeat' (first|refine am ?_|refine aw ?_)
  exact pW rfl (by rw [mf, if_neg hC])
 ·have hC := Classical.not_not.1 hC
  rw [mf, if_pos hC]
  repeat' (first|refine ae ?_|refine a6 ?_|refine aq ?_|refine a8 ?_|refine ah a7 rfl rfl ?_|(apply aO; first|refine aN a7 ?_|refine aH a7 ?_)|fail)
  refine kL a7 0 j rfl rfl (by omega) rfl rfl (by omega) ?_
  have h3 : (fs.set j 4)[i]? = some ((fs.set j 4).getD i 0) := e8 (by rw [List.length_set]; omega)
  repeat' (first|refine ae ?_|refine a6 ?_|refine a8 ?_|refine aa ?_|refine ah a7 rfl rfl ?_|(apply aO; first|refine aN a7 ?_|refine aH a7 ?_)|fail)
  refine Bl a7 0 i rfl rfl (by omega) rfl h3 rfl ?_
  repeat' (first|refine a8 ?_|refine aa ?_|refine ah a7 rfl rfl ?_)
  refine ay rfl (fun h => ?_) (fun h => ?_)
  ·rw [if_pos (Hz h)]
   repeat' (first|refine a6 ?_|refine ah a7 rfl rfl ?_|(apply aO; first|refine aN a7 ?_|refine aH a7 ?_)|fail)
   refine kL a7 0 i rfl rfl (by omega) rfl rfl (by rw [List.length_set]; omega) ?_
   repeat' (first|refine aa ?_)
   exact cK rfl rfl
  ·rw [if_neg (Hy h)]
   repeat' (first|refine a6 ?_|refine ah a7 rfl rfl ?_|(apply aO; first|refine aN a7 ?_|refine aH a7 ?_)|fail)
   refine kL a7 0 i rfl rfl (by omega) rfl rfl (by rw [List.length_set]; omega) ?_
   repeat' (first|refine aa ?_)
   exact cK rfl rfl
def EH : Option Nat → Int
 | none => -1
 | some a => a
theorem vQ (rs : List Int) (hr : rs.length ≤ 1000000) : bw Tryz.prog 21 [.imm 1 (aT rs)] (.imm 1 (aT (nH rs))) := by
 refine aG Tryz.func21 rfl Tryz.ntmps21 rfl fun B => ?_
 have hil := bg rs
 repeat' (first|refine ae ?_|refine a6 ?_|refine a8 ?_|refine aa ?_|refine ah a7 rfl rfl ?_)
 refine dv a7 rs.length rfl rfl rfl rfl rfl (by rw [hil]) (by rw [hil]) (by omega) (by omega) rfl fun b => ?_
 repeat' (first|refine ae ?_|refine a6 ?_|refine ar ?_|refine a8 ?_|refine aa ?_|refine ah a7 rfl rfl ?_)
 have hz : (List.replicate rs.length ([Value.int .i64 0].map AV.sc)).flatten = (List.replicate rs.length (0 : Int)).map aD := by
  simp [List.map_replicate, List.flatten_replicate_singleton]
 rw [hz]
 refine aI [0, 3, 11, 12] (α := Nat) (fun i => [(4, aD (EH (fg rs i).2)), (13, aD i)]) (fun i => i ≤ rs.length) (fun i => [(b, .box ((fg rs i).1.map aD) 3)]) (fun i => rs.length - i) 0 rfl ⟨rfl, rfl, trivial⟩ (Nat.zero_le _) (fun _ _ h => h) fun i hi => ?_
 try dsimp only [Ht, Hs, Hr, Hn]
 have hok := lD rs i
 rw [show (aD (EH (fg rs i).2)) = aD (EH (fg rs i).2) from rfl]
 generalize hs : fg rs i = s at hok
 obtain ⟨fs, q⟩ := s
 have hfl : fs.length = rs.length := hok.len
 dsimp only
 repeat' (first|refine ae ?_|refine a6 ?_|refine a8 ?_|refine aa ?_|refine ah a7 rfl rfl ?_)
 refine ay rfl (fun h => ?_) (fun h => ?_)
 ·have hil2 : i < rs.length := by have := Hz h; omega
  have h1 := bU (e8 hil2)
  have hsu := md rs i
  rw [hs] at hsu
  unfold sl at hsu
  dsimp only at hsu
  repeat' (first|refine ae ?_|refine a6 ?_|refine ar ?_|refine aq ?_|refine a8 ?_|refine aa ?_|refine ah a7 rfl rfl ?_|(apply aO; first|refine aN a7 ?_|refine aH a7 ?_)|(apply bc;refine aX ?_)|fail)
  refine ay rfl (fun h3 => ?_) (fun h3 => ?_)
  ·rw [if_pos (Hz h3)] at hsu
   repeat' (first|refine a6 ?_|refine aL ?_|refine a8 ?_|refine av ?_|refine aA ?_|refine aa ?_|refine ah a7 rfl rfl ?_|(apply b6; refine aZ ?_)|fail)
   exact aF (i + 1) rfl ⟨by rw [hsu]; rfl, by rw [Hw]; rfl, trivial⟩ (by omega) (by omega) (fun _ _ h => by rw [hsu]; exact h)
  ·rw [if_neg (Hy h3)] at hsu
   repeat' (first|refine ae ?_|refine a6 ?_|refine aq ?_|refine a8 ?_|refine ah a7 rfl rfl ?_)
   refine Ae [0, 3, 4, 5, 11, 12, 13] [(b, .box ((if cq (rs.getD i 0) = 1 ∨ cq (rs.getD i 0) = 2 then fs.set i 1 else fs).map aD) 3)] rfl (fun Q1 K1 => ?_) ?_
   ·refine co [0, 3, 4, 5, 11, 12, 13] (cq (rs.getD i 0) = 1 ∨ cq (rs.getD i 0) = 2) rfl (fun Q' K => ?_) (fun hC => ?_) (fun hC => ?_)
    ·repeat' (first|refine aa ?_|refine ah a7 rfl rfl ?_|refine aB rfl rfl ?_|refine aE rfl rfl rfl rfl ?_|refine aU rfl rfl rfl (fun _ => ?_) (fun _ => ?_))
     all_goals exact K _ _ rfl rfl (by simp_all <;> omega)
    ·rw [if_pos hC] at K1
     repeat' (first|refine a6 ?_|refine ah a7 rfl rfl ?_|(apply aO; first|refine aN a7 ?_|refine aH a7 ?_)|fail)
     refine kL a7 0 i rfl rfl (by omega) rfl rfl (by omega) ?_
     repeat' (first|refine aa ?_)
     exact K1 _ rfl
    ·rw [if_neg hC] at K1
     repeat' (first|refine aq ?_)
     exact K1 _ rfl
   have hgl : (if cq (rs.getD i 0) = 1 ∨ cq (rs.getD i 0) = 2 then fs.set i 1 else fs).length = rs.length := by
    split
    ·rw [List.length_set]; exact hfl
    ·exact hfl
   generalize (if cq (rs.getD i 0) = 1 ∨ cq (rs.getD i 0) = 2 then fs.set i 1 else fs) = gs at hsu hgl
   cases q with
   | none =>
    dsimp only at hsu
    unfold EH
    repeat' (first|refine ae ?_|refine a6 ?_|refine aq ?_|refine a8 ?_|refine aR ?_|refine aa ?_|refine ah a7 rfl rfl ?_|(apply b6; refine aZ ?_)|refine bi rfl ?_)
    exact aF (i + 1) rfl ⟨by rw [hsu]; rfl, by rw [Hw]; rfl, trivial⟩ (by omega) (by omega) (fun _ _ h => by rw [hsu]; exact h)
   | some a =>
    dsimp only at hsu
    have ha := hok.at_ a rfl
    unfold EH
    repeat' (first|refine ae ?_|refine a6 ?_|refine a8 ?_|refine aa ?_|refine ah a7 rfl rfl ?_|refine bK rfl ?_)
    refine aV [(b, .box (gs.map aD) 3)] [] (zr b rs gs a i (by omega) hil2 hgl) rfl rfl (Hp _) rfl fun c L1 hL => ?_
    subst hL
    repeat' (first|refine a6 ?_|refine a8 ?_|refine aR ?_|refine aa ?_|refine ah a7 rfl rfl ?_|(apply b6; refine aZ ?_)|fail)
    exact aF (i + 1) rfl ⟨by rw [hsu]; rfl, by rw [Hw]; rfl, trivial⟩ (by omega) (by omega) (fun _ _ h => by rw [hsu]; exact h)
 ·have hil2 : i = rs.length := by have := Hy h; omega
  subst hil2
  repeat' (first|refine ae ?_|refine a6 ?_|refine am ?_|refine aL ?_|refine a8 ?_|refine av ?_|refine aA ?_|refine az ?_|refine aa ?_|refine ah a7 rfl rfl ?_)
  refine bf (wP (t := 2) fs 0 rfl rfl (List.take_of_length_le (by omega)) (by omega) (Nat.le_refl _) (by unfold maxLen; omega)) ?_
  exact au rfl rfl (by unfold nH; rw [hs])
end Go.Proofs.YtamjlkdanllgjaaGreatDoor
