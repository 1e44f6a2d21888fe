/-
  An engine is applied, and run.
-/
import Derived.Test.YtamjlkdanllgjaaGreatDoorM17
import Derived.Test.YtamjlkdanllgjaaGreatDoorM12
import Derived.Test.YtamjlkdanllgjaaGreatDoorM11
import Derived.RecoverIn
import Derived.WalkLawsBesides
import Derived.Test.YtamjlkdanllgjaaGreatDoorM06
import Derived.Laws.NewFold
namespace Go.Proofs.YtamjlkdanllgjaaGreatDoor
open Go.RowKit
attribute [local irreducible] AT br AX AO Av Kt aW cZ DA cw
set_option maxRecDepth 8000
theorem rf (k : Int) : bw Tryz.prog 138 [aD k] (ce (decide (1 ≤ k ∧ k ≤ 6))) := by
 refine aG Tryz.func138 rfl Tryz.ntmps138 rfl fun B => ?_
 repeat' (first|refine ae ?_|refine a6 ?_|refine am ?_|refine a8 ?_|refine aa ?_|refine ah a7 rfl rfl ?_|refine aB rfl rfl ?_|refine aE rfl rfl rfl rfl ?_|refine aU rfl rfl rfl (fun _ => ?_) (fun _ => ?_))
 all_goals exact au rfl rfl (by simp_all <;> omega)
instance (k : Int) : AD Tryz.prog 138 [aD k] (ce (decide (1 ≤ k ∧ k ≤ 6))) := ⟨rf k⟩
section
variable {nt : Nat} {fr : bJ} {B : Bs} {D : List Deferred}
theorem pN {t : Nat} {q : Option lg} {run : List b8} {Lf : AL} (hq : iw q run) (hl : bQ fr t = some (dQ q run)) : jM nt D B fr (dE q run ++ Lf) ((t, .imm 6 (run.map cu)) :: fr) Lf := by
 cases q with
 | none =>
  have he := hq.emp rfl
  subst he
  exact bA hl fun σ v h => h
 | some m =>
  obtain ⟨h1, h2, h3⟩ := hq.fit m rfl
  have hfl := gD run
  have hcl : run.length * 6 ≤ (dy run ++ m.junk).length := by rw [List.length_append]; omega
  have htk : (dy run ++ m.junk).take (run.length * 6) = (run.map cu).flatten := by
   have := vM run m.junk (Nat.le_refl _)
   rw [List.take_length] at this
   exact this
  exact cy (sz := 6) (n := run.length) (cap := m.cap) (l := run.map cu) 0 hl rfl htk hcl (fun e he => by obtain ⟨z, _, rfl⟩ := List.mem_map.1 he; rfl) (Hv ..) h1 h2
end
section
variable {E : sB} (hE : mX E)
include hE
end
def Gw (ap : Int → List b8 → List Int → List b8) : List Int → List (List Int) → List b8 → List b8
 | [], _, run => run
 | n :: ns, fs, run => Gw ap ns (fs.drop 1) (ap n run (fs.headD []))
structure GV (u : AV) (ap : Int → List b8 → List Int → List b8) : Prop where
 ac : ∀ (n : Int) (run : List b8) (forms : List Int), run.length ≤ 1000000 → AC Tryz.prog 140 [u, aD n, .imm 6 (run.map cu), .imm 1 (aT forms)] [gR] fun c L => c = .imm 6 ((ap n run forms).map cu) ∧ L = [gR]
 len : ∀ (n : Int) (run : List b8) (forms : List Int), run.length ≤ 1000000 → (ap n run forms).length ≤ 1000000
def Gf : AV → Bool
 | .iptr _ => true
 | .sc (.pointer none) => true
 | _ => false
end Go.Proofs.YtamjlkdanllgjaaGreatDoor
namespace Go.Proofs.YtamjlkdanllgjaaGreatDoor
open Go.RowKit
attribute [local irreducible] AT br AX AO Av Kt aW cZ DA cw
set_option maxRecDepth 8000
def zX (run : List b8) (L0 : AL) : AV → AL → Prop := fun c L => ∃ q, iw q run ∧ c = dQ q run ∧ L = dE q run ++ L0
theorem BA (cs : List AV) (q : Option lg) (run : List b8) (hq : iw q run) (hr : run.length ≤ 1000000) : AC Tryz.prog 62 [.iptr cs, .imm 1 (aT []), .imm 1 (ba []), dQ q run] (dE q run ++ []) (zX run []) := by
 refine aG Tryz.func62 rfl Tryz.ntmps62 rfl fun B => ?_
 have hcl := Da run hr
 refine cA (pN (t := 3) hq rfl) ?_
 repeat' (first|refine ae ?_|refine a6 ?_|refine a8 ?_|refine aa ?_|refine ah a7 rfl rfl ?_)
 refine aV [] [] hcl rfl rfl (Hp _) rfl fun c L1 ⟨q', hq', hc, hL⟩ => ?_
 subst hc; subst hL
 repeat' (first|refine ae ?_|refine a6 ?_|refine ar ?_|refine a8 ?_|refine aa ?_|refine ah a7 rfl rfl ?_)
 refine aI [2, 9, 17, 18] (α := Unit) (fun _ => [(19, aD 0), (3, dQ q' run)]) (fun _ => True) (fun _ => dE q' run ++ []) (fun _ => 0) () rfl ⟨rfl, rfl, trivial⟩ trivial (fun _ _ h => h) ?_
 rintro ⟨⟩ -
 try dsimp only [Ht, Hs, Hr, Hn]
 repeat' (first|refine ae ?_|refine a6 ?_|refine am ?_|refine aL ?_|refine a8 ?_|refine av ?_|refine aA ?_|refine az ?_|refine aa ?_|refine ah a7 rfl rfl ?_|refine bi rfl ?_)
 exact au rfl rfl ⟨q', hq', rfl, rfl⟩
theorem wC (sb : Nat) (q : Option lg) (run : List b8) (hq : iw q run) (L0 : AL) : AC Tryz.prog 43 [f0 sb, .imm 1 (aT []), .imm 1 (ba []), dQ q run] (dE q run ++ L0) (zX run L0) := by
 refine aG Tryz.func43 rfl Tryz.ntmps43 rfl fun B => ?_
 repeat' (first|refine ae ?_|refine a6 ?_|refine ar ?_|refine a8 ?_|refine aa ?_|refine ah a7 rfl rfl ?_)
 refine aI [0, 2, 11, 12] (α := Unit) (fun _ => [(13, aD 0), (3, dQ q run)]) (fun _ => True) (fun _ => dE q run ++ L0) (fun _ => 0) () rfl ⟨rfl, rfl, trivial⟩ trivial (fun _ _ h => h) ?_
 rintro ⟨⟩ -
 try dsimp only [Ht, Hs, Hr, Hn]
 repeat' (first|refine ae ?_|refine a6 ?_|refine am ?_|refine aL ?_|refine a8 ?_|refine av ?_|refine aA ?_|refine az ?_|refine aa ?_|refine ah a7 rfl rfl ?_|refine bi rfl ?_)
 exact au rfl rfl ⟨q, hq, rfl, rfl⟩
set_option maxRecDepth 8000
def dL {β : Type} (e : β → AV) (l : List β) (i : Nat) : List AV := (l.take i).map e ++ List.replicate (l.length - i) (.sc (.slice none 0 0))
theorem ij {β : Type} (e : β → AV) (l : List β) {i : Nat} (hi : i ≤ l.length) : (dL e l i).length = l.length := by
 unfold dL
 rw [List.length_append, Hv, List.length_take, List.length_replicate]
 omega
theorem oe {β : Type} (e : β → AV) {l : List β} {i : Nat} {z : β} (h : l[i]? = some z) : (dL e l i).set i (e z) = dL e l (i + 1) := by
 have hi := (Hq h).1
 have hl : ((l.take i).map e).length = i := by rw [Hv, List.length_take]; omega
 unfold dL
 rw [List.set_append_right _ _ (by omega), hl, Nat.sub_self, show l.length - i = (l.length - (i + 1)) + 1 by omega, List.replicate_succ, List.set_cons_zero, List.take_add_one, h, List.map_append, List.append_assoc]
 rfl
theorem mr {β : Type} (e : β → AV) (l : List β) : (List.replicate l.length ([Value.slice none 0 0].map AV.sc)).flatten = dL e l 0 := by
 unfold dL
 simp
theorem od {β : Type} (e : β → AV) (l : List β) : dL e l l.length = (l.map fun q => [e q]).flatten := by
 unfold dL
 rw [List.take_length, Nat.sub_self]
 simp only [List.replicate_zero, List.append_nil]
 induction l with
 | nil => rfl
 | cons x r ih => rw [Hr, ih]; rfl
theorem tR (l : List (List Int)) (hl : l.length ≤ 1000000) (hr : ∀ q ∈ l, q.length ≤ 1000000) : bw Tryz.prog 78 [.imm 1 (ba l)] (.imm 1 (ba l)) := by
 refine aG Tryz.func78 rfl Tryz.ntmps78 rfl fun B => ?_
 have hll : (ba l).length = l.length := Hv ..
 repeat' (first|refine ae ?_|refine a6 ?_|refine a8 ?_|refine aa ?_|refine ah a7 rfl rfl ?_)
 refine dv a7 l.length rfl rfl rfl rfl rfl (by rw [hll]) (by rw [hll]) (by omega) (by omega) rfl fun b => ?_
 rw [show (List.replicate l.length (List.map AV.sc _)).flatten = dL (fun q : List Int => .imm 1 (aT q)) l 0 from mr _ _]
 repeat' (first|refine ae ?_|refine a6 ?_|refine ar ?_|refine a8 ?_|refine aa ?_|refine ah a7 rfl rfl ?_)
 refine aI [0, 3, 9] (α := Nat) (fun i => [(10, aD i)]) (fun i => i ≤ l.length) (fun i => [(b, .box (dL (fun q : List Int => .imm 1 (aT q)) l i) _)]) (fun i => l.length - i) 0 rfl ⟨rfl, trivial⟩ (Nat.zero_le _) (fun _ _ h => h) fun i hi => ?_
 try dsimp only [Ht, Hs, Hr, Hn]
 repeat' (first|refine ae ?_|refine a6 ?_|refine a8 ?_|refine aa ?_|refine ah a7 rfl rfl ?_)
 refine ay rfl (fun h => ?_) (fun h => ?_)
 ·have hil : i < l.length := by have := Hz h; omega
  obtain ⟨z, hz⟩ : ∃ z, l[i]? = some z := ⟨_, Eg hil⟩
  have hzg : (ba l)[i]? = some [(fun q : List Int => .imm 1 (aT q)) z] := by show (l.map _)[i]? = _; rw [List.getElem?_map, hz]; rfl
  clear h
  repeat' (first|refine ae ?_|refine a6 ?_|refine ar ?_|refine aq ?_|refine a8 ?_|refine aa ?_|refine ah a7 rfl rfl ?_|(apply aO; first|refine aN a7 ?_|refine aH a7 ?_)|fail)
  refine aX (hc := ⟨s8 (aT z) (fun q hq => by obtain ⟨y, _, rfl⟩ := List.mem_map.1 hq; rfl) (by rw [bg]; exact hr z (Hx hz))⟩) ?_
  repeat' (first|(apply aO; first|refine aN a7 ?_|refine aH a7 ?_)|fail)
  refine iX a7 0 i rfl rfl (by omega) rfl rfl rfl (by rw [ij _ _ hi]; exact hil) ?_
  rw [show (dL (fun q : List Int => .imm 1 (aT q)) l i).set i _ = dL (fun q : List Int => .imm 1 (aT q)) l (i + 1) from oe (fun q : List Int => .imm 1 (aT q)) hz]
  repeat' (first|refine a6 ?_|refine a8 ?_|refine aR ?_|refine aa ?_|refine ah a7 rfl rfl ?_|(apply b6; refine aZ ?_)|fail)
  exact aF (i + 1) rfl ⟨by rw [Hw]; rfl, trivial⟩ hil (by omega) (fun _ _ h => h)
 ·have hil : i = l.length := by have := Hy h; omega
  subst hil
  repeat' (first|refine ae ?_|refine a6 ?_|refine am ?_|refine aL ?_|refine a8 ?_|refine av ?_|refine aA ?_|refine az ?_|refine aa ?_|refine ah a7 rfl rfl ?_)
  have hfl : dL (fun q : List Int => .imm 1 (aT q)) l l.length = (ba l).flatten := od _ _
  have hcl := ij (fun q : List Int => .imm 1 (aT q)) l (Nat.le_refl _)
  refine bf (cy (t := 2) (sz := 1) (l := ba l) 0 rfl rfl (by rw [Nat.mul_one, List.take_of_length_le (by omega), hfl]) (by omega) (fun q hq => by obtain ⟨y, _, rfl⟩ := List.mem_map.1 hq; rfl) hll (Nat.le_refl _) (by unfold maxLen; omega)) ?_
  exact au rfl rfl rfl
theorem E2 (l : List (List eo)) (hl : l.length ≤ 1000000) (hr : ∀ q ∈ l, q.length ≤ 1000000) : bw Tryz.prog 49 [.imm 1 (l.map eI)] (.imm 1 (l.map eI)) := by
 refine aG Tryz.func49 rfl Tryz.ntmps49 rfl fun B => ?_
 have hll : (l.map eI).length = l.length := Hv ..
 repeat' (first|refine ae ?_|refine a6 ?_|refine a8 ?_|refine aa ?_|refine ah a7 rfl rfl ?_)
 refine dv a7 l.length rfl rfl rfl rfl rfl (by rw [hll]) (by rw [hll]) (by omega) (by omega) rfl fun b => ?_
 rw [show (List.replicate l.length (List.map AV.sc _)).flatten = dL (fun q : List eo => .imm 2 (q.map f3)) l 0 from mr _ _]
 repeat' (first|refine ae ?_|refine a6 ?_|refine ar ?_|refine a8 ?_|refine aa ?_|refine ah a7 rfl rfl ?_)
 refine aI [0, 3, 9] (α := Nat) (fun i => [(10, aD i)]) (fun i => i ≤ l.length) (fun i => [(b, .box (dL (fun q : List eo => .imm 2 (q.map f3)) l i) _)]) (fun i => l.length - i) 0 rfl ⟨rfl, trivial⟩ (Nat.zero_le _) (fun _ _ h => h) fun i hi => ?_
 try dsimp only [Ht, Hs, Hr, Hn]
 repeat' (first|refine ae ?_|refine a6 ?_|refine a8 ?_|refine aa ?_|refine ah a7 rfl rfl ?_)
 refine ay rfl (fun h => ?_) (fun h => ?_)
 ·have hil : i < l.length := by have := Hz h; omega
  obtain ⟨z, hz⟩ : ∃ z, l[i]? = some z := ⟨_, Eg hil⟩
  have hzg : (l.map eI)[i]? = some [(fun q : List eo => .imm 2 (q.map f3)) z] := by show (l.map _)[i]? = _; rw [List.getElem?_map, hz]; rfl
  clear h
  repeat' (first|refine ae ?_|refine a6 ?_|refine ar ?_|refine aq ?_|refine a8 ?_|refine aa ?_|refine ah a7 rfl rfl ?_|(apply aO; first|refine aN a7 ?_|refine aH a7 ?_)|fail)
  refine aX (hc := ⟨Cp (z.map f3) (fun q hq => by obtain ⟨y, _, rfl⟩ := List.mem_map.1 hq; rfl) (by rw [Hv]; exact hr z (Hx hz))⟩) ?_
  repeat' (first|(apply aO; first|refine aN a7 ?_|refine aH a7 ?_)|fail)
  refine iX a7 0 i rfl rfl (by omega) rfl rfl rfl (by rw [ij _ _ hi]; exact hil) ?_
  rw [show (dL (fun q : List eo => .imm 2 (q.map f3)) l i).set i _ = dL (fun q : List eo => .imm 2 (q.map f3)) l (i + 1) from oe (fun q : List eo => .imm 2 (q.map f3)) hz]
  repeat' (first|refine a6 ?_|refine a8 ?_|refine aR ?_|refine aa ?_|refine ah a7 rfl rfl ?_|(apply b6; refine aZ ?_)|fail)
  exact aF (i + 1) rfl ⟨by rw [Hw]; rfl, trivial⟩ hil (by omega) (fun _ _ h => h)
 ·have hil : i = l.length := by have := Hy h; omega
  subst hil
  repeat' (first|refine ae ?_|refine a6 ?_|refine am ?_|refine aL ?_|refine a8 ?_|refine av ?_|refine aA ?_|refine az ?_|refine aa ?_|refine ah a7 rfl rfl ?_)
  have hfl : dL (fun q : List eo => .imm 2 (q.map f3)) l l.length = (l.map eI).flatten := od _ _
  have hcl := ij (fun q : List eo => .imm 2 (q.map f3)) l (Nat.le_refl _)
  refine bf (cy (t := 2) (sz := 1) (l := l.map eI) 0 rfl rfl (by rw [Nat.mul_one, List.take_of_length_le (by omega), hfl]) (by omega) (fun q hq => by obtain ⟨y, _, rfl⟩ := List.mem_map.1 hq; rfl) hll (Nat.le_refl _) (by unfold maxLen; omega)) ?_
  exact au rfl rfl rfl
set_option maxRecDepth 8000
theorem yW {a z c ys : List AV} (h : z.length = ys.length) : ew (a ++ (z ++ c)) a.length ys = a ++ (ys ++ c) := by
 apply List.ext_getElem?
 intro j
 rw [ea _ _ _ _ (by rw [List.length_append, List.length_append]; omega)]
 by_cases h1 : a.length ≤ j ∧ j < a.length + ys.length
 ·rw [if_pos h1, List.getElem?_append_right h1.1, List.getElem?_append_left (by omega)]
 ·rw [if_neg h1]
  by_cases h2 : j < a.length
  ·rw [List.getElem?_append_left h2, List.getElem?_append_left h2]
  ·rw [List.getElem?_append_right (by omega), List.getElem?_append_right (by omega), List.getElem?_append_right (by omega), List.getElem?_append_right (by omega), h]
def dM {β : Type} (c : β → List AV) (zs : List AV) (l : List β) (i : Nat) : List AV := ((l.take i).map c).flatten ++ (List.replicate (l.length - i) zs).flatten
theorem ip {β : Type} {c : β → List AV} {zs : List AV} {sz : Nat} (hc : ∀ b, (c b).length = sz) (hz : zs.length = sz) (l : List β) {i : Nat} (hi : i ≤ l.length) : (dM c zs l i).length = l.length * sz := by
 unfold dM
 rw [List.length_append, bG (sz := sz) (fun e he => by obtain ⟨y, _, rfl⟩ := List.mem_map.1 he; exact hc y), bG (sz := sz) (fun e he => by rw [List.eq_of_mem_replicate he, hz]), Hv, List.length_take, List.length_replicate, ← Nat.add_mul]
 congr 1
 omega
theorem iq {β : Type} {c : β → List AV} {zs : List AV} {sz : Nat} (hc : ∀ b, (c b).length = sz) (hz : zs.length = sz) {l : List β} {i : Nat} {z : β} (h : l[i]? = some z) : ew (dM c zs l i) (i * sz) (c z) = dM c zs l (i + 1) := by
 have hi := (Hq h).1
 have hl : (((l.take i).map c).flatten).length = i * sz := by
  rw [bG (sz := sz) (fun e he => by obtain ⟨y, _, rfl⟩ := List.mem_map.1 he; exact hc y), Hv, List.length_take, Nat.min_eq_left (by omega)]
 unfold dM
 rw [show l.length - i = (l.length - (i + 1)) + 1 by omega, List.replicate_succ, List.flatten_cons, ← hl, yW (by rw [hz, hc]), List.take_add_one, h, List.map_append, List.flatten_append, List.append_assoc]
 simp
theorem gi {β : Type} (c : β → List AV) (zs : List AV) (l : List β) : (List.replicate l.length zs).flatten = dM c zs l 0 := by
 unfold dM
 simp
theorem io {β : Type} (c : β → List AV) (zs : List AV) (l : List β) : dM c zs l l.length = (l.map c).flatten := by
 unfold dM
 simp
theorem kM {P : Program} {tt : TT} {r : Option Nat} {ops : Array Oper} {Q : Exit → Act → World → Prop} {nt : Nat} {D : List Deferred} {fr : bJ} {B : Bs} {L : AL} {rest : List Oper} {ty t : TypeId} {pos : String} {af : Array Edge} {x y : Operand} {u : AV} (ok : dG P tt) (i q : Nat) {b p n : Nat} {cs ys : List AV} {e : TypeId} (ht : BT tt t = some n) (hx : bh fr x = some (.sc (.pointer (some ⟨b, p, none⟩)))) (hp : p = q) (hy : bh fr y = some u) (hu : u.cells = some ys) (hL : L[i]? = some (b, .box cs e)) (hn : Nat.beq ys.length n = true) (hq : q + n ≤ cs.length) (h : br P r ops Q nt D rest fr B (fC L i (.box (ew cs q ys) e))) :
  br P r ops Q nt D (⟨none, .store t x y, ty, pos, af, none⟩ :: rest) fr B L := by
 subst hp
 exact aj ok i ht hx hy hu hL hn (Nat.ble_eq_true_of_le hq) h
theorem AW (l : List bI) (hl : l.length ≤ 1000000) (hr : ∀ q ∈ l, q.Lookups.length ≤ 1000000) : bw Tryz.prog 48 [.imm 2 (l.map bC)] (.imm 2 (l.map bC)) := by
 refine aG Tryz.func48 rfl Tryz.ntmps48 rfl fun B => ?_
 have hll : (l.map bC).length = l.length := Hv ..
 repeat' (first|refine ae ?_|refine a6 ?_|refine a8 ?_|refine aa ?_|refine ah a7 rfl rfl ?_)
 refine dv a7 l.length rfl rfl rfl rfl rfl (by rw [hll]) (by rw [hll]) (by omega) (by omega) rfl fun b => ?_
 rw [show (List.replicate l.length (List.map AV.sc _)).flatten = dM bC [qS ⟨#[]⟩, .sc (.slice none 0 0)] l 0 from gi _ _ _]
 repeat' (first|refine ae ?_|refine a6 ?_|refine ar ?_|refine a8 ?_|refine aa ?_|refine ah a7 rfl rfl ?_)
 refine aI [3, 9, 10] (α := Nat) (fun i => [(11, aD i)]) (fun i => i ≤ l.length) (fun i => [(b, .box (dM bC [qS ⟨#[]⟩, .sc (.slice none 0 0)] l i) _)]) (fun i => l.length - i) 0 rfl ⟨rfl, trivial⟩ (Nat.zero_le _) (fun _ _ h => h) fun i hi => ?_
 try dsimp only [Ht, Hs, Hr, Hn]
 repeat' (first|refine ae ?_|refine a6 ?_|refine a8 ?_|refine aa ?_|refine ah a7 rfl rfl ?_)
 refine ay rfl (fun h => ?_) (fun h => ?_)
 ·have hil : i < l.length := by have := Hz h; omega
  obtain ⟨z, hz⟩ : ∃ z, l[i]? = some z := ⟨_, Eg hil⟩
  have hzg := bO (c := bC) hz
  clear h
  haveI := AD.mk (s8 (aT z.Lookups) (fun q hq => by obtain ⟨y, _, rfl⟩ := List.mem_map.1 hq; rfl) (by rw [bg]; exact hr z (Hx hz)))
  repeat' (first|refine ae ?_|refine a6 ?_|refine ar ?_|refine aq ?_|refine a8 ?_|refine aa ?_|refine ah a7 rfl rfl ?_|(apply aO; first|refine aN a7 ?_|refine aH a7 ?_)|(apply aQ; first|refine ai 5 a7 0 rfl rfl rfl rfl rfl rfl rfl rfl ?_|refine ai 5 a7 1 rfl rfl rfl rfl rfl rfl rfl rfl ?_|refine ai 5 a7 2 rfl rfl rfl rfl rfl rfl rfl rfl ?_|refine aj a7 0 rfl rfl rfl rfl rfl rfl rfl ?_|refine aj a7 1 rfl rfl rfl rfl rfl rfl rfl ?_|refine aj a7 2 rfl rfl rfl rfl rfl rfl rfl ?_|refine aj a7 3 rfl rfl rfl rfl rfl rfl rfl ?_|fail)|refine aY a7 fun _=>?_|fail)
  refine bF 8 [(0, .v), (1, .v), (2, .v), (3, .v), (4, .v), (5, .v), (6, .v), (7, .v)] none ?_ trivial rfl (by kernel_rfl) (by kernel_rfl) (by kernel_rfl) mixed (by kernel_rfl) rfl
  repeat' (first|refine aM ?_|refine bD a7 ?_|(apply cL;refine d8 ?_)|fail)
  refine bM [3, 9, 10, 11, 16, 17, 23] rfl rfl ?_
  repeat' (first|(apply aO; first|refine aN a7 ?_|refine aH a7 ?_)|fail)
  refine kM (n := 2) (ys := bC z) a7 0 (i * 2) rfl rfl (by omega) rfl rfl rfl rfl (by rw [ip (sz := 2) (fun _ => rfl) rfl l hi]; omega) ?_
  rw [iq (sz := 2) (fun _ => rfl) rfl hz]
  repeat' (first|refine a6 ?_|refine a8 ?_|refine aR ?_|refine aa ?_|refine ah a7 rfl rfl ?_|(apply b6; refine aZ ?_)|fail)
  exact aF (i + 1) rfl ⟨by rw [Hw]; rfl, trivial⟩ hil (by omega) (fun _ _ h => h)
 ·have hil : i = l.length := by have := Hy h; omega
  subst hil
  repeat' (first|refine ae ?_|refine a6 ?_|refine am ?_|refine aL ?_|refine a8 ?_|refine av ?_|refine aA ?_|refine az ?_|refine aa ?_|refine ah a7 rfl rfl ?_)
  rw [io]
  have hfl : ((l.map bC).flatten).length = l.length * 2 := by rw [bG (sz := 2) (fun e he => by obtain ⟨y, _, rfl⟩ := List.mem_map.1 he; rfl), hll]
  refine bf (cy (t := 2) (sz := 2) (l := l.map bC) 0 rfl rfl (List.take_of_length_le (by omega)) (by omega) (fun q hq => by obtain ⟨y, _, rfl⟩ := List.mem_map.1 hq; rfl) hll (Nat.le_refl _) (by unfold maxLen; omega)) ?_
  exact au rfl rfl rfl
structure CD (r : bn) : Prop where
 back : r.Back.length ≤ 1000000 ∧ ∀ q ∈ r.Back, q.length ≤ 1000000
 inn : r.In.length ≤ 1000000 ∧ ∀ q ∈ r.In, q.length ≤ 1000000
 ahead : r.Ahead.length ≤ 1000000 ∧ ∀ q ∈ r.Ahead, q.length ≤ 1000000
 out : r.Out.length ≤ 1000000
 calls : r.Calls.length ≤ 1000000
abbrev iA : AV := .sc (.slice none 0 0)
abbrev FN : List AV := [aD 0, ce false, iA]
abbrev GT : List AV := [iA, iA, iA, iA, iA, aD 0]
theorem yX {cs : List AV} {k : Nat} {a b c c' : AV} (h : k + 3 ≤ cs.length) : (ew cs k [a, b, c]).set (k + 2) c' = ew cs k [a, b, c'] := by
 apply List.ext_getElem?
 intro j
 rw [ea _ _ _ _ (by simp; omega)]
 by_cases e : k + 2 = j
 ·subst e
  rw [List.getElem?_set_self (by rw [gL]; omega), if_pos (by simp)]
  simp
 ·rw [List.getElem?_set_ne e, ea _ _ _ _ (by simp; omega)]
  by_cases h1 : k ≤ j ∧ j < k + 3
  ·rw [if_pos (by simpa using h1), if_pos (by simpa using h1)]
   have : j - k = 0 ∨ j - k = 1 := by omega
   rcases this with h2 | h2 <;> rw [h2] <;> rfl
  ·rw [if_neg (by simpa using h1), if_neg (by simpa using h1)]
set_option maxHeartbeats 8000000 in
theorem Bi (l : List bk) (hl : l.length ≤ 1000000) (hr : ∀ q ∈ l, q.Rules.length ≤ 1000000 ∧ ∀ r ∈ q.Rules, CD r) : bw Tryz.prog 47 [.imm 3 (l.map bo)] (.imm 3 (l.map bo)) := by
 refine aG Tryz.func47 rfl Tryz.ntmps47 rfl fun B => ?_
 have hll : (l.map bo).length = l.length := Hv ..
 repeat' (first|refine ae ?_|refine a6 ?_|refine a8 ?_|refine aa ?_|refine ah a7 rfl rfl ?_)
 refine dv a7 l.length rfl rfl rfl rfl rfl (by rw [hll]) (by rw [hll]) (by omega) (by omega) rfl fun b => ?_
 rw [show (List.replicate l.length (List.map AV.sc _)).flatten = dM bo FN l 0 from gi _ _ _]
 repeat' (first|refine ae ?_|refine a6 ?_|refine ar ?_|refine a8 ?_|refine aa ?_|refine ah a7 rfl rfl ?_)
 refine aI [3, 11, 12] (α := Nat) (fun i => [(13, aD i)]) (fun i => i ≤ l.length) (fun i => [(b, .box (dM bo FN l i) _)]) (fun i => l.length - i) 0 rfl ⟨rfl, trivial⟩ (Nat.zero_le _) (fun _ _ h => h) fun i hi => ?_
 try dsimp only [Ht, Hs, Hr, Hn]
 repeat' (first|refine ae ?_|refine a6 ?_|refine a8 ?_|refine aa ?_|refine ah a7 rfl rfl ?_)
 refine ay rfl (fun h => ?_) (fun h => ?_)
 ·have hil : i < l.length := by have := Hz h; omega
  obtain ⟨z, hz⟩ : ∃ z, l[i]? = some z := ⟨_, Eg hil⟩
  have hzg := bO (c := bo) hz
  obtain ⟨hn, hrs⟩ := hr z (Hx hz)
  have hrl : (z.Rules.map bL).length = z.Rules.length := Hv ..
  clear h
  repeat' (first|refine ae ?_|refine a6 ?_|refine ar ?_|refine aq ?_|refine a8 ?_|refine aa ?_|refine ah a7 rfl rfl ?_|(apply aO; first|refine aN a7 ?_|refine aH a7 ?_)|(apply aQ; first|refine ai 5 a7 0 rfl rfl rfl rfl rfl rfl rfl rfl ?_|refine ai 5 a7 1 rfl rfl rfl rfl rfl rfl rfl rfl ?_|refine ai 5 a7 2 rfl rfl rfl rfl rfl rfl rfl rfl ?_|refine ai 7 a7 0 rfl rfl rfl rfl rfl rfl rfl rfl ?_|refine ai 7 a7 1 rfl rfl rfl rfl rfl rfl rfl rfl ?_|refine ai 7 a7 2 rfl rfl rfl rfl rfl rfl rfl rfl ?_|refine aj a7 0 rfl rfl rfl rfl rfl rfl rfl ?_|refine aj a7 1 rfl rfl rfl rfl rfl rfl rfl ?_|refine aj a7 2 rfl rfl rfl rfl rfl rfl rfl ?_|refine aj a7 3 rfl rfl rfl rfl rfl rfl rfl ?_|fail)|refine aY a7 fun _=>?_|fail)
  refine bF 11 [(0, .v), (1, .v), (2, .v), (3, .v), (4, .v), (5, .v), (6, .v), (7, .v), (8, .v), (9, .e), (10, .v)] none ?_ trivial rfl (by kernel_rfl) (by kernel_rfl) (by kernel_rfl) mixed (by kernel_rfl) rfl
  repeat' (first|refine aM ?_|refine bD a7 ?_|fail)
  refine Db a7 z.Rules.length rfl rfl rfl rfl rfl (by rw [hrl]) (by rw [hrl]) (by omega) (by omega) (by first | trivial | rfl) fun rb => ?_
  rw [show (List.replicate z.Rules.length (List.map AV.sc _)).flatten = dM bL GT z.Rules 0 from gi _ _ _]
  repeat' (first|refine aM ?_|refine bD a7 ?_|fail)
  refine bM [3, 4, 5, 11, 12, 13, 18, 19, 28] rfl rfl ?_
  repeat' (first|(apply aO; first|refine aN a7 ?_|refine aH a7 ?_)|fail)
  have hsl := ip (c := bo) (zs := FN) (sz := 3) (fun _ => rfl) rfl l hi
  refine kM (n := 3) (ys := [aD z.Kind, ce z.Ignore, .sc (.slice (some ⟨rb, 0, none⟩) z.Rules.length z.Rules.length)]) a7 1 (i * 3) rfl rfl (by omega) rfl rfl rfl rfl (by rw [hsl]; omega) ?_
  repeat' (first|refine ae ?_|refine a6 ?_|refine ar ?_|refine a8 ?_|refine aa ?_|refine ah a7 rfl rfl ?_)
  have hcell : (ew (dM bo FN l i) (i * 3) [aD z.Kind, ce z.Ignore, .sc (.slice (some ⟨rb, 0, none⟩) z.Rules.length z.Rules.length)])[i * 3 + 2]? = some (.sc (.slice (some ⟨rb, 0, none⟩) z.Rules.length z.Rules.length)) := by
   rw [ea _ _ _ _ (by rw [hsl]; show _ + 3 ≤ _; omega), if_pos ⟨by omega, by show _ < _ + 3; omega⟩, show i * 3 + 2 - i * 3 = 2 by omega]
   rfl
  refine aI [3, 4, 11, 12, 13, 31, 32] (α := Nat) (fun j => [(33, aD j)]) (fun j => j ≤ z.Rules.length) (fun j => (rb, .box (dM bL GT z.Rules j) _) :: [(b, .box (ew (dM bo FN l i) (i * 3) [aD z.Kind, ce z.Ignore, .sc (.slice (some ⟨rb, 0, none⟩) z.Rules.length z.Rules.length)]) _)]) (fun j => z.Rules.length - j) 0 rfl ⟨rfl, trivial⟩ (Nat.zero_le _) (fun _ _ h => h) fun j hj => ?_
  try dsimp only [Ht, Hs, Hr, Hn]
  repeat' (first|refine ae ?_|refine a6 ?_|refine a8 ?_|refine aa ?_|refine ah a7 rfl rfl ?_)
  refine ay rfl (fun h => ?_) (fun h => ?_)
  ·have hjl : j < z.Rules.length := by have := Hz h; omega
   obtain ⟨r, hrr⟩ : ∃ r, z.Rules[j]? = some r := ⟨_, Eg hjl⟩
   have hrg := bO (c := bL) hrr
   have hsm := hrs r (Hx hrr)
   haveI i1 := AD.mk (tR r.Back hsm.back.1 hsm.back.2)
   haveI i2 := AD.mk (tR r.In hsm.inn.1 hsm.inn.2)
   haveI i3 := AD.mk (tR r.Ahead hsm.ahead.1 hsm.ahead.2)
   haveI i4 := AD.mk (s8 (aT r.Out) (fun q hq => by obtain ⟨y, _, rfl⟩ := List.mem_map.1 hq; rfl) (by rw [bg]; exact hsm.out))
   haveI i5 := AD.mk (Fx (r.Calls.map gz) (fun q hq => by obtain ⟨y, _, rfl⟩ := List.mem_map.1 hq; rfl) (by rw [Hv]; exact hsm.calls))
   clear h
   repeat' (first|refine ae ?_|refine a6 ?_|refine ar ?_|refine aq ?_|refine a8 ?_|refine aa ?_|refine ah a7 rfl rfl ?_|(apply aO; first|refine aN a7 ?_|refine aH a7 ?_)|(apply aQ; first|refine ai 5 a7 0 rfl rfl rfl rfl rfl rfl rfl rfl ?_|refine ai 5 a7 1 rfl rfl rfl rfl rfl rfl rfl rfl ?_|refine ai 5 a7 2 rfl rfl rfl rfl rfl rfl rfl rfl ?_|refine ai 7 a7 0 rfl rfl rfl rfl rfl rfl rfl rfl ?_|refine ai 7 a7 1 rfl rfl rfl rfl rfl rfl rfl rfl ?_|refine ai 7 a7 2 rfl rfl rfl rfl rfl rfl rfl rfl ?_|refine aj a7 0 rfl rfl rfl rfl rfl rfl rfl ?_|refine aj a7 1 rfl rfl rfl rfl rfl rfl rfl ?_|refine aj a7 2 rfl rfl rfl rfl rfl rfl rfl ?_|refine aj a7 3 rfl rfl rfl rfl rfl rfl rfl ?_|fail)|refine aY a7 fun _=>?_|fail)
   refine bF 24 [(0, .v), (1, .v), (2, .v), (3, .v), (4, .l), (5, .v), (6, .v), (7, .v), (8, .v), (9, .v), (10, .v), (11, .v), (12, .v), (13, .v), (14, .v), (15, .v), (16, .v), (17, .v), (18, .v), (19, .v), (20, .v), (21, .v), (22, .v), (23, .v)] none ?_ trivial rfl (by kernel_rfl) (by kernel_rfl) (by kernel_rfl) mixed (by kernel_rfl) rfl
   repeat' (first|refine aM ?_|refine bD a7 ?_|fail)
   refine cS a7 rfl rfl rfl ⟨by omega, by omega⟩ (by first | trivial | rfl) ?_
   repeat' (first|refine aM ?_|refine bD a7 ?_|fail)
   refine kw a7 1 (i * 3 + 2) rfl rfl (by omega) rfl hcell (by first | trivial | rfl) ?_
   repeat' (first|refine aM ?_|refine bD a7 ?_|(apply cL;refine d8 ?_)|fail)
   refine bM [3, 4, 11, 12, 13, 31, 32, 33, 42, 43, 61] rfl rfl ?_
   repeat' (first|(apply aO; first|refine aN a7 ?_|refine aH a7 ?_)|fail)
   refine kM (n := 6) (ys := bL r) a7 0 (j * 6) rfl rfl (by omega) rfl rfl rfl rfl (by rw [ip (sz := 6) (fun _ => rfl) rfl _ hj]; omega) ?_
   rw [iq (sz := 6) (fun _ => rfl) rfl hrr]
   repeat' (first|refine a6 ?_|refine a8 ?_|refine aR ?_|refine aa ?_|refine ah a7 rfl rfl ?_|(apply b6; refine aZ ?_)|fail)
   exact aF (j + 1) rfl ⟨by rw [Hw]; rfl, trivial⟩ hjl (by omega) (fun _ _ h => h)
  ·have hjl : j = z.Rules.length := by have := Hy h; omega
   subst hjl
   clear h
   rw [io]
   repeat' (first|refine a6 ?_|refine aL ?_|refine a8 ?_|refine av ?_|refine aR ?_|refine aA ?_|refine az ?_|refine aa ?_|refine ah a7 rfl rfl ?_|(apply b6; refine aZ ?_)|fail)
   have hfl : ((z.Rules.map bL).flatten).length = z.Rules.length * 6 := by rw [bG (sz := 6) (fun e he => by obtain ⟨y, _, rfl⟩ := List.mem_map.1 he; rfl), hrl]
   refine bf (pL (k := i * 3 + 2) (sz := 6) (l := z.Rules.map bL) hcell (List.take_of_length_le (by omega)) hfl (fun q hq => by obtain ⟨y, _, rfl⟩ := List.mem_map.1 hq; rfl) hrl (Nat.le_refl _) (by unfold maxLen; omega)) ?_
   rw [yX (by rw [hsl]; omega), show [aD z.Kind, ce z.Ignore, AV.imm 6 (z.Rules.map bL)] = bo z from rfl, iq (sz := 3) (fun _ => rfl) rfl hz]
   exact aF (i + 1) rfl ⟨by rw [Hw]; rfl, trivial⟩ hil (by omega) (fun _ _ h => h)
 ·have hil : i = l.length := by have := Hy h; omega
  subst hil
  repeat' (first|refine ae ?_|refine a6 ?_|refine am ?_|refine aL ?_|refine a8 ?_|refine av ?_|refine aA ?_|refine az ?_|refine aa ?_|refine ah a7 rfl rfl ?_)
  rw [io]
  have hfl : ((l.map bo).flatten).length = l.length * 3 := by rw [bG (sz := 3) (fun e he => by obtain ⟨y, _, rfl⟩ := List.mem_map.1 he; rfl), hll]
  refine bf (cy (t := 2) (sz := 3) (l := l.map bo) 0 rfl rfl (List.take_of_length_le (by omega)) (by omega) (fun q hq => by obtain ⟨y, _, rfl⟩ := List.mem_map.1 hq; rfl) hll (Nat.le_refl _) (by unfold maxLen; omega)) ?_
  exact au rfl rfl rfl
end Go.Proofs.YtamjlkdanllgjaaGreatDoor
namespace Go.Proofs.YtamjlkdanllgjaaGreatDoor
open Go.RowKit
def mW (P : Program) (f : FuncId) (args : List AV) (L : AL) (u u' : FrameMode) (L' : AL) : Prop := ∀ σ w vs, cz σ args vs → ct ⟨w, σ, L.map (·.1)⟩ σ L w →
 CallsDIn Fence.wide 0 P f vs.toArray u w fun e m w' => ∃ τ v, e = .returned v ∧ m = u' ∧ ct ⟨w, σ, L.map (·.1)⟩ τ L' w'
def Aw (f : FuncId) (vs : List Value) : Deferred := { target := .fn (.func f) vs.toArray, args := #[] }
def DQ (B : Bs) (L' : AL) : Exit → Act → World → Prop := fun e a w => (e = .normal ∨ e = .ret) ∧ a.defers = [] ∧ ∃ τ, ct B τ L' w
section
variable {P : Program} {r : Option Nat} {ops : Array Oper} {Q : Exit → Act → World → Prop} {nt : Nat} {D : List Deferred} {fr : bJ} {B : Bs} {L : AL} {rest : List Oper}
variable {d : Nat} {t ty : TypeId} {pos : String} {af : Array Edge} {x : Operand} {u : AV}
theorem Dh {σ : bT} {f : FuncId} {vs : List Value} {v : Value} (h : VR σ (.fn f (vs.map .sc)) v) : v = .func (.func f) #[] vs.toArray := by
 generalize hc : AV.fn f (vs.map .sc) = c at h
 cases h with
 | fn f' cs ws hl h =>
  injection hc with h1 h2
  subst h1; subst h2
  have : ws = vs := by
   apply List.ext_getElem?
   intro i
   have hl' : vs.length = ws.length := by simpa using hl
   by_cases hi : i < vs.length
   ·have h3 : (vs.map AV.sc)[i]? = some (.sc vs[i]) := by simp [hi]
    have h4 : ws[i]? = some (ws[i]'(by omega)) := Eg (by omega)
    have := (h i _ _ h3 h4).sc_inv
    rw [h4, this, Eg hi]
   ·rw [List.getElem?_eq_none (by omega), List.getElem?_eq_none (by omega)]
  rw [this]
 | _ => cases hc
theorem uP {f : FuncId} (vs : List Value) {ts : Array TypeId} (hx : bh fr x = some (.fn f (vs.map .sc))) (h : br P none ops Q nt (Aw f vs :: D) rest fr B L) : br P none ops Q nt D (⟨none, .defer ⟨.value x, #[], ts⟩, ty, pos, af, none⟩ :: rest) fr B L := by
 intro σ a w ha hw
 unfold wpListIn
 rw [if_pos (by simp [Region.wanted])]
 have hv := Dh (ha.eval hx)
 refine ⟨fun _ _ => trivial, ?_⟩
 have hr : (Oper.semAt none a.eval ⟨none, .defer ⟨.value x, #[], ts⟩, ty, pos, af, none⟩).run P w = .ok (.defer (Aw f vs)) w := by
  rw [Oper.semAt_none]
  simp [execOp, resolve, hv, Deferred.ofValue, Aw]
 rw [show (Wd none).round = none from rfl, hr]
 exact h σ _ w ⟨ha.size, by show Aw f vs :: a.defers = _; rw [ha.defers], ha.look⟩ hw
theorem Bo {v : Value} (hx : bh fr x = some (.sc (.iface t v))) (h : AX P (.panic [{ v := .iface t v, recovered := false }]) Q nt D fr B L) {dd : Option Tmp} : br P r ops Q nt D (⟨dd, .panic x, ty, pos, af, none⟩ :: rest) fr B L := by
 intro σ a w ha hw
 unfold wpListIn
 rw [if_pos (by simp [Region.wanted])]
 have hv := (ha.eval hx).sc_inv
 refine ⟨fun _ _ => trivial, ?_⟩
 have hr : (Oper.semAt r a.eval ⟨dd, .panic x, ty, pos, af, none⟩).run P w = .halt (.panic (.iface t v)) w := by
  rw [Oper.semAt_eq _ _ _ (by simp)]
  simp [execOp, hv, Instr.panic]
 rw [show (Wd r).round = r from rfl, hr]
 exact h σ a w ha hw
theorem oK {c : List PanicEntry} {y : Code} (h : AX P (.panic c) Q nt D fr B L) : AX P (.panic c) (Kt P r y Q) nt D fr B L := fun σ a w ha hw => h σ a w ha hw
theorem sQ {L' : AL} (hs : L'.Sublist L) : AX P .normal (DQ B L') nt [] fr B L := fun σ _ _ ha hw => ⟨.inl rfl, ha.defers, σ, hw.sublist hs⟩
theorem ta {f : FuncId} {fn : Func} {rc : Code} {args : List AV} {L' : AL} {m m' : FrameMode} {v : Value} {d1 d2 id1 : Nat} {ty1 ty2 : TypeId} {p1 p2 : String} {a1 a2 : Array Edge} {ts : Array TypeId} (hf : P.funcs[f]? = some fn) (hb : fn.body = some (.seq (.region id1 #[⟨some d1, .call ⟨.builtin .recover, #[], ts⟩, ty1, p1, a1, none⟩, ⟨some d2, .assign (.tmp d1), ty2, p2, a2, none⟩] false) rc)) (hn : fn.ntmps = nt) (hs : Nat.ble args.length nt = true) (hres : fn.results = #[]) (h1 : Nat.ble nt d1 = false) (h2 : Nat.ble nt d2 = false)
  (hrec : ∀ (c₀ : Frame) (cs : List Frame), c₀.mode = m → (recoverD (c₀ :: cs) = some (v, { c₀ with mode := m' } :: cs)) ∨ (recoverD (c₀ :: cs) = none ∧ v = .nilIface ∧ m' = m))
  (h : ∀ B, AT P none rc (DQ B L') nt [] ((d2, .sc v) :: (d1, .sc v) :: ki 0 args) B L) : mW P f args L m m' L' := by
 intro σ w vs hv hst
 have hs' : args.length ≤ nt := by simpa [Nat.ble_eq] using hs
 have hl := hv.1
 refine callsDIn_of_wpSIn (F := Fence.wide) hf hb trivial fun c₀ cs hu => ?_
 have ha0 : ga σ nt [] (ki 0 args) { tmps := vs.toArray ++ Array.replicate (fn.ntmps - vs.toArray.size) undef, defers := [] } := by
  refine ⟨by simp [hn]; omega, rfl, fun t v hlk => ?_⟩
  obtain ⟨_, h2⟩ := fO args 0 t v hlk
  simp only [Nat.sub_zero] at h2
  have hlt : t < vs.length := by have := (Hq h2).1; omega
  simp only [Array.getD_eq_getD_getElem?]
  rw [Array.getElem?_append_left (by simpa using hlt)]
  have := hv.2 t v vs[t] h2 (Eg hlt)
  simpa [hlt] using this
 generalize ({ tmps := vs.toArray ++ Array.replicate (fn.ntmps - vs.toArray.size) undef, defers := [] } : Act) = a0 at ha0
 refine wpSIn_seq (wpSIn_region ?_)
 have e1 : ∀ w : World, (execOp a0.eval ⟨some d1, .call ⟨.builtin .recover, #[], ts⟩, ty1, p1, a1, none⟩).run P w = .ok .recover w := fun w => by
  simp [execOp, resolve, invoke, builtin]
 have key : ∀ csx : List Frame, (∃ c', csx = { c₀ with mode := m' } :: cs ∧ c' = c₀) → wpOpsSIn Fence.wide 0 P #[⟨some d1, .call ⟨.builtin .recover, #[], ts⟩, ty1, p1, a1, none⟩, ⟨some d2, .assign (.tmp d1), ty2, p2, a2, none⟩] (Exit.thenS (rc.wpSIn Fence.wide 0 P (bodyPostS P fn c₀ cs fun e m w' => ∃ τ v, e = .returned v ∧ m = m' ∧ ct ⟨w, σ, L.map (·.1)⟩ τ L' w')) (bodyPostS P fn c₀ cs fun e m w' => ∃ τ v, e = .returned v ∧ m = m' ∧ ct ⟨w, σ, L.map (·.1)⟩ τ L' w')) [1] (a0.put (some d1) v) csx w := by
  rintro csx ⟨_, rfl, -⟩
  have ha1 := ha0.put (fM h1) (VR.sc v)
  have e2 : (execOp (a0.put (some d1) v).eval ⟨some d2, .assign (.tmp d1), ty2, p2, a2, none⟩).run P w = .ok (.value v) w := by
   have : (a0.put (some d1) v).eval (.tmp d1) = v := (ha1.eval (x := .tmp d1) (c := .sc v) (by simp [bh, bV])).sc_inv
   simp [execOp, this]
  rw [wpOpsSIn]
  simp only [List.getElem?_toArray, List.getElem?_cons_succ, List.getElem?_cons_zero]
  refine ⟨fun _ _ => trivial, ?_⟩
  rw [if_pos (by simp [Region.wanted]), e2]
  refine wpSIn_of_wpIn rfl (wpIn_mono (h _ σ _ w (ha1.put (fM h2) (VR.sc v)) hst) ?_)
  rintro e a' w' ⟨he, hd, τ, hst'⟩
  rcases he with rfl | rfl
  ·exact ⟨hd, m', rfl, .tuple #[], results_none hres _ _ _, τ, _, rfl, rfl, hst'⟩
  ·exact ⟨hd, m', rfl, .tuple #[], results_none hres _ _ _, τ, _, rfl, rfl, hst'⟩
 have hr : List.range (#[(⟨some d1, .call ⟨.builtin .recover, #[], ts⟩, ty1, p1, a1, none⟩ : Oper), ⟨some d2, .assign (.tmp d1), ty2, p2, a2, none⟩] : Array Oper).size = [0, 1] := rfl
 rw [hr]
 rw [wpOpsSIn]
 simp only [List.getElem?_toArray, List.getElem?_cons_zero]
 refine ⟨fun _ _ => trivial, ?_⟩
 rw [if_pos (by simp [Region.wanted]), e1]
 rcases hrec c₀ cs hu with h3 | ⟨h3, h4, h5⟩
 ·rw [h3]
  exact key _ ⟨c₀, rfl, rfl⟩
 ·rw [h3]
  subst h4
  exact key _ ⟨c₀, by subst h5; subst hu; rfl, rfl⟩
theorem s5 (c₀ : Frame) (cs : List Frame) (h : c₀.mode = .returning) : (recoverD (c₀ :: cs) = some (.nilIface, { c₀ with mode := .returning } :: cs)) ∨ (recoverD (c₀ :: cs) = none ∧ Value.nilIface = .nilIface ∧ FrameMode.returning = .returning) := .inr ⟨by simp [recoverD, h], rfl, rfl⟩
theorem z1 {v : Value} (c₀ : Frame) (cs : List Frame) (h : c₀.mode = .panicking [{ v, recovered := false }]) : (recoverD (c₀ :: cs) = some (v, { c₀ with mode := .panicking [{ v, recovered := true }] } :: cs)) ∨ (recoverD (c₀ :: cs) = none ∧ v = .nilIface ∧ FrameMode.panicking [{ v, recovered := true }] = .panicking [{ v, recovered := false }]) := .inl (by simp [recoverD, h])
theorem nQ {f : FuncId} {vs : List Value} {fn : Func} {Post : AV → AL → Prop} {cs : List AV} {σ : bT} {a : Act} {w : World} {m m' : FrameMode} (Lc Lf L' L0 : AL) [hf : bv P f] (hm : m ≠ .run) (hm' : settle m' = .returning) (hC : mW P f (vs.map .sc) Lc m m' L') (hL : L.Perm (Lc ++ Lf)) (ha : ga σ nt [Aw f vs] fr a) (hw : ct B σ L w) (hr : jF P fr (L' ++ Lf) fn.results.toList cs) (hs : L0.Sublist (L' ++ Lf)) (h : Post (mE cs) L0) : LeavesInM Fence.wide 0 P fn a.tmps (fN B Post) [Aw f vs] m w := by
 have hw' := hw.perm hL
 refine ⟨hm, .inr ⟨fun hh => by simp [Fence.wide] at hh, .func f, vs.toArray, f, vs.toArray, rfl, ?_, fun _ _ => trivial, ?_⟩⟩
 ·have := hf.enters vs.toArray w
  simpa [Aw, invoke] using this
 have hvs : cz σ (vs.map .sc) vs := ⟨by simp, fun i c u hc hu => by
  rw [List.getElem?_map, hu] at hc
  cases hc
  exact .sc _⟩
 obtain ⟨hF, hall⟩ := hC σ w vs hvs hw'.enter
 refine ⟨hF, fun c cs0 hu hroom => ?_⟩
 obtain ⟨e, u', w', fr', ⟨τ, v, rfl, rfl, hst⟩, hrest⟩ := hall c cs0 hu hroom
 refine ⟨_, _, w', fr', ?_, hrest⟩
 show LeavesInM Fence.wide 0 P fn a.tmps (fN B Post) [] (settle u') w'
 rw [hm']
 have hst2 := hw'.leave hst
 have hle : σ.le τ := hst.grow
 obtain ⟨v2, h1, h2⟩ := gh (ha.mono hle) hst2 hr
 exact ⟨v2, h1, v2, τ, mE cs, L0, rfl, h2, hst2.sublist hs, h⟩
theorem uh {f : FuncId} {vs : List Value} {fn : Func} {Post : AV → AL → Prop} {cs : List AV} (Lc Lf L' L0 : AL) [bv P f] (hC : mW P f (vs.map .sc) Lc .returning .returning L') (hL : L.Perm (Lc ++ Lf)) (hr : jF P fr (L' ++ Lf) fn.results.toList cs) (hs : L0.Sublist (L' ++ Lf)) (h : Post (mE cs) L0) : AX P .ret (bodyPostM Fence.wide 0 P fn (fN B Post)) nt [Aw f vs] fr B L := fun σ a w ha hw => by
 show LeavesInM _ _ _ _ _ _ a.defers _ _
 rw [ha.defers]
 exact nQ Lc Lf L' L0 (by simp) rfl hC hL ha hw hr hs h
theorem vp {f : FuncId} {vs : List Value} {fn : Func} {Post : AV → AL → Prop} {cs : List AV} {v : Value} (Lc Lf L' L0 : AL) [bv P f] (hC : mW P f (vs.map .sc) Lc (.panicking [{ v, recovered := false }]) (.panicking [{ v, recovered := true }]) L') (hL : L.Perm (Lc ++ Lf)) (hr : jF P fr (L' ++ Lf) fn.results.toList cs) (hs : L0.Sublist (L' ++ Lf)) (h : Post (mE cs) L0) : AX P (.panic [{ v, recovered := false }]) (bodyPostM Fence.wide 0 P fn (fN B Post)) nt [Aw f vs] fr B L := fun σ a w ha hw => by
 show LeavesInM _ _ _ _ _ _ a.defers _ _
 rw [ha.defers]
 exact nQ Lc Lf L' L0 (by simp) rfl hC hL ha hw hr hs h
end
section
variable {P : Program} {r : Option Nat} {ops : Array Oper} {Q : Exit → Act → World → Prop} {nt : Nat} {D : List Deferred} {fr : bJ} {B : Bs} {L : AL} {rest : List Oper}
variable {d : Nat} {t t' ty : TypeId} {pos : String} {af : Array Edge} {x : Operand} {u : AV}
theorem tG (b : Bool) {v : Value} (ht : ∃ ms, P.underlying t = some (.interface ms)) (hx : bh fr x = some (.sc v)) (hv : (v = .nilIface ∧ b = false) ∨ (∃ q w, v = .iface q w) ∧ b = true) (hd : Nat.ble nt d = false) (h : br P r ops Q nt D rest ((d, .sc (.bool b)) :: fr) B L) : br P r ops Q nt D (⟨some d, .binOp .neq t x (.const .nilIface) t', ty, pos, af, none⟩ :: rest) fr B L := by
 obtain ⟨ms, ht⟩ := ht
 refine cg (u := .sc (.bool b)) (fun σ ρ w hρ _ => ?_) hd rfl h
 refine ⟨.bool b, ?_, .sc _⟩
 have hy := (hρ (.const .nilIface) _ rfl).sc_inv
 have hxv := (hρ x _ hx).sc_inv
 have he : (Op.equal t v .nilIface).run P w = .ok (!b) w := by
  unfold Op.equal Op.maxDepth
  rcases hv with ⟨rfl, rfl⟩ | ⟨⟨q, z, rfl⟩, rfl⟩
  ·rw [show (10000 : Nat) = 9999 + 1 from rfl, Op.equalIn]
   simp [run_underlying ht]
  ·rw [show (10000 : Nat) = 9999 + 1 from rfl, Op.equalIn]
   simp [run_underlying ht]
 rcases hv with ⟨rfl, rfl⟩ | ⟨⟨q, z, rfl⟩, rfl⟩
 ·simp [execOp, hxv, hy, eqGuard, binOp, he]
 ·simp [execOp, hxv, hy, eqGuard, binOp, he]
theorem wg {v : Value} (ht : fz P t = true) (hx : bh fr x = some (.sc (.iface t v))) (hd : Nat.ble nt d = false) (h : br P r ops Q nt D rest ((d, .tup [.sc v, .sc (.bool true)]) :: fr) B L) : br P r ops Q nt D (⟨some d, .typeAssert x t' t true, ty, pos, af, none⟩ :: rest) fr B L := by
 refine cg (u := .tup [.sc v, .sc (.bool true)]) (fun σ ρ w hρ _ => ?_) hd rfl h
 obtain ⟨dd, hu, hd'⟩ := gr ht
 refine ⟨.tuple #[v, .bool true], ?_, .tup _ _ rfl (cz.cons (.sc _) (cz.cons (.sc _) cz.nil)).2⟩
 have hxv := (hρ x _ hx).sc_inv
 have : (Instr.typeAssert (.iface t v) t' t true).run P w = .ok (.tuple #[v, .bool true]) w := by
  simp only [Instr.typeAssert, Sem.run_bind, run_underlying hu, Result.andThen]
  cases dd <;> first | (exfalso; exact hd' _ rfl) | simp
 simp [execOp, hxv, this]
end
end Go.Proofs.YtamjlkdanllgjaaGreatDoor
namespace Go.Proofs.YtamjlkdanllgjaaGreatDoor
open Go.RowKit
section
variable {P : Program} {tt : TT} {r : Option Nat} {ops : Array Oper} {Q : Exit → Act → World → Prop} {nt : Nat} {D : List Deferred} {fr : bJ} {B : Bs} {L : AL} {rest : List Oper}
variable {d : Nat} {ty t : TypeId} {pos : String} {af : Array Edge} {x y : Operand} {u : AV}
theorem nW {kd : TypeDesc} {σ : bT} {o : Obj} (h : gw kd (fun _ => none) σ o) : ∃ clock, o = .map #[] clock := by
 obtain ⟨es, clock, rfl, h1, _, _⟩ := h
 refine ⟨clock, ?_⟩
 congr 1
 cases hc : es.toList with
 | nil => exact Array.toList_inj.1 hc
 | cons e _ =>
  obtain ⟨_, c, hc', _⟩ := h1 e (by rw [hc]; exact List.mem_cons_self ..)
  cases hc'
def EZ (b : Nat) : AB := .raw fun o => ∃ c, o = .mapIter (some b) c #[] c
theorem yG (i : Nat) {b kt et : Nat} {kd : TypeDesc} (ht : P.underlying t = some (.map kt et)) (hx : bh fr x = some (.sc (.map (some b)))) (hL : L[i]? = some (b, bP kd fun _ => none)) (hd : Nat.ble nt d = false) (h : ∀ q, br P r ops Q nt D rest ((d, .sc (.pointer (some ⟨q, 0, none⟩))) :: fr) B ((q, EZ b) :: L)) :
  br P r ops Q nt D (⟨some d, .range t x, ty, pos, af, none⟩ :: rest) fr B L := by
 refine bW (R := fun c L' => ∃ q, c = .sc (.pointer (some ⟨q, 0, none⟩)) ∧ L' = (q, EZ b) :: L) hd rfl (fun σ ρ w hρ hw => ?_) fun c L' ⟨q, h1, h2⟩ => by subst h1; subst h2; exact h q
 obtain ⟨o, ho, hM⟩ := hw.here _ (Hx hL)
 obtain ⟨clock, rfl⟩ := nW hM
 have hr : (execOp ρ ⟨some d, .range t x, ty, pos, af, none⟩).run P w = .ok (.value (.pointer (some ⟨w.heap.size, 0, none⟩))) (w.alloc (.mapIter (some b) clock #[] clock)) := by
  have hg : (getObj b).run P w = .ok (.map #[] clock) w := (by simp [getObj, Sem.run, show w.heap[b]? = _ from ho])
  simp [execOp, Instr.range, (hρ x _ hx).sc_inv, run_underlying ht, hg]
 unfold fw
 rw [hr]
 exact ⟨σ, _, _, bT.le_refl _, .sc _, hw.alloc _ (EZ b) ⟨clock, rfl⟩, _, rfl, rfl⟩
theorem Bn (i j : Nat) {b q : Nat} {kd : TypeDesc} (hx : bh fr x = some (.sc (.pointer (some ⟨q, 0, none⟩)))) (hL : L[i]? = some (q, EZ b)) (hM : L[j]? = some (b, bP kd fun _ => none)) (hd : Nat.ble nt d = false) (h : br P r ops Q nt D rest ((d, .tup [.sc (.bool false)]) :: fr) B L) :
  br P r ops Q nt D (⟨some d, .next x false, ty, pos, af, none⟩ :: rest) fr B L := by
 refine bW (R := fun c L' => c = .tup [.sc (.bool false)] ∧ L' = L) hd rfl (fun σ ρ w hρ hw => ?_) fun c L' ⟨h1, h2⟩ => by subst h1; subst h2; exact h
 obtain ⟨o, ho, c, rfl⟩ := hw.here _ (Hx hL)
 obtain ⟨o2, ho2, hM2⟩ := hw.here _ (Hx hM)
 obtain ⟨clock, rfl⟩ := nW hM2
 have hr : (execOp ρ ⟨some d, .next x false, ty, pos, af, none⟩).run P w = .ok (.value (.tuple #[.bool false])) w := by
  have hg : (getObj q).run P w = .ok (.mapIter (some b) c #[] c) w := (by simp [getObj, Sem.run, show w.heap[q]? = _ from ho])
  have hg2 : (getObj b).run P w = .ok (.map #[] clock) w := (by simp [getObj, Sem.run, show w.heap[b]? = _ from ho2])
  simp [execOp, Instr.next, (hρ x _ hx).sc_inv, hg, hg2, Question.forced]
 unfold fw
 rw [hr]
 exact ⟨σ, _, _, bT.le_refl _, .tup _ _ rfl (cz.cons (.sc _) cz.nil).2, hw, rfl, rfl⟩
end
end Go.Proofs.YtamjlkdanllgjaaGreatDoor
