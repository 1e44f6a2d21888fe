/-
  few, Same and Items of the laws.
-/
import Derived.Test.YtamjlkdanllgjaaGreatDoorM25
import Derived.Test.YtamjlkdanllgjaaGreatDoorM17
import Derived.Test.YtamjlkdanllgjaaGreatDoorM06
import Derived.Test.YtamjlkdanllgjaaGreatDoorM05
namespace Go.Proofs.YtamjlkdanllgjaaGreatDoor
open Go.RowKit
attribute [local irreducible] AT br AX AO Av Kt aW cZ DA cw
set_option maxRecDepth 8000
def kF (x : b8) : List Int := [x.Glyph, x.Cluster, x.Form, x.Advance, x.X, x.Y]
theorem pu {a b : b8} (h : kF a = kF b) : a = b := by
 cases a; cases b
 simpa [kF] using h
instance : DecidableEq b8 := fun a b => decidable_of_iff (kF a = kF b) ⟨pu, fun h => by rw [h]⟩
theorem w3 : u5 Tryz.prog 56 6 := ⟨⟨_, Tryz.underlying56, rfl, ⟨by decide, rfl, Tryz.underlying3⟩, ⟨by decide, rfl, Tryz.underlying3⟩, ⟨by decide, rfl, Tryz.underlying3⟩, ⟨by decide, rfl, Tryz.underlying3⟩, ⟨by decide, rfl, Tryz.underlying3⟩, ⟨by decide, rfl, Tryz.underlying3⟩, trivial⟩, by kernel_rfl, by kernel_rfl⟩
theorem se (a b : List b8) (ha : a.length ≤ 1000000) : bw Tryz.prog 14 [.imm 6 (a.map cu), .imm 6 (b.map cu)] (ce (decide (a = b))) := by
 refine aG Tryz.func14 rfl Tryz.ntmps14 rfl fun B => ?_
 have hal : (a.map cu).length = a.length := Hv ..
 have hbl : (b.map cu).length = b.length := Hv ..
 repeat' (first|refine ae ?_|refine a6 ?_|refine a8 ?_|refine aa ?_|refine ah a7 rfl rfl ?_)
 refine ay rfl (fun h1 => ?_) (fun h1 => ?_)
 ·have hne : ¬ a.length = b.length := by have := Hz h1; omega
  rw [decide_eq_false (fun e : a = b => hne (by rw [e]))]
  repeat' (first|refine ae ?_|refine a6 ?_|refine am ?_|refine a8 ?_|refine aw ?_|refine aa ?_|refine ah a7 rfl rfl ?_)
  exact au rfl rfl rfl
 ·have heq : a.length = b.length := by have := Hy h1; omega
  clear h1
  repeat' (first|refine ae ?_|refine a6 ?_|refine ar ?_|refine aq ?_|refine a8 ?_|refine aa ?_|refine ah a7 rfl rfl ?_)
  refine aI [0, 1] (α := Nat) (fun i => [(5, aD i)]) (fun i => i ≤ a.length ∧ a.take i = b.take i) (fun _ => []) (fun i => a.length - i) 0 rfl ⟨rfl, trivial⟩ ⟨Nat.zero_le _, rfl⟩ (fun _ _ h => h) ?_
  rintro i ⟨hi, hti⟩
  try dsimp only [Ht, Hs, Hr, Hn]
  repeat' (first|refine ae ?_|refine a6 ?_|refine a8 ?_|refine aa ?_|refine ah a7 rfl rfl ?_)
  refine ay rfl (fun h1 => ?_) (fun h1 => ?_)
  ·have hi2 : i < a.length := by have := Hz h1; omega
   obtain ⟨g, hg⟩ : ∃ z, a[i]? = some z := ⟨_, Eg hi2⟩
   obtain ⟨x, hx⟩ : ∃ z, b[i]? = some z := ⟨_, Eg (by omega)⟩
   have hgg : (a.map cu)[i]? = some (cu g) := by simp [hg]
   have hxg : (b.map cu)[i]? = some (cu x) := by simp [hx]
   clear h1
   repeat' (first|refine ae ?_|refine ar ?_|refine aq ?_|refine a8 ?_)
   refine bF 8 [(0, .v), (1, .v), (2, .v), (3, .v), (4, .v), (5, .v), (6, .v), (7, .v)] none ?_ trivial rfl (by kernel_rfl) (by kernel_rfl) (by kernel_rfl) mixed (by kernel_rfl) rfl
   repeat' (first|refine aM ?_|refine bD a7 ?_|(apply dk;refine dT a7 ?_)|fail)
   refine bM [0, 1, 5, 20, 24] rfl rfl ?_
   refine cg (CU (a := kF g) (b := kF x) w3 rfl rfl rfl rfl) rfl rfl ?_
   repeat' (first|refine a8 ?_|refine aa ?_)
   refine ay rfl (fun h1 => ?_) (fun h1 => ?_)
   ·have hne : ¬ kF g = kF x := by
     intro e
     rw [decide_eq_true e] at h1
     cases h1
    rw [decide_eq_false (fun e : a = b => hne (by rw [e, hx] at hg; cases hg; rfl))]
    repeat' (first|refine ae ?_|refine a6 ?_|refine am ?_|refine a8 ?_|refine aw ?_|refine aK ?_|refine bB ?_|refine aa ?_|refine ah a7 rfl rfl ?_)
    exact au rfl rfl rfl
   ·have hgx : g = x := by
     refine pu (Classical.byContradiction fun e => ?_)
     rw [decide_eq_false e] at h1
     cases h1
    repeat' (first|refine a6 ?_|refine aq ?_|refine a8 ?_|refine aR ?_|refine aa ?_|refine ah a7 rfl rfl ?_|(apply b6; refine aZ ?_)|fail)
    exact aF (i + 1) rfl ⟨by rw [Hw]; rfl, trivial⟩ ⟨hi2, by rw [List.take_add_one, List.take_add_one, hti, hg, hx, hgx]⟩ (by omega) (fun _ _ h => h)
  ·have hi2 : i = a.length := by have := Hy h1; omega
   subst hi2
   rw [List.take_length, heq, List.take_length] at hti
   rw [decide_eq_true hti]
   repeat' (first|refine ae ?_|refine a6 ?_|refine am ?_|refine aL ?_|refine a8 ?_|refine av ?_|refine aA ?_|refine az ?_|refine aa ?_|refine ah a7 rfl rfl ?_)
   exact au rfl rfl rfl
set_option maxRecDepth 8000
def rh (n : ByteArray) (a : Int) : b7 := ⟨n, a, false, [], [], [], [], [], []⟩
def dc (gs : List b7) (cs : List d3) (ls : List bk) (fs : List bI) : aP := ⟨1000, gs, cs, ls, fs, [], [], [], []⟩
def Cu (gs : List b7) : Prop := ∀ g ∈ gs, g = rh g.Name g.Advance
section
variable {gs : List b7} {cs : List d3} {ls : List bk} {fs : List bI} (hg : Cu gs)
include hg
theorem p6 : iF (dc gs cs ls fs).Glyphs.length (prt (dc gs cs ls fs)) := by
 refine ⟨fun _ => 0, fun g h0 h1 p hp => ?_⟩
 exfalso
 unfold prt at hp
 cases hx : (dc gs cs ls fs).Glyphs[g.toNat]? with
 | none => rw [hx] at hp; cases hp
 | some x =>
  rw [hx] at hp
  have := hg x (Hx hx)
  dsimp only at hp
  rw [this] at hp
  simp [rh] at hp
theorem vt : iH (dc gs cs ls fs) (fun _ => 0) (fun _ => 0) := by
 intro z _ _ gl hgl
 rw [hg gl (Hx hgl)]
 exact ⟨rfl, rfl⟩
theorem nk (h0 : gs ≠ []) (h1 : (ck 400 gs (eQ (dc gs cs ls fs))).1 = 0) (h2 : (ck 1000 cs (gZ (dc gs cs ls fs))).1 = 0) (h3 : (ck 40 ls (jf (dc gs cs ls fs))).1 = 0) (h4 : (ck 20 fs (jc (dc gs cs ls fs))).1 = 0) (h5 : (m7 gs.length (fun _ => 0) (fun _ => 0)).1 = 0) : (fV (dc gs cs ls fs)).1 = 0 := by
 refine eA.2 fun x hx => ?_
 have hc : (m8 (dc gs cs ls fs)).1 = 0 := by
  rw [rq (jA h1) (p6 hg) (vt hg)]
  exact h5
 simp only [xX, List.mem_cons, List.not_mem_nil, or_false] at hx
 rcases hx with rfl | rfl | rfl | rfl | rfl | rfl | rfl | rfl | rfl | rfl
 ·show jC (dc gs cs ls fs) = 0
  unfold jC
  rw [if_neg (by simp [dc]), if_neg (by simpa [dc] using h0)]
 ·exact h1
 ·exact hc
 ·exact h2
 ·exact h3
 ·exact h4
 ·rfl
 ·rfl
 ·rfl
 ·rfl
theorem ul (hl : gs.length ≤ 1000000) (hc : cs.length ≤ 1000000) (h3 : ls.length ≤ 1000000 ∧ ∀ q ∈ ls, q.Rules.length ≤ 1000000 ∧ ∀ r ∈ q.Rules, CD r) (h4 : fs.length ≤ 1000000 ∧ ∀ q ∈ fs, q.Lookups.length ≤ 1000000) : Cz (dc gs cs ls fs) := ⟨rfl, rfl, fun g hgm => by rw [hg g hgm]; rfl, ⟨hl, fun g hgm => by
 rw [hg g hgm]
 exact ⟨Nat.zero_le _, Nat.zero_le _, Nat.zero_le _, Nat.zero_le _, Nat.zero_le _⟩⟩, hc, h3, h4, ⟨Nat.zero_le _, fun q hq => by cases hq⟩, Nat.zero_le _⟩
theorem rj (hl : gs.length ≤ 400) (hc : cs.length ≤ 1000) : Eo (dc gs cs [] []) := by
 refine ⟨p6 hg, fun _ => ul hg (by omega) (by omega) ⟨Nat.zero_le _, fun q hq => by cases hq⟩ ⟨Nat.zero_le _, fun q hq => by cases hq⟩, fun h => ⟨⟨?_, ?_⟩, Nat.zero_le _, (fun q hq => by cases hq), (fun q hq => by cases hq)⟩⟩
 ·refine Nat.pos_of_ne_zero fun e => ?_
  have := eA.1 h (jC (dc gs cs [] []), 0) (by simp [xX])
  unfold jC at this
  rw [if_neg (by simp [dc]), if_pos e] at this
  simp at this
 ·show gs.length ≤ _
  omega
end
theorem tI (want : List ByteArray) (f : aP) (h : f.Features = []) : cm want f = [] ∧ eS want f = [] := by
 have : cm want f = [] := by unfold cm bS; rw [h]; simp [eF, mO, Dd]
 exact ⟨this, by unfold eS; rw [this]; rfl⟩
theorem ri {gs : List b7} {cs : List d3} {rs : List Int} {want : List ByteArray} (hr : rs.length ≤ 1000000) (hgl : ∀ x ∈ cx (dc gs cs [] []) rs, 0 ≤ x.Glyph ∧ x.Glyph < gs.length) : Em (dc gs cs [] []) rs want [] (cx (dc gs cs [] []) rs) := by
 have hsl : (cx (dc gs cs [] []) rs).length ≤ 1000000 := by unfold cx; rw [Hv, (kR rs).1]; exact hr
 obtain ⟨h1, h2⟩ := tI want (dc gs cs [] []) rfl
 refine ⟨fun E _ _ _ q hq => ?_, hsl, hgl⟩
 rw [h1, h2]
 exact BA _ q _ hq hsl
theorem um {gs : List b7} {cs : List d3} {rs : List Int} {want : List ByteArray} (hr : rs.length ≤ 1000000) (hg : mY rs) (hc : cs.length ≤ 1000000) : zY (dc gs cs [] []) rs want := ⟨hr, hg, hc, Nat.zero_le _, Nat.zero_le _, fun l hl => by rw [(tI want (dc gs cs [] []) rfl).1] at hl; cases hl⟩
def Cr : List b7 := [rh ⟨#[46, 110, 111, 116, 100, 101, 102]⟩ 0, rh ⟨#[97]⟩ 500]
def FH : List d3 := [⟨97, 1⟩]
theorem uY : Cu Cr := fun g hg => by
 unfold Cr at hg
 simp only [List.mem_cons, List.not_mem_nil, or_false] at hg
 rcases hg with rfl | rfl <;> rfl
theorem zo : (fV (dc Cr FH [] [])).1 = 0 := nk uY (by simp [Cr]) (by decide) (by decide) (by decide) (by decide) (by decide)
theorem E7 : hZ (dc Cr FH [] []) [97, 98] [] = 0 := by
 unfold hZ
 rw [zo]
 rfl
theorem zp : cx (dc Cr FH [] []) [97, 98] = [⟨1, 0, 0, 0, 0, 0⟩, ⟨0, 1, 0, 0, 0, 0⟩] := by kernel_rfl
set_option maxHeartbeats 4000000 in
theorem wF : bw Tryz.prog 7 [] (ce true) := by
 refine aG Tryz.func7 rfl Tryz.ntmps7 rfl fun B => ?_
 have hsh := sg (dc Cr FH [] []) (rj uY (by decide) (by decide)) [97, 98] [] [] [] (cx (dc Cr FH [] []) [97, 98]) (um (by decide) (vV (by decide)) (by decide)) fun _ => ri (by decide) (by rw [zp]; decide)
 unfold wG at hsh
 rw [E7, if_pos rfl, zp] at hsh
 repeat' (first|refine ae ?_|refine a6 ?_|refine a8 ?_|refine aa ?_|refine ah a7 rfl rfl ?_|(apply aQ; first|refine ai 1 a7 0 rfl rfl rfl rfl rfl rfl rfl rfl ?_|refine ai 1 a7 1 rfl rfl rfl rfl rfl rfl rfl rfl ?_|refine ai 1 a7 2 rfl rfl rfl rfl rfl rfl rfl rfl ?_|refine aj a7 0 rfl rfl rfl rfl rfl rfl rfl ?_|refine aj a7 1 rfl rfl rfl rfl rfl rfl rfl ?_|refine aj a7 2 rfl rfl rfl rfl rfl rfl rfl ?_|refine aj a7 3 rfl rfl rfl rfl rfl rfl rfl ?_|fail)|refine aY a7 fun _=>?_|refine cE a7 ?_|fail)
 refine aV [] [] (AC.args hsh ?_) rfl rfl (Hp _) rfl fun c L1 ⟨hc, hL⟩ => ?_
 ·repeat' first | exact dJ.refl _ | exact dJ.nil _ | exact True.intro | refine dJ.agg ?_ | refine dJ.imm ?_ | refine And.intro ?_ ?_
 subst hc; subst hL
 repeat' (first|refine ae ?_|refine a6 ?_|refine a8 ?_|refine aa ?_|refine ah a7 rfl rfl ?_|refine aB rfl rfl ?_|refine cE a7 ?_|fail)
 refine aX (hc := ⟨se ([⟨1, 0, 0, 500, 0, 0⟩, ⟨0, 1, 0, 0, 0, 0⟩] : List b8) [⟨1, 0, 0, 500, 0, 0⟩, ⟨0, 1, 0, 0, 0, 0⟩] (by decide)⟩) ?_
 rw [show decide (([⟨1, 0, 0, 500, 0, 0⟩, ⟨0, 1, 0, 0, 0, 0⟩] : List b8) = [⟨1, 0, 0, 500, 0, 0⟩, ⟨0, 1, 0, 0, 0, 0⟩]) = true from decide_eq_true rfl]
 repeat' (first|refine am ?_|refine a8 ?_|refine aa ?_|refine ah a7 rfl rfl ?_)
 exact au rfl rfl rfl
end Go.Proofs.YtamjlkdanllgjaaGreatDoor
namespace Go.Proofs.YtamjlkdanllgjaaGreatDoor
open Go.RowKit
attribute [local irreducible] AT br AX AO Av Kt aW cZ DA cw
set_option maxRecDepth 8000
theorem wS (a : Int) (h0 : 0 ≤ a) (ha : a ≤ 1000000) (run : List b8) (hr : run.length ≤ 1000000) (hadv : ∀ x ∈ run, x.Advance = a) : bw Tryz.prog 24 [.imm 6 (run.map cu)] (aD (a * run.length)) := by
 refine aG Tryz.func24 rfl Tryz.ntmps24 rfl fun B => ?_
 have hml : (run.map cu).length = run.length := Hv ..
 repeat' (first|refine ae ?_|refine a6 ?_|refine ar ?_|refine a8 ?_|refine aa ?_|refine ah a7 rfl rfl ?_)
 refine aI [6, 7] (α := Nat) (fun i => [(8, aD i), (3, aD (a * i))]) (fun i => i ≤ run.length) (fun _ => []) (fun i => run.length - i) 0 rfl ⟨rfl, by rw [show a * ((0 : Nat) : Int) = 0 by simp]; rfl, trivial⟩ (Nat.zero_le _) (fun _ _ h => h) fun i hi => ?_
 try dsimp only [Ht, Hs, Hr, Hn]
 repeat' (first|refine ae ?_|refine a6 ?_|refine a8 ?_|refine aa ?_|refine ah a7 rfl rfl ?_)
 refine ay rfl (fun h => ?_) (fun h => ?_)
 ·have hil : i < run.length := by have := Hz h; omega
  obtain ⟨x, hx⟩ : ∃ z, run[i]? = some z := ⟨_, Eg hil⟩
  have hxg := bO (c := cu) hx
  have hxa := hadv x (Hx hx)
  have e1 : a * ((i + 1 : Nat) : Int) = a * i + a := by rw [Hw, Int.mul_add]; simp
  have e2 : 0 ≤ a * (i : Int) := Int.mul_nonneg h0 (by omega)
  have e3 : a * (i : Int) ≤ 1000000 * 1000000 := Int.mul_le_mul ha (by omega) (by omega) (by omega)
  generalize a * (i : Int) = s at *
  repeat' (first|refine ae ?_|refine a6 ?_|refine ar ?_|refine aq ?_|refine a8 ?_|refine aR ?_|refine aa ?_|refine ah a7 rfl rfl ?_|(apply b6; refine aZ ?_)|(apply aO; first|refine aN a7 ?_|refine aH a7 ?_)|(apply aQ; first|refine ai 5 a7 0 rfl rfl rfl rfl rfl rfl rfl rfl ?_|refine ai 5 a7 1 rfl rfl rfl rfl rfl rfl rfl rfl ?_|refine ai 5 a7 2 rfl rfl rfl rfl rfl rfl rfl rfl ?_|refine aj a7 0 rfl rfl rfl rfl rfl rfl rfl ?_|refine aj a7 1 rfl rfl rfl rfl rfl rfl rfl ?_|refine aj a7 2 rfl rfl rfl rfl rfl rfl rfl ?_|refine aj a7 3 rfl rfl rfl rfl rfl rfl rfl ?_|fail)|refine aY a7 fun _=>?_|fail)
  rw [hxa, ← e1]
  exact aF (i + 1) rfl ⟨by rw [Hw]; rfl, rfl, trivial⟩ hil (by omega) (fun _ _ h => h)
 ·have hil : i = run.length := by have := Hy h; omega
  subst hil
  clear h
  repeat' (first|refine ae ?_|refine a6 ?_|refine am ?_|refine aL ?_|refine a8 ?_|refine av ?_|refine aA ?_|refine az ?_|refine aa ?_|refine ah a7 rfl rfl ?_)
  exact au rfl rfl rfl
end Go.Proofs.YtamjlkdanllgjaaGreatDoor
namespace Go.Proofs.YtamjlkdanllgjaaGreatDoor
open Go.RowKit
section
variable {P : Program} {fr : bJ} {B : Bs} {L : AL} {dd : Option Tmp} {ty t : TypeId} {pos : String} {af : Array Edge} {g : Option (Nat × Bool)} {x y : Operand}
theorem xq {e sz by_ n : Nat} {k k' : IntKind} {a b : Int} {z : List Value} (hc : ke P t e sz by_) (hz : CZ P e z) (hzl : z.length = sz) (h1 : z.all (·.oneCell') = true) (hsz : 0 < sz) (hx : bh fr x = some (.sc (.int k a))) (hy : bh fr y = some (.sc (.int k' b))) (ha : a = (n : Int)) (hb : b = (n : Int)) (hby : by_ * n ≤ 281474976710656) (hm : n ≤ maxLen) (h63 : n ≤ 9223372036854775807) :
  AO P ⟨dd, .makeSlice t x y, ty, pos, af, g⟩ fr B L (fun c L' => c = .imm sz (List.replicate n (z.map .sc)) ∧ L' = L) := by
 intro σ ρ w hρ hw
 subst ha hb
 have hr := jp (d := dd) (ty := ty) (pos := pos) (af := af) (g := g) hc hz hsz hby h63 (Nat.le_refl n) w ρ (hρ x _ hx).sc_inv (hρ y _ hy).sc_inv
 unfold fw
 rw [hr]
 have hmp : ∀ m, (List.replicate m (z.map AV.sc)).flatten = ((List.replicate m z).flatten).map AV.sc := by
  intro m
  induction m with
  | zero => rfl
  | succ m ih => rw [List.replicate_succ, List.replicate_succ, List.flatten_cons, List.flatten_cons, List.map_append, ih]
 have hfl : ((List.replicate n z).flatten).length = n * sz := by
  rw [← hzl]
  clear hr hmp h63 hby hm hx hy
  induction n with
  | zero => simp
  | succ m ih => rw [List.replicate_succ, List.flatten_cons, List.length_append, ih, Nat.add_mul, Nat.one_mul, Nat.add_comm]
 have ha := hw.alloc (.cells ((List.replicate n z).flatten).toArray e) (.vec e sz 0 n) ⟨_, rfl, by simp [hfl], Nat.zero_le _, hm⟩
 have hnb : (w.alloc (.cells ((List.replicate n z).flatten).toArray e)).heap[w.heap.size]? = some (.cells ((List.replicate n z).flatten).toArray e) := World.alloc_heap_new w _
 obtain ⟨hb, hle⟩ := ha.freezeHead (n' := n) (xs := (List.replicate n z).flatten) (fun j u hj => by rw [cC hnb]; simpa using hj) hfl (Nat.zero_le _) (Nat.le_refl _)
 refine ⟨_, _, _, hle, ?_, hb.sublist (.cons _ (List.Sublist.refl _)), rfl, rfl⟩
 have := iv (σ := σ.add w.heap.size ((List.replicate n z).flatten)) (b := w.heap.size) (cap := n) (l := List.replicate n (z.map AV.sc)) (xs := (List.replicate n z).flatten) (fun q hq => by rw [List.eq_of_mem_replicate hq, Hv, hzl]) (by
  rw [hmp]
  refine ⟨by simp, fun i c u hc hu => ?_⟩
  rw [List.getElem?_map, hu] at hc
  simp at hc
  subst hc
  exact .sc u) (fun u hu => by
  obtain ⟨q, hq, hu⟩ := List.mem_flatten.1 hu
  rw [List.eq_of_mem_replicate hq] at hu
  exact List.all_eq_true.1 h1 u hu) (by simp) hm (fun j u hj => bT.add_at hj)
 rw [List.length_replicate] at this
 exact this.im
end
section
variable {P : Program} {tt : TT} {l : List Oper} {fr : bJ} {fin : lc} {sk : mI} {acc : bJ} {L : AL} {k : Nat} {dd : Option Tmp} {ty t : TypeId} {pos : String} {af : Array Edge} {g : Option (Nat × Bool)} {x y : Operand}
theorem uu (ok : dG P tt) (n : Nat) (c : AV) {e sz by_ : Nat} {q q' : IntKind} {a b : Int} {zs : List Value} (ht : jH tt t = some (e, sz, by_)) (hz : zI tt e = some zs) (hzl : Nat.beq zs.length sz = true) (h1 : zs.all (·.oneCell') = true) (hx : bh (cO l.toArray acc fr af.toList) x = some (.sc (.int q a))) (hy : bh (cO l.toArray acc fr af.toList) y = some (.sc (.int q' b))) (ha : a = (n : Int)) (hb : b = (n : Int)) (hby : by_ * n ≤ 281474976710656) (hm : n ≤ maxLen) (h63 : n ≤ 9223372036854775807) (hg : jL ⟨dd, .makeSlice t x y, ty, pos, af, g⟩ acc) (hcc : AV.imm sz (List.replicate n (zs.map .sc)) = c) (h : DA P l fr fin sk ((k, c) :: acc) L) :
  cw P l fr fin k .v ⟨dd, .makeSlice t x y, ty, pos, af, g⟩ sk acc L := by
 subst hcc
 exact gp hg (fun _ _ => xq (bz ok ht).1 (ek ok hz) (Nat.eq_of_beq_eq_true hzl) h1 (bz ok ht).2 hx hy ha hb hby hm h63) h
end
end Go.Proofs.YtamjlkdanllgjaaGreatDoor
namespace Go.Proofs.YtamjlkdanllgjaaGreatDoor
open Go.RowKit
attribute [local irreducible] AT br AX AO Av Kt aW cZ DA cw
set_option maxRecDepth 8000
def FR (no : Bool) : List b7 := if no = true then [] else [rh ⟨#[97]⟩ 7]
def jg (no : Bool) : aP := dc (FR no) [] [] []
def qT (far : Bool) : List Int := if far = true then [5] else []
theorem qf (b : Bool) : Cu (FR b) := fun g hg => by
 cases b with
 | true => cases hg
 | false =>
  rw [List.mem_singleton.1 hg]
  rfl
theorem yl : (fV (jg false)).1 = 0 := nk (qf false) (by simp [FR]) (by decide) (by decide) (by decide) (by decide) (by decide)
theorem yn : (fV (jg true)).1 = 32 := rfl
theorem Dy (m : Nat) (far no : Bool) : hZ (jg no) (List.replicate m 0) (qT far) = if no = true then 32 else if 500 < m then 2 else if far = true then 1 else 0 := by
 unfold hZ
 rw [List.length_replicate]
 cases no with
 | true => rw [yn]; rfl
 | false =>
  rw [yl]
  by_cases h : 500 < m <;> cases far <;> simp [h, qT]
theorem ym {m : Nat} {no : Bool} : ∀ x ∈ cx (jg no) (List.replicate m 0), x.Glyph = 0 := fun x hx => by
 unfold cx at hx
 obtain ⟨a, _, rfl⟩ := List.mem_map.1 hx
 rfl
theorem Dz {m : Nat} {no : Bool} : (cx (jg no) (List.replicate m 0)).length = m := by
 unfold cx
 rw [Hv, (kR _).1, List.length_replicate]
theorem w5 : cq 0 = 0 := by decide
theorem oF (m : Nat) : List.replicate m [AV.sc (.int .i64 0)] = aT (List.replicate m 0) := by simp [aT]
theorem lF {rs : List Int} (h : ∀ j, cq (rs.getD j 0) ≠ 3) : ∀ (k a i : Nat), a ≤ i → i ≤ a + 1 → ∀ g ∈ iz rs k a i, g.2 - g.1 ≤ 1
 | 0, a, i, h1, h2, g, hg => by
  unfold iz at hg
  split at hg
  ·rw [List.mem_singleton.1 hg]
   show i - a ≤ 1
   omega
  ·cases hg
 | k + 1, a, i, h1, h2, g, hg => by
  unfold iz at hg
  split at hg
  ·rename_i hc
   have : i = a := hc.resolve_right (h i)
   exact lF h k a (i + 1) (by omega) (by omega) g hg
  ·rcases List.mem_cons.1 hg with rfl | hg
   ·show i - a ≤ 1
    omega
   ·exact lF h k i (i + 1) (by omega) (by omega) g hg
theorem C4 (m j : Nat) : (List.replicate m (0 : Int)).getD j 0 = 0 := by
 rw [List.getD_eq_getElem?_getD, List.getElem?_replicate]
 split <;> rfl
theorem y3 (m : Nat) : mY (List.replicate m 0) := fun g hg => by
 have h1 := tz (List.replicate m 0) g
 have h2 := lF (rs := List.replicate m 0) (fun j => by rw [C4, w5]; decide) _ _ _ (Nat.zero_le _) (Nat.zero_le _) g hg
 omega
set_option maxHeartbeats 8000000 in
theorem yo (n : Int) (h0 : 0 ≤ n) (h255 : n ≤ 255) (far no : Bool) : AC Tryz.prog 6 [.sc (.int .u8 n), ce far, ce no] [gR] fun c L => c = ce true ∧ L = [gR] := by
 refine aG Tryz.func6 rfl Tryz.ntmps6 rfl fun B => ?_
 haveI := AD.mk wF
 repeat' (first|refine ae ?_|refine a6 ?_|refine a8 ?_|refine aa ?_|refine ah a7 rfl rfl ?_|(apply bc;refine aX ?_)|fail)
 obtain ⟨m, hm, hme⟩ : ∃ m : Nat, m < 13 ∧ n.tmod 13 = m := ⟨(n.tmod 13).toNat, by rw [Int.tmod_eq_emod_of_nonneg h0]; omega, by rw [Int.tmod_eq_emod_of_nonneg h0]; omega⟩
 refine cg (EE rfl rfl (by decide)) rfl rfl ?_
 rw [hme]
 repeat' (first|fail)
 refine jj a7 rfl rfl rfl rfl rfl rfl ?_
 rw [show IntKind.wrap .i64 (m : Int) = (m : Int) from (by decide : ∀ k : Nat, k < 13 → IntKind.wrap .i64 (k : Int) = (k : Int)) m (by omega)]
 repeat' (first|refine ae ?_|refine a6 ?_|refine a8 ?_|refine aa ?_|refine ah a7 rfl rfl ?_|(apply b6; refine aZ ?_)|(apply aQ; first|refine ai 15 a7 0 rfl rfl rfl rfl rfl rfl rfl rfl ?_|refine ai 15 a7 1 rfl rfl rfl rfl rfl rfl rfl rfl ?_|refine ai 15 a7 2 rfl rfl rfl rfl rfl rfl rfl rfl ?_|refine aj a7 0 rfl rfl rfl rfl rfl rfl rfl ?_|refine aj a7 1 rfl rfl rfl rfl rfl rfl rfl ?_|refine aj a7 2 rfl rfl rfl rfl rfl rfl rfl ?_|refine aj a7 3 rfl rfl rfl rfl rfl rfl rfl ?_|fail)|refine aY a7 fun _=>?_|refine cE a7 ?_|fail)
 rename_i fb
 refine gW (α := Unit) [1, 2, 7, 8, 9] (fun _ => [(1, ce far), (2, ce no), (7, ce true), (8, aD (494 + m : Int)), (9, f0 fb)]) (fun _ => [(fb, .box (bH (jg no)) 36), gR]) (fun _ => True) (fun Q' K => ?_) (fun _ _ => ?_)
 ·refine ay rfl (fun h => ?_) (fun h => ?_)
  all_goals
   subst h
   repeat' (first|refine a6 ?_|refine aq ?_|refine aa ?_|refine ah a7 rfl rfl ?_|(apply aQ; first|refine ai 15 a7 0 rfl rfl rfl rfl rfl rfl rfl rfl ?_|refine ai 15 a7 1 rfl rfl rfl rfl rfl rfl rfl rfl ?_|refine ai 15 a7 2 rfl rfl rfl rfl rfl rfl rfl rfl ?_|refine aj a7 0 rfl rfl rfl rfl rfl rfl rfl ?_|refine aj a7 1 rfl rfl rfl rfl rfl rfl rfl ?_|refine aj a7 2 rfl rfl rfl rfl rfl rfl rfl ?_|refine aj a7 3 rfl rfl rfl rfl rfl rfl rfl ?_|fail))
   refine bf (dx 0 (cs' := bH (jg _)) rfl fun σ vs h => mL.vrs ?_ h) (K () _ trivial rfl)
   repeat' first | exact dJ.refl _ | exact dJ.nil _ | exact True.intro | refine dJ.agg ?_ | refine dJ.imm ?_ | refine And.intro ?_ ?_
 repeat' (first|refine ae ?_|refine a6 ?_|refine a8 ?_|refine aa ?_|refine ah a7 rfl rfl ?_|refine yF (d := 28) a7 fun _=>?_|fail)
 refine gW (α := Unit) [1, 2, 7, 8, 9, 10] (fun _ => [(1, ce far), (2, ce no), (7, ce true), (8, aD (494 + m : Int)), (9, f0 fb), (10, .imm 1 (aT (qT far)))]) (fun _ => [(fb, .box (bH (jg no)) 36), gR]) (fun _ => True) (fun Q' K => ?_) (fun _ _ => ?_)
 ·refine ay rfl (fun h => ?_) (fun h => ?_)
  ·subst h
   repeat' (first|refine a6 ?_|refine ah a7 rfl rfl ?_|refine cE a7 ?_|fail)
   refine cP a7 [(fb, .box (bH (jg no)) 36), gR] rfl rfl rfl rfl (Hp _) (by decide) (by decide) rfl fun q => ?_
   repeat' (first|refine aa ?_|refine ah a7 rfl rfl ?_)
   refine bf (bA (t := 10) (c' := .imm 1 (aT (qT true))) rfl fun σ v h => VR.im h) ?_
   refine cB (L' := [(fb, .box (bH (jg no)) 36), gR]) (List.sublist_append_right _ _) ?_
   exact K () _ trivial rfl
  ·subst h
   repeat' (first|refine aq ?_)
   refine bf (bA (t := 10) (c' := .imm 1 (aT (qT false))) rfl fun σ v h => VR.im h) ?_
   refine cB (L' := [(fb, .box (bH (jg no)) 36), gR]) (List.sublist_cons_self _ _) ?_
   exact K () _ trivial rfl
 have hst := fun x hx => ym (m := 494 + m) (no := no) x hx
 have hln := Dz (m := 494 + m) (no := no)
 have her := Dy (494 + m) far no
 have hrl : (List.replicate (494 + m) (0 : Int)).length ≤ 1000000 := by rw [List.length_replicate]; omega
 have htx : zY (jg no) (List.replicate (494 + m) 0) [⟨#[108, 105, 103, 97]⟩] := um hrl (y3 _) (Nat.zero_le _)
 have hsf : Eo (jg no) := rj (qf no) (by cases no <;> decide) (Nat.zero_le _)
 have hgl : hZ (jg no) (List.replicate (494 + m) 0) (qT far) = 0 → ∀ x ∈ cx (jg no) (List.replicate (494 + m) 0), 0 ≤ x.Glyph ∧ x.Glyph < (FR no).length := fun he x hx => by
  rw [hst x hx]
  cases no with
  | true => rw [her] at he; simp at he
  | false => decide
 have hsh := sg (jg no) hsf (List.replicate (494 + m) 0) (qT far) [⟨#[108, 105, 103, 97]⟩] [] _ htx fun he => ri hrl (hgl he)
 have hby := sV (jg no) hsf (List.replicate (494 + m) 0) (qT far) [⟨#[108, 105, 103, 97]⟩] [] htx (tI _ _ rfl).1 hgl
 haveI := AD.mk (xW (jg no) (ul (qf no) (by cases no <;> decide) (Nat.zero_le _) ⟨Nat.zero_le _, fun q hq => by cases hq⟩ ⟨Nat.zero_le _, fun q hq => by cases hq⟩) (qT far))
 unfold wG at hsh hby
 change AC _ _ _ _ fun c L => c = .tup [.imm 6 ((if hZ (jg no) (List.replicate (494 + m) 0) (qT far) = 0 then (cx (jg no) (List.replicate (494 + m) 0)).map (jN (jg no)) else []).map cu), aD (hZ (jg no) (List.replicate (494 + m) 0) (qT far))] ∧ L = [] at hsh
 generalize hR : (if hZ (jg no) (List.replicate (494 + m) 0) (qT far) = 0 then (cx (jg no) (List.replicate (494 + m) 0)).map (jN (jg no)) else []) = R at hsh hby
 generalize hE : hZ (jg no) (List.replicate (494 + m) 0) (qT far) = E at *
 repeat' (first|refine ae ?_)
 refine bF 10 [(0, .l), (1, .v), (3, .v), (4, .v), (2, .v), (5, .e), (6, .v), (7, .v), (8, .v), (9, .v)] none ?_ trivial rfl (by kernel_rfl) (by kernel_rfl) (by kernel_rfl) mixed (by kernel_rfl) rfl
 repeat' (first|refine aM ?_|refine bD a7 ?_|refine iK a7 ?_|refine mN a7 0 rfl rfl rfl rfl (by first|trivial|rfl) ?_)
 rw [show AV.agg (List.take 9 (List.drop 0 (bH (jg no)))) = cf (jg no) from rfl]
 refine uu a7 (494 + m) (.imm 1 (aT (List.replicate (494 + m) 0))) rfl rfl rfl rfl rfl rfl (by omega) (by omega) (by omega) (by unfold maxLen; omega) (by omega) (by first | trivial | rfl) (by rw [← oF]; rfl) ?_
 repeat' (first|refine aM ?_|fail)
 refine hQ [] [(fb, .box (bH (jg no)) 36), gR] hsh rfl rfl (Hp _) trivial fun c L1 ⟨hc, hL⟩ => ?_
 subst hc; subst hL
 repeat' (first|refine aM ?_|refine bD a7 ?_|fail)
 refine bM [1, 2, 7, 8, 9, 10, 11, 41] rfl rfl ?_
 repeat' (first|refine ae ?_|refine a8 ?_|refine aa ?_|refine ah a7 rfl rfl ?_)
 refine bF 10 [(0, .l), (1, .v), (3, .v), (4, .v), (2, .v), (5, .e), (6, .v), (7, .v), (8, .v), (9, .v)] none ?_ trivial rfl (by kernel_rfl) (by kernel_rfl) (by kernel_rfl) mixed (by kernel_rfl) rfl
 repeat' (first|refine aM ?_|refine bD a7 ?_|refine iK a7 ?_|refine mN a7 0 rfl rfl rfl rfl (by first|trivial|rfl) ?_)
 rw [show AV.agg (List.take 9 (List.drop 0 (bH (jg no)))) = cf (jg no) from rfl]
 refine uu a7 (494 + m) (.imm 1 (aT (List.replicate (494 + m) 0))) rfl rfl rfl rfl rfl rfl (by omega) (by omega) (by omega) (by unfold maxLen; omega) (by omega) (by first | trivial | rfl) (by rw [← oF]; rfl) ?_
 repeat' (first|refine aM ?_|fail)
 refine hQ [] [(fb, .box (bH (jg no)) 36), gR] hby rfl rfl (Hp _) trivial fun c L1 ⟨hc, hL⟩ => ?_
 subst hc; subst hL
 repeat' (first|refine aM ?_|refine bD a7 ?_|fail)
 refine bM [1, 2, 7, 8, 9, 10, 11, 12, 13, 50] rfl rfl ?_
 repeat' (first|refine ae ?_|refine a6 ?_|refine a8 ?_|refine aa ?_|refine ah a7 rfl rfl ?_|(apply c9; first|refine aC a7 0 rfl rfl rfl rfl rfl ?_|refine aC a7 1 rfl rfl rfl rfl rfl ?_|refine aC a7 2 rfl rfl rfl rfl rfl ?_|refine aC a7 3 rfl rfl rfl rfl rfl ?_|refine aJ a7 0 rfl rfl rfl rfl rfl ?_|refine aJ a7 1 rfl rfl rfl rfl rfl ?_|refine aJ a7 2 rfl rfl rfl rfl rfl ?_|refine aC a7 1 rfl rfl rfl (by assumption) rfl ?_|refine aC a7 0 rfl rfl rfl (by assumption) rfl ?_|fail)|fail)
 rw [show AV.agg (List.take 9 (List.drop 0 (bH (jg no)))) = cf (jg no) from rfl]
 repeat' (first|refine ae ?_|refine a6 ?_|refine a8 ?_|refine aa ?_|refine ah a7 rfl rfl ?_|(apply aQ; first|refine ai 15 a7 0 rfl rfl rfl rfl rfl rfl rfl rfl ?_|refine ai 15 a7 1 rfl rfl rfl rfl rfl rfl rfl rfl ?_|refine ai 15 a7 2 rfl rfl rfl rfl rfl rfl rfl rfl ?_|refine aj a7 0 rfl rfl rfl rfl rfl rfl rfl ?_|refine aj a7 1 rfl rfl rfl rfl rfl rfl rfl ?_|refine aj a7 2 rfl rfl rfl rfl rfl rfl rfl ?_|refine aj a7 3 rfl rfl rfl rfl rfl rfl rfl ?_|fail)|refine aY a7 fun _=>?_|(apply bc;refine aX ?_)|fail)
 refine gW (α := Unit) [1, 2, 7, 8, 11, 12, 13, 14, 17] (fun _ => [(1, ce far), (2, ce no), (7, ce true), (8, aD (494 + m : Int)), (11, .imm 6 (R.map cu)), (12, aD E), (13, .imm 6 (R.map cu)), (14, aD E), (17, aD (if 500 < 494 + m then 2 else if qT far = [] then 0 else 1))]) (fun _ => [gR]) (fun _ => True) (fun Q' K => ?_) (fun _ _ => ?_)
 ·refine ay rfl (fun h => ?_) (fun h => ?_)
  ·rw [if_pos (by have := Hz h; omega)] at K
   repeat' (first|refine a6 ?_|refine aa ?_|refine ah a7 rfl rfl ?_)
   refine cB (L' := [gR]) (List.sublist_cons_self _ _) ?_
   exact K () _ trivial rfl
  ·rw [if_neg (by have := Hy h; omega)] at K
   repeat' (first|refine aq ?_)
   refine cB (L' := [gR]) (List.sublist_cons_self _ _) ?_
   exact K () _ trivial rfl
 repeat' (first|refine ae ?_|refine a6 ?_|refine a8 ?_|refine aa ?_|refine ah a7 rfl rfl ?_)
 have her2 : E = if no = true then 32 else if 500 < 494 + m then 2 else if qT far = [] then 0 else 1 := by rw [her]; cases far <;> rfl
 refine gW (α := Unit) [1, 2, 7, 8, 11, 12, 13, 14, 17] (fun _ => [(1, ce far), (2, ce no), (7, ce true), (8, aD (494 + m : Int)), (11, .imm 6 (R.map cu)), (12, aD E), (13, .imm 6 (R.map cu)), (14, aD E), (17, aD (if no = true then 32 else if 500 < 494 + m then 2 else if qT far = [] then 0 else 1))]) (fun _ => [gR]) (fun _ => True) (fun Q' K => ?_) (fun _ _ => ?_)
 ·refine ay rfl (fun h => ?_) (fun h => ?_)
  all_goals
   subst h
   repeat' (first|refine a6 ?_|refine aq ?_|refine aa ?_|refine ah a7 rfl rfl ?_)
   exact K () _ trivial rfl
 rw [← her2]
 have hRl : R.length ≤ 1000000 := by
  rw [← hR]
  split
  ·rw [Hv, hln]; omega
  ·exact Nat.zero_le _
 have hsame := se R R hRl
 rw [decide_eq_true (show R = R from rfl)] at hsame
 haveI := AD.mk hsame
 repeat' (first|refine ae ?_|refine a6 ?_|refine ah a7 rfl rfl ?_)
 rw [show decide (E ≠ E) = false from decide_eq_false fun h => h rfl]
 repeat' (first|refine ah a7 rfl rfl ?_|refine aB rfl rfl ?_)
 rw [show decide (E ≠ E) = false from decide_eq_false fun h => h rfl]
 have hw : E = 0 → bw Tryz.prog 24 [.imm 6 (R.map cu)] (aD (7 * R.length)) := fun he => by
  refine wS 7 (by decide) (by decide) R hRl fun x hx => ?_
  rw [← hR, if_pos he] at hx
  obtain ⟨y, hy, rfl⟩ := List.mem_map.1 hx
  have hg := hst y hy
  have hno : no = false := by cases no with
   | true => rw [her] at he; simp at he
   | false => rfl
  subst hno
  unfold jN
  rw [hg]
  rfl
 have hl : E = 0 → R.length = 494 + m := fun he => by rw [← hR, if_pos he, Hv, hln]
 clear hR hsh hby hst hgl her
 by_cases h5 : 500 < 494 + m
 ·rw [if_pos h5] at her2
  cases far <;> cases no
  all_goals
   have her2 := her2
   simp only [if_true, Bool.false_eq_true, if_false] at her2
   subst her2
   repeat' (first|refine ae ?_|refine a6 ?_|refine aq ?_|refine a8 ?_|refine aa ?_|refine ah a7 rfl rfl ?_|refine aB rfl rfl ?_|refine aE rfl rfl rfl rfl ?_|(apply bc;refine aX ?_)|refine bi rfl ?_)
   (try rw [show decide ((494 + (m : Int)) ≤ 500) = false from decide_eq_false (by omega)])
   repeat' (first|fail)
   refine cg (sE rfl rfl Tryz.underlying4) rfl rfl ?_
   repeat' (first|refine am ?_|refine a8 ?_|refine aa ?_|refine ah a7 rfl rfl ?_|refine aB rfl rfl ?_|refine aE rfl rfl rfl rfl ?_|refine cr rfl rfl rfl ?_)
   exact au rfl rfl ⟨rfl, rfl⟩
 ·rw [if_neg h5] at her2
  by_cases hz : far = false ∧ no = false
  ·obtain ⟨rfl, rfl⟩ := hz
   rw [if_neg (by simp), if_pos (show qT false = [] from rfl)] at her2
   subst her2
   haveI := AD.mk (hw rfl)
   have hl0 : (R.map cu).length = 494 + m := by rw [Hv]; exact hl rfl
   have hl1 := hl rfl
   repeat' (first|refine ae ?_|refine a6 ?_|refine aq ?_|refine a8 ?_|refine aa ?_|refine ah a7 rfl rfl ?_|refine aB rfl rfl ?_|(apply bc;refine aX ?_)|refine bi rfl ?_)
   refine cg (sE rfl rfl Tryz.underlying4) rfl rfl ?_
   rw [show decide ((494 + (m : Int)) ≤ 500) = true from decide_eq_true (by omega)]
   repeat' (first|refine ah a7 rfl rfl ?_|refine aB rfl rfl ?_)
   rw [show decide (((R.map cu).length : Int) = 494 + (m : Int)) = true from decide_eq_true (by omega)]
   repeat' (first|refine am ?_|refine a8 ?_|refine aa ?_|refine ah a7 rfl rfl ?_|refine aB rfl rfl ?_|(apply b6; refine aZ ?_)|(apply bc;refine aX ?_)|fail)
   rw [show decide (7 * (R.length : Int) = 7 * (494 + (m : Int))) = true from decide_eq_true (by omega)]
   repeat' (first|fail)
   exact au rfl rfl ⟨rfl, rfl⟩
  ·cases far <;> cases no
   ·exact absurd ⟨rfl, rfl⟩ hz
   all_goals
    have her2 := her2
    simp only [if_true, Bool.false_eq_true, if_false, qT] at her2
    (try rw [if_neg (by simp)] at her2)
    subst her2
    repeat' (first|refine ae ?_|refine a6 ?_|refine aq ?_|refine a8 ?_|refine aa ?_|refine ah a7 rfl rfl ?_|refine aB rfl rfl ?_|refine aE rfl rfl rfl rfl ?_|(apply bc;refine aX ?_)|refine bi rfl ?_)
    refine cg (sE rfl rfl Tryz.underlying4) rfl rfl ?_
    repeat' (first|refine am ?_|refine a8 ?_|refine aa ?_|refine ah a7 rfl rfl ?_|refine aB rfl rfl ?_|refine aE rfl rfl rfl rfl ?_|refine cr rfl rfl rfl ?_)
    exact au rfl rfl ⟨rfl, rfl⟩
end Go.Proofs.YtamjlkdanllgjaaGreatDoor
