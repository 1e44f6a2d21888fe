/-
  Fonts as data, and as abstract values.
-/
import Derived.Test.YtjjpkibjffmceaaGreatM05
import Derived.Test.YtjjpkibjffmceaaGreatM04
import Derived.MapKept
import Derived.Test.YtjjpkibjffmceaaGreatRows
import Derived.WalkKit
import Derived.ProofKit
import Derived.OpenShut
import Derived.ShutString
import Derived.ChangeOld
import Derived.Below
import Derived.Deep.Slices
import Derived.Deep.SlicePairs
import Derived.Lib.SmallJoins
import Derived.SizedLaws
namespace Go.Proofs.YtjjpkibjffmceaaGreat
open Go.RowKit
abbrev aM (z : Int) : AV := .sc (.int .i64 z)
abbrev kf (s : ByteArray) : AV := .sc (.string s)
abbrev cF (b : Bool) : AV := .sc (.bool b)
structure ei where
 X : Int
 Y : Int
 On : Bool
structure cB where
 Glyph : Int
 X : Int
 Y : Int
structure dt where
 Kind : Int
 Class : Int
 X : Int
 Y : Int
structure dB where
 Region : Int
 Point : Int
 X : Int
 Y : Int
structure eb where
 Op : Int
 A : Int
structure bf where
 Name : ByteArray
 Advance : Int
 Mark : Bool
 Points : List ei
 Ends : List Int
 Parts : List cB
 Anchors : List dt
 Deltas : List dB
 Hint : List eb
structure dO where
 Rune : Int
 Glyph : Int
structure fF where
 At : Int
 Lookup : Int
structure bV where
 Back : List (List Int)
 In : List (List Int)
 Ahead : List (List Int)
 Out : List Int
 Calls : List fF
 X : Int
structure b9 where
 Kind : Int
 Ignore : Bool
 Rules : List bV
structure bL where
 Name : ByteArray
 Lookups : List Int
structure dY where
 Name : ByteArray
 Min : Int
 Def : Int
 Max : Int
structure dS where
 Start : Int
 Peak : Int
 End : Int
structure aJ where
 Unit : Int
 Glyphs : List bf
 Chars : List dO
 Lookups : List b9
 Features : List bL
 Axes : List dY
 Regions : List (List dS)
 Funcs : List (List eb)
 Cvt : List Int
def bq (l : List (List Int)) : List (List AV) := l.map fun q => [.imm 1 (aU q)]
def gi (l : List ByteArray) : List (List AV) := l.map fun s => [kf s]
def cP (p : ei) : List AV := [aM p.X, aM p.Y, cF p.On]
def cn (p : cB) : List AV := [aM p.Glyph, aM p.X, aM p.Y]
def ct (p : dt) : List AV := [aM p.Kind, aM p.Class, aM p.X, aM p.Y]
def cW (p : dB) : List AV := [aM p.Region, aM p.Point, aM p.X, aM p.Y]
def dH (p : eb) : List AV := [aM p.Op, aM p.A]
def bb (g : bf) : List AV := [kf g.Name, aM g.Advance, cF g.Mark, .imm 3 (g.Points.map cP), .imm 1 (aU g.Ends), .imm 3 (g.Parts.map cn), .imm 4 (g.Anchors.map ct), .imm 4 (g.Deltas.map cW), .imm 2 (g.Hint.map dH)]
def ci (c : dO) : List AV := [aM c.Rune, aM c.Glyph]
def dP (c : fF) : List AV := [aM c.At, aM c.Lookup]
def bC (r : bV) : List AV := [.imm 1 (bq r.Back), .imm 1 (bq r.In), .imm 1 (bq r.Ahead), .imm 1 (aU r.Out), .imm 2 (r.Calls.map dP), aM r.X]
def bn (l : b9) : List AV := [aM l.Kind, cF l.Ignore, .imm 6 (l.Rules.map bC)]
def bw (t : bL) : List AV := [kf t.Name, .imm 1 (aU t.Lookups)]
def cC (a : dY) : List AV := [kf a.Name, aM a.Min, aM a.Def, aM a.Max]
def gH (t : dS) : List AV := [aM t.Start, aM t.Peak, aM t.End]
def bo (r : List dS) : List AV := [.imm 3 (r.map gH)]
def cQ (l : List eb) : List AV := [.imm 2 (l.map dH)]
def bZ (f : aJ) : List AV := [aM f.Unit, .imm 9 (f.Glyphs.map bb), .imm 2 (f.Chars.map ci), .imm 3 (f.Lookups.map bn), .imm 2 (f.Features.map bw), .imm 4 (f.Axes.map cC), .imm 1 (f.Regions.map bo), .imm 1 (f.Funcs.map cQ), .imm 1 (aU f.Cvt)]
abbrev cr (f : aJ) : AV := .agg (bZ f)
theorem bj {α : Type} {c : α → List AV} {l : List α} {i : Nat} {a : α} (h : l[i]? = some a) : (l.map c)[i]? = some (c a) := by simp [h]
theorem fR (l : List ByteArray) : (gi l).length = l.length := by simp [gi]
theorem ta {l : List ByteArray} {i : Nat} {z : ByteArray} (h : l[i]? = some z) : (gi l)[i]? = some [kf z] := by simp [gi, h]
theorem fC (l : List (List Int)) : (bq l).length = l.length := by simp [bq]
theorem qr {l : List (List Int)} {i : Nat} {z : List Int} (h : l[i]? = some z) : (bq l)[i]? = some [.imm 1 (aU z)] := by simp [bq, h]
end Go.Proofs.YtjjpkibjffmceaaGreat
namespace Go.Proofs.YtjjpkibjffmceaaGreat
open Go.RowKit
attribute [local irreducible] AT bT AX AO Av Kt bk ej DA cX
def gc (l : List ByteArray) (s : ByteArray) : Bool := l.any fun t => decide (t = s)
theorem oE {l : List ByteArray} {s : ByteArray} : gc l s = true ↔ s ∈ l := by
 unfold gc
 rw [List.any_eq_true]
 constructor
 ·rintro ⟨t, h1, h2⟩; rw [← Gz h2]; exact h1
 ·intro h; exact ⟨s, h, decide_eq_true rfl⟩
def lA (f : aJ) (n : Int) : Bool := match f.Lookups[n.toNat]? with
 | some l => decide (0 ≤ n ∧ (l.Kind = 1 ∨ l.Kind = 2 ∨ l.Kind = 3 ∨ l.Kind = 4))
 | none => false
theorem qN (f : aJ) (n : Int) : bO Tryz.prog 50 [cr f, aM n] (cF (lA f n)) := by
 refine aP Tryz.func50 rfl Tryz.ntmps50 rfl fun B => ?_
 repeat' (first|refine ah ?_|refine a7 ?_|refine a8 ?_|refine aa ?_|refine ae a6 rfl rfl ?_|refine be ?_|fail)
 refine dJ [1, 2] (n < 0 ∨ (f.Lookups.length : Int) ≤ n) rfl (fun Q' K => ?_) (fun hC => ?_) (fun hC => ?_)
 ·repeat' (first|refine aa ?_|refine ae a6 rfl rfl ?_|refine aG rfl rfl ?_|refine aL rfl rfl rfl rfl ?_|refine bc rfl rfl rfl (fun _ => ?_) (fun _ => ?_))
  all_goals exact K _ _ rfl rfl (by simp_all <;> omega)
 ·repeat' (first|refine ah ?_|refine a7 ?_|refine ar ?_|refine a8 ?_|refine aF ?_|refine aa ?_|refine ae a6 rfl rfl ?_)
  refine aA rfl rfl ?_
  unfold lA
  split
  ·rename_i l hl
   have := (Gn hl).1
   rw [decide_eq_false (by omega)]
  ·rfl
 ·obtain ⟨l, hl⟩ : ∃ l, f.Lookups[n.toNat]? = some l := ⟨_, Ds (by omega)⟩
  have hlg := bj (c := bn) hl
  have hcn : lA f n = decide (l.Kind = 1 ∨ l.Kind = 2 ∨ l.Kind = 3 ∨ l.Kind = 4) := by
   unfold lA
   rw [hl]
   simp only [show 0 ≤ n by omega, true_and]
  rw [hcn]
  repeat' (first|refine ah ?_|refine a7 ?_|refine aq ?_|refine au ?_|refine a8 ?_|refine aa ?_|refine ae a6 rfl rfl ?_|(apply aY; first|refine aX a6 ?_|refine aS a6 ?_)|fail)
  refine aw rfl (fun h1 => ?_) (fun h1 => ?_)
  ·repeat' (first|refine au ?_|refine a8 ?_)
   refine aw rfl (fun _ => ?_) (fun h' => absurd (h1.symm.trans h') (by decide))
   repeat' (first|refine ah ?_|refine a7 ?_|refine ar ?_|refine a8 ?_|refine aF ?_|refine aT ?_|refine aa ?_|refine ae a6 rfl rfl ?_)
   refine aA rfl rfl ?_
   rw [decide_eq_true (Or.inl (Gz h1))]
  repeat' (first|refine ah ?_|refine a7 ?_|refine a8 ?_|refine aa ?_|refine ae a6 rfl rfl ?_)
  refine aw rfl (fun h2 => ?_) (fun h2 => ?_)
  ·repeat' (first|refine au ?_|refine a8 ?_)
   refine aw rfl (fun _ => ?_) (fun h' => absurd (h2.symm.trans h') (by decide))
   repeat' (first|refine ah ?_|refine a7 ?_|refine ar ?_|refine a8 ?_|refine aF ?_|refine aT ?_|refine aa ?_|refine ae a6 rfl rfl ?_)
   refine aA rfl rfl ?_
   rw [decide_eq_true (Or.inr (Or.inl (Gz h2)))]
  repeat' (first|refine ah ?_|refine a7 ?_|refine a8 ?_|refine aa ?_|refine ae a6 rfl rfl ?_)
  refine aw rfl (fun h3 => ?_) (fun h3 => ?_)
  ·repeat' (first|refine au ?_|refine a8 ?_)
   refine aw rfl (fun _ => ?_) (fun h' => absurd (h3.symm.trans h') (by decide))
   repeat' (first|refine ah ?_|refine a7 ?_|refine ar ?_|refine a8 ?_|refine aF ?_|refine aT ?_|refine aa ?_|refine ae a6 rfl rfl ?_)
   refine aA rfl rfl ?_
   rw [decide_eq_true (Or.inr (Or.inr (Or.inl (Gz h3))))]
  repeat' (first|refine a7 ?_|refine a8 ?_|refine aa ?_|refine ae a6 rfl rfl ?_)
  refine aw rfl (fun h4 => ?_) (fun h4 => ?_)
  ·repeat' (first|refine ah ?_|refine a7 ?_|refine ar ?_|refine a8 ?_|refine aF ?_|refine aT ?_|refine aa ?_|refine ae a6 rfl rfl ?_)
   refine aA rfl rfl ?_
   rw [decide_eq_true (Or.inr (Or.inr (Or.inr (Gz h4))))]
  repeat' (first|refine ah ?_|refine a7 ?_|refine au ?_|refine ar ?_|refine a8 ?_|refine aI ?_|refine aa ?_|refine ae a6 rfl rfl ?_)
  refine aA rfl rfl ?_
  rw [decide_eq_false]
  intro hh
  rcases hh with hh | hh | hh | hh
  ·exact Gy h1 hh
  ·exact Gy h2 hh
  ·exact Gy h3 hh
  ·exact Gy h4 hh
instance (f : aJ) (n : Int) : AD Tryz.prog 50 [cr f, aM n] (cF (lA f n)) := ⟨qN f n⟩
def pe (l : List (List Int)) : Nat := (l.map fun q => 1 + q.length).sum
def nu (r : bV) : Nat := r.Out.length + r.Calls.length + (pe r.Back + pe r.In + pe r.Ahead)
def l9 (l : List bV) : Nat := l.length + (l.map nu).sum
def mG (g : bf) : Nat := g.Points.length + g.Parts.length + g.Anchors.length + g.Deltas.length + g.Hint.length + g.Name.size / 100
def featN (t : bL) : Nat := t.Lookups.length + t.Name.size / 100
def kF (f : aJ) : Nat := f.Glyphs.length + f.Chars.length + f.Lookups.length + f.Features.length + f.Axes.length + f.Regions.length + f.Funcs.length + f.Cvt.length + (f.Glyphs.map mG).sum + (f.Lookups.map fun l => l9 l.Rules).sum + (f.Funcs.map (·.length)).sum + (f.Features.map featN).sum + (f.Regions.map (·.length)).sum
def dZ (f : aJ) : Prop := kF f ≤ 2000
theorem rB {α : Type} {g : α → Nat} {l : List α} {a : α} (h : a ∈ l) : g a ≤ (l.map g).sum := by
 induction l with
 | nil => cases h
 | cons b l ih =>
  rw [Gp, List.sum_cons]
  rcases List.mem_cons.1 h with h | h
  ·subst h; omega
  ·have := ih h; omega
section
variable {f : aJ} (hs : dZ f)
include hs
theorem dZ.glyphs : f.Glyphs.length ≤ 2000 := by unfold dZ kF at hs; omega
theorem dZ.lookups : f.Lookups.length ≤ 2000 := by unfold dZ kF at hs; omega
theorem dZ.features : f.Features.length ≤ 2000 := by unfold dZ kF at hs; omega
theorem dZ.rules {l : b9} (h : l ∈ f.Lookups) : l9 l.Rules ≤ 2000 := by
 have := rB (g := fun l : b9 => l9 l.Rules) h
 unfold dZ kF at hs
 omega
theorem dZ.rulesL {l : b9} (h : l ∈ f.Lookups) : l.Rules.length ≤ 2000 := by
 have := hs.rules h
 unfold l9 at this
 omega
theorem dZ.rule {l : b9} {r : bV} (h : l ∈ f.Lookups) (hr : r ∈ l.Rules) : nu r ≤ 2000 := by
 have := hs.rules h
 have := rB (g := nu) hr
 unfold l9 at *
 omega
theorem dZ.calls {l : b9} {r : bV} (h : l ∈ f.Lookups) (hr : r ∈ l.Rules) : r.Calls.length ≤ 2000 := by
 have := hs.rule h hr
 unfold nu at this
 omega
theorem dZ.out {l : b9} {r : bV} (h : l ∈ f.Lookups) (hr : r ∈ l.Rules) : r.Out.length ≤ 2000 := by
 have := hs.rule h hr
 unfold nu at this
 omega
end
inductive kB (f : aJ) (fs : List ByteArray) : Int → Prop
 | base {t : bL} {n : Int} (h : t ∈ f.Features) (hn : gc fs t.Name = true) (hm : n ∈ t.Lookups) (h0 : 0 ≤ n) (h1 : n < f.Lookups.length) : kB f fs n
 | call {m : Int} {l : b9} {r : bV} {c : fF} (h : kB f fs m) (hl : f.Lookups[m.toNat]? = some l) (hk : l.Kind = 4) (hr : r ∈ l.Rules) (hc : c ∈ r.Calls) (hn : lA f c.Lookup = true) : kB f fs c.Lookup
theorem s5 {f : aJ} {n : Int} (h : lA f n = true) : 0 ≤ n ∧ n < f.Lookups.length := by
 unfold lA at h
 split at h
 ·rename_i l hl
  have := (Gn hl).1
  have := Gz h
  omega
 ·cases h
theorem kB.in {f : aJ} {fs : List ByteArray} {n : Int} (h : kB f fs n) : 0 ≤ n ∧ n < f.Lookups.length := by
 cases h with
 | base _ _ _ h0 h1 => exact ⟨h0, h1⟩
 | call _ _ _ _ _ h => exact s5 h
theorem zx {l : List Int} {n : Nat} {z : Int} : z ∈ lb l n ↔ z ∈ l ∧ 0 ≤ z ∧ z < n := by
 unfold lb
 rw [List.mem_filter, List.mem_map]
 constructor
 ·rintro ⟨⟨i, hi, rfl⟩, h⟩
  rw [List.mem_range] at hi
  refine ⟨by simpa using h, by simp, by simpa using hi⟩
 ·rintro ⟨h, h0, h1⟩
  exact ⟨⟨z.toNat, by rw [List.mem_range]; omega, by simp; omega⟩, by simpa using h⟩
theorem uF (l : List Int) (n : Nat) : (lb l n).Nodup := by
 unfold lb
 rw [List.nodup_iff_pairwise_ne]
 refine List.Pairwise.filter _ ?_
 rw [List.pairwise_map]
 exact (List.nodup_iff_pairwise_ne.1 List.nodup_range).imp fun h e => h (by injection e)
open Classical in
noncomputable def dx (f : aJ) (fs : List ByteArray) : List Int := ((List.range f.Lookups.length).map Int.ofNat).filter fun z => decide (kB f fs z)
open Classical in
theorem uG {f : aJ} {fs : List ByteArray} {l : List Int} (h : ∀ z : Int, 0 ≤ z → z < f.Lookups.length → (z ∈ l ↔ kB f fs z)) : lb l f.Lookups.length = dx f fs := by
 unfold lb dx
 refine List.filter_congr fun z hz => ?_
 rw [List.mem_map] at hz
 obtain ⟨i, hi, rfl⟩ := hz
 rw [List.mem_range] at hi
 have := h (Int.ofNat i) (by simp) (by simpa using hi)
 rw [Bool.eq_iff_iff, List.contains_iff_mem, decide_eq_true_iff]
 exact this
theorem gw {l : List Int} {n : Nat} (h : l.Nodup) (hi : ∀ z ∈ l, 0 ≤ z ∧ z < n) : l.length ≤ n := by
 induction n generalizing l with
 | zero =>
  cases l with
  | nil => exact Nat.zero_le _
  | cons a l => have := hi a (List.mem_cons_self ..); omega
 | succ n ih =>
  by_cases hm : (n : Int) ∈ l
  ·have h1 := ih (l := l.erase n) (h.erase _) fun z hz => by
    have := (h.mem_erase_iff).1 hz
    have := hi z this.2
    omega
   rw [List.length_erase_of_mem hm] at h1
   omega
  ·have := ih h fun z hz => by
    have := hi z hz
    have : z ≠ n := fun e => hm (e ▸ hz)
    omega
   omega
end Go.Proofs.YtjjpkibjffmceaaGreat
namespace Go.Proofs.YtjjpkibjffmceaaGreat
open Go.RowKit Go.MapKept
def jB (d : TypeDesc) (m : Value → Option AV) (σ : cw) (o : Obj) : Prop :=
 ∃ es clock, o = .map es clock ∧ (∀ x ∈ es.toList, IsKey d x.key ∧ ∃ c, m x.key = some c ∧ VR σ c x.val) ∧ es.toList.Pairwise (fun x y => x.key ≠ y.key) ∧ ∀ k c, m k = some c → ∃ x ∈ es.toList, x.key = k
def cj (d : TypeDesc) (m : Value → Option AV) : AB := .dep (jB d m) fun σ τ o hle ⟨es, clock, h1, h2, h3, h4⟩ => ⟨es, clock, h1, fun x hx => by
 obtain ⟨a, c, e, f⟩ := h2 x hx
 exact ⟨a, c, e, f.mono hle⟩, h3, h4⟩
theorem jB.none {d : TypeDesc} {m : Value → Option AV} {σ : cw} {es : Array MapEntry} {clock : Nat} {k : Value} (h : jB d m σ (.map es clock)) (hk : IsKey d k) (hm : m k = none) : Instr.findNow d k es.toList 0 = some none := by
 obtain ⟨es', clock', h1, h2, h3, h4⟩ := h
 cases h1
 rcases findNow_spec hk es.toList 0 (fun x hx => (h2 x hx).1) with ⟨h5, _⟩ | ⟨j, e, h5, h6, h7⟩
 ·exact h5
 ·obtain ⟨_, c, h8, _⟩ := h2 e (Gx h6)
  rw [h7, hm] at h8
  cases h8
theorem jB.some {d : TypeDesc} {m : Value → Option AV} {σ : cw} {es : Array MapEntry} {clock : Nat} {k : Value} {c : AV} (h : jB d m σ (.map es clock)) (hk : IsKey d k) (hm : m k = some c) : ∃ (j : Nat) (e : MapEntry), Instr.findNow d k es.toList 0 = some (some (j, e.val)) ∧ es[j]? = some e ∧ e.key = k ∧ VR σ c e.val := by
 obtain ⟨es', clock', h1, h2, h3, h4⟩ := h
 cases h1
 rcases findNow_spec hk es.toList 0 (fun x hx => (h2 x hx).1) with ⟨_, h5⟩ | ⟨j, e, h5, h6, h7⟩
 ·obtain ⟨x, hx, hk'⟩ := h4 k c hm
  exact absurd hk' (h5 x hx)
 ·obtain ⟨_, c', h8, h9⟩ := h2 e (Gx h6)
  rw [h7, hm] at h8
  cases h8
  exact ⟨j, e, by simpa using h5, by simpa using h6, h7, h9⟩
section
variable {P : Program} {fr : ca} {B : Bs} {L : AL} {d : Option Tmp} {ty t : TypeId} {pos : String} {af : Array Edge} {g : Option (Nat × Bool)} {x y z : Operand} {u : AV}
theorem tE (kd : TypeDesc) : AO P ⟨d, .makeMap t none, ty, pos, af, g⟩ fr B L (fun c L' => ∃ b, c = .sc (.map (some b)) ∧ L' = (b, cj kd fun _ => none) :: L) := by
 intro σ ρ w hρ hw
 have hr : (execOp ρ ⟨d, .makeMap t none, ty, pos, af, g⟩).run P w = .ok (.value (.map (some w.heap.size))) (w.alloc (.map #[] 0)) := by
  simp [execOp, Instr.makeMap]
 unfold iD
 rw [hr]
 exact ⟨σ, _, _, cw.le_refl _, .sc _, hw.alloc _ (cj kd fun _ => Option.none) ⟨#[], 0, rfl, by simp, by simp, by simp⟩, _, rfl, rfl⟩
theorem qK (i : Nat) {b kt et : Nat} {kd : TypeDesc} {k : Value} {m m' : Value → Option AV} (ht : P.underlying t = some (.map kt et)) (hkt : P.underlying kt = some kd) (hx : bH fr x = some (.sc (.map (some b)))) (hy : bH fr y = some (.sc k)) (hk : IsKey kd k) (hz : bH fr z = some u) (hL : L[i]? = some (b, cj kd m)) (h1 : m' k = some u) (h2 : ∀ q, q ≠ k → m' q = m q) :
  AO P ⟨d, .mapUpdate t x y z, ty, pos, af, g⟩ fr B L (fun _ L' => L' = fS L i (cj kd m')) := by
 intro σ ρ w hρ hw
 obtain ⟨o, ho, hM⟩ := hw.here _ (Gx hL)
 have hM' : jB kd m σ o := hM
 obtain ⟨es, clock, rfl, h3, h4, h5⟩ := hM'
 have hM' : jB kd m σ (.map es clock) := hM
 have hv := hρ z u hz
 have hlt : b < w.heap.size := (Array.getElem?_eq_some_iff.1 ho).1
 have key : ∃ es' clock', (Instr.mapUpdate t (.map (some b)) k (ρ z)).run P w = .ok () (w.putObj b (.map es' clock')) ∧ jB kd m' σ (.map es' clock') := by
  cases hm : m k with
  | none =>
   refine ⟨es.push ⟨k, ρ z, clock⟩, clock + 1, ?_, _, _, rfl, ?_, ?_, ?_⟩
   ·simp [Instr.mapUpdate, run_underlying ht, MapKept.run_getObj_map ho, run_checkKey hkt hk, run_findKey hkt (hM'.none hk hm), MapKept.run_setObj_map _ ho, Result.andThen, World.putObj]
   ·intro e he
    rw [Array.toList_push, List.mem_append, List.mem_singleton] at he
    rcases he with he | rfl
    ·obtain ⟨h6, c, h7, h8⟩ := h3 e he
     exact ⟨h6, c, by rw [h2 _ (fun e1 => by rw [e1, hm] at h7; cases h7)]; exact h7, h8⟩
    ·exact ⟨hk, u, h1, hv⟩
   ·rw [Array.toList_push, List.pairwise_append]
    refine ⟨h4, by simp, fun e he e' he' => ?_⟩
    rw [List.mem_singleton] at he'
    subst he'
    obtain ⟨_, c, h7, _⟩ := h3 e he
    exact fun e1 => by rw [e1, hm] at h7; cases h7
   ·intro q c hq
    by_cases e : q = k
    ·subst e
     exact ⟨_, by rw [Array.toList_push]; exact List.mem_append.2 (Or.inr (List.mem_singleton.2 rfl)), rfl⟩
    ·rw [h2 q e] at hq
     obtain ⟨y, hy, hy'⟩ := h5 q c hq
     exact ⟨y, by rw [Array.toList_push]; exact List.mem_append.2 (Or.inl hy), hy'⟩
  | some c =>
   obtain ⟨j, e, h6, h7, h8, h9⟩ := hM'.some hk hm
   have hdis : ∀ n e', es[n]? = some e' → ¬ j = n → e'.key ≠ k := by
    intro n e' hn hne
    rw [← Array.getElem?_toList] at hn h7
    rw [← h8]
    rw [List.pairwise_iff_getElem] at h4
    obtain ⟨hj1, hj2⟩ := Gn h7
    obtain ⟨hn1, hn2⟩ := Gn hn
    rcases Nat.lt_or_gt_of_ne hne with hlt | hgt
    ·have := h4 j n hj1 hn1 hlt
     rw [hj2, hn2] at this
     exact this.symm
    ·have := h4 n j hn1 hj1 hgt
     rw [hj2, hn2] at this
     exact this
   refine ⟨es.modify j (fun e' => { e' with key := k, val := ρ z }), clock, ?_, _, _, rfl, ?_, ?_, ?_⟩
   ·simp [Instr.mapUpdate, run_underlying ht, MapKept.run_getObj_map ho, run_checkKey hkt hk, run_findKey hkt h6, h7, h8, run_keyThatStays hk, MapKept.run_setObj_map _ ho, Result.andThen, World.putObj]
   ·intro e' he'
    obtain ⟨n, hn⟩ := List.mem_iff_getElem?.1 he'
    rw [Array.getElem?_toList, Array.getElem?_modify] at hn
    by_cases e1 : j = n
    ·subst e1
     rw [if_pos rfl, h7] at hn
     simp at hn
     subst hn
     exact ⟨hk, u, h1, hv⟩
    ·rw [if_neg e1] at hn
     obtain ⟨h10, c', h11, h12⟩ := h3 e' (Gx (by rw [Array.getElem?_toList]; exact hn))
     exact ⟨h10, c', by rw [h2 _ (hdis n e' hn e1)]; exact h11, h12⟩
   ·have hkeys : (es.modify j (fun e' => { e' with key := k, val := ρ z })).toList.map MapEntry.key = es.toList.map MapEntry.key := by
     apply List.ext_getElem?
     intro n
     rw [List.getElem?_map, List.getElem?_map, Array.getElem?_toList, Array.getElem?_toList, Array.getElem?_modify]
     by_cases e1 : j = n
     ·subst e1
      rw [if_pos rfl, h7]
      simp [h8]
     ·rw [if_neg e1]
    refine (List.pairwise_map (f := MapEntry.key) (R := fun a b : Value => a ≠ b)).1 ?_
    rw [hkeys]
    exact List.pairwise_map.2 h4
   ·intro q c hq
    by_cases e1 : q = k
    ·subst e1
     refine ⟨{ e with key := q, val := ρ z }, List.mem_iff_getElem?.2 ⟨j, ?_⟩, rfl⟩
     rw [Array.getElem?_toList, Array.getElem?_modify, if_pos rfl, h7]
     rfl
    ·rw [h2 q e1] at hq
     obtain ⟨y, hy, hy'⟩ := h5 q c hq
     obtain ⟨n, hn⟩ := List.mem_iff_getElem?.1 hy
     rw [Array.getElem?_toList] at hn
     refine ⟨y, List.mem_iff_getElem?.2 ⟨n, ?_⟩, hy'⟩
     rw [Array.getElem?_toList, Array.getElem?_modify, if_neg, hn]
     intro e2
     subst e2
     rw [h7] at hn
     injection hn with hn
     subst hn
     exact e1 (hy'.symm.trans h8)
 obtain ⟨es', clock', hr, hq⟩ := key
 unfold iD
 rw [show (execOp ρ ⟨d, .mapUpdate t x y z, ty, pos, af, g⟩).run P w = .ok .skip (w.putObj b (.map es' clock')) by simp only [execOp, (hρ x _ hx).sc_inv, (hρ y _ hy).sc_inv, Sem.run_bind, Sem.run_pure, Result.andThen, hr]]
 exact ⟨σ, .sc undef, _, cw.le_refl _, .sc _, hw.putAt (a' := cj kd m') hL (fun _ => trivial) (jO w b _) (World.putObj_heap_same hlt) hq, rfl⟩
theorem p7 {w : World} {b kt et : Nat} {kd : TypeDesc} {k v0 : Value} {m : Value → Option AV} {es : Array MapEntry} {clock : Nat} {σ : cw} (ht : P.underlying t = some (.map kt et)) (hkt : P.underlying kt = some kd) (hk : IsKey kd k) (ho : w.heap[b]? = some (.map es clock)) (hM : jB kd m σ (.map es clock)) (hz : (zeroValue et).run P w = .ok v0 w) (ok : Bool) :
  ∃ v, (Instr.lookup t (.map (some b)) k ok).run P w = .ok (bif ok then .tuple #[v, .bool (m k).isSome] else v) w ∧ match m k with | some c => VR σ c v | none => v = v0 := by
 cases hm : m k with
 | none =>
  refine ⟨v0, ?_, rfl⟩
  cases ok <;> simp [Instr.lookup, run_underlying ht, MapKept.run_getObj_map ho, run_checkKey hkt hk, run_findKey hkt (hM.none hk hm), Result.andThen, hz]
 | some c =>
  obtain ⟨j, e, h6, h7, h8, h9⟩ := hM.some hk hm
  refine ⟨e.val, ?_, h9⟩
  cases ok <;> simp [Instr.lookup, run_underlying ht, MapKept.run_getObj_map ho, run_checkKey hkt hk, run_findKey hkt h6, Result.andThen]
theorem iF (i : Nat) {b kt et : Nat} {kd : TypeDesc} {k v0 : Value} {m : Value → Option AV} {c0 : AV} (ht : P.underlying t = some (.map kt et)) (hkt : P.underlying kt = some kd) (hx : bH fr x = some (.sc (.map (some b)))) (hy : bH fr y = some (.sc k)) (hk : IsKey kd k) (hL : L[i]? = some (b, cj kd m)) (hz : ∀ w, (zeroValue et).run P w = .ok v0 w) (h0 : ∀ σ, VR σ c0 v0) :
  AO P ⟨d, .lookup t x y false, ty, pos, af, g⟩ fr B L (fun c L' => c = (m k).getD c0 ∧ L' = L) := by
 intro σ ρ w hρ hw
 obtain ⟨o, ho, hM⟩ := hw.here _ (Gx hL)
 have hM' : jB kd m σ o := hM
 obtain ⟨es, clock, rfl, _⟩ := hM'
 obtain ⟨v, hr, hv⟩ := p7 (t := t) ht hkt hk ho hM (hz w) false
 unfold iD
 rw [show (execOp ρ ⟨d, .lookup t x y false, ty, pos, af, g⟩).run P w = .ok (.value v) w by simp only [execOp, (hρ x _ hx).sc_inv, (hρ y _ hy).sc_inv, Sem.run_bind, Sem.run_pure, Result.andThen, hr]; rfl]
 refine ⟨σ, (m k).getD c0, _, cw.le_refl _, ?_, hw, rfl, rfl⟩
 cases hm : m k with
 | none => rw [hm] at hv; dsimp only at hv; subst hv; exact h0 σ
 | some c => rw [hm] at hv; exact hv
theorem tD (i : Nat) {b kt et : Nat} {kd : TypeDesc} {k v0 : Value} {m : Value → Option AV} {c0 : AV} (ht : P.underlying t = some (.map kt et)) (hkt : P.underlying kt = some kd) (hx : bH fr x = some (.sc (.map (some b)))) (hy : bH fr y = some (.sc k)) (hk : IsKey kd k) (hL : L[i]? = some (b, cj kd m)) (hz : ∀ w, (zeroValue et).run P w = .ok v0 w) (h0 : ∀ σ, VR σ c0 v0) :
  AO P ⟨d, .lookup t x y true, ty, pos, af, g⟩ fr B L (fun c L' => c = .tup [(m k).getD c0, .sc (.bool (m k).isSome)] ∧ L' = L) := by
 intro σ ρ w hρ hw
 obtain ⟨o, ho, hM⟩ := hw.here _ (Gx hL)
 have hM' : jB kd m σ o := hM
 obtain ⟨es, clock, rfl, _⟩ := hM'
 obtain ⟨v, hr, hv⟩ := p7 (t := t) ht hkt hk ho hM (hz w) true
 unfold iD
 rw [show (execOp ρ ⟨d, .lookup t x y true, ty, pos, af, g⟩).run P w = .ok (.value (.tuple #[v, .bool (m k).isSome])) w by simp only [execOp, (hρ x _ hx).sc_inv, (hρ y _ hy).sc_inv, Sem.run_bind, Sem.run_pure, Result.andThen, hr]; rfl]
 refine ⟨σ, .tup [(m k).getD c0, .sc (.bool (m k).isSome)], _, cw.le_refl _, ?_, hw, rfl, rfl⟩
 have h1 : VR σ ((m k).getD c0) v := by
  cases hm : m k with
  | none => rw [hm] at hv; dsimp only at hv; subst hv; exact h0 σ
  | some c => rw [hm] at hv; exact hv
 have h2 : dv σ [(m k).getD c0, .sc (.bool (m k).isSome)] [v, .bool (m k).isSome] := .cons h1 (.cons (.sc _) .nil)
 exact .tup _ _ h2.1 h2.2
def ju (P : Program) (e : Nat) (v : Value) : Bool := match P.info? e with | some i => (match i.zero with | some z => vD z v | none => false) | none => false
theorem fa {e : Nat} {v : Value} (h : ju P e v = true) (w : World) : (zeroValue e).run P w = .ok v w := by
 unfold ju at h
 split at h
 ·rename_i i hi
  split at h
  ·rename_i z hz
   rw [← pw h]
   simp [zeroValue, typeInfo, hi, hz]
  ·cases h
 ·cases h
end
section
variable {P : Program} {r : Option Nat} {ops : Array Oper} {Q : Exit → Act → World → Prop} {nt : Nat} {D : List Deferred} {fr : ca} {B : Bs} {L : AL} {rest : List Oper} {d : Nat} {ty t : TypeId} {pos : String} {af : Array Edge} {x y z : Operand} {u : AV}
theorem eN (kd : TypeDesc) (h : ∀ b, bT P r ops Q nt D rest ((d, .sc (.map (some b))) :: fr) B ((b, cj kd fun _ => none) :: L)) (hd : Nat.ble nt d = false := by rfl) : bT P r ops Q nt D (⟨some d, .makeMap t none, ty, pos, af, none⟩ :: rest) fr B L :=
 dh hd rfl (tE kd) fun c L' ⟨b, h1, h2⟩ => by subst h1; subst h2; exact h b
theorem dD (i : Nat) (m' : Value → Option AV) {b kt et : Nat} {kd : TypeDesc} {k : Value} {m : Value → Option AV} (ht : P.underlying t = some (.map kt et)) (hkt : P.underlying kt = some kd) (hx : bH fr x = some (.sc (.map (some b)))) (hy : bH fr y = some (.sc k)) (hk : IsKey kd k) (hz : bH fr z = some u) (hL : L[i]? = some (b, cj kd m)) (h1 : m' k = some u) (h2 : ∀ q, q ≠ k → m' q = m q)
  (h : bT P r ops Q nt D rest fr B (fS L i (cj kd m'))) : bT P r ops Q nt D (⟨none, .mapUpdate t x y z, ty, pos, af, none⟩ :: rest) fr B L :=
 ly rfl (qK i ht hkt hx hy hk hz hL h1 h2) fun c L' h3 => by subst h3; exact h
theorem sF (i : Nat) (v0 : Value) {b kt et : Nat} {kd : TypeDesc} {k : Value} {m : Value → Option AV} (ht : P.underlying t = some (.map kt et)) (hkt : P.underlying kt = some kd) (hx : bH fr x = some (.sc (.map (some b)))) (hy : bH fr y = some (.sc k)) (hk : IsKey kd k) (hL : L[i]? = some (b, cj kd m)) (hz : ju P et v0 = true) (hd : Nat.ble nt d = false)
  (h : bT P r ops Q nt D rest ((d, (m k).getD (.sc v0)) :: fr) B L) : bT P r ops Q nt D (⟨some d, .lookup t x y false, ty, pos, af, none⟩ :: rest) fr B L :=
 dh hd rfl (iF i ht hkt hx hy hk hL (fa hz) fun _ => .sc _) fun c L' ⟨h1, h2⟩ => by subst h1; subst h2; exact h
theorem iM (i : Nat) (v0 : Value) {b kt et : Nat} {kd : TypeDesc} {k : Value} {m : Value → Option AV} (ht : P.underlying t = some (.map kt et)) (hkt : P.underlying kt = some kd) (hx : bH fr x = some (.sc (.map (some b)))) (hy : bH fr y = some (.sc k)) (hk : IsKey kd k) (hL : L[i]? = some (b, cj kd m)) (hz : ju P et v0 = true) (hd : Nat.ble nt d = false)
  (h : bT P r ops Q nt D rest ((d, .tup [(m k).getD (.sc v0), .sc (.bool (m k).isSome)]) :: fr) B L) : bT P r ops Q nt D (⟨some d, .lookup t x y true, ty, pos, af, none⟩ :: rest) fr B L :=
 dh hd rfl (tD i ht hkt hx hy hk hL (fa hz) fun _ => .sc _) fun c L' ⟨h1, h2⟩ => by subst h1; subst h2; exact h
end
end Go.Proofs.YtjjpkibjffmceaaGreat
namespace Go.Proofs.YtjjpkibjffmceaaGreat
open Go.RowKit
section
variable {P : Program} {tt : TT} {r : Option Nat} {ops : Array Oper} {Q : Exit → Act → World → Prop} {nt : Nat} {D : List Deferred} {fr : ca} {B : Bs} {L : AL} {rest : List Oper} {d : Nat} {ty t : TypeId} {pos : String} {af : Array Edge} {x y z : Operand} {u : AV}
theorem l6 (ok : eW P tt) (n : Nat) {e sz by_ : Nat} {k k' : IntKind} {a b : Int} {zs : List Value} (ht : mf tt t = some (e, sz, by_)) (hz : zI tt e = some zs) (h1 : zs.all (·.oneCell') = true) (hx : bH fr x = some (.sc (.int k a))) (hy : bH fr y = some (.sc (.int k' b))) (ha : a = (n : Int)) (hb : b = (n : Int)) (hby : by_ * n ≤ 281474976710656) (h63 : n ≤ 9223372036854775807) (hd : Nat.ble nt d = false)
  (h : ∀ b, bT P r ops Q nt D rest ((d, .sc (.slice (some ⟨b, 0, none⟩) n n)) :: fr) B ((b, .box ((List.replicate n (zs.map .sc)).flatten) e) :: L)) : bT P r ops Q nt D (⟨some d, .makeSlice t x y, ty, pos, af, none⟩ :: rest) fr B L :=
 dh hd rfl (A7 (bU ok ht).1 (eV ok hz) h1 (bU ok ht).2 hx hy ha hb hby h63) fun c L' ⟨b, h1, h2⟩ => by subst h1; subst h2; exact h b
theorem b7 {f : FuncId} {args : Array Operand} {ts : Array TypeId} {cs ds : List AV} {Post : AV → AL → Prop} [bD P f] (Lc Lf : AL) (hc : AC P f ds Lc Post) (hv : ek fr args.toList = some cs) (hi : jP cs = some ds) (hL : L.Perm (Lc ++ Lf)) (hd : Nat.ble nt d = false) (h : ∀ c L1, Post c L1 → bT P r ops Q nt D rest ((d, c) :: fr) B (L1 ++ Lf)) :
  bT P r ops Q nt D (⟨some d, .call ⟨.value (.func f), args, ts⟩, ty, pos, af, none⟩ :: rest) fr B L := by
 have hc' := hc
 rw [← gQ hi] at hc'
 refine dh hd rfl (lw Lc Lf hv (fun σ vs h => h.im) hL hc') fun c L' hh => ?_
 obtain ⟨L1, h1, h2⟩ := hh
 subst h2
 exact h c L1 h1
theorem nQ {σ0 : cw} {l : Nat} {args : Array Operand} {ts : Array TypeId} {cs ds : List AV} {Post : AV → AL → Prop} (Lc Lf : AL) (hB : σ0.le B.σ) (hc : AY P σ0 l ds Lc Post) (hz : bH fr z = some (.sc (.func (.yield l) #[] #[]))) (hv : ek fr args.toList = some cs) (hi : jP cs = some ds) (hL : L.Perm (Lc ++ Lf)) (hn : Oper.noDefer ⟨some d, .call ⟨.value z, args, ts⟩, ty, pos, af, none⟩ = true) (hd : Nat.ble nt d = false) (h : ∀ c L1, Post c L1 → bT P r ops Q nt D rest ((d, c) :: fr) B (L1 ++ Lf)) :
  bT P r ops Q nt D (⟨some d, .call ⟨.value z, args, ts⟩, ty, pos, af, none⟩ :: rest) fr B L := by
 have hc' := hc
 rw [← gQ hi] at hc'
 refine dh hd hn (xH hB Lc Lf hz hv (fun σ vs h => h.im) hL hc') fun c L' hh => ?_
 obtain ⟨L1, h1, h2⟩ := hh
 subst h2
 exact h c L1 h1
theorem cO {e : Exit} {L' : AL} (hs : L'.Sublist L) (h : AX P e Q nt D fr B L') : AX P e Q nt D fr B L := fun σ a w ha hw => h σ a w ha (hw.sublist hs)
end
theorem vA {σ : cw} {cs cs' : List AV} {vs : List Value} (hl : cs.length = cs'.length) (h : ∀ (i : Nat) c c', cs[i]? = some c → cs'[i]? = some c' → ∀ v, VR σ c v → VR σ c' v) (hv : dv σ cs vs) : dv σ cs' vs := by
 refine ⟨hl.symm.trans hv.1, fun i c' u hc hu => ?_⟩
 have hi : i < cs.length := by rw [hl]; exact (Gn hc).1
 exact h i _ c' (Ds hi) hc _ (hv.2 i _ u (Ds hi) hu)
theorem bi {nt : Nat} {D : List Deferred} {B : Bs} {fr : ca} {L : AL} (i : Nat) {b : Nat} {cs cs' : List AV} {e : TypeId} (hL : L[i]? = some (b, .box cs e)) (h : ∀ σ vs, dv σ cs vs → dv σ cs' vs) : nX nt D B fr L fr (fS L i (.box cs' e)) := by
 intro σ a w ha hw0
 have hw := hw0.perm (fY hL)
 obtain ⟨o, ho, vs, rfl, hvs, h1⟩ := hw.here _ (List.mem_cons_self ..)
 refine ⟨σ, ha, dl.perm (L := (b, .box cs' e) :: L.eraseIdx i) ?_ (pT _ hL)⟩
 refine ⟨hw.os, hw.tape, hw.output, hw.size, hw.old, fun p hp => ?_, fun p hp => ?_, by simpa using hw.apart, hw.froz, fun p hp off hm => ?_, hw.grow, hw.same⟩
 ·rcases List.mem_cons.1 hp with rfl | hp'
  ·exact ⟨_, ho, vs, rfl, h σ vs hvs, h1⟩
  ·exact hw.here p (Gt _ hp')
 ·rcases List.mem_cons.1 hp with rfl | hp'
  ·exact hw.mine (b, .box cs e) (List.mem_cons_self ..)
  ·exact hw.mine p (Gt _ hp')
 ·rcases List.mem_cons.1 hp with rfl | hp'
  ·exact hw.free (b, .box cs e) (List.mem_cons_self ..) off trivial
  ·exact hw.free p (Gt _ hp') off hm
theorem gy {cs : List AV} {k : Nat} {c : AV} : gg cs k [c] = cs.set k c := rfl
end Go.Proofs.YtjjpkibjffmceaaGreat
namespace Go.Proofs.YtjjpkibjffmceaaGreat
open Go.RowKit
attribute [local irreducible] AT bT AX AO Av Kt bk ej DA cX
def zA (n : Nat) : List (List Int) → Nat
 | [] => n
 | q :: r => if n ≤ 2000 then zA (n + 1 + q.length) r else n
def BP (n : Nat) : List (List (List Int)) → Nat
 | [] => n
 | s :: r => BP (zA n s) r
def D8 (n : Nat) (r : bV) : Nat := BP (n + r.Out.length + r.Calls.length) [r.Back, r.In, r.Ahead]
def vr (n : Nat) : List bV → Nat
 | [] => n
 | r :: rs => if n ≤ 2000 then vr (D8 n r) rs else n
def rc : Nat := 140737488355328
structure xq (r : bV) : Prop where
 out : r.Out.length ≤ rc
 calls : r.Calls.length ≤ rc
 sets : ∀ s ∈ [r.Back, r.In, r.Ahead], s.length ≤ rc ∧ ∀ q ∈ s, q.length ≤ rc
def Fe (g n t : Nat) : Prop := (n + t ≤ 2000 → g = n + t) ∧ (2000 < n + t → 2000 < g)
def Eu {α : Type} (g : α → Nat) (n : Nat) : List α → Nat
 | [] => n
 | a :: l => if n ≤ 2000 then Eu g (n + g a) l else n
structure Dy (f : aJ) : Prop where
 top : f.Glyphs.length ≤ 140737488355328 ∧ f.Chars.length ≤ 140737488355328 ∧ f.Lookups.length ≤ 140737488355328 ∧ f.Features.length ≤ 140737488355328 ∧ f.Axes.length ≤ 140737488355328 ∧ f.Regions.length ≤ 140737488355328 ∧ f.Funcs.length ≤ 140737488355328 ∧ f.Cvt.length ≤ 140737488355328
 glyph : ∀ g ∈ f.Glyphs, g.Points.length ≤ 140737488355328 ∧ g.Parts.length ≤ 140737488355328 ∧ g.Anchors.length ≤ 140737488355328 ∧ g.Deltas.length ≤ 140737488355328 ∧ g.Hint.length ≤ 140737488355328 ∧ g.Name.size ≤ 140737488355328
 rules : ∀ l ∈ f.Lookups, l.Rules.length ≤ 140737488355328 ∧ ∀ r ∈ l.Rules, xq r
 funcs : ∀ c ∈ f.Funcs, c.length ≤ 140737488355328
 feats : ∀ t ∈ f.Features, t.Lookups.length ≤ 140737488355328 ∧ t.Name.size ≤ 140737488355328
 regions : ∀ r ∈ f.Regions, r.length ≤ 140737488355328
 axes : ∀ a ∈ f.Axes, a.Name.size ≤ 140737488355328
def EZ (l : b9) : Nat := vr l.Rules.length l.Rules
def Fs (f : aJ) : Nat := f.Glyphs.length + f.Chars.length + f.Lookups.length + f.Features.length + f.Axes.length + f.Regions.length + f.Funcs.length + f.Cvt.length
end Go.Proofs.YtjjpkibjffmceaaGreat
namespace Go.Proofs.YtjjpkibjffmceaaGreat
open Go.ChangeShapes Go.WideShapes Go.ChangeAt Go.RowKit Go.Deep Go.Joins
def jT (W : World) : cw := fun b off => W.cell? ⟨b, off, none⟩
theorem yI (W : World) : dl ⟨W, jT W, []⟩ (jT W) [] W := ⟨rfl, rfl, rfl, Nat.le_refl _, fun _ _ _ => rfl, by simp, by simp, by simp, fun _ _ _ h => h, by simp, cw.le_refl _, fun _ _ _ _ => rfl⟩
theorem dv.app {σ : cw} : ∀ {a b : List AV} {u v : List Value}, dv σ a u → dv σ b v → dv σ (a ++ b) (u ++ v)
 | [], b, u, v, h, k => by
  have : u = [] := List.eq_nil_of_length_eq_zero h.1.symm
  subst this
  exact k
 | c :: a, b, u, v, h, k => by
  obtain ⟨x, u', rfl, h1, h2⟩ := h.inv
  exact dv.cons h1 (h2.app k)
section
variable {H : Type} {enc : TypeId × Value → H} {P : Program} {W : World}
def xm (P : Program) (t : TypeId) (d : DataW H) : Prop := ∀ n ∈ d.weights P t, n ≤ reachBytes
def vG (enc : TypeId × Value → H) (P : Program) (W : World) (t : TypeId) {α : Type} (c : α → List AV) (fits : α → Prop) : Prop :=
 ∀ fuel cs x, DataW.trod enc P W 0 (fun _ => true) true fuel t cs = some x → xm P t x.1 → ∃ a, dv (jT W) (c a) cs ∧ (∀ u ∈ cs, u.oneCell' = true) ∧ fits a
theorem vG.map {t : TypeId} {α β : Type} {c : α → List AV} {c' : β → List AV} {fits : α → Prop} {fits' : β → Prop} (h : vG enc P W t c fits) (g : α → β) (hc : ∀ a, c a = c' (g a)) (hf : ∀ a, fits a → fits' (g a)) : vG enc P W t c' fits' := fun fuel cs x h1 h2 => by
 obtain ⟨a, k1, k2, k3⟩ := h fuel cs x h1 h2
 exact ⟨g a, by rw [← hc]; exact k1, k2, hf a k3⟩
theorem Ba {t : TypeId} (ht : P.underlying t = some (.int .i64)) : vG enc P W t (fun z : Int => [aM z]) (fun _ => True) := fun fuel cs x h _ => by
 obtain ⟨z, rfl, -, -⟩ := DataW.trod_int ht h
 exact ⟨z, dv.cons (.sc _) dv.nil, by intro u hu; rw [Gk hu]; rfl, trivial⟩
theorem oP {e : TypeId} {l : List (DataW H)} {d : DataW H} (hd : d ∈ l) {n : Nat} (hn : n ∈ d.weights P e) : n ∈ DataW.weightsAll P e l := by
 induction l with
 | nil => cases hd
 | cons y l ih =>
  rw [DataW.weightsAll, List.mem_append]
  rcases List.mem_cons.1 hd with rfl | h
  ·exact .inl hn
  ·exact .inr (ih h)
theorem wO {t e : TypeId} {sz : Nat} {α : Type} [Inhabited α] {c : α → List AV} {fits : α → Prop} (ht : P.underlying t = some (.slice e)) (hb : 0 < P.bytesOf e) (hs : P.cellsOf e = sz) (h0 : 0 < sz) (he : vG enc P W e c fits) (hc : ∀ a, (c a).length = sz) :
  vG enc P W t (fun l : List α => [.imm sz (l.map c)]) (fun l => l.length ≤ reachBytes ∧ ∀ a ∈ l, fits a) := fun fuel cs x h hl => by
 rcases open_slice ht h with ⟨rfl, rfl⟩ | ⟨a, len, cap, m, n, D, Pl, rfl, _, hlc, hm, hmm, rfl, hx⟩
 ·exact ⟨[], dv.cons (fw sz (.sc _)) dv.nil, by intro u hu; rw [Gk hu]; rfl, Nat.zero_le _, by simp⟩
 have hmle : len ≤ m := by rw [hmm]; split <;> omega
 have hw : ∀ n ∈ (len + (m - len)) * P.bytesOf e :: (DataW.weightsAll P e ((List.range len).map D) ++ DataW.weightsAll P e ((List.range (m - len)).map fun j => D (len + j))), n ≤ reachBytes := by
  intro n hn
  refine hl n ?_
  show n ∈ DataW.weights P t (.slice _ _)
  rw [DataW.weights, ht]
  simpa using hn
 have hlen : len ≤ reachBytes := by
  have h1 := hw _ (List.mem_cons_self ..)
  have h2 : len ≤ (len + (m - len)) * P.bytesOf e := Nat.le_trans (Nat.le_add_right _ _) (Nat.le_mul_of_pos_right _ hb)
  omega
 have each : ∀ i, i < len → ∃ q : α × List Value, W.cells? 0 (a.add (i * sz)) sz = some q.2 ∧ dv (jT W) (c q.1) q.2 ∧ (∀ u ∈ q.2, u.oneCell' = true) ∧ fits q.1 := by
  intro i hi
  obtain ⟨cs', h1, h2⟩ := hx i (by omega)
  rw [hs] at h1
  obtain ⟨a', k1, k2, k3⟩ := he n cs' _ h2 (fun n hn => hw n (Gt _ (List.mem_append_left _ (oP (List.mem_map.2 ⟨i, List.mem_range.2 hi, rfl⟩) hn))))
  exact ⟨(a', cs'), h1, k1, k2, k3⟩
 obtain ⟨f, hf⟩ := choose_lt each
 refine ⟨(List.range len).map fun i => (f i).1, dv.cons ?_ dv.nil, by intro u hu; rw [Gk hu]; rfl, by simpa using hlen, ?_⟩
 ·have hll : (((List.range len).map fun i => (f i).1).map c).length = len := by simp
  have hcell : ∀ i, i < len → ∀ j, j < sz → W.cell? (a.add (i * sz + j)) = (f i).2[j]? := by
   intro i hi j hj
   have := (World.cells?_some (hf i hi).1).2.2 j hj
   rw [add_add] at this
   exact this
  have hcl : ∀ i, i < len → (f i).2.length = sz := fun i hi => (World.cells?_some (hf i hi).1).2.1
  have hnone : 0 < len → ∃ b off, a = ⟨b, off, none⟩ := by
   intro hp
   have h1 := hcell 0 hp 0 h0
   rw [Nat.zero_mul, Nat.zero_add, Ds (by rw [hcl 0 hp]; exact h0)] at h1
   obtain ⟨b, off, sp⟩ := a
   have e : (⟨b, off, sp⟩ : Addr).add 0 = ⟨b, off, sp⟩ := by simp [Addr.add]
   rw [e] at h1
   cases sp with
   | some s =>
    simp only [World.cell?] at h1
    split at h1
    ·simp at h1
    ·cases h1
   | none => exact ⟨b, off, rfl⟩
  have hmem : ∀ b off, a = ⟨b, off, none⟩ → ∀ i, i < len → ∀ j, j < sz → jT W b (off + i * sz + j) = (f i).2[j]? := by
   intro b off ha i hi j hj
   have := hcell i hi j hj
   rw [ha] at this
   show W.cell? ⟨b, off + i * sz + j, none⟩ = _
   rw [← this]
   have e : (⟨b, off, none⟩ : Addr).add (i * sz + j) = ⟨b, off + (i * sz + j), none⟩ := by
    unfold Addr.add
    by_cases h : i * sz + j = 0
    ·rw [if_pos h, h, Nat.add_zero]
    ·rw [if_neg h]
   rw [e, Nat.add_assoc]
  have hgo := VR.imm (σ := jT W) sz (((List.range len).map fun i => (f i).1).map c) (some a) cap (by rw [hll]; exact hlc) hm (fun e he => by
    obtain ⟨y, _, rfl⟩ := List.mem_map.1 he
    exact hc y) (fun hne => by
    have : 0 < len := by
     rcases Nat.eq_zero_or_pos len with h | h
     ·subst h; exact absurd rfl hne
     ·exact h
    obtain ⟨b, off, rfl⟩ := hnone this
    exact ⟨b, off, rfl⟩) (fun i b off j hA hi hj => by
    rw [hll] at hi
    injection hA with hA
    have h1 := hmem b off hA i hi j hj
    have h2 : j < (f i).2.length := by rw [hcl i hi]; exact hj
    rw [Ds h2] at h1
    exact ⟨_, h1, (hf i hi).2.2.1 _ (List.getElem_mem h2)⟩) (fun i e b off j c' u hi hA hj hu => by
    injection hA with hA
    have hil : i < len := by have := (Gn hi).1; simpa using this
    rw [List.getElem?_map, List.getElem?_map, List.getElem?_range hil] at hi
    simp only [Option.map_some, Option.some.injEq] at hi
    subst hi
    have hjs : j < sz := by rw [← hc (f i).1]; exact (Gn hj).1
    rw [hmem b off hA i hil j hjs] at hu
    exact (hf i hil).2.1.2 j c' u hj hu)
  rw [hll] at hgo
  exact hgo
 ·intro y hy
  obtain ⟨i, hi, rfl⟩ := List.mem_map.1 hy
  exact (hf i (List.mem_range.1 hi)).2.2.2
def zX (enc : TypeId × Value → H) (P : Program) (W : World) (N o : Nat) (fs : List Field) {β : Type} (c : β → List AV) (fits : β → Prop) : Prop :=
 ∀ (n : Nat) (cs : List Value) (xs : List (DataW H × List MemPlace)), cs.length = N → xs.length = fs.length → (∀ (i : Nat) (f : Field), fs[i]? = some f → DataW.trod enc P W 0 (fun _ => true) true n f.type ((cs.drop f.offset).take (P.cellsOf f.type)) = xs[i]?) →
  (∀ k ∈ DataW.weightsEach P (fs.map (·.type)) (xs.map (·.1)), k ≤ reachBytes) → ∃ b, dv (jT W) (c b) (cs.drop o) ∧ (∀ u ∈ cs.drop o, u.oneCell' = true) ∧ fits b
theorem yZ {N : Nat} : zX enc P W N N [] (fun _ : Unit => []) (fun _ => True) := fun n cs xs hN _ _ _ => by
 have : cs.drop N = [] := List.drop_eq_nil_of_le (by omega)
 rw [this]
 exact ⟨(), dv.nil, by simp, trivial⟩
theorem gV {N o s : Nat} {f : Field} {fs : List Field} {α β : Type} {c : α → List AV} {d : β → List AV} {fits : α → Prop} {fits' : β → Prop} (ho : f.offset = o) (hs : P.cellsOf f.type = s) (h : vG enc P W f.type c fits) (hr : zX enc P W N (o + s) fs d fits') : zX enc P W N o (f :: fs) (fun p : α × β => c p.1 ++ d p.2) (fun p => fits p.1 ∧ fits' p.2) := fun n cs xs hN hl hx hw => by
 match xs, hl with
 | x :: xs, hl =>
  have h0 := hx 0 f rfl
  rw [ho, hs] at h0
  obtain ⟨a, k1, k2, k3⟩ := h n _ x h0 (fun k hk => hw k (by
   simp only [Gp, DataW.weightsEach, List.mem_append]
   exact .inl hk))
  obtain ⟨b, m1, m2, m3⟩ := hr n cs xs hN (by simpa using hl) (fun i g hg => hx (i + 1) g hg) (fun k hk => hw k (by
   simp only [Gp, DataW.weightsEach, List.mem_append]
   exact .inr hk))
  have e : cs.drop o = (cs.drop o).take s ++ cs.drop (o + s) := by
   rw [← List.drop_drop, List.take_append_drop]
  refine ⟨(a, b), by rw [e]; exact k1.app m1, fun u hu => ?_, k3, m3⟩
  rw [e] at hu
  rcases Gl hu with h | h
  ·exact k2 u h
  ·exact m2 u h
theorem uw {t : TypeId} {fs : Array Field} {N : Nat} {β : Type} {c : β → List AV} {fits : β → Prop} (ht : P.underlying t = some (.struct fs)) (hN : P.cellsOf t = N) (h : zX enc P W N 0 fs.toList c fits) : vG enc P W t c fits := fun fuel cs x hx hl => by
 obtain ⟨xs, n, _, rfl, h1, h2, h3⟩ := DataW.trod_struct ht hx
 have := h n cs xs (h1.trans hN) (by simpa using h2) (fun i f hf => h3 i f (by simpa using hf)) (fun k hk => hl k (by
  show k ∈ DataW.weights P t (.agg _)
  rw [DataW.weights, ht]
  exact hk))
 simpa using this
end
end Go.Proofs.YtjjpkibjffmceaaGreat
namespace Go.Proofs.YtjjpkibjffmceaaGreat
open Go.ChangeShapes Go.WideShapes Go.ChangeAt Go.RowKit Go.Deep Go.Joins
section
variable {H : Type} {enc : TypeId × Value → H} {W : World}
abbrev Fg {α : Type} : α → Prop := fun _ => True
abbrev ln {α : Type} (l : List α) : Prop := l.length ≤ reachBytes
theorem o3 : vG enc Tryz.prog W 3 (fun z : Int => [aM z]) Fg := Ba Tryz.underlying3
theorem EY : vG enc Tryz.prog W 22 (fun l : List Int => [.imm 1 (aU l)]) ln := (wO Tryz.underlying22 (Gz (by kernel_rfl)) (by kernel_rfl) Nat.one_pos o3 (fun _ => rfl)).map id (fun _ => rfl) fun _ h => h.1
structure Du (g : bf) : Prop where
 points : ln g.Points
 parts : ln g.Parts
 anchors : ln g.Anchors
 deltas : ln g.Deltas
 hint : ln g.Hint
 name : g.Name.size ≤ reachBytes
structure En (r : bV) : Prop where
 out : ln r.Out
 calls : ln r.Calls
 back : ln r.Back ∧ ∀ q ∈ r.Back, ln q
 inn : ln r.In ∧ ∀ q ∈ r.In, ln q
 ahead : ln r.Ahead ∧ ∀ q ∈ r.Ahead, ln q
end
end Go.Proofs.YtjjpkibjffmceaaGreat
namespace Go.Proofs.YtjjpkibjffmceaaGreat
open Go.ChangeShapes Go.WideShapes Go.ChangeAt Go.RowKit Go.Deep Go.Joins
theorem Tryz.own : ownKnob Tryz.prog.godebug = none := by kernel_rfl
theorem Tryz.laidOut : laidOutB Tryz.prog = true := by kernel_rfl
theorem wi {P : Program} {f : FuncId} {args : List AV} {u : Value} (h : bO P f args (.sc u)) (W : World) (vs : List Value) (hv : dv (jT W) args vs) : Calls P f vs.toArray W fun e W' => ∃ v, e = .returned v ∧ Below W.heap.size W W' ∧ v = u :=
 (h (jT W) W vs hv (yI W)).mono fun e W' ⟨v, τ, c, L', he, hr, hst, hc⟩ => by
  subst hc
  exact ⟨v, he, ⟨hst.os, hst.tape, hst.output, hst.size, fun k hk => hst.old k hk (by simp)⟩, hr.sc_inv⟩
end Go.Proofs.YtjjpkibjffmceaaGreat
namespace Go.Proofs.YtjjpkibjffmceaaGreat
open Go.RowKit
def iU (u : AV) : Option (FuncId × List AV) := match u with
 | .fn f cs => some (f, cs)
 | .sc (.func (.func f) a b) => match a.toList with
  | [] => match b.toList with
   | [] => some (f, [])
   | _ => none
  | _ => none
 | _ => none
theorem yg {u : AV} {f : FuncId} {cs : List AV} (h : iU u = some (f, cs)) {σ : cw} {v : Value} (hv : VR σ u v) : VR σ (.fn f cs) v := by
 unfold iU at h
 split at h
 ·cases h; exact hv
 ·rename_i a b
  split at h
  ·rename_i ha
   split at h
   ·rename_i hb
    cases h
    have e1 : a = #[] := by apply Array.toList_inj.1; simpa using ha
    have e2 : b = #[] := by apply Array.toList_inj.1; simpa using hb
    subst e1; subst e2
    rw [hv.sc_inv]
    exact .fn f [] [] rfl (fun i c u h => by simp at h)
   ·cases h
  ·cases h
 ·cases h
section
variable {P : Program} {r : Option Nat} {ops : Array Oper} {Q : Exit → Act → World → Prop} {nt : Nat} {D : List Deferred} {fr : ca} {B : Bs} {L : AL} {rest : List Oper} {d : Nat} {ty t : TypeId} {pos : String} {af : Array Edge} {x y z : Operand} {u : AV} {g : Option (Nat × Bool)}
theorem o7 (Lc Lf : AL) {d : Option Tmp} {f : FuncId} {args : Array Operand} {ts : Array TypeId} {cs caps : List AV} {Post : AV → AL → Prop} [hf : bD P f] (hx : bH fr x = some u) (hu : iU u = some (f, caps)) (hv : ek fr args.toList = some cs) (hL : L.Perm (Lc ++ Lf)) (h : AC P f (cs ++ caps) Lc Post) :
  AO P ⟨d, .call ⟨.value x, args, ts⟩, ty, pos, af, g⟩ fr B L (fun c L' => ∃ L1, Post c L1 ∧ L' = L1 ++ Lf) := by
 intro σ ρ w hρ hw0
 have hw := hw0.perm hL
 obtain ⟨ws, hw1, hw2⟩ := (yg hu (hρ x _ hx)).fn_inv
 have hvs := eY hρ _ _ hv
 have e : args.map ρ = (args.toList.map ρ).toArray := by apply Array.toList_inj.1; simp
 unfold iD
 rw [show (execOp ρ ⟨d, .call ⟨.value x, args, ts⟩, ty, pos, af, g⟩).run P w = .ok (.enter f (args.toList.map ρ ++ ws).toArray) w by
  simp [execOp, resolve, hw1, Deferred.ofValue, invoke, hf.enters]]
 have hall : dv σ (cs ++ caps) (args.toList.map ρ ++ ws) := by
  refine ⟨by rw [List.length_append, List.length_append, hvs.1, hw2.1], fun i c u hc hu => ?_⟩
  have hq := hvs.1
  by_cases hi : i < cs.length
  ·rw [List.getElem?_append_left hi] at hc
   rw [List.getElem?_append_left (by omega)] at hu
   exact hvs.2 i c u hc hu
  ·rw [List.getElem?_append_right (by omega)] at hc
   rw [List.getElem?_append_right (by omega), ← hq] at hu
   exact hw2.2 _ c u hc hu
 refine (h σ w _ hall hw.enter).mono fun en w' ⟨v, τ, c, L', h1, h2, h3, h4⟩ => ⟨v, h1, τ, c, L' ++ Lf, h3.grow, h2, hw.leave h3, L', h4, rfl⟩
theorem cV {f : FuncId} {args : Array Operand} {ts : Array TypeId} {cs caps : List AV} {Post : AV → AL → Prop} [bD P f] (Lc Lf : AL) (hc : AC P f (cs ++ caps) Lc Post) (hx : bH fr x = some u) (hu : iU u = some (f, caps)) (hv : ek fr args.toList = some cs) (hL : L.Perm (Lc ++ Lf)) (hn : Oper.noDefer ⟨some d, .call ⟨.value x, args, ts⟩, ty, pos, af, none⟩ = true) (hd : Nat.ble nt d = false) (h : ∀ c L1, Post c L1 → bT P r ops Q nt D rest ((d, c) :: fr) B (L1 ++ Lf)) :
  bT P r ops Q nt D (⟨some d, .call ⟨.value x, args, ts⟩, ty, pos, af, none⟩ :: rest) fr B L :=
 dh hd hn (o7 Lc Lf hx hu hv hL hc) fun c L' ⟨L1, h1, h2⟩ => by subst h2; exact h c L1 h1
end
theorem iw.shadow2 {σ : cw} {nt : Nat} {D : List Deferred} {fr : ca} {a : Act} {t : Nat} {v : AV} (h : iw σ nt D fr a) (hl : VR σ v (a.tmps.getD t undef)) : iw σ nt D ((t, v) :: fr) a :=
 ⟨h.size, h.defers, fun t' v' hl' => by
  rw [cy] at hl'
  by_cases e : t = t'
  ·subst e; simp only [if_true, Option.some.injEq] at hl'; subst hl'; exact hl
  ·rw [if_neg e] at hl'; exact h.look t' v' hl'⟩
theorem cZ {P : Program} {r : Option Nat} {ops : Array Oper} {Q : Exit → Act → World → Prop} {nt : Nat} {D : List Deferred} {fr fr0 : ca} {B : Bs} {L : AL} {rest : List Oper} {t : Nat} (ks : List Nat) (C : Prop) [Decidable C] (hks : gq fr ks = some fr0) (h : ∀ Q', (∀ fr' b, gq fr' ks = some fr0 → cb fr' t = some (.sc (.bool b)) → (b = true ↔ C) → AX P .normal Q' nt D fr' B L) → bT P r ops Q' nt D rest fr B L) (k : AX P .normal Q nt D ((t, .sc (.bool (decide C))) :: fr0) B L) : bT P r ops Q nt D rest fr B L := by
 refine h Q fun fr' b hk hb hC => fun σ a w ha hw => k σ a w ?_ hw
 have hb' : b = decide C := by
  by_cases hc : C
  ·rw [decide_eq_true hc, hC.2 hc]
  ·rw [decide_eq_false hc]
   cases b with
   | true => exact absurd (hC.1 rfl) hc
   | false => rfl
 subst hb'
 exact (ha.weak (dT _ hk)).shadow2 (ha.look t _ hb)
theorem AC.frame {P : Program} {f : FuncId} {args : List AV} {L Lf : AL} {Post : AV → AL → Prop} (h : AC P f args L Post) : AC P f args (L ++ Lf) fun c L' => ∃ L1, Post c L1 ∧ L' = L1 ++ Lf := by
 intro σ w vs hv hs
 refine (h σ w vs hv hs.enter).mono fun en w' ⟨v, τ, c, L', h1, h2, h3, h4⟩ => ⟨v, τ, c, L' ++ Lf, h1, h2, hs.leave h3, L', h4, rfl⟩
theorem zP.perm {P : Program} {σ0 : cw} {f : FuncId} {args : List AV} {L L2 : AL} {Post : AV → AL → Prop} (h : zP P σ0 f args L Post) (hp : L2.Perm L) : zP P σ0 f args L2 Post := by
 intro σ w vs hle hv hs
 refine (h σ w vs hle hv ?_).mono fun en w' ⟨v, τ, c, L', h1, h2, h3, h4⟩ => ⟨v, τ, c, L', h1, h2, ?_, h4⟩
 ·have := hs.perm hp
  exact ⟨this.os, this.tape, this.output, this.size, fun k h1 h2 => this.old k h1 (fun h3 => h2 ((hp.map _).mem_iff.1 h3)), this.here, fun p hp' => (this.mine p hp').imp id (fun h3 => (hp.map _).mem_iff.1 h3), this.apart, this.froz, this.free, this.grow, fun b h1 h2 => this.same b h1 (fun h3 => h2 ((hp.map _).mem_iff.1 h3))⟩
 ·exact ⟨h3.os, h3.tape, h3.output, h3.size, fun k h1 h2 => h3.old k h1 (fun h3 => h2 ((hp.map _).mem_iff.2 h3)), h3.here, fun p hp' => (h3.mine p hp').imp id (fun h3 => (hp.map _).mem_iff.2 h3), h3.apart, h3.froz, h3.free, h3.grow, fun b h1 h2 => h3.same b h1 (fun h3 => h2 ((hp.map _).mem_iff.2 h3))⟩
theorem bY {nt : Nat} {D : List Deferred} {B : Bs} {fr : ca} {L L' : AL} (h : L'.Sublist L) : nX nt D B fr L fr L' := fun σ _ _ ha hw => ⟨σ, ha, hw.sublist h⟩
section
variable {P : Program} {l : List Oper} {fr : ca} {fin : jz} {sk : lm} {acc : ca} {L : AL} {k : Nat} {dd : Option Tmp} {ty : TypeId} {pos : String} {af : Array Edge} {g : Option (Nat × Bool)} {x : Operand} {u : AV}
theorem eT {f : FuncId} {args : Array Operand} {ts : Array TypeId} {cs ds : List AV} {Post : AV → AL → Prop} [bD P f] (Lc Lf : AL) (hc : AC P f ds Lc Post) (hv : ek (cM l.toArray acc fr af.toList) args.toList = some cs) (hi : jP cs = some ds) (hL : L.Perm (Lc ++ Lf)) (hg : iC ⟨dd, .call ⟨.value (.func f), args, ts⟩, ty, pos, af, g⟩ acc) (h : ∀ c L1, Post c L1 → DA P l fr fin sk ((k, c) :: acc) (L1 ++ Lf)) :
  cX P l fr fin k .e ⟨dd, .call ⟨.value (.func f), args, ts⟩, ty, pos, af, g⟩ sk acc L := by
 have hc' := hc
 rw [← gQ hi] at hc'
 exact gY hg (fun B => lw Lc Lf hv (fun σ vs h => h.im) hL hc') fun c L' ⟨L1, h1, h2⟩ => by subst h2; exact h c L1 h1
theorem v7 {f : FuncId} {args : Array Operand} {ts : Array TypeId} {cs ds : List AV} {Post : AV → AL → Prop} [bD P f] (Lc Lf : AL) (hc : AC P f ds Lc Post) (hv : ek (cM l.toArray acc fr af.toList) args.toList = some cs) (hi : jP cs = some ds) (hL : L.Perm (Lc ++ Lf)) (hg : iC ⟨dd, .call ⟨.value (.func f), args, ts⟩, ty, pos, af, g⟩ acc) (hK : ∀ c L1, Post c L1 → eh fin.gs L → eh fin.gs (L1 ++ Lf)) (h : ∀ c L1, Post c L1 → DA P l fr fin sk ((k, c) :: acc) (L1 ++ Lf)) :
  cX P l fr fin k .f ⟨dd, .call ⟨.value (.func f), args, ts⟩, ty, pos, af, g⟩ sk acc L := by
 have hc' := hc
 rw [← gQ hi] at hc'
 exact qS (fun c L' ⟨L1, h1, h2⟩ hk => by subst h2; exact hK c L1 h1 hk) hg (fun B => lw Lc Lf hv (fun σ vs h => h.im) hL hc') fun c L' ⟨L1, h1, h2⟩ => by subst h2; exact h c L1 h1
end
theorem bO.any {P : Program} {f : FuncId} {args : List AV} {u : AV} (h : bO P f args u) (L : AL) : AC P f args L fun c L' => c = u ∧ ∃ L1, L' = L1 ++ L := (AC.frame (Lf := L) h).mono fun c L' ⟨L1, h1, h2⟩ => ⟨h1, L1, h2⟩
end Go.Proofs.YtjjpkibjffmceaaGreat
