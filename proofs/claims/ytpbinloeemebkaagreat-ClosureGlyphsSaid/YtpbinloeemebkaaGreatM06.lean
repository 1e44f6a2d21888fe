/-
  The document's answer: sets.
-/
import Derived.Test.YtpbinloeemebkaaGreatM05
import Derived.Test.YtpbinloeemebkaaGreatM04
import Derived.MapKept
namespace Go.Proofs.YtpbinloeemebkaaGreat
open Go.RowKit
attribute [local irreducible] AT bN AX AO Av Kt bi dE DA d6
def d3 (l : List Int) (n : Nat) : List Int := ((List.range n).map Int.ofNat).filter (l.contains ·)
theorem p6 (l : List Int) (n : Nat) : d3 l (n + 1) = d3 l n ++ (if l.contains (n : Int) then [(n : Int)] else []) := by
 unfold d3
 rw [List.range_succ, List.map_append, List.filter_append]
 congr 1
 show List.filter _ [Int.ofNat n] = _
 rw [List.filter_cons, List.filter_nil]
 rfl
theorem nT (l : List Int) (n : Nat) : (d3 l n).length ≤ n := by
 unfold d3
 exact Nat.le_trans (List.length_filter_le _ _) (by simp)
theorem cE (a b : List Int) : aV a ++ aV b = aV (a ++ b) := by simp [aV]

theorem tB (l : List Int) (n : Nat) (hn : n ≤ 1000000) : xi Tryz.prog 32 [.imm 1 (aV l), .sc (.int .i64 n)] 3 1 (aV (d3 l n)) := by
 refine aU Tryz.func32 rfl Tryz.ntmps32 rfl fun B => ?_
 (repeat' (first|refine ah ?_|refine a6 ?_|refine am ?_|refine a8 ?_|refine aa ?_|refine ae a7 rfl rfl ?_|refine nF (n := 0) a7 fun _=>?_|fail))
 rename_i b7
 refine aL [0, 1] (α := Nat × Option (Nat × Nat)) (fun x => [(5, .vec x.2 1 (aV (d3 l x.1))), (6, .sc (.int .i64 x.1))]) (fun x => x.1 ≤ n) (fun x => tok x.2 3 1 (aV (d3 l x.1)).length) (fun x => n - x.1) (0, some (b7, 0)) rfl ⟨rfl, rfl, trivial⟩ (Nat.zero_le _) (fun _ _ h => h) ?_
 rintro ⟨i, k⟩ hi
 dsimp only at hi ⊢
 have hsl := nT l i
 try dsimp only [List.cons_append, List.nil_append, List.map_cons, List.map_nil]
 (repeat' (first|refine ah ?_|refine a6 ?_|refine a8 ?_|refine aa ?_|refine ae a7 rfl rfl ?_|fail))
 refine av rfl (fun h => ?_) (fun h => ?_)
 ·have hil : i < n := by have := of_decide_eq_true h; omega
  (repeat' (first|refine ah ?_|refine a6 ?_|refine am ?_|refine ak ?_|refine a8 ?_|refine aa ?_|refine ae a7 rfl rfl ?_|(apply ba;refine aY ?_)|fail))
  refine av rfl (fun h2 => ?_) (fun h2 => ?_)
  ·(repeat' (first|refine a6 ?_|refine ae a7 rfl rfl ?_|refine bM a7 ?_|fail))
   refine cF a7 [] rfl rfl rfl rfl (by simp) (by rw [aM]; simp; omega) (by rw [aM]; simp; omega) rfl fun k' => ?_
   (repeat' (first|refine a6 ?_|refine a8 ?_|refine aJ ?_|refine aa ?_|refine ae a7 rfl rfl ?_|(apply aX; refine aW ?_)|fail))
   have hs := p6 l i
   rw [if_pos h2] at hs
   have hs2 : aV (d3 l i) ++ [[.sc (.int .i64 (i : Int))]] = aV (d3 l (i + 1)) := by rw [hs, ← cE]; rfl
   rw [hs2]
   refine aE (i + 1, k') rfl ⟨rfl, by rw [Int.natCast_add]; rfl, trivial⟩ (by dsimp only; omega) (by dsimp only; omega) (fun _ _ h => by simpa using h)
  ·(repeat' (first|refine a6 ?_|refine ak ?_|refine a8 ?_|refine aJ ?_|refine aa ?_|refine ae a7 rfl rfl ?_|(apply aX; refine aW ?_)|fail))
   have hs := p6 l i
   rw [h2] at hs
   simp only [Bool.false_eq_true, if_false, List.append_nil] at hs
   rw [← hs]
   refine aE (i + 1, k) rfl ⟨rfl, by rw [Int.natCast_add]; rfl, trivial⟩ (by dsimp only; omega) (by dsimp only; omega) (fun _ _ h => h)
 ·have hil : i = n := by have := of_decide_eq_false h; omega
  subst hil
  (repeat' (first|refine ah ?_|refine a6 ?_|refine au ?_|refine aR ?_|refine a8 ?_|refine az ?_|refine aC ?_|refine aA ?_|refine aa ?_|refine ae a7 rfl rfl ?_|fail))
  exact aB rfl rfl ⟨_, rfl, rfl⟩
theorem jD (l : List Int) (n : Nat) (hn : n ≤ 1000000) : bo Tryz.prog 32 [.imm 1 (aV l), .sc (.int .i64 n)] (.imm 1 (aV (d3 l n))) := (tB l n hn).det
end Go.Proofs.YtpbinloeemebkaaGreat

namespace Go.Proofs.YtpbinloeemebkaaGreat
open Go.RowKit
abbrev aQ (z : Int) : AV := .sc (.int .i64 z)
abbrev ph (s : ByteArray) : AV := .sc (.string s)
abbrev c8 (b : Bool) : AV := .sc (.bool b)
structure e7 where
 X : Int
 Y : Int
 On : Bool
structure bE where
 Glyph : Int
 X : Int
 Y : Int
structure cU where
 Kind : Int
 Class : Int
 X : Int
 Y : Int
structure dh where
 Region : Int
 Point : Int
 X : Int
 Y : Int
structure ew where
 Op : Int
 A : Int
structure be where
 Name : ByteArray
 Advance : Int
 Mark : Bool
 Points : List e7
 Ends : List Int
 Parts : List bE
 Anchors : List cU
 Deltas : List dh
 Hint : List ew
structure eS where
 Rune : Int
 Glyph : Int
structure iQ where
 At : Int
 Lookup : Int
structure bJ where
 Back : List (List Int)
 In : List (List Int)
 Ahead : List (List Int)
 Out : List Int
 Calls : List iQ
 X : Int
structure bC where
 Kind : Int
 Ignore : Bool
 Rules : List bJ
structure bA where
 Name : ByteArray
 Lookups : List Int
structure dG where
 Name : ByteArray
 Min : Int
 Def : Int
 Max : Int
structure dB where
 Start : Int
 Peak : Int
 End : Int
structure aH where
 Unit : Int
 Glyphs : List be
 Chars : List eS
 Lookups : List bC
 Features : List bA
 Axes : List dG
 Regions : List (List dB)
 Funcs : List (List ew)
 Cvt : List Int
def c7 (l : List (List Int)) : List (List AV) := l.map fun q => [.imm 1 (aV q)]
def jJ (l : List ByteArray) : List (List AV) := l.map fun s => [ph s]
def dv (p : e7) : List AV := [aQ p.X, aQ p.Y, c8 p.On]
def d7 (p : bE) : List AV := [aQ p.Glyph, aQ p.X, aQ p.Y]
def dx (p : cU) : List AV := [aQ p.Kind, aQ p.Class, aQ p.X, aQ p.Y]
def e8 (p : dh) : List AV := [aQ p.Region, aQ p.Point, aQ p.X, aQ p.Y]
def ga (p : ew) : List AV := [aQ p.Op, aQ p.A]
def bz (g : be) : List AV := [ph g.Name, aQ g.Advance, c8 g.Mark, .imm 3 (g.Points.map dv), .imm 1 (aV g.Ends), .imm 3 (g.Parts.map d7), .imm 4 (g.Anchors.map dx), .imm 4 (g.Deltas.map e8), .imm 2 (g.Hint.map ga)]
def dY (c : eS) : List AV := [aQ c.Rune, aQ c.Glyph]
def g8 (c : iQ) : List AV := [aQ c.At, aQ c.Lookup]
def ca (r : bJ) : List AV := [.imm 1 (c7 r.Back), .imm 1 (c7 r.In), .imm 1 (c7 r.Ahead), .imm 1 (aV r.Out), .imm 2 (r.Calls.map g8), aQ r.X]
def bq (l : bC) : List AV := [aQ l.Kind, c8 l.Ignore, .imm 6 (l.Rules.map ca)]
def bS (t : bA) : List AV := [ph t.Name, .imm 1 (aV t.Lookups)]
def dP (a : dG) : List AV := [ph a.Name, aQ a.Min, aQ a.Def, aQ a.Max]
def gO (t : dB) : List AV := [aQ t.Start, aQ t.Peak, aQ t.End]
def cI (r : List dB) : List AV := [.imm 3 (r.map gO)]
def g9 (l : List ew) : List AV := [.imm 2 (l.map ga)]
def bO (f : aH) : List AV := [aQ f.Unit, .imm 9 (f.Glyphs.map bz), .imm 2 (f.Chars.map dY), .imm 3 (f.Lookups.map bq), .imm 2 (f.Features.map bS), .imm 4 (f.Axes.map dP), .imm 1 (f.Regions.map cI), .imm 1 (f.Funcs.map g9), .imm 1 (aV f.Cvt)]
abbrev bw (f : aH) : AV := .agg (bO f)
theorem b5 {α : Type} {c : α → List AV} {l : List α} {i : Nat} {a : α} (h : l[i]? = some a) : (l.map c)[i]? = some (c a) := by simp [h]
theorem i7 (l : List ByteArray) : (jJ l).length = l.length := by simp [jJ]
theorem ro {l : List ByteArray} {i : Nat} {z : ByteArray} (h : l[i]? = some z) : (jJ l)[i]? = some [ph z] := by simp [jJ, h]
theorem cq (l : List (List Int)) : (c7 l).length = l.length := by simp [c7]
theorem fq {l : List (List Int)} {i : Nat} {z : List Int} (h : l[i]? = some z) : (c7 l)[i]? = some [.imm 1 (aV z)] := by simp [c7, h]
end Go.Proofs.YtpbinloeemebkaaGreat

namespace Go.Proofs.YtpbinloeemebkaaGreat
open Go.RowKit
attribute [local irreducible] AT bN AX AO Av Kt bi dE DA d6
def gi (l : List ByteArray) (s : ByteArray) : Bool := l.any fun t => decide (t = s)
theorem j5 {l : List ByteArray} {s : ByteArray} : gi l s = true ↔ s ∈ l := by
 unfold gi
 rw [List.any_eq_true]
 constructor
 ·rintro ⟨t, h1, h2⟩; rw [← of_decide_eq_true h2]; exact h1
 ·intro h; exact ⟨s, h, decide_eq_true rfl⟩
theorem uF (l : List ByteArray) (s : ByteArray) : bo Tryz.prog 31 [.imm 1 (jJ l), ph s] (c8 (gi l s)) := by
 refine aU Tryz.func31 rfl Tryz.ntmps31 rfl fun B => ?_
 refine cg 0 rfl rfl fun hlen => ?_
 rw [i7] at hlen
 (repeat' (first|refine ah ?_|refine a6 ?_|refine am ?_|refine a8 ?_|refine aa ?_|refine ae a7 rfl rfl ?_|fail))
 refine aL [0, 1] (α := Nat) (fun i => [(5, aQ i)]) (fun i => i ≤ l.length ∧ s ∉ l.take i) (fun _ => []) (fun i => l.length - i) 0 rfl ⟨rfl, trivial⟩ ⟨Nat.zero_le _, by simp⟩ (fun _ _ h => h) fun i hi => ?_
 try dsimp only [List.cons_append, List.nil_append, List.map_cons, List.map_nil]
 (repeat' (first|refine ah ?_|refine a6 ?_|refine a8 ?_|refine aa ?_|refine ae a7 rfl rfl ?_|fail))
 refine av rfl (fun h => ?_) (fun h => ?_)
 ·have hil : i < l.length := by have := of_decide_eq_true h; rw [i7] at this; omega
  obtain ⟨z, hz⟩ : ∃ z, l[i]? = some z := ⟨_, List.getElem?_eq_getElem hil⟩
  have hzg := ro hz
  (repeat' (first|refine ah ?_|refine a6 ?_|refine am ?_|refine ak ?_|refine a8 ?_|refine aa ?_|refine ae a7 rfl rfl ?_|(apply aP; first|refine aO a7 ?_|refine aI a7 ?_)|fail))
  refine av rfl (fun h2 => ?_) (fun h2 => ?_)
  ·have h2' := of_decide_eq_true h2
   (repeat' (first|refine ah ?_|refine a6 ?_|refine au ?_|refine a8 ?_|refine ar ?_|refine aG ?_|refine aK ?_|refine aa ?_|refine ae a7 rfl rfl ?_|fail))
   refine aB rfl rfl ?_
   subst h2'
   rw [j5.2 (List.mem_of_getElem? hz)]
  ·have h2' := of_decide_eq_false h2
   (repeat' (first|refine a6 ?_|refine ak ?_|refine a8 ?_|refine aJ ?_|refine aa ?_|refine ae a7 rfl rfl ?_|(apply aX; refine aW ?_)|fail))
   refine aE (i + 1) rfl ⟨by rw [Int.natCast_add]; rfl, trivial⟩ ⟨by omega, ?_⟩ (by omega) (fun _ _ h => h)
   rw [List.take_add_one, hz]
   intro hm
   rcases List.mem_append.1 hm with hm | hm
   ·exact hi.2 hm
   ·simp at hm; exact h2' hm.symm
 ·have hil : i = l.length := by have := of_decide_eq_false h; rw [i7] at this; omega
  subst hil
  rw [List.take_length] at hi
  (repeat' (first|refine ah ?_|refine a6 ?_|refine au ?_|refine aR ?_|refine a8 ?_|refine az ?_|refine aC ?_|refine aA ?_|refine aa ?_|refine ae a7 rfl rfl ?_|fail))
  refine aB rfl rfl ?_
  rw [Bool.eq_false_iff.2 fun h => hi.2 (j5.1 h)]
instance (l : List ByteArray) (s : ByteArray) : AD Tryz.prog 31 [.imm 1 (jJ l), ph s] (c8 (gi l s)) := ⟨uF l s⟩

def gP (f : aH) (n : Int) : Bool := match f.Lookups[n.toNat]? with
 | some l => decide (0 ≤ n ∧ (l.Kind = 1 ∨ l.Kind = 2 ∨ l.Kind = 3 ∨ l.Kind = 4))
 | none => false
theorem po (f : aH) (n : Int) : bo Tryz.prog 29 [bw f, aQ n] (c8 (gP f n)) := by
 refine aU Tryz.func29 rfl Tryz.ntmps29 rfl fun B => ?_
 (repeat' (first|refine ah ?_|refine a6 ?_|refine a8 ?_|refine aa ?_|refine ae a7 rfl rfl ?_|refine b6 ?_|fail))
 refine ci [1, 2] (n < 0 ∨ (f.Lookups.length : Int) ≤ n) rfl (fun Q' K => ?_) (fun hC => ?_) (fun hC => ?_)
 ·(repeat' (first|refine aa ?_|refine ae a7 rfl rfl ?_|refine aw rfl rfl ?_|refine aD rfl rfl rfl rfl ?_|refine aS rfl rfl rfl (fun _ => ?_) (fun _ => ?_)|fail))
  all_goals exact K _ _ rfl rfl (by simp_all <;> omega)
 ·(repeat' (first|refine ah ?_|refine a6 ?_|refine au ?_|refine a8 ?_|refine ar ?_|refine aa ?_|refine ae a7 rfl rfl ?_|fail))
  refine aB rfl rfl ?_
  unfold gP
  split
  ·rename_i l hl
   have := (List.getElem?_eq_some_iff.1 hl).1
   rw [decide_eq_false (by omega)]
  ·rfl
 ·obtain ⟨l, hl⟩ : ∃ l, f.Lookups[n.toNat]? = some l := ⟨_, List.getElem?_eq_getElem (by omega)⟩
  have hlg := b5 (c := bq) hl
  have hcn : gP f n = decide (l.Kind = 1 ∨ l.Kind = 2 ∨ l.Kind = 3 ∨ l.Kind = 4) := by
   unfold gP
   rw [hl]
   simp only [show 0 ≤ n by omega, true_and]
  rw [hcn]
  (repeat' (first|refine ah ?_|refine a6 ?_|refine am ?_|refine ak ?_|refine a8 ?_|refine aa ?_|refine ae a7 rfl rfl ?_|(apply aP; first|refine aO a7 ?_|refine aI a7 ?_)|fail))
  refine av rfl (fun h1 => ?_) (fun h1 => ?_)
  ·(repeat' (first|refine ak ?_|refine a8 ?_|fail))
   refine av rfl (fun _ => ?_) (fun h' => absurd (h1.symm.trans h') (by decide))
   (repeat' (first|refine ah ?_|refine a6 ?_|refine au ?_|refine a8 ?_|refine ar ?_|refine aG ?_|refine aa ?_|refine ae a7 rfl rfl ?_|fail))
   refine aB rfl rfl ?_
   rw [decide_eq_true (Or.inl (of_decide_eq_true h1))]
  (repeat' (first|refine ah ?_|refine a6 ?_|refine a8 ?_|refine aa ?_|refine ae a7 rfl rfl ?_|fail))
  refine av rfl (fun h2 => ?_) (fun h2 => ?_)
  ·(repeat' (first|refine ak ?_|refine a8 ?_|fail))
   refine av rfl (fun _ => ?_) (fun h' => absurd (h2.symm.trans h') (by decide))
   (repeat' (first|refine ah ?_|refine a6 ?_|refine au ?_|refine a8 ?_|refine ar ?_|refine aG ?_|refine aa ?_|refine ae a7 rfl rfl ?_|fail))
   refine aB rfl rfl ?_
   rw [decide_eq_true (Or.inr (Or.inl (of_decide_eq_true h2)))]
  (repeat' (first|refine ah ?_|refine a6 ?_|refine a8 ?_|refine aa ?_|refine ae a7 rfl rfl ?_|fail))
  refine av rfl (fun h3 => ?_) (fun h3 => ?_)
  ·(repeat' (first|refine ak ?_|refine a8 ?_|fail))
   refine av rfl (fun _ => ?_) (fun h' => absurd (h3.symm.trans h') (by decide))
   (repeat' (first|refine ah ?_|refine a6 ?_|refine au ?_|refine a8 ?_|refine ar ?_|refine aG ?_|refine aa ?_|refine ae a7 rfl rfl ?_|fail))
   refine aB rfl rfl ?_
   rw [decide_eq_true (Or.inr (Or.inr (Or.inl (of_decide_eq_true h3))))]
  (repeat' (first|refine a6 ?_|refine a8 ?_|refine aa ?_|refine ae a7 rfl rfl ?_|fail))
  refine av rfl (fun h4 => ?_) (fun h4 => ?_)
  ·(repeat' (first|refine ah ?_|refine a6 ?_|refine au ?_|refine a8 ?_|refine ar ?_|refine aG ?_|refine aa ?_|refine ae a7 rfl rfl ?_|fail))
   refine aB rfl rfl ?_
   rw [decide_eq_true (Or.inr (Or.inr (Or.inr (of_decide_eq_true h4))))]
  (repeat' (first|refine ah ?_|refine a6 ?_|refine ak ?_|refine au ?_|refine a8 ?_|refine aJ ?_|refine aa ?_|refine ae a7 rfl rfl ?_|fail))
  refine aB rfl rfl ?_
  rw [decide_eq_false]
  intro hh
  rcases hh with hh | hh | hh | hh
  ·exact of_decide_eq_false h1 hh
  ·exact of_decide_eq_false h2 hh
  ·exact of_decide_eq_false h3 hh
  ·exact of_decide_eq_false h4 hh
instance (f : aH) (n : Int) : AD Tryz.prog 29 [bw f, aQ n] (c8 (gP f n)) := ⟨po f n⟩
end Go.Proofs.YtpbinloeemebkaaGreat

namespace Go.Proofs.YtpbinloeemebkaaGreat
open Go.RowKit
attribute [local irreducible] AT bN AX AO Av Kt bi dE DA d6
def p7 (l : List (List Int)) : Nat := (l.map fun q => 1 + q.length).sum
def l7 (r : bJ) : Nat := r.Out.length + r.Calls.length + (p7 r.Back + p7 r.In + p7 r.Ahead)
def jh (l : List bJ) : Nat := l.length + (l.map l7).sum
def fm (g : be) : Nat := g.Points.length + g.Parts.length + g.Anchors.length + g.Deltas.length + g.Hint.length + g.Name.size / 100
def iK (t : bA) : Nat := t.Lookups.length + t.Name.size / 100
def gE (f : aH) : Nat := f.Glyphs.length + f.Chars.length + f.Lookups.length + f.Features.length + f.Axes.length + f.Regions.length + f.Funcs.length + f.Cvt.length + (f.Glyphs.map fm).sum + (f.Lookups.map fun l => jh l.Rules).sum + (f.Funcs.map (·.length)).sum + (f.Features.map iK).sum + (f.Regions.map (·.length)).sum
def ck (f : aH) : Prop := gE f ≤ 2000
theorem l9 {α : Type} {g : α → Nat} {l : List α} {a : α} (h : a ∈ l) : g a ≤ (l.map g).sum := by
 induction l with
 | nil => cases h
 | cons b l ih =>
  rw [List.map_cons, List.sum_cons]
  rcases List.mem_cons.1 h with h | h
  ·subst h; omega
  ·have := ih h; omega
theorem Aq {α : Type} {g k : α → Nat} {l : List α} (h : ∀ a ∈ l, g a ≤ k a) : (l.map g).sum ≤ (l.map k).sum := by
 induction l with
 | nil => simp
 | cons b l ih =>
  rw [List.map_cons, List.sum_cons, List.map_cons, List.sum_cons]
  have := ih fun a ha => h a (List.mem_cons_of_mem _ ha)
  have := h b (List.mem_cons_self ..)
  omega
section
variable {f : aH} (hs : ck f)
include hs
theorem ck.glyphs : f.Glyphs.length ≤ 2000 := by unfold ck gE at hs; omega
theorem ck.chars : f.Chars.length ≤ 2000 := by unfold ck gE at hs; omega
theorem ck.lookups : f.Lookups.length ≤ 2000 := by unfold ck gE at hs; omega
theorem ck.features : f.Features.length ≤ 2000 := by unfold ck gE at hs; omega
theorem ck.feats : (f.Features.map (·.Lookups.length)).sum ≤ 2000 := by
 have := Aq (l := f.Features) (g := fun t => t.Lookups.length) (k := iK) fun a _ => by unfold iK; omega
 unfold ck gE at hs
 omega
theorem ck.rules {l : bC} (h : l ∈ f.Lookups) : jh l.Rules ≤ 2000 := by
 have := l9 (g := fun l : bC => jh l.Rules) h
 unfold ck gE at hs
 omega
theorem ck.rulesL {l : bC} (h : l ∈ f.Lookups) : l.Rules.length ≤ 2000 := by
 have := hs.rules h
 unfold jh at this
 omega
theorem ck.rule {l : bC} {r : bJ} (h : l ∈ f.Lookups) (hr : r ∈ l.Rules) : l7 r ≤ 2000 := by
 have := hs.rules h
 have := l9 (g := l7) hr
 unfold jh at *
 omega
theorem ck.calls {l : bC} {r : bJ} (h : l ∈ f.Lookups) (hr : r ∈ l.Rules) : r.Calls.length ≤ 2000 := by
 have := hs.rule h hr
 unfold l7 at this
 omega
theorem ck.out {l : bC} {r : bJ} (h : l ∈ f.Lookups) (hr : r ∈ l.Rules) : r.Out.length ≤ 2000 := by
 have := hs.rule h hr
 unfold l7 at this
 omega
end
inductive gM (f : aH) (fs : List ByteArray) : Int → Prop
 | base {t : bA} {n : Int} (h : t ∈ f.Features) (hn : gi fs t.Name = true) (hm : n ∈ t.Lookups) (h0 : 0 ≤ n) (h1 : n < f.Lookups.length) : gM f fs n
 | call {m : Int} {l : bC} {r : bJ} {c : iQ} (h : gM f fs m) (hl : f.Lookups[m.toNat]? = some l) (hk : l.Kind = 4) (hr : r ∈ l.Rules) (hc : c ∈ r.Calls) (hn : gP f c.Lookup = true) : gM f fs c.Lookup
theorem mZ {f : aH} {n : Int} (h : gP f n = true) : 0 ≤ n ∧ n < f.Lookups.length := by
 unfold gP at h
 split at h
 ·rename_i l hl
  have := (List.getElem?_eq_some_iff.1 hl).1
  have := of_decide_eq_true h
  omega
 ·cases h
theorem gM.in {f : aH} {fs : List ByteArray} {n : Int} (h : gM f fs n) : 0 ≤ n ∧ n < f.Lookups.length := by
 cases h with
 | base _ _ _ h0 h1 => exact ⟨h0, h1⟩
 | call _ _ _ _ _ h => exact mZ h
theorem dL {l : List Int} {n : Nat} {z : Int} : z ∈ d3 l n ↔ z ∈ l ∧ 0 ≤ z ∧ z < n := by
 unfold d3
 rw [List.mem_filter, List.mem_map]
 constructor
 ·rintro ⟨⟨i, hi, rfl⟩, h⟩
  rw [List.mem_range] at hi
  refine ⟨by simpa using h, by simp, by simpa using hi⟩
 ·rintro ⟨h, h0, h1⟩
  exact ⟨⟨z.toNat, by rw [List.mem_range]; omega, by simp; omega⟩, by simpa using h⟩
theorem iD (l : List Int) (n : Nat) : (d3 l n).Nodup := by
 unfold d3
 rw [List.nodup_iff_pairwise_ne]
 refine List.Pairwise.filter _ ?_
 rw [List.pairwise_map]
 exact (List.nodup_iff_pairwise_ne.1 List.nodup_range).imp fun h e => h (by injection e)
theorem nS {l k : List Int} {n : Nat} (h : ∀ z : Int, 0 ≤ z → z < n → (z ∈ l ↔ z ∈ k)) : d3 l n = d3 k n := by
 unfold d3
 refine List.filter_congr fun z hz => ?_
 rw [List.mem_map] at hz
 obtain ⟨i, hi, rfl⟩ := hz
 rw [List.mem_range] at hi
 have := h (Int.ofNat i) (by simp) (by simpa using hi)
 rw [Bool.eq_iff_iff, List.contains_iff_mem, List.contains_iff_mem]
 exact this
open Classical in
noncomputable def dc (f : aH) (fs : List ByteArray) : List Int := ((List.range f.Lookups.length).map Int.ofNat).filter fun z => decide (gM f fs z)
open Classical in
theorem nU {f : aH} {fs : List ByteArray} {l : List Int} (h : ∀ z : Int, 0 ≤ z → z < f.Lookups.length → (z ∈ l ↔ gM f fs z)) : d3 l f.Lookups.length = dc f fs := by
 unfold d3 dc
 refine List.filter_congr fun z hz => ?_
 rw [List.mem_map] at hz
 obtain ⟨i, hi, rfl⟩ := hz
 rw [List.mem_range] at hi
 have := h (Int.ofNat i) (by simp) (by simpa using hi)
 rw [Bool.eq_iff_iff, List.contains_iff_mem, decide_eq_true_iff]
 exact this
theorem eb {l : List Int} {n : Nat} (h : l.Nodup) (hi : ∀ z ∈ l, 0 ≤ z ∧ z < n) : l.length ≤ n := by
 induction n generalizing l with
 | zero =>
  cases l with
  | nil => exact Nat.zero_le _
  | cons a l => have := hi a (List.mem_cons_self ..); omega
 | succ n ih =>
  by_cases hm : (n : Int) ∈ l
  ·have h1 := ih (l := l.erase n) (h.erase _) fun z hz => by
    have := (h.mem_erase_iff).1 hz
    have := hi z this.2
    omega
   rw [List.length_erase_of_mem hm] at h1
   omega
  ·have := ih h fun z hz => by
    have := hi z hz
    have : z ≠ n := fun e => hm (e ▸ hz)
    omega
   omega
end Go.Proofs.YtpbinloeemebkaaGreat

namespace Go.Proofs.YtpbinloeemebkaaGreat
open Go.RowKit Go.MapKept
def iR (d : TypeDesc) (m : Value → Option AV) (σ : ce) (o : Obj) : Prop :=
 ∃ es clock, o = .map es clock ∧ (∀ x ∈ es.toList, IsKey d x.key ∧ ∃ c, m x.key = some c ∧ VR σ c x.val) ∧ es.toList.Pairwise (fun x y => x.key ≠ y.key) ∧ ∀ k c, m k = some c → ∃ x ∈ es.toList, x.key = k
def c6 (d : TypeDesc) (m : Value → Option AV) : AB := .dep (iR d m) fun σ τ o hle ⟨es, clock, h1, h2, h3, h4⟩ => ⟨es, clock, h1, fun x hx => by
 obtain ⟨a, c, e, f⟩ := h2 x hx
 exact ⟨a, c, e, f.mono hle⟩, h3, h4⟩
theorem iR.none {d : TypeDesc} {m : Value → Option AV} {σ : ce} {es : Array MapEntry} {clock : Nat} {k : Value} (h : iR d m σ (.map es clock)) (hk : IsKey d k) (hm : m k = none) : Instr.findNow d k es.toList 0 = some none := by
 obtain ⟨es', clock', h1, h2, h3, h4⟩ := h
 cases h1
 rcases findNow_spec hk es.toList 0 (fun x hx => (h2 x hx).1) with ⟨h5, _⟩ | ⟨j, e, h5, h6, h7⟩
 ·exact h5
 ·obtain ⟨_, c, h8, _⟩ := h2 e (List.mem_of_getElem? h6)
  rw [h7, hm] at h8
  cases h8
theorem iR.some {d : TypeDesc} {m : Value → Option AV} {σ : ce} {es : Array MapEntry} {clock : Nat} {k : Value} {c : AV} (h : iR d m σ (.map es clock)) (hk : IsKey d k) (hm : m k = some c) : ∃ (j : Nat) (e : MapEntry), Instr.findNow d k es.toList 0 = some (some (j, e.val)) ∧ es[j]? = some e ∧ e.key = k ∧ VR σ c e.val := by
 obtain ⟨es', clock', h1, h2, h3, h4⟩ := h
 cases h1
 rcases findNow_spec hk es.toList 0 (fun x hx => (h2 x hx).1) with ⟨_, h5⟩ | ⟨j, e, h5, h6, h7⟩
 ·obtain ⟨x, hx, hk'⟩ := h4 k c hm
  exact absurd hk' (h5 x hx)
 ·obtain ⟨_, c', h8, h9⟩ := h2 e (List.mem_of_getElem? h6)
  rw [h7, hm] at h8
  cases h8
  exact ⟨j, e, by simpa using h5, by simpa using h6, h7, h9⟩
section
variable {P : Program} {fr : c9} {B : Bs} {L : AL} {d : Option Tmp} {ty t : TypeId} {pos : String} {af : Array Edge} {g : Option (Nat × Bool)} {x y z : Operand} {u : AV}
theorem rM (kd : TypeDesc) : AO P ⟨d, .makeMap t none, ty, pos, af, g⟩ fr B L (fun c L' => ∃ b, c = .sc (.map (some b)) ∧ L' = (b, c6 kd fun _ => none) :: L) := by
 intro σ ρ w hρ hw
 have hr : (execOp ρ ⟨d, .makeMap t none, ty, pos, af, g⟩).run P w = .ok (.value (.map (some w.heap.size))) (w.alloc (.map #[] 0)) := by
  simp [execOp, Instr.makeMap]
 unfold ia
 rw [hr]
 exact ⟨σ, _, _, ce.le_refl _, .sc _, hw.alloc _ (c6 kd fun _ => Option.none) ⟨#[], 0, rfl, by simp, by simp, by simp⟩, _, rfl, rfl⟩
theorem pk (i : Nat) {b kt et : Nat} {kd : TypeDesc} {k : Value} {m m' : Value → Option AV} (ht : P.underlying t = some (.map kt et)) (hkt : P.underlying kt = some kd) (hx : bB fr x = some (.sc (.map (some b)))) (hy : bB fr y = some (.sc k)) (hk : IsKey kd k) (hz : bB fr z = some u) (hL : L[i]? = some (b, c6 kd m)) (h1 : m' k = some u) (h2 : ∀ q, q ≠ k → m' q = m q) :
  AO P ⟨d, .mapUpdate t x y z, ty, pos, af, g⟩ fr B L (fun _ L' => L' = gA L i (c6 kd m')) := by
 intro σ ρ w hρ hw
 obtain ⟨o, ho, hM⟩ := hw.here _ (List.mem_of_getElem? hL)
 have hM' : iR kd m σ o := hM
 obtain ⟨es, clock, rfl, h3, h4, h5⟩ := hM'
 have hM' : iR kd m σ (.map es clock) := hM
 have hv := hρ z u hz
 have hlt : b < w.heap.size := (Array.getElem?_eq_some_iff.1 ho).1
 have key : ∃ es' clock', (Instr.mapUpdate t (.map (some b)) k (ρ z)).run P w = .ok () (w.putObj b (.map es' clock')) ∧ iR kd m' σ (.map es' clock') := by
  cases hm : m k with
  | none =>
   refine ⟨es.push ⟨k, ρ z, clock⟩, clock + 1, ?_, _, _, rfl, ?_, ?_, ?_⟩
   ·simp [Instr.mapUpdate, run_underlying ht, MapKept.run_getObj_map ho, run_checkKey hkt hk, run_findKey hkt (hM'.none hk hm), MapKept.run_setObj_map _ ho, Result.andThen, World.putObj]
   ·intro e he
    rw [Array.toList_push, List.mem_append, List.mem_singleton] at he
    rcases he with he | rfl
    ·obtain ⟨h6, c, h7, h8⟩ := h3 e he
     exact ⟨h6, c, by rw [h2 _ (fun e1 => by rw [e1, hm] at h7; cases h7)]; exact h7, h8⟩
    ·exact ⟨hk, u, h1, hv⟩
   ·rw [Array.toList_push, List.pairwise_append]
    refine ⟨h4, by simp, fun e he e' he' => ?_⟩
    rw [List.mem_singleton] at he'
    subst he'
    obtain ⟨_, c, h7, _⟩ := h3 e he
    exact fun e1 => by rw [e1, hm] at h7; cases h7
   ·intro q c hq
    by_cases e : q = k
    ·subst e
     exact ⟨_, by rw [Array.toList_push]; exact List.mem_append.2 (Or.inr (List.mem_singleton.2 rfl)), rfl⟩
    ·rw [h2 q e] at hq
     obtain ⟨y, hy, hy'⟩ := h5 q c hq
     exact ⟨y, by rw [Array.toList_push]; exact List.mem_append.2 (Or.inl hy), hy'⟩
  | some c =>
   obtain ⟨j, e, h6, h7, h8, h9⟩ := hM'.some hk hm
   have hdis : ∀ n e', es[n]? = some e' → ¬ j = n → e'.key ≠ k := by
    intro n e' hn hne
    rw [← Array.getElem?_toList] at hn h7
    rw [← h8]
    rw [List.pairwise_iff_getElem] at h4
    obtain ⟨hj1, hj2⟩ := List.getElem?_eq_some_iff.1 h7
    obtain ⟨hn1, hn2⟩ := List.getElem?_eq_some_iff.1 hn
    rcases Nat.lt_or_gt_of_ne hne with hlt | hgt
    ·have := h4 j n hj1 hn1 hlt
     rw [hj2, hn2] at this
     exact this.symm
    ·have := h4 n j hn1 hj1 hgt
     rw [hj2, hn2] at this
     exact this
   refine ⟨es.modify j (fun e' => { e' with key := k, val := ρ z }), clock, ?_, _, _, rfl, ?_, ?_, ?_⟩
   ·simp [Instr.mapUpdate, run_underlying ht, MapKept.run_getObj_map ho, run_checkKey hkt hk, run_findKey hkt h6, h7, h8, run_keyThatStays hk, MapKept.run_setObj_map _ ho, Result.andThen, World.putObj]
   ·intro e' he'
    obtain ⟨n, hn⟩ := List.mem_iff_getElem?.1 he'
    rw [Array.getElem?_toList, Array.getElem?_modify] at hn
    by_cases e1 : j = n
    ·subst e1
     rw [if_pos rfl, h7] at hn
     simp at hn
     subst hn
     exact ⟨hk, u, h1, hv⟩
    ·rw [if_neg e1] at hn
     obtain ⟨h10, c', h11, h12⟩ := h3 e' (List.mem_of_getElem? (by rw [Array.getElem?_toList]; exact hn))
     exact ⟨h10, c', by rw [h2 _ (hdis n e' hn e1)]; exact h11, h12⟩
   ·have hkeys : (es.modify j (fun e' => { e' with key := k, val := ρ z })).toList.map MapEntry.key = es.toList.map MapEntry.key := by
     apply List.ext_getElem?
     intro n
     rw [List.getElem?_map, List.getElem?_map, Array.getElem?_toList, Array.getElem?_toList, Array.getElem?_modify]
     by_cases e1 : j = n
     ·subst e1
      rw [if_pos rfl, h7]
      simp [h8]
     ·rw [if_neg e1]
    refine (List.pairwise_map (f := MapEntry.key) (R := fun a b : Value => a ≠ b)).1 ?_
    rw [hkeys]
    exact List.pairwise_map.2 h4
   ·intro q c hq
    by_cases e1 : q = k
    ·subst e1
     refine ⟨{ e with key := q, val := ρ z }, List.mem_iff_getElem?.2 ⟨j, ?_⟩, rfl⟩
     rw [Array.getElem?_toList, Array.getElem?_modify, if_pos rfl, h7]
     rfl
    ·rw [h2 q e1] at hq
     obtain ⟨y, hy, hy'⟩ := h5 q c hq
     obtain ⟨n, hn⟩ := List.mem_iff_getElem?.1 hy
     rw [Array.getElem?_toList] at hn
     refine ⟨y, List.mem_iff_getElem?.2 ⟨n, ?_⟩, hy'⟩
     rw [Array.getElem?_toList, Array.getElem?_modify, if_neg, hn]
     intro e2
     subst e2
     rw [h7] at hn
     injection hn with hn
     subst hn
     exact e1 (hy'.symm.trans h8)
 obtain ⟨es', clock', hr, hq⟩ := key
 unfold ia
 rw [show (execOp ρ ⟨d, .mapUpdate t x y z, ty, pos, af, g⟩).run P w = .ok .skip (w.putObj b (.map es' clock')) by simp only [execOp, (hρ x _ hx).sc_inv, (hρ y _ hy).sc_inv, Sem.run_bind, Sem.run_pure, Result.andThen, hr]]
 exact ⟨σ, .sc undef, _, ce.le_refl _, .sc _, hw.putAt (a' := c6 kd m') hL (fun _ => trivial) (j4 w b _) (World.putObj_heap_same hlt) hq, rfl⟩
theorem nR {w : World} {b kt et : Nat} {kd : TypeDesc} {k v0 : Value} {m : Value → Option AV} {es : Array MapEntry} {clock : Nat} {σ : ce} (ht : P.underlying t = some (.map kt et)) (hkt : P.underlying kt = some kd) (hk : IsKey kd k) (ho : w.heap[b]? = some (.map es clock)) (hM : iR kd m σ (.map es clock)) (hz : (zeroValue et).run P w = .ok v0 w) (ok : Bool) :
  ∃ v, (Instr.lookup t (.map (some b)) k ok).run P w = .ok (bif ok then .tuple #[v, .bool (m k).isSome] else v) w ∧ match m k with | some c => VR σ c v | none => v = v0 := by
 cases hm : m k with
 | none =>
  refine ⟨v0, ?_, rfl⟩
  cases ok <;> simp [Instr.lookup, run_underlying ht, MapKept.run_getObj_map ho, run_checkKey hkt hk, run_findKey hkt (hM.none hk hm), Result.andThen, hz]
 | some c =>
  obtain ⟨j, e, h6, h7, h8, h9⟩ := hM.some hk hm
  refine ⟨e.val, ?_, h9⟩
  cases ok <;> simp [Instr.lookup, run_underlying ht, MapKept.run_getObj_map ho, run_checkKey hkt hk, run_findKey hkt h6, Result.andThen]
theorem jr (i : Nat) {b kt et : Nat} {kd : TypeDesc} {k v0 : Value} {m : Value → Option AV} {c0 : AV} (ht : P.underlying t = some (.map kt et)) (hkt : P.underlying kt = some kd) (hx : bB fr x = some (.sc (.map (some b)))) (hy : bB fr y = some (.sc k)) (hk : IsKey kd k) (hL : L[i]? = some (b, c6 kd m)) (hz : ∀ w, (zeroValue et).run P w = .ok v0 w) (h0 : ∀ σ, VR σ c0 v0) :
  AO P ⟨d, .lookup t x y false, ty, pos, af, g⟩ fr B L (fun c L' => c = (m k).getD c0 ∧ L' = L) := by
 intro σ ρ w hρ hw
 obtain ⟨o, ho, hM⟩ := hw.here _ (List.mem_of_getElem? hL)
 have hM' : iR kd m σ o := hM
 obtain ⟨es, clock, rfl, _⟩ := hM'
 obtain ⟨v, hr, hv⟩ := nR (t := t) ht hkt hk ho hM (hz w) false
 unfold ia
 rw [show (execOp ρ ⟨d, .lookup t x y false, ty, pos, af, g⟩).run P w = .ok (.value v) w by simp only [execOp, (hρ x _ hx).sc_inv, (hρ y _ hy).sc_inv, Sem.run_bind, Sem.run_pure, Result.andThen, hr]; rfl]
 refine ⟨σ, (m k).getD c0, _, ce.le_refl _, ?_, hw, rfl, rfl⟩
 cases hm : m k with
 | none => rw [hm] at hv; dsimp only at hv; subst hv; exact h0 σ
 | some c => rw [hm] at hv; exact hv
theorem rL (i : Nat) {b kt et : Nat} {kd : TypeDesc} {k v0 : Value} {m : Value → Option AV} {c0 : AV} (ht : P.underlying t = some (.map kt et)) (hkt : P.underlying kt = some kd) (hx : bB fr x = some (.sc (.map (some b)))) (hy : bB fr y = some (.sc k)) (hk : IsKey kd k) (hL : L[i]? = some (b, c6 kd m)) (hz : ∀ w, (zeroValue et).run P w = .ok v0 w) (h0 : ∀ σ, VR σ c0 v0) :
  AO P ⟨d, .lookup t x y true, ty, pos, af, g⟩ fr B L (fun c L' => c = .tup [(m k).getD c0, .sc (.bool (m k).isSome)] ∧ L' = L) := by
 intro σ ρ w hρ hw
 obtain ⟨o, ho, hM⟩ := hw.here _ (List.mem_of_getElem? hL)
 have hM' : iR kd m σ o := hM
 obtain ⟨es, clock, rfl, _⟩ := hM'
 obtain ⟨v, hr, hv⟩ := nR (t := t) ht hkt hk ho hM (hz w) true
 unfold ia
 rw [show (execOp ρ ⟨d, .lookup t x y true, ty, pos, af, g⟩).run P w = .ok (.value (.tuple #[v, .bool (m k).isSome])) w by simp only [execOp, (hρ x _ hx).sc_inv, (hρ y _ hy).sc_inv, Sem.run_bind, Sem.run_pure, Result.andThen, hr]; rfl]
 refine ⟨σ, .tup [(m k).getD c0, .sc (.bool (m k).isSome)], _, ce.le_refl _, ?_, hw, rfl, rfl⟩
 have h1 : VR σ ((m k).getD c0) v := by
  cases hm : m k with
  | none => rw [hm] at hv; dsimp only at hv; subst hv; exact h0 σ
  | some c => rw [hm] at hv; exact hv
 have h2 : d4 σ [(m k).getD c0, .sc (.bool (m k).isSome)] [v, .bool (m k).isSome] := .cons h1 (.cons (.sc _) .nil)
 exact .tup _ _ h2.1 h2.2
def jn (P : Program) (e : Nat) (v : Value) : Bool := match P.info? e with | some i => (match i.zero with | some z => tK z v | none => false) | none => false
theorem eT {e : Nat} {v : Value} (h : jn P e v = true) (w : World) : (zeroValue e).run P w = .ok v w := by
 unfold jn at h
 split at h
 ·rename_i i hi
  split at h
  ·rename_i z hz
   rw [← of h]
   simp [zeroValue, typeInfo, hi, hz]
  ·cases h
 ·cases h
end
section
variable {P : Program} {r : Option Nat} {ops : Array Oper} {Q : Exit → Act → World → Prop} {nt : Nat} {D : List Deferred} {fr : c9} {B : Bs} {L : AL} {rest : List Oper} {d : Nat} {ty t : TypeId} {pos : String} {af : Array Edge} {x y z : Operand} {u : AV}
theorem dW (kd : TypeDesc) (h : ∀ b, bN P r ops Q nt D rest ((d, .sc (.map (some b))) :: fr) B ((b, c6 kd fun _ => none) :: L)) (hd : Nat.ble nt d = false := by rfl) : bN P r ops Q nt D (⟨some d, .makeMap t none, ty, pos, af, none⟩ :: rest) fr B L :=
 cT hd rfl (rM kd) fun c L' ⟨b, h1, h2⟩ => by subst h1; subst h2; exact h b
theorem cG (i : Nat) (m' : Value → Option AV) {b kt et : Nat} {kd : TypeDesc} {k : Value} {m : Value → Option AV} (ht : P.underlying t = some (.map kt et)) (hkt : P.underlying kt = some kd) (hx : bB fr x = some (.sc (.map (some b)))) (hy : bB fr y = some (.sc k)) (hk : IsKey kd k) (hz : bB fr z = some u) (hL : L[i]? = some (b, c6 kd m)) (h1 : m' k = some u) (h2 : ∀ q, q ≠ k → m' q = m q)
  (h : bN P r ops Q nt D rest fr B (gA L i (c6 kd m'))) : bN P r ops Q nt D (⟨none, .mapUpdate t x y z, ty, pos, af, none⟩ :: rest) fr B L :=
 kC rfl (pk i ht hkt hx hy hk hz hL h1 h2) fun c L' h3 => by subst h3; exact h
theorem gX (i : Nat) (v0 : Value) {b kt et : Nat} {kd : TypeDesc} {k : Value} {m : Value → Option AV} (ht : P.underlying t = some (.map kt et)) (hkt : P.underlying kt = some kd) (hx : bB fr x = some (.sc (.map (some b)))) (hy : bB fr y = some (.sc k)) (hk : IsKey kd k) (hL : L[i]? = some (b, c6 kd m)) (hz : jn P et v0 = true) (hd : Nat.ble nt d = false)
  (h : bN P r ops Q nt D rest ((d, (m k).getD (.sc v0)) :: fr) B L) : bN P r ops Q nt D (⟨some d, .lookup t x y false, ty, pos, af, none⟩ :: rest) fr B L :=
 cT hd rfl (jr i ht hkt hx hy hk hL (eT hz) fun _ => .sc _) fun c L' ⟨h1, h2⟩ => by subst h1; subst h2; exact h
theorem lI (i : Nat) (v0 : Value) {b kt et : Nat} {kd : TypeDesc} {k : Value} {m : Value → Option AV} (ht : P.underlying t = some (.map kt et)) (hkt : P.underlying kt = some kd) (hx : bB fr x = some (.sc (.map (some b)))) (hy : bB fr y = some (.sc k)) (hk : IsKey kd k) (hL : L[i]? = some (b, c6 kd m)) (hz : jn P et v0 = true) (hd : Nat.ble nt d = false)
  (h : bN P r ops Q nt D rest ((d, .tup [(m k).getD (.sc v0), .sc (.bool (m k).isSome)]) :: fr) B L) : bN P r ops Q nt D (⟨some d, .lookup t x y true, ty, pos, af, none⟩ :: rest) fr B L :=
 cT hd rfl (rL i ht hkt hx hy hk hL (eT hz) fun _ => .sc _) fun c L' ⟨h1, h2⟩ => by subst h1; subst h2; exact h
end
end Go.Proofs.YtpbinloeemebkaaGreat

namespace Go.Proofs.YtpbinloeemebkaaGreat
open Go.RowKit
section
variable {P : Program} {tt : TT} {r : Option Nat} {ops : Array Oper} {Q : Exit → Act → World → Prop} {nt : Nat} {D : List Deferred} {fr : c9} {B : Bs} {L : AL} {rest : List Oper} {d : Nat} {ty t : TypeId} {pos : String} {af : Array Edge} {x y z : Operand} {u : AV}
theorem jb (ok : eW P tt) (n : Nat) {e sz by_ : Nat} {k k' : IntKind} {a b : Int} {zs : List Value} (ht : mj tt t = some (e, sz, by_)) (hz : zI tt e = some zs) (h1 : zs.all (·.oneCell') = true) (hx : bB fr x = some (.sc (.int k a))) (hy : bB fr y = some (.sc (.int k' b))) (ha : a = (n : Int)) (hb : b = (n : Int)) (hby : by_ * n ≤ 281474976710656) (h63 : n ≤ 9223372036854775807) (hd : Nat.ble nt d = false)
  (h : ∀ b, bN P r ops Q nt D rest ((d, .sc (.slice (some ⟨b, 0, none⟩) n n)) :: fr) B ((b, .box ((List.replicate n (zs.map .sc)).flatten) e) :: L)) : bN P r ops Q nt D (⟨some d, .makeSlice t x y, ty, pos, af, none⟩ :: rest) fr B L :=
 cT hd rfl (sY (bL ok ht).1 (eN ok hz) h1 (bL ok ht).2 hx hy ha hb hby h63) fun c L' ⟨b, h1, h2⟩ => by subst h1; subst h2; exact h b
theorem aZ {f : FuncId} {args : Array Operand} {ts : Array TypeId} {cs ds : List AV} {Post : AV → AL → Prop} [bt P f] (Lc Lf : AL) (hc : AC P f ds Lc Post) (hv : eU fr args.toList = some cs) (hi : lF cs = some ds) (hL : L.Perm (Lc ++ Lf)) (hd : Nat.ble nt d = false) (h : ∀ c L1, Post c L1 → bN P r ops Q nt D rest ((d, c) :: fr) B (L1 ++ Lf)) :
  bN P r ops Q nt D (⟨some d, .call ⟨.value (.func f), args, ts⟩, ty, pos, af, none⟩ :: rest) fr B L := by
 have hc' := hc
 rw [← gF hi] at hc'
 refine cT hd rfl (mA Lc Lf hv (fun σ vs h => h.im) hL hc') fun c L' hh => ?_
 obtain ⟨L1, h1, h2⟩ := hh
 subst h2
 exact h c L1 h1
theorem iz {σ0 : ce} {l : Nat} {args : Array Operand} {ts : Array TypeId} {cs ds : List AV} {Post : AV → AL → Prop} (Lc Lf : AL) (hB : σ0.le B.σ) (hc : AY P σ0 l ds Lc Post) (hz : bB fr z = some (.sc (.func (.yield l) #[] #[]))) (hv : eU fr args.toList = some cs) (hi : lF cs = some ds) (hL : L.Perm (Lc ++ Lf)) (hn : Oper.noDefer ⟨some d, .call ⟨.value z, args, ts⟩, ty, pos, af, none⟩ = true) (hd : Nat.ble nt d = false) (h : ∀ c L1, Post c L1 → bN P r ops Q nt D rest ((d, c) :: fr) B (L1 ++ Lf)) :
  bN P r ops Q nt D (⟨some d, .call ⟨.value z, args, ts⟩, ty, pos, af, none⟩ :: rest) fr B L := by
 have hc' := hc
 rw [← gF hi] at hc'
 refine cT hd hn (vG hB Lc Lf hz hv (fun σ vs h => h.im) hL hc') fun c L' hh => ?_
 obtain ⟨L1, h1, h2⟩ := hh
 subst h2
 exact h c L1 h1
theorem eH {e : Exit} {L' : AL} (hs : L'.Sublist L) (h : AX P e Q nt D fr B L') : AX P e Q nt D fr B L := fun σ a w ha hw => h σ a w ha (hw.sublist hs)
end
theorem tH {σ : ce} {cs cs' : List AV} {vs : List Value} (hl : cs.length = cs'.length) (h : ∀ (i : Nat) c c', cs[i]? = some c → cs'[i]? = some c' → ∀ v, VR σ c v → VR σ c' v) (hv : d4 σ cs vs) : d4 σ cs' vs := by
 refine ⟨hl.symm.trans hv.1, fun i c' u hc hu => ?_⟩
 have hi : i < cs.length := by rw [hl]; exact (List.getElem?_eq_some_iff.1 hc).1
 exact h i _ c' (List.getElem?_eq_getElem hi) hc _ (hv.2 i _ u (List.getElem?_eq_getElem hi) hu)
theorem iF {nt : Nat} {D : List Deferred} {B : Bs} {fr : c9} {L : AL} (i : Nat) {b : Nat} {cs cs' : List AV} {e : TypeId} (hL : L[i]? = some (b, .box cs e)) (h : ∀ σ vs, d4 σ cs vs → d4 σ cs' vs) : oh nt D B fr L fr (gA L i (.box cs' e)) := by
 intro σ a w ha hw0
 have hw := hw0.perm (fh hL)
 obtain ⟨o, ho, vs, rfl, hvs, h1⟩ := hw.here _ (List.mem_cons_self ..)
 refine ⟨σ, ha, cK.perm (L := (b, .box cs' e) :: L.eraseIdx i) ?_ (oF _ hL)⟩
 refine ⟨hw.os, hw.tape, hw.output, hw.size, hw.old, fun p hp => ?_, fun p hp => ?_, by simpa using hw.apart, hw.froz, fun p hp off hm => ?_, hw.grow, hw.same⟩
 ·rcases List.mem_cons.1 hp with rfl | hp'
  ·exact ⟨_, ho, vs, rfl, h σ vs hvs, h1⟩
  ·exact hw.here p (List.mem_cons_of_mem _ hp')
 ·rcases List.mem_cons.1 hp with rfl | hp'
  ·exact hw.mine (b, .box cs e) (List.mem_cons_self ..)
  ·exact hw.mine p (List.mem_cons_of_mem _ hp')
 ·rcases List.mem_cons.1 hp with rfl | hp'
  ·exact hw.free (b, .box cs e) (List.mem_cons_self ..) off trivial
  ·exact hw.free p (List.mem_cons_of_mem _ hp') off hm
theorem dU {cs : List AV} {k : Nat} {c : AV} : jI cs k [c] = cs.set k c := rfl
end Go.Proofs.YtpbinloeemebkaaGreat

namespace Go.Proofs.YtpbinloeemebkaaGreat
open Go.RowKit
attribute [local irreducible] AT bN AX AO Av Kt bi dE DA d6
def gw (n : Nat) : List (List Int) → Nat
 | [] => n
 | q :: r => if n ≤ 2000 then gw (n + 1 + q.length) r else n
def mR (n : Nat) : List (List (List Int)) → Nat
 | [] => n
 | s :: r => mR (gw n s) r
def lM (n : Nat) (r : bJ) : Nat := mR (n + r.Out.length + r.Calls.length) [r.Back, r.In, r.Ahead]
def eM (n : Nat) : List bJ → Nat
 | [] => n
 | r :: rs => if n ≤ 2000 then eM (lM n r) rs else n
def fM : Nat := 140737488355328
structure mN (r : bJ) : Prop where
 out : r.Out.length ≤ fM
 calls : r.Calls.length ≤ fM
 sets : ∀ s ∈ [r.Back, r.In, r.Ahead], s.length ≤ fM ∧ ∀ q ∈ s, q.length ≤ fM
theorem rn {s : List (List Int)} {j n : Nat} {q : List Int} (h : s[j]? = some q) (hn : n ≤ 2000) : gw n (s.drop j) = gw (n + 1 + q.length) (s.drop (j + 1)) := by
 have hj := (List.getElem?_eq_some_iff.1 h)
 rw [List.drop_eq_getElem_cons hj.1, hj.2]
 show (if n ≤ 2000 then _ else _) = _
 rw [if_pos hn]
theorem sE {s : List (List Int)} {n : Nat} (hn : ¬ n ≤ 2000) : gw n s = n := by
 cases s with
 | nil => rfl
 | cons q s => show (if n ≤ 2000 then _ else _) = _; rw [if_neg hn]
theorem pU {s : List bJ} {j n : Nat} {q : bJ} (h : s[j]? = some q) (hn : n ≤ 2000) : eM n (s.drop j) = eM (lM n q) (s.drop (j + 1)) := by
 have hj := (List.getElem?_eq_some_iff.1 h)
 rw [List.drop_eq_getElem_cons hj.1, hj.2]
 show (if n ≤ 2000 then _ else _) = _
 rw [if_pos hn]
theorem rd {s : List bJ} {n : Nat} (hn : ¬ n ≤ 2000) : eM n s = n := by
 cases s with
 | nil => rfl
 | cons q s => show (if n ≤ 2000 then _ else _) = _; rw [if_neg hn]
theorem lO {s : List (List Int)} {n m : Nat} (hm : 2000 + 1 + fM ≤ m) (hn : n ≤ m) (hs : ∀ q ∈ s, q.length ≤ fM) : gw n s ≤ m := by
 induction s generalizing n with
 | nil => exact hn
 | cons q s ih =>
  show (if n ≤ 2000 then _ else _) ≤ m
  split
  ·exact ih (by have := hs q (List.mem_cons_self ..); omega) fun q' h => hs q' (List.mem_cons_of_mem _ h)
  ·exact hn
set_option maxHeartbeats 2000000 in
theorem re (l : List bJ) (hl : l.length ≤ fM) (hf : ∀ r ∈ l, mN r) : bo Tryz.prog 23 [.imm 6 (l.map ca)] (aQ (eM l.length l)) := by
 refine aU Tryz.func23 rfl Tryz.ntmps23 rfl fun B => ?_
 unfold fM at hl
 (repeat' (first|refine ah ?_|refine a6 ?_|refine am ?_|refine a8 ?_|refine aa ?_|refine ae a7 rfl rfl ?_|fail))
 rw [List.length_map]
 refine aL [0] (α := Nat × Nat) (fun x => [(3, aQ x.1), (4, aQ x.2)]) (fun x => x.2 ≤ l.length ∧ x.1 ≤ 3 * 140737488355328 ∧ eM x.1 (l.drop x.2) = eM l.length l) (fun _ => []) (fun x => l.length - x.2) (l.length, 0) rfl ⟨rfl, rfl, trivial⟩ ⟨Nat.zero_le _, by dsimp only; omega, rfl⟩ (fun _ _ h => h) ?_
 rintro ⟨n, i⟩ ⟨hi, hn, hg⟩
 dsimp only at hi hn hg ⊢
 try dsimp only [List.cons_append, List.nil_append, List.map_cons, List.map_nil]
 (repeat' (first|refine ah ?_|refine a6 ?_|refine ae a7 rfl rfl ?_|fail))
 refine ci [0, 3, 4] (i < l.length ∧ n ≤ 2000) rfl (fun Q' K => ?_) (fun hC => ?_) (fun hC => ?_)
 ·(repeat' (first|refine aa ?_|refine ae a7 rfl rfl ?_|refine aw rfl rfl ?_|refine aD rfl rfl rfl rfl ?_|refine aS rfl rfl rfl (fun _ => ?_) (fun _ => ?_)|fail))
  all_goals exact K _ _ rfl rfl (by simp_all <;> omega)
 ·obtain ⟨hil, hn2⟩ := hC
  obtain ⟨r, hr⟩ : ∃ r, l[i]? = some r := ⟨_, List.getElem?_eq_getElem hil⟩
  have hrg := b5 (c := ca) hr
  have hrf := hf r (List.mem_of_getElem? hr)
  have ho := hrf.out
  have hc := hrf.calls
  unfold fM at ho hc
  have ho' : (aV r.Out).length ≤ 140737488355328 := by rw [aM]; exact ho
  have hc' : (r.Calls.map g8).length ≤ 140737488355328 := by rw [List.length_map]; exact hc
  (repeat' (first|refine ah ?_|refine a6 ?_|refine am ?_|refine ak ?_|refine a8 ?_|refine aa ?_|refine ae a7 rfl rfl ?_|(apply aX; refine aW ?_)|(apply aP; first|refine aO a7 ?_|refine aI a7 ?_)|(apply aT; first|refine ai 5 a7 0 rfl rfl rfl rfl rfl rfl rfl rfl ?_|refine ai 5 a7 1 rfl rfl rfl rfl rfl rfl rfl rfl ?_|refine ai 5 a7 2 rfl rfl rfl rfl rfl rfl rfl rfl ?_|refine aj a7 0 rfl rfl rfl rfl rfl rfl rfl ?_|refine aj a7 1 rfl rfl rfl rfl rfl rfl rfl ?_|refine aj a7 2 rfl rfl rfl rfl rfl rfl rfl ?_|refine aj a7 3 rfl rfl rfl rfl rfl rfl rfl ?_|fail)|refine bb a7 fun _=>?_|refine bM a7 ?_|fail))
  obtain ⟨m, hm⟩ : ∃ m, m = n + r.Out.length + r.Calls.length := ⟨_, rfl⟩
  have hmi : (n : Int) + ((aV r.Out).length : Int) + ((r.Calls.map g8).length : Int) = (m : Int) := by rw [aM, List.length_map, hm]; omega
  rw [hmi]
  obtain ⟨ss, hss⟩ : ∃ ss, ss = [r.Back, r.In, r.Ahead] := ⟨_, rfl⟩
  have hrows : [[AV.imm 1 (c7 r.Back)], [AV.imm 1 (c7 r.In)], [AV.imm 1 (c7 r.Ahead)]] = ss.map fun q => [AV.imm 1 (c7 q)] := by rw [hss]; rfl
  have hssl : ss.length = 3 := by rw [hss]; rfl
  have hsf : ∀ s ∈ ss, s.length ≤ 140737488355328 ∧ ∀ q ∈ s, q.length ≤ 140737488355328 := by rw [hss]; exact hrf.sets
  have hgo : lM n r = mR m ss := by unfold lM; rw [hss, hm]
  have hm3 : m ≤ 3 * 140737488355328 := by omega
  refine fy (cw (t := 6) (c' := .imm 1 (ss.map fun q => [AV.imm 1 (c7 q)])) rfl (fun _ _ h => by rw [← hrows]; exact h)) ?_
  refine aL [0, 4, 6] (α := Nat × Nat) (fun x => [(3, aQ x.1), (7, aQ x.2)]) (fun x => x.2 ≤ 3 ∧ x.1 ≤ 3 * 140737488355328 ∧ mR x.1 (ss.drop x.2) = mR m ss) (fun _ => []) (fun x => 3 - x.2) (m, 0) rfl ⟨rfl, rfl, trivial⟩ ⟨Nat.zero_le _, hm3, rfl⟩ (fun _ _ h => h) ?_
  rintro ⟨m1, k⟩ ⟨hk, hm1, hg1⟩
  dsimp only at hk hm1 hg1 ⊢
  try dsimp only [List.cons_append, List.nil_append, List.map_cons, List.map_nil]
  (repeat' (first|refine ah ?_|refine a6 ?_|refine a8 ?_|refine aa ?_|refine ae a7 rfl rfl ?_|fail))
  refine av rfl (fun h => ?_) (fun h => ?_)
  ·have hk3 : k < 3 := by have := of_decide_eq_true h; omega
   obtain ⟨s, hsk⟩ : ∃ s, ss[k]? = some s := ⟨_, List.getElem?_eq_getElem (by omega)⟩
   have hskg := b5 (c := fun q => [AV.imm 1 (c7 q)]) hsk
   have hsl := hsf s (List.mem_of_getElem? hsk)
   have hdr : mR m1 (ss.drop k) = mR (gw m1 s) (ss.drop (k + 1)) := by
    have hj := (List.getElem?_eq_some_iff.1 hsk)
    rw [List.drop_eq_getElem_cons hj.1, hj.2]
    rfl
   clear h
   (repeat' (first|refine ah ?_|refine a6 ?_|refine am ?_|refine ak ?_|refine a8 ?_|refine aa ?_|refine ae a7 rfl rfl ?_|fail))
   refine aL [0, 4, 6, 7] (α := Nat × Nat) (fun x => [(3, aQ x.1), (8, aQ x.2)]) (fun x => x.2 ≤ s.length ∧ x.1 ≤ 3 * 140737488355328 ∧ gw x.1 (s.drop x.2) = gw m1 s) (fun _ => []) (fun x => s.length - x.2) (m1, 0) rfl ⟨rfl, rfl, trivial⟩ ⟨Nat.zero_le _, hm1, rfl⟩ (fun _ _ h => h) ?_
   rintro ⟨m2, j⟩ ⟨hj, hm2, hg2⟩
   dsimp only at hj hm2 hg2 ⊢
   try dsimp only [List.cons_append, List.nil_append, List.map_cons, List.map_nil]
   (repeat' (first|refine ah ?_|refine a6 ?_|refine ae a7 rfl rfl ?_|(apply aP; first|refine aO a7 ?_|refine aI a7 ?_)|fail))
   refine ci [0, 3, 4, 6, 7, 8] (j < s.length ∧ m2 ≤ 2000) rfl (fun Q' K => ?_) (fun hC => ?_) (fun hC => ?_)
   ·clear hf hg hrf hsf hrows hss hgo hg1 hdr hskg hsk hrg hr hg2
    (repeat' (first|refine aa ?_|refine ae a7 rfl rfl ?_|refine aw rfl rfl ?_|refine aD rfl rfl rfl rfl ?_|refine aS rfl rfl rfl (fun _ => ?_) (fun _ => ?_)|fail))
    all_goals exact K _ _ rfl rfl (by simp_all [cq] <;> omega)
   ·obtain ⟨hjl, hm2k⟩ := hC
    obtain ⟨q, hq⟩ : ∃ q, s[j]? = some q := ⟨_, List.getElem?_eq_getElem hjl⟩
    have hqg := fq hq
    have hql := hsl.2 q (List.mem_of_getElem? hq)
    have hql' : (aV q).length ≤ 140737488355328 := by rw [aM]; exact hql
    (repeat' (first|refine ah ?_|refine a6 ?_|refine am ?_|refine ak ?_|refine a8 ?_|refine aJ ?_|refine aa ?_|refine ae a7 rfl rfl ?_|(apply aX; refine aW ?_)|(apply aP; first|refine aO a7 ?_|refine aI a7 ?_)|fail))
    refine aE (m2 + 1 + q.length, j + 1) rfl ⟨by rw [aM]; push_cast; rfl, by rw [Int.natCast_add]; rfl, trivial⟩ ⟨by dsimp only; omega, by dsimp only; omega, by dsimp only; rw [← rn hq hm2k]; exact hg2⟩ (by dsimp only; omega) (fun _ _ h => h)
   ·have hfin2 : gw m2 (s.drop j) = m2 := by
     by_cases h2 : m2 ≤ 2000
     ·have : j = s.length := by
       have : ¬ j < s.length := fun h => hC ⟨h, h2⟩
       omega
      subst this
      rw [List.drop_length]
      rfl
     ·exact sE h2
    (repeat' (first|refine a6 ?_|refine aR ?_|refine a8 ?_|refine az ?_|refine aJ ?_|refine aC ?_|refine aA ?_|refine aa ?_|refine ae a7 rfl rfl ?_|(apply aX; refine aW ?_)|fail))
    refine aE (m2, k + 1) rfl ⟨rfl, by rw [Int.natCast_add]; rfl, trivial⟩ ⟨by dsimp only; omega, by dsimp only; omega, by dsimp only; rw [← hg1, hdr, ← hg2, hfin2]⟩ (by dsimp only; omega) (fun _ _ h => h)
  ·have hk3 : k = 3 := by have := of_decide_eq_false h; omega
   subst hk3
   rw [List.drop_eq_nil_of_le (by omega)] at hg1
   (repeat' (first|refine a6 ?_|refine aR ?_|refine a8 ?_|refine az ?_|refine aJ ?_|refine aC ?_|refine aA ?_|refine aa ?_|refine ae a7 rfl rfl ?_|(apply aX; refine aW ?_)|fail))
   refine aE (m1, i + 1) rfl ⟨rfl, by rw [Int.natCast_add]; rfl, trivial⟩ ⟨by dsimp only; omega, by dsimp only; omega, by dsimp only; rw [← hg, pU hr hn2, hgo, ← hg1]; rfl⟩ (by dsimp only; omega) (fun _ _ h => h)
 ·have hfin : eM n (l.drop i) = n := by
   by_cases h2 : n ≤ 2000
   ·have : i = l.length := by
     have : ¬ i < l.length := fun h => hC ⟨h, h2⟩
     omega
    subst this
    rw [List.drop_length]
    rfl
   ·exact rd h2
  (repeat' (first|refine ah ?_|refine a6 ?_|refine au ?_|refine aR ?_|refine a8 ?_|refine az ?_|refine aC ?_|refine aA ?_|refine aa ?_|refine ae a7 rfl rfl ?_|fail))
  refine aB rfl rfl ?_
  rw [← hg, hfin]
end Go.Proofs.YtpbinloeemebkaaGreat

namespace Go.Proofs.YtpbinloeemebkaaGreat
open Go.RowKit
attribute [local irreducible] AT bN AX AO Av Kt bi dE DA d6
def dM (g n t : Nat) : Prop := (n + t ≤ 2000 → g = n + t) ∧ (2000 < n + t → 2000 < g)
theorem dM.trans {g g' n t t' : Nat} (h : dM g n t) (h' : dM g' g t') : dM g' n (t + t') := by
 unfold dM at *
 omega
theorem dM.refl (n : Nat) : dM n n 0 := by unfold dM; omega
theorem dM.stop {n t : Nat} (h : ¬ n ≤ 2000) : dM n n t := by unfold dM; omega
theorem dM.add (n t : Nat) : dM (n + t) n t := by unfold dM; omega
theorem dM.iff {g n t : Nat} (h : dM g n t) : 2000 < g ↔ 2000 < n + t := by unfold dM at h; omega
theorem ji (n : Nat) (s : List (List Int)) : dM (gw n s) n (p7 s) := by
 induction s generalizing n with
 | nil => exact dM.refl n
 | cons q s ih =>
  show dM (if n ≤ 2000 then _ else _) n _
  split
  ·have := (dM.add n (1 + q.length)).trans (by rw [← Nat.add_assoc]; exact ih (n + 1 + q.length))
   exact this
  ·rename_i h
   exact dM.stop h
theorem rc (n : Nat) (r : bJ) : dM (lM n r) n (l7 r) := by
 unfold lM l7
 have h1 := dM.add n (r.Out.length + r.Calls.length)
 rw [← Nat.add_assoc] at h1
 have h2 := ((ji (n + r.Out.length + r.Calls.length) r.Back).trans (ji _ r.In)).trans (ji _ r.Ahead)
 exact h1.trans h2
theorem pV (n : Nat) (l : List bJ) : dM (eM n l) n (l.map l7).sum := by
 induction l generalizing n with
 | nil => exact dM.refl n
 | cons r l ih =>
  show dM (if n ≤ 2000 then _ else _) n _
  rw [List.map_cons, List.sum_cons]
  split
  ·exact (rc n r).trans (ih _)
  ·rename_i h
   exact dM.stop h
def fR {α : Type} (g : α → Nat) (n : Nat) : List α → Nat
 | [] => n
 | a :: l => if n ≤ 2000 then fR g (n + g a) l else n
theorem gy {α : Type} {g : α → Nat} {l : List α} {j n : Nat} {a : α} (h : l[j]? = some a) (hn : n ≤ 2000) : fR g n (l.drop j) = fR g (n + g a) (l.drop (j + 1)) := by
 have hj := (List.getElem?_eq_some_iff.1 h)
 rw [List.drop_eq_getElem_cons hj.1, hj.2]
 show (if n ≤ 2000 then _ else _) = _
 rw [if_pos hn]
theorem va {α : Type} {g : α → Nat} {l : List α} {n : Nat} (hn : ¬ n ≤ 2000) : fR g n l = n := by
 cases l with
 | nil => rfl
 | cons q s => show (if n ≤ 2000 then _ else _) = _; rw [if_neg hn]
theorem i8 {α : Type} {g : α → Nat} {l : List α} {i n : Nat} (hi : i ≤ l.length) (h : ¬ (i < l.length ∧ n ≤ 2000)) : fR g n (l.drop i) = n := by
 by_cases h2 : n ≤ 2000
 ·have : i = l.length := by
   have : ¬ i < l.length := fun h' => h ⟨h', h2⟩
   omega
  subst this
  rw [List.drop_length]
  rfl
 ·exact va h2
theorem gz {α : Type} {g k : α → Nat} (hg : ∀ a, dM (g a) 0 (k a)) (n : Nat) (l : List α) : dM (fR g n l) n (l.map k).sum := by
 induction l generalizing n with
 | nil => exact dM.refl n
 | cons a l ih =>
  show dM (if n ≤ 2000 then _ else _) n _
  rw [List.map_cons, List.sum_cons]
  split
  ·have h1 : dM (n + g a) n (k a) := by have := hg a; unfold dM at *; omega
   exact h1.trans (ih _)
  ·rename_i h
   exact dM.stop h
end Go.Proofs.YtpbinloeemebkaaGreat
