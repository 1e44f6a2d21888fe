/-
  The program: a heap of numbers.
-/
import Derived.Test.YtjjpkibjffmceaaGreatM14
import Derived.Test.YtjjpkibjffmceaaGreatM10
import Derived.Test.YtjjpkibjffmceaaGreatM06
namespace Go.Proofs.YtjjpkibjffmceaaGreat
open Go.RowKit
attribute [local irreducible] AT bV AX AO Av Kt bC eH DA dl
theorem Gh {P : Program} {f : FuncId} {fn : Func} {c : Code} (hf : P.funcs[f]? = some fn) (hn : (fn.name == "runtime.NumGoroutine") = false := by kernel_rfl) (hb : fn.body = some c := by rfl) : bF P f := ⟨am hf hn hb⟩
instance : bF Tryz.prog 286 := Gh Tryz.func286
instance : bF Tryz.prog 287 := Gh Tryz.func287
instance : bF Tryz.prog 288 := Gh Tryz.func288
instance : bF Tryz.prog 289 := Gh Tryz.func289
instance : bF Tryz.prog 290 := Gh Tryz.func290
theorem zx : lD Tryz.prog 342 "Len" 286 false 337 := ix (by kernel_rfl)
theorem po : lD Tryz.prog 342 "Less" 287 false 337 := ix (by kernel_rfl)
theorem pp : lD Tryz.prog 342 "Swap" 288 false 337 := ix (by kernel_rfl)
theorem EO : lD Tryz.prog 342 "Pop" 289 true 337 := ix (by kernel_rfl)
theorem DL : lD Tryz.prog 342 "Push" 290 true 337 := ix (by kernel_rfl)
section
variable {P : Program} {fr : cg} {d : Option Tmp} {ty t t' : TypeId} {pos : String} {af : Array Edge} {g : Option (Nat × Bool)} {x y : Operand}
theorem De {z : Int} {n : Nat} (hz : z = (n : Int) - 1) (hx : bH fr x = some (aM z)) (hy : bH fr y = some (aM 2)) (hn : n ≤ 9223372036854775807) : Av P ⟨d, .binOp .quo t x y t', ty, pos, af, g⟩ fr (aM (((n - 1) / 2 : Nat) : Int)) := by
 have h := vC (P := P) (d := d) (ty := ty) (pos := pos) (af := af) (g := g) (t := t) (t' := t') hx hy (by omega)
 have e : IntKind.i64.wrap (z.tdiv 2) = (((n - 1) / 2 : Nat) : Int) := by
  subst hz
  have : ((n : Int) - 1).tdiv 2 = (((n - 1) / 2 : Nat) : Int) := by
   cases n with
   | zero => rfl
   | succ m =>
    rw [show (((m + 1 : Nat) : Int) - 1) = (m : Int) by omega, Int.tdiv_eq_ediv_of_nonneg (by omega)]
    simp
  rw [this, mU (by omega)]
 rwa [e] at h
end
abbrev HI (p : Nat) : AV := .sc (.iface 342 (.pointer (some ⟨p, 0, none⟩)))
def td (k : Option (Nat × List AV)) (n : Nat) : Value := match k with
 | none => .slice none 0 0
 | some (b, cs) => .slice (some ⟨b, 0, none⟩) n cs.length
def pf (k : Option (Nat × List AV)) : AL := match k with
 | none => []
 | some (b, cs) => [(b, .box cs 3)]
def hst (p : Nat) (k : Option (Nat × List AV)) (l : List Int) : AL := (p, .box [.sc (td k l.length)] 337) :: pf k
def nC (k : Option (Nat × List AV)) (l : List Int) : Prop := match k with
 | none => l = []
 | some (_, cs) => cs.take l.length = l.map aM ∧ l.length ≤ cs.length ∧ 0 < cs.length
theorem nC.get {b : Nat} {cs : List AV} {l : List Int} (h : nC (some (b, cs)) l) {a : Int} (h0 : 0 ≤ a) (h1 : a < l.length) : ∃ x, l[a.toNat]? = some x ∧ cs[0 + a.toNat * 1]? = some (aM x) := by
 obtain ⟨x, hx⟩ : ∃ x, l[a.toNat]? = some x := ⟨_, Ee (by omega)⟩
 refine ⟨x, hx, ?_⟩
 have h2 := congrArg (fun q => q[a.toNat]?) h.1
 simp only [List.getElem?_take, List.getElem?_map, hx] at h2
 rw [if_pos (by omega)] at h2
 rw [Nat.zero_add, Nat.mul_one]
 exact h2
theorem uQ (v : Value) (n c : Nat) (A : Option Addr) (hv : v = .slice A n c) : bQ Tryz.prog 286 [.sc v] (aM n) := by
 subst hv
 refine aQ Tryz.func286 rfl Tryz.ntmps286 rfl fun B => ?_
 repeat' (first|refine ae ?_|refine a6 ?_|refine aq ?_|refine a7 ?_|refine a8 ?_|refine aa a2 rfl rfl ?_)
 exact aA rfl rfl rfl
theorem m9 {b n c : Nat} {cs : List AV} {x y a e : Int} (ha : 0 ≤ a ∧ a < n) (he : 0 ≤ e ∧ e < n) (hx : cs[0 + a.toNat * 1]? = some (aM x)) (hy : cs[0 + e.toNat * 1]? = some (aM y)) : AC Tryz.prog 287 [.sc (.slice (some ⟨b, 0, none⟩) n c), aM a, aM e] [(b, .box cs 3)] fun r L => r = cO (decide (x < y)) ∧ L = [(b, .box cs 3)] := by
 refine aQ Tryz.func287 rfl Tryz.ntmps287 rfl fun B => ?_
 repeat' (first|refine ae ?_|refine a6 ?_|refine a7 ?_|refine a8 ?_|refine aa a2 rfl rfl ?_)
 refine bt 8 [(0, .v), (1, .v), (2, .v), (3, .l), (4, .v), (5, .v), (6, .v), (7, .l)] none ?_ trivial rfl (by kernel_rfl) (by kernel_rfl) (by kernel_rfl) mixed (by kernel_rfl) rfl
 repeat' (first|refine aC ?_|refine aZ a2 ?_|fail)
 refine fe a2 rfl rfl rfl ha trivial ?_
 repeat' (first|refine aC ?_|fail)
 refine df a2 0 rfl rfl rfl hx trivial ?_
 repeat' (first|refine aC ?_|refine aZ a2 ?_|fail)
 refine fe a2 rfl rfl rfl he trivial ?_
 repeat' (first|refine aC ?_|fail)
 refine df a2 0 rfl rfl rfl hy trivial ?_
 repeat' (first|fail)
 refine bq [10, 14] rfl rfl ?_
 repeat' (first|refine aq ?_|refine a7 ?_|refine a8 ?_|refine aa a2 rfl rfl ?_)
 exact aA rfl rfl ⟨rfl, rfl⟩
theorem my {b n c : Nat} {cs : List AV} {x y a e : Int} (ha : 0 ≤ a ∧ a < n) (he : 0 ≤ e ∧ e < n) (hx : cs[0 + a.toNat * 1]? = some (aM x)) (hy : cs[0 + e.toNat * 1]? = some (aM y)) (hn : n ≤ cs.length) : AC Tryz.prog 288 [.sc (.slice (some ⟨b, 0, none⟩) n c), aM a, aM e] [(b, .box cs 3)] fun _ L => L = [(b, .box ((cs.set a.toNat (aM y)).set e.toNat (aM x)) 3)] := by
 refine aQ Tryz.func288 rfl Tryz.ntmps288 rfl fun B => ?_
 repeat' (first|fail)
 refine bt 14 [(0, .v), (1, .v), (2, .v), (3, .v), (4, .v), (5, .v), (6, .v), (7, .l), (8, .v), (9, .v), (10, .v), (11, .l), (12, .v), (13, .e)] none ?_ trivial rfl (by kernel_rfl) (by kernel_rfl) (by kernel_rfl) mixed (by kernel_rfl) rfl
 repeat' (first|refine aC ?_|refine aZ a2 ?_|fail)
 refine fe a2 rfl rfl rfl he trivial ?_
 repeat' (first|refine aC ?_|fail)
 refine df a2 0 rfl rfl rfl hy trivial ?_
 repeat' (first|refine aC ?_|refine aZ a2 ?_|fail)
 refine fe a2 rfl rfl rfl ha trivial ?_
 repeat' (first|refine aC ?_|fail)
 refine df a2 0 rfl rfl rfl hx trivial ?_
 repeat' (first|refine aC ?_|fail)
 refine fe a2 rfl rfl rfl ha trivial ?_
 repeat' (first|refine aC ?_|fail)
 refine sS a2 0 rfl rfl rfl rfl rfl rfl (by rw [Nat.ble_eq]; show _ + 1 ≤ _; omega) trivial fun _ => ?_
 repeat' (first|fail)
 refine bq [8, 9, 17] rfl rfl ?_
 repeat' (first|(apply aX; first|refine aW a2 ?_|refine aP a2 ?_)|fail)
 refine ai a2 0 rfl rfl rfl rfl rfl rfl (by rw [Nat.ble_eq]; show _ + 1 ≤ (gV _ _ _).length; rw [mq]; omega) ?_
 repeat' (first|refine a8 ?_)
 refine dL rfl ?_
 simp only [gg, gV, Nat.zero_add, Nat.mul_one]
theorem nC.swap {b : Nat} {cs : List AV} {l : List Int} (h : nC (some (b, cs)) l) {a e x y : Int} (ha : 0 ≤ a ∧ a < l.length) (he : 0 ≤ e ∧ e < l.length) (hx : l[a.toNat]? = some x) (hy : l[e.toNat]? = some y) : nC (some (b, (cs.set a.toNat (aM y)).set e.toNat (aM x))) ((l.set a.toNat y).set e.toNat x) ∧ ((l.set a.toNat y).set e.toNat x).Perm l := by
 obtain ⟨h1, h2, h3⟩ := h
 refine ⟨⟨?_, by simpa using h2, by simpa using h3⟩, ?_⟩
 ·simp only [List.length_set]
  rw [List.take_set, List.take_set, h1, List.map_set, List.map_set]
 ·obtain ⟨hx1, hx2⟩ := Gn hx
  obtain ⟨hy1, hy2⟩ := Gn hy
  subst hx2; subst hy2
  exact List.set_set_perm hx1 hy1
set_option maxHeartbeats 4000000 in
theorem vL (p b : Nat) (cs0 : List AV) (l0 : List Int) (h : nC (some (b, cs0)) l0) (i0 n : Nat) (hn : n ≤ l0.length) (hl : l0.length ≤ 1000000) (hi0 : i0 ≤ 1000000) : AC Tryz.prog 264 [HI p, aM i0, aM n] (hst p (some (b, cs0)) l0) fun _ L => ∃ cs' l', L = hst p (some (b, cs')) l' ∧ nC (some (b, cs')) l' ∧ l'.Perm l0 := by
 refine aQ Tryz.func264 rfl Tryz.ntmps264 rfl fun B => ?_
 repeat' (first|refine ae ?_|refine a6 ?_|refine ak ?_|refine a7 ?_|refine a8 ?_|refine aa a2 rfl rfl ?_)
 refine aJ [0, 1, 2] (α := Nat × List AV × List Int) (fun x => [(7, aM x.1)]) (fun x => x.1 ≤ 1000000 ∧ nC (some (b, x.2.1)) x.2.2 ∧ x.2.2.Perm l0) (fun x => hst p (some (b, x.2.1)) x.2.2) (fun x => 1000001 - x.1) (i0, cs0, l0) rfl ⟨rfl, trivial⟩ ⟨hi0, h, Gm _⟩ (fun _ _ h => h) ?_
 rintro ⟨i, cs, l⟩ ⟨hi, hok, hpm⟩
 dsimp only at hi hok hpm ⊢
 have hll := hpm.length_eq
 unfold hst pf td
 dsimp only
 try dsimp only [Gr, Gq, Gp, Gj]
 repeat' (first|refine ae ?_|refine a6 ?_|refine ak ?_|refine a7 ?_|refine a8 ?_|refine aa a2 rfl rfl ?_|(apply aV; refine aU ?_)|fail)
 refine dV [0, 1, 2, 7, 8] (¬ (2 * (i : Int) + 1 < n)) rfl (fun Q' K => ?_) (fun hC => ?_) (fun hC => ?_)
 ·repeat' (first|refine a8 ?_|refine aa a2 rfl rfl ?_|refine aF rfl rfl ?_|refine aL rfl rfl rfl rfl ?_|refine bf rfl rfl rfl (fun _ => ?_) (fun _ => ?_))
  all_goals exact K _ _ rfl rfl (by clear K; simp_all <;> omega)
 ·repeat' (first|refine ae ?_|refine a6 ?_|refine aq ?_|refine aO ?_|refine a7 ?_|refine au ?_|refine ay ?_|refine fw rfl ?_|refine av ?_|refine a8 ?_|refine aa a2 rfl rfl ?_)
  exact aA rfl rfl ⟨cs, l, rfl, hok, hpm⟩
 have hC := Decidable.not_not.1 hC
 obtain ⟨x, hx, hxc⟩ := hok.get (a := i) (by omega) (by omega)
 repeat' (first|refine ae ?_|refine a6 ?_|refine ar ?_|refine a7 ?_|refine a8 ?_|refine aa a2 rfl rfl ?_|(apply aV; refine aU ?_)|fail)
 refine bf rfl rfl rfl (fun h2 => ?_) (fun h2 => ?_)
 ·have h2' := Gz h2
  obtain ⟨u, hu, huc⟩ := hok.get (a := 2 * (i : Int) + 1 + 1) (by omega) (by omega)
  obtain ⟨v, hv, hvc⟩ := hok.get (a := 2 * (i : Int) + 1) (by omega) (by omega)
  repeat' (first|refine aa a2 rfl rfl ?_|refine aF rfl rfl ?_)
  refine ec 0 [(b, .box cs 3)] [(p, .box [.sc (.slice (some ⟨b, 0, none⟩) l.length cs.length)] 337)] po (dg a2 rfl) rfl rfl rfl rfl (List.Perm.swap ..) (m9 (x := u) (y := v) ⟨by omega, by omega⟩ ⟨by omega, by omega⟩ huc hvc) rfl rfl fun c L1 ⟨hc, hL⟩ => ?_
  subst hc; subst hL
  refine aN (aK (List.Perm.swap ..)) ?_
  repeat' (first|refine a7 ?_|refine a8 ?_|refine aa a2 rfl rfl ?_)
  refine aw rfl (fun h3 => ?_) (fun h3 => ?_)
  ·clear h3
   repeat' (first|refine ae ?_|refine a6 ?_|refine a7 ?_|refine a8 ?_|refine aa a2 rfl rfl ?_)
   obtain ⟨y, hy, hyc⟩ := hok.get (a := (2 * (i : Int) + 1 + 1)) (by omega) (by omega)
   refine ec 0 [(b, .box cs 3)] [(p, .box [.sc (.slice (some ⟨b, 0, none⟩) l.length cs.length)] 337)] po (dg a2 rfl) rfl rfl rfl rfl (List.Perm.swap ..) (m9 (x := y) (y := x) ⟨by omega, by omega⟩ ⟨by omega, by omega⟩ hyc hxc) rfl rfl fun c L1 ⟨hc, hL⟩ => ?_
   subst hc; subst hL
   repeat' (first|refine a7 ?_|refine a8 ?_|refine aa a2 rfl rfl ?_)
   refine aw rfl (fun h5 => ?_) (fun h5 => ?_)
   ·repeat' (first|refine ae ?_|refine a6 ?_|refine aq ?_|refine aO ?_|refine a7 ?_|refine au ?_|refine ay ?_|refine fw rfl ?_|refine av ?_|refine a8 ?_|refine aa a2 rfl rfl ?_)
    refine be (aK (List.Perm.swap ..)) ?_
    exact aA rfl rfl ⟨cs, l, rfl, hok, hpm⟩
   repeat' (first|refine ae ?_|refine a6 ?_|refine ar ?_|refine a7 ?_|refine aa a2 rfl rfl ?_)
   refine aN (aK (List.Perm.swap ..)) ?_
   refine ec 0 [(b, .box cs 3)] [(p, .box [.sc (.slice (some ⟨b, 0, none⟩) l.length cs.length)] 337)] pp (dg a2 rfl) rfl rfl rfl rfl (List.Perm.swap ..) (my (x := x) (y := y) ⟨by omega, by omega⟩ ⟨by omega, by omega⟩ hxc hyc hok.2.1) rfl rfl fun c L1 hL => ?_
   subst hL
   repeat' (first|refine a6 ?_|refine a7 ?_|refine aH ?_|refine a8 ?_|refine aa a2 rfl rfl ?_)
   have hs := hok.swap (a := i) (e := (2 * (i : Int) + 1 + 1)) ⟨by omega, by omega⟩ ⟨by omega, by omega⟩ hx hy
   refine aB (((2 * (i : Int) + 1 + 1)).toNat, (cs.set ((i : Int)).toNat (aM y)).set ((2 * (i : Int) + 1 + 1)).toNat (aM x), (l.set ((i : Int)).toNat y).set ((2 * (i : Int) + 1 + 1)).toNat x) rfl ⟨by rw [show ((((2 * (i : Int) + 1 + 1)).toNat : Nat) : Int) = (2 * (i : Int) + 1 + 1) by omega]; rfl, trivial⟩ ⟨by dsimp only; omega, hs.1, hs.2.trans hpm⟩ (by dsimp only; omega) (fun σ w h => ?_)
   have h := h.perm (List.Perm.swap ..)
   simpa [hst, td, pf, List.length_set] using h
  ·clear h3
   repeat' (first|refine ae ?_|refine a6 ?_|refine ar ?_|refine a7 ?_|refine aa a2 rfl rfl ?_)
   obtain ⟨y, hy, hyc⟩ := hok.get (a := (2 * (i : Int) + 1)) (by omega) (by omega)
   refine ec 0 [(b, .box cs 3)] [(p, .box [.sc (.slice (some ⟨b, 0, none⟩) l.length cs.length)] 337)] po (dg a2 rfl) rfl rfl rfl rfl (List.Perm.swap ..) (m9 (x := y) (y := x) ⟨by omega, by omega⟩ ⟨by omega, by omega⟩ hyc hxc) rfl rfl fun c L1 ⟨hc, hL⟩ => ?_
   subst hc; subst hL
   repeat' (first|refine a7 ?_|refine a8 ?_|refine aa a2 rfl rfl ?_)
   refine aw rfl (fun h5 => ?_) (fun h5 => ?_)
   ·repeat' (first|refine ae ?_|refine a6 ?_|refine aq ?_|refine aO ?_|refine a7 ?_|refine au ?_|refine ay ?_|refine fw rfl ?_|refine av ?_|refine a8 ?_|refine aa a2 rfl rfl ?_)
    refine be (aK (List.Perm.swap ..)) ?_
    exact aA rfl rfl ⟨cs, l, rfl, hok, hpm⟩
   repeat' (first|refine ae ?_|refine a6 ?_|refine ar ?_|refine a7 ?_|refine aa a2 rfl rfl ?_)
   refine aN (aK (List.Perm.swap ..)) ?_
   refine ec 0 [(b, .box cs 3)] [(p, .box [.sc (.slice (some ⟨b, 0, none⟩) l.length cs.length)] 337)] pp (dg a2 rfl) rfl rfl rfl rfl (List.Perm.swap ..) (my (x := x) (y := y) ⟨by omega, by omega⟩ ⟨by omega, by omega⟩ hxc hyc hok.2.1) rfl rfl fun c L1 hL => ?_
   subst hL
   repeat' (first|refine a6 ?_|refine a7 ?_|refine aH ?_|refine a8 ?_|refine aa a2 rfl rfl ?_)
   have hs := hok.swap (a := i) (e := (2 * (i : Int) + 1)) ⟨by omega, by omega⟩ ⟨by omega, by omega⟩ hx hy
   refine aB (((2 * (i : Int) + 1)).toNat, (cs.set ((i : Int)).toNat (aM y)).set ((2 * (i : Int) + 1)).toNat (aM x), (l.set ((i : Int)).toNat y).set ((2 * (i : Int) + 1)).toNat x) rfl ⟨by rw [show ((((2 * (i : Int) + 1)).toNat : Nat) : Int) = (2 * (i : Int) + 1) by omega]; rfl, trivial⟩ ⟨by dsimp only; omega, hs.1, hs.2.trans hpm⟩ (by dsimp only; omega) (fun σ w h => ?_)
   have h := h.perm (List.Perm.swap ..)
   simpa [hst, td, pf, List.length_set] using h
 ·have h2' : ¬ (2 * (i : Int) + 1 + 1 < n) := Gy (by simpa using h2)
  repeat' (first|refine ae ?_|refine a6 ?_|refine ar ?_|refine a7 ?_|refine a8 ?_|refine aa a2 rfl rfl ?_|refine aL rfl rfl rfl rfl ?_|refine bN rfl ?_)
  obtain ⟨y, hy, hyc⟩ := hok.get (a := (2 * (i : Int) + 1)) (by omega) (by omega)
  refine ec 0 [(b, .box cs 3)] [(p, .box [.sc (.slice (some ⟨b, 0, none⟩) l.length cs.length)] 337)] po (dg a2 rfl) rfl rfl rfl rfl (List.Perm.swap ..) (m9 (x := y) (y := x) ⟨by omega, by omega⟩ ⟨by omega, by omega⟩ hyc hxc) rfl rfl fun c L1 ⟨hc, hL⟩ => ?_
  subst hc; subst hL
  repeat' (first|refine a7 ?_|refine a8 ?_|refine aa a2 rfl rfl ?_)
  refine aw rfl (fun h5 => ?_) (fun h5 => ?_)
  ·repeat' (first|refine ae ?_|refine a6 ?_|refine aq ?_|refine aO ?_|refine a7 ?_|refine au ?_|refine ay ?_|refine fw rfl ?_|refine av ?_|refine a8 ?_|refine aa a2 rfl rfl ?_)
   refine be (aK (List.Perm.swap ..)) ?_
   exact aA rfl rfl ⟨cs, l, rfl, hok, hpm⟩
  repeat' (first|refine ae ?_|refine a6 ?_|refine ar ?_|refine a7 ?_|refine aa a2 rfl rfl ?_)
  refine aN (aK (List.Perm.swap ..)) ?_
  refine ec 0 [(b, .box cs 3)] [(p, .box [.sc (.slice (some ⟨b, 0, none⟩) l.length cs.length)] 337)] pp (dg a2 rfl) rfl rfl rfl rfl (List.Perm.swap ..) (my (x := x) (y := y) ⟨by omega, by omega⟩ ⟨by omega, by omega⟩ hxc hyc hok.2.1) rfl rfl fun c L1 hL => ?_
  subst hL
  repeat' (first|refine a6 ?_|refine a7 ?_|refine aH ?_|refine a8 ?_|refine aa a2 rfl rfl ?_)
  have hs := hok.swap (a := i) (e := (2 * (i : Int) + 1)) ⟨by omega, by omega⟩ ⟨by omega, by omega⟩ hx hy
  refine aB (((2 * (i : Int) + 1)).toNat, (cs.set ((i : Int)).toNat (aM y)).set ((2 * (i : Int) + 1)).toNat (aM x), (l.set ((i : Int)).toNat y).set ((2 * (i : Int) + 1)).toNat x) rfl ⟨by rw [show ((((2 * (i : Int) + 1)).toNat : Nat) : Int) = (2 * (i : Int) + 1) by omega]; rfl, trivial⟩ ⟨by dsimp only; omega, hs.1, hs.2.trans hpm⟩ (by dsimp only; omega) (fun σ w h => ?_)
  have h := h.perm (List.Perm.swap ..)
  simpa [hst, td, pf, List.length_set] using h
theorem Fa (p b : Nat) (cs0 : List AV) (l0 : List Int) (h : nC (some (b, cs0)) l0) (j0 : Nat) (hj0 : j0 < l0.length) (hl : l0.length ≤ 1000000) : AC Tryz.prog 265 [HI p, aM j0] (hst p (some (b, cs0)) l0) fun _ L => ∃ cs' l', L = hst p (some (b, cs')) l' ∧ nC (some (b, cs')) l' ∧ l'.Perm l0 := by
 refine aQ Tryz.func265 rfl Tryz.ntmps265 rfl fun B => ?_
 repeat' (first|refine ak ?_)
 refine aJ [0] (α := Nat × List AV × List Int) (fun x => [(1, aM x.1)]) (fun x => x.1 < l0.length ∧ nC (some (b, x.2.1)) x.2.2 ∧ x.2.2.Perm l0) (fun x => hst p (some (b, x.2.1)) x.2.2) (fun x => x.1) (j0, cs0, l0) rfl ⟨rfl, trivial⟩ ⟨hj0, h, Gm _⟩ (fun _ _ h => h) ?_
 rintro ⟨j, cs, l⟩ ⟨hi, hok, hpm⟩
 dsimp only at hi hok hpm ⊢
 have hll := hpm.length_eq
 unfold hst pf td
 dsimp only
 try dsimp only [Gr, Gq, Gp, Gj]
 repeat' (first|refine ae ?_|refine a6 ?_|refine ak ?_|refine aa a2 rfl rfl ?_|(apply aV; refine aU ?_)|fail)
 refine aU ?_ (De (n := j) rfl rfl rfl (by omega))
 obtain ⟨x, hx, hxc⟩ := hok.get (a := j) (by omega) (by omega)
 obtain ⟨y, hy, hyc⟩ := hok.get (a := (((j - 1) / 2 : Nat) : Int)) (by omega) (by omega)
 repeat' (first|refine ae ?_|refine a6 ?_|refine a7 ?_|refine a8 ?_|refine aa a2 rfl rfl ?_)
 refine bf rfl rfl rfl (fun h2 => ?_) (fun h2 => ?_)
 ·have h2' := Gy h2
  repeat' (first|refine aa a2 rfl rfl ?_|refine aF rfl rfl ?_)
  refine ec 0 [(b, .box cs 3)] [(p, .box [.sc (.slice (some ⟨b, 0, none⟩) l.length cs.length)] 337)] po (dg a2 rfl) rfl rfl rfl rfl (List.Perm.swap ..) (m9 (x := x) (y := y) ⟨by omega, by omega⟩ ⟨by omega, by omega⟩ hxc hyc) rfl rfl fun c L1 ⟨hc, hL⟩ => ?_
  subst hc; subst hL
  refine aN (aK (List.Perm.swap ..)) ?_
  repeat' (first|refine a7 ?_|refine a8 ?_|refine aa a2 rfl rfl ?_|refine aF rfl rfl ?_)
  refine aw rfl (fun h3 => ?_) (fun h3 => ?_)
  ·repeat' (first|refine aO ?_|refine au ?_|refine ay ?_|refine fw rfl ?_|refine av ?_)
   exact dL rfl ⟨cs, l, rfl, hok, hpm⟩
  repeat' (first|refine ae ?_|refine a6 ?_|refine ar ?_|refine a7 ?_|refine aa a2 rfl rfl ?_)
  refine ec 0 [(b, .box cs 3)] [(p, .box [.sc (.slice (some ⟨b, 0, none⟩) l.length cs.length)] 337)] pp (dg a2 rfl) rfl rfl rfl rfl (List.Perm.swap ..) (my (x := y) (y := x) ⟨by omega, by omega⟩ ⟨by omega, by omega⟩ hyc hxc hok.2.1) rfl rfl fun c L1 hL => ?_
  subst hL
  repeat' (first|refine a6 ?_|refine a7 ?_|refine aH ?_|refine a8 ?_|refine aa a2 rfl rfl ?_)
  have hs := hok.swap (a := (((j - 1) / 2 : Nat) : Int)) (e := j) ⟨by omega, by omega⟩ ⟨by omega, by omega⟩ hy hx
  refine aB ((j - 1) / 2, (cs.set (((j - 1) / 2 : Nat) : Int).toNat (aM x)).set (j : Int).toNat (aM y), (l.set (((j - 1) / 2 : Nat) : Int).toNat x).set (j : Int).toNat y) rfl ⟨rfl, trivial⟩ ⟨by dsimp only; omega, hs.1, hs.2.trans hpm⟩ (by dsimp only; omega) (fun σ w h => ?_)
  have h := h.perm (List.Perm.swap ..)
  simpa [hst, td, pf, List.length_set] using h
 ·repeat' (first|refine aO ?_|refine a7 ?_|refine au ?_|refine ay ?_|refine fw rfl ?_|refine av ?_|refine a8 ?_|refine aa a2 rfl rfl ?_|refine aL rfl rfl rfl rfl ?_|refine bS rfl ?_)
  exact dL rfl ⟨cs, l, rfl, hok, hpm⟩
theorem DZ (p b : Nat) (cs : List AV) (l : List Int) (h : nC (some (b, cs)) l) (h0 : 0 < l.length) (hl : l.length ≤ 1000000) : AC Tryz.prog 289 [.sc (.pointer (some ⟨p, 0, none⟩))] (hst p (some (b, cs)) l) fun c L => ∃ z l', c = .sc (.iface 3 (.int .i64 z)) ∧ L = hst p (some (b, cs)) l' ∧ nC (some (b, cs)) l' ∧ l = l' ++ [z] := by
 refine aQ Tryz.func289 rfl Tryz.ntmps289 rfl fun B => ?_
 unfold hst pf td
 dsimp only
 obtain ⟨z, hz, hzc⟩ := h.get (a := (l.length : Int) - 1) (by omega) (by omega)
 have hcl := h.2.1
 have hc1 := h.2.2
 repeat' (first|refine ae ?_|refine a6 ?_|refine a7 ?_|refine a8 ?_|refine aa a2 rfl rfl ?_|(apply bK; first|refine aj a2 0 rfl rfl rfl rfl rfl ?_|refine aj a2 1 rfl rfl rfl rfl rfl ?_|refine aj a2 2 rfl rfl rfl rfl rfl ?_|refine aj a2 3 rfl rfl rfl rfl rfl ?_|refine aD a2 0 rfl rfl rfl rfl rfl ?_|refine aD a2 1 rfl rfl rfl rfl rfl ?_|refine aD a2 2 rfl rfl rfl rfl rfl ?_|refine aj a2 1 rfl rfl rfl (by assumption) rfl ?_|refine aj a2 0 rfl rfl rfl (by assumption) rfl ?_|fail)|(apply aV; refine aU ?_)|(apply aX; first|refine aW a2 ?_|refine aP a2 ?_)|fail)
 refine zM a2 (l.length - 1) rfl rfl rfl (by omega) (by omega) (by omega) rfl ?_
 repeat' (first|refine ae ?_|refine a6 ?_|refine a7 ?_|refine a8 ?_|refine aa a2 rfl rfl ?_|(apply aG; first|refine ai a2 0 rfl rfl rfl rfl rfl rfl rfl ?_|refine ai a2 1 rfl rfl rfl rfl rfl rfl rfl ?_|refine ai a2 2 rfl rfl rfl rfl rfl rfl rfl ?_|refine ai a2 3 rfl rfl rfl rfl rfl rfl rfl ?_|fail))
 refine me (by kernel_rfl) rfl rfl ?_
 repeat' (first|refine aq ?_|refine a7 ?_|refine a8 ?_|refine aa a2 rfl rfl ?_)
 have hlast : l.take (l.length - 1) ++ [z] = l := by
  have h1 : l.take (l.length - 1 + 1) = l := List.take_of_length_le (by omega)
  rw [List.take_add_one, show l[l.length - 1]? = some z by rw [← hz]; congr 1; omega] at h1
  exact h1
 have hlen : (l.take (l.length - 1)).length = l.length - 1 := by rw [List.length_take]; omega
 refine aA rfl rfl ⟨z, l.take (l.length - 1), rfl, ?_, ⟨?_, by rw [hlen]; omega, hc1⟩, hlast.symm⟩
 ·rw [hlen]
  rfl
 ·rw [hlen, List.map_take, ← h.1, List.take_take]
  congr 1
  omega
theorem C7 (p : Nat) (k : Option (Nat × List AV)) (l : List Int) (z : Int) (h : nC k l) (hl : l.length ≤ 1000000) : AC Tryz.prog 290 [.sc (.pointer (some ⟨p, 0, none⟩)), .sc (.iface 3 (.int .i64 z))] (hst p k l) fun _ L => ∃ b cs, L = hst p (some (b, cs)) (l ++ [z]) ∧ nC (some (b, cs)) (l ++ [z]) := by
 refine aQ Tryz.func290 rfl Tryz.ntmps290 rfl fun B => ?_
 unfold hst pf td
 cases k with
 | none =>
  have hl0 : l = [] := h
  subst hl0
  dsimp only
  repeat' (first|fail)
  refine bt 8 [(0, .v), (1, .v), (2, .v), (3, .l), (4, .v), (5, .v), (6, .v), (7, .e)] none ?_ trivial rfl (by kernel_rfl) (by kernel_rfl) (by kernel_rfl) mixed (by kernel_rfl) rfl
  repeat' (first|refine aC ?_|refine aZ a2 ?_|refine df a2 0 rfl rfl rfl rfl (by first|trivial|rfl) ?_)
  refine sR (by kernel_rfl) rfl trivial ?_
  repeat' (first|refine aC ?_|refine eh a2 ?_|fail)
  refine wO a2 rfl rfl rfl rfl rfl rfl trivial fun b' cs' h1 h2 => ?_
  repeat' (first|fail)
  refine bq [4, 11] rfl rfl ?_
  repeat' (first|refine a8 ?_|refine aa a2 rfl rfl ?_|(apply aG; first|refine ai a2 0 rfl rfl rfl rfl rfl rfl rfl ?_|refine ai a2 1 rfl rfl rfl rfl rfl rfl rfl ?_|refine ai a2 2 rfl rfl rfl rfl rfl rfl rfl ?_|refine ai a2 3 rfl rfl rfl rfl rfl rfl rfl ?_|fail))
  exact be (aK (List.Perm.swap ..)) (dL rfl ⟨b', cs', rfl, h1, h2, h2⟩)
 | some q =>
  obtain ⟨b, cs⟩ := q
  dsimp only
  repeat' (first|fail)
  refine bt 8 [(0, .v), (1, .v), (2, .v), (3, .l), (4, .v), (5, .v), (6, .v), (7, .e)] none ?_ trivial rfl (by kernel_rfl) (by kernel_rfl) (by kernel_rfl) mixed (by kernel_rfl) rfl
  repeat' (first|refine aC ?_|refine aZ a2 ?_|refine df a2 0 rfl rfl rfl rfl (by first|trivial|rfl) ?_)
  refine sR (by kernel_rfl) rfl trivial ?_
  repeat' (first|refine aC ?_|refine eh a2 ?_|fail)
  refine wM a2 1 rfl rfl rfl rfl rfl rfl rfl h.2.1 (by omega) (by omega) trivial fun b' cs' h1 h2 => ?_
  repeat' (first|fail)
  refine bq [4, 11] rfl rfl ?_
  repeat' (first|refine a8 ?_|refine aa a2 rfl rfl ?_|(apply aG; first|refine ai a2 0 rfl rfl rfl rfl rfl rfl rfl ?_|refine ai a2 1 rfl rfl rfl rfl rfl rfl rfl ?_|refine ai a2 2 rfl rfl rfl rfl rfl rfl rfl ?_|refine ai a2 3 rfl rfl rfl rfl rfl rfl rfl ?_|fail))
  refine be (aK (List.Perm.swap ..)) (dL rfl ⟨b', cs', ?_, ?_, by simpa using h2, by omega⟩)
  ·rw [List.length_append]
   rfl
  ·rw [List.length_append, List.map_append, ← h.1]
   exact h1
theorem it (p b : Nat) (cs : List AV) (l : List Int) : hst p (some (b, cs)) l = [(p, .box [.sc (.slice (some ⟨b, 0, none⟩) l.length cs.length)] 337), (b, .box cs 3)] := rfl
set_option maxHeartbeats 1000000 in
theorem zi (p : Nat) (k : Option (Nat × List AV)) (l : List Int) (z : Int) (h : nC k l) (hl : l.length < 1000000) : AC Tryz.prog 254 [HI p, .sc (.iface 3 (.int .i64 z))] (hst p k l) fun _ L => ∃ b cs l', L = hst p (some (b, cs)) l' ∧ nC (some (b, cs)) l' ∧ l'.Perm (l ++ [z]) := by
 refine aQ Tryz.func254 rfl Tryz.ntmps254 rfl fun B => ?_
 repeat' (first|refine ae ?_|refine a6 ?_|refine aa a2 rfl rfl ?_)
 refine tr (hst p k l) [] DL rfl rfl (by rw [List.append_nil]) (C7 p k l z h (by omega)) rfl rfl fun c L1 ⟨b, cs, hL, hok⟩ => ?_
 subst hL
 rw [List.append_nil, it]
 have hll : (l ++ [z]).length = l.length + 1 := by simp
 repeat' (first|refine a6 ?_|refine a7 ?_|refine a8 ?_|refine aa a2 rfl rfl ?_)
 refine ec 0 [] [(p, .box [.sc (.slice (some ⟨b, 0, none⟩) (l ++ [z]).length cs.length)] 337), (b, .box cs 3)] zx (dg a2 rfl) rfl rfl rfl rfl (Gm _) (uQ _ (l ++ [z]).length _ _ rfl) rfl rfl fun c L1 hc => ?_
 have hc : c = aM (l ++ [z]).length := hc
 subst hc
 refine aN (bY (List.sublist_append_right ..)) ?_
 rw [hll]
 repeat' (first|(apply aV; refine aU ?_)|fail)
 have hup := Fa p b cs (l ++ [z]) hok l.length (by rw [hll]; omega) (by rw [hll]; omega)
 rw [it, hll] at hup
 rw [show (((l.length + 1 : Nat) : Int) - 1) = (l.length : Int) by omega]
 refine bb _ [] hup rfl rfl (by rw [List.append_nil]) rfl fun c L1 ⟨cs', l', hL, hok', hpm⟩ => ?_
 subst hL
 rw [List.append_nil]
 repeat' (first|refine a8 ?_)
 exact dL rfl ⟨b, cs', l', rfl, hok', hpm⟩
set_option maxHeartbeats 1000000 in
theorem BT (p b : Nat) (cs : List AV) (l : List Int) (h : nC (some (b, cs)) l) (h0 : 0 < l.length) (hl : l.length ≤ 1000000) : AC Tryz.prog 253 [HI p] (hst p (some (b, cs)) l) fun c L => ∃ z cs' l', c = .sc (.iface 3 (.int .i64 z)) ∧ L = hst p (some (b, cs')) l' ∧ nC (some (b, cs')) l' ∧ (l' ++ [z]).Perm l := by
 refine aQ Tryz.func253 rfl Tryz.ntmps253 rfl fun B => ?_
 rw [it]
 repeat' (first|refine ae ?_|refine a6 ?_|refine a7 ?_|refine a8 ?_|refine aa a2 rfl rfl ?_)
 refine ec 0 [] [(p, .box [.sc (.slice (some ⟨b, 0, none⟩) l.length cs.length)] 337), (b, .box cs 3)] zx (dg a2 rfl) rfl rfl rfl rfl (Gm _) (uQ _ l.length _ _ rfl) rfl rfl fun c L1 hc => ?_
 have hc : c = aM l.length := hc
 subst hc
 refine aN (bY (List.sublist_append_right ..)) ?_
 repeat' (first|refine ae ?_|refine a6 ?_|refine a7 ?_|refine a8 ?_|refine aa a2 rfl rfl ?_|(apply aV; refine aU ?_)|fail)
 obtain ⟨x, hx, hxc⟩ := h.get (a := 0) (by omega) (by omega)
 obtain ⟨y, hy, hyc⟩ := h.get (a := (l.length : Int) - 1) (by omega) (by omega)
 refine ec 0 [(b, .box cs 3)] [(p, .box [.sc (.slice (some ⟨b, 0, none⟩) l.length cs.length)] 337)] pp (dg a2 rfl) rfl rfl rfl rfl (List.Perm.swap ..) (my (x := x) (y := y) ⟨by omega, by omega⟩ ⟨by omega, by omega⟩ hxc hyc h.2.1) rfl rfl fun c L1 hL => ?_
 subst hL
 have hs := h.swap (a := 0) (e := (l.length : Int) - 1) ⟨by omega, by omega⟩ ⟨by omega, by omega⟩ hx hy
 have hsl := hs.2.length_eq
 refine aN (aK (List.Perm.swap ..)) ?_
 repeat' (first|refine ae ?_|refine a6 ?_|refine a7 ?_|refine a8 ?_|refine aa a2 rfl rfl ?_)
 have hdn := vL p b _ _ hs.1 0 (l.length - 1) (by rw [hsl]; omega) (by rw [hsl]; omega) (by omega)
 rw [it, hsl, show (((l.length - 1 : Nat)) : Int) = (l.length : Int) - 1 by omega] at hdn
 rw [show cs.length = ((cs.set (0 : Int).toNat (aM y)).set ((l.length : Int) - 1).toNat (aM x)).length by simp]
 refine bb _ [] hdn rfl rfl (by rw [List.append_nil]) rfl fun c L1 ⟨cs', l', hL, hok', hpm⟩ => ?_
 subst hL
 rw [List.append_nil]
 repeat' (first|refine ae ?_|refine a6 ?_|refine a7 ?_|refine a8 ?_|refine aa a2 rfl rfl ?_)
 have hl' := hpm.length_eq
 refine tr (hst p (some (b, cs')) l') [] EO rfl rfl (by rw [List.append_nil]) (DZ p b cs' l' hok' (by omega) (by omega)) rfl rfl fun c L1 ⟨z, l2, hc, hL, hok2, he⟩ => ?_
 subst hc; subst hL
 rw [List.append_nil]
 repeat' (first|refine aq ?_|refine a7 ?_|refine a8 ?_|refine aa a2 rfl rfl ?_)
 refine aA rfl rfl ⟨z, cs', l2, rfl, rfl, hok2, ?_⟩
 rw [← he]
 exact hpm.trans hs.2
theorem DD {k : Option (Nat × List AV)} {l : List Int} (h : nC k l) : ∃ A c, td k l.length = .slice A l.length c := by
 cases k with
 | none => rw [show l = [] from h]; exact ⟨_, _, rfl⟩
 | some q => exact ⟨_, _, rfl⟩
section
variable {P : Program} {fr : cg} {d : Option Tmp} {ty t t' : TypeId} {pos : String} {af : Array Edge} {g : Option (Nat × Bool)} {x y : Operand}
theorem B2 {n : Nat} (hx : bH fr x = some (aM n)) (hy : bH fr y = some (aM 2)) (hn : n ≤ 9223372036854775807) : Av P ⟨d, .binOp .quo t x y t', ty, pos, af, g⟩ fr (aM ((n / 2 : Nat) : Int)) := by
 have h := vC (P := P) (d := d) (ty := ty) (pos := pos) (af := af) (g := g) (t := t) (t' := t') hx hy (by omega)
 have e : IntKind.i64.wrap ((n : Int).tdiv 2) = ((n / 2 : Nat) : Int) := by
  have : (n : Int).tdiv 2 = ((n / 2 : Nat) : Int) := by
   rw [Int.tdiv_eq_ediv_of_nonneg (by omega)]
   simp
  rw [this, mU (by omega)]
 rwa [e] at h
end
set_option maxHeartbeats 1000000 in
theorem zh (p : Nat) (k : Option (Nat × List AV)) (l : List Int) (h : nC k l) (hl : l.length ≤ 1000000) : AC Tryz.prog 252 [HI p] (hst p k l) fun _ L => ∃ k' l', L = hst p k' l' ∧ nC k' l' ∧ l'.Perm l := by
 refine aQ Tryz.func252 rfl Tryz.ntmps252 rfl fun B => ?_
 obtain ⟨A, cc, hA⟩ := DD h
 repeat' (first|refine ae ?_|refine a6 ?_|refine aa a2 rfl rfl ?_)
 refine ec 0 [] (hst p k l) zx (dg a2 rfl) rfl rfl rfl rfl (Gm _) (uQ _ l.length cc A hA) rfl rfl fun c L1 hc => ?_
 have hc : c = aM l.length := hc
 subst hc
 refine aN (bY (List.sublist_append_right ..)) ?_
 repeat' (first|refine ae ?_|refine a6 ?_|refine a7 ?_|refine a8 ?_|refine aa a2 rfl rfl ?_)
 refine aU ?_ (B2 (n := l.length) rfl rfl (by omega))
 repeat' (first|refine ak ?_|refine a7 ?_|refine a8 ?_|refine aa a2 rfl rfl ?_|(apply aV; refine aU ?_)|fail)
 refine aJ [0, 2] (α := Nat × Option (Nat × List AV) × List Int) (fun x => [(3, aM ((x.1 : Int) - 1))]) (fun x => x.1 ≤ l.length / 2 ∧ nC x.2.1 x.2.2 ∧ x.2.2.Perm l) (fun x => hst p x.2.1 x.2.2) (fun x => x.1) (l.length / 2, k, l) rfl ⟨rfl, trivial⟩ ⟨Nat.le_refl _, h, Gm _⟩ (fun _ _ h => h) ?_
 rintro ⟨m, k, l'⟩ ⟨hm, hok, hpm⟩
 dsimp only at hm hok hpm ⊢
 have hll := hpm.length_eq
 try dsimp only [Gr, Gq, Gp, Gj]
 repeat' (first|refine ae ?_|refine a6 ?_|refine a7 ?_|refine a8 ?_|refine aa a2 rfl rfl ?_)
 refine aw rfl (fun h2 => ?_) (fun h2 => ?_)
 ·have h2' := Gz h2
  cases k with
  | none => rw [show l' = [] from hok] at hll; simp at hll; omega
  | some q =>
   obtain ⟨b, cs⟩ := q
   repeat' (first|refine ae ?_|refine a6 ?_|refine ak ?_|refine ar ?_|refine a7 ?_|refine aa a2 rfl rfl ?_)
   have hdn := vL p b cs l' hok (m - 1) l.length (by omega) (by omega) (by omega)
   rw [show (((m - 1 : Nat)) : Int) = (m : Int) - 1 by omega] at hdn
   refine bb _ [] hdn rfl rfl (by rw [List.append_nil]) rfl fun c L1 ⟨cs', l2, hL, hok', hpm'⟩ => ?_
   subst hL
   rw [List.append_nil]
   repeat' (first|refine a6 ?_|refine a7 ?_|refine aH ?_|refine a8 ?_|refine aa a2 rfl rfl ?_|(apply aV; refine aU ?_)|fail)
   exact aB (m - 1, some (b, cs'), l2) rfl ⟨by rw [show (((m - 1 : Nat)) : Int) = (m : Int) - 1 by omega]; rfl, trivial⟩ ⟨by dsimp only; omega, hok', hpm'.trans hpm⟩ (by dsimp only; omega) (fun _ _ h => h)
 ·repeat' (first|refine aO ?_|refine au ?_|refine ay ?_|refine av ?_)
  exact dL rfl ⟨k, l', rfl, hok, hpm⟩
end Go.Proofs.YtjjpkibjffmceaaGreat
namespace Go.Proofs.YtjjpkibjffmceaaGreat
open Go.RowKit
attribute [local irreducible] AT bV AX AO Av Kt bC eH DA dl
def oM (fs : List ByteArray) (l : List bO) : List Int := (l.map fun t => if fE fs t.Name then t.Lookups else []).flatten
theorem yu (fs : List ByteArray) (l : List bO) (i : Nat) {t : bO} (h : l[i]? = some t) : oM fs (l.take (i + 1)) = oM fs (l.take i) ++ (if fE fs t.Name then t.Lookups else []) := by
 unfold oM
 rw [List.take_add_one, h, List.map_append, List.flatten_append]
 simp
theorem sD {fs : List ByteArray} {l : List bO} {z : Int} : z ∈ oM fs l ↔ ∃ t ∈ l, fE fs t.Name = true ∧ z ∈ t.Lookups := by
 unfold oM
 rw [List.mem_flatten]
 constructor
 ·rintro ⟨q, hq, hz⟩
  rw [List.mem_map] at hq
  obtain ⟨t, ht, rfl⟩ := hq
  refine ⟨t, ht, ?_⟩
  split at hz
  ·exact ⟨by assumption, hz⟩
  ·cases hz
 ·rintro ⟨t, ht, h1, h2⟩
  exact ⟨_, List.mem_map.2 ⟨t, ht, rfl⟩, by rw [if_pos h1]; exact h2⟩
def CallsIn (f : aI) (l : List Int) (cs : List fT) : Prop := ∀ c ∈ cs, lM f c.Lookup = true → c.Lookup ∈ l
def jo (f : aI) (l : List Int) (rs : List bX) : Prop := ∀ r ∈ rs, CallsIn f l r.Calls
structure fU (f : aI) (fs : List ByteArray) (l : List Int) (i : Nat) : Prop where
 reach : ∀ z ∈ l, ic f fs z
 nodup : l.Nodup
 base : ∀ z ∈ oM fs f.Features, 0 ≤ z → z < f.Lookups.length → z ∈ l
 done : ∀ j < i, ∀ z, l[j]? = some z → ∀ x, f.Lookups[z.toNat]? = some x → x.Kind = 4 → jo f l x.Rules
theorem CallsIn.mono {f : aI} {l k : List Int} {cs : List fT} (h : CallsIn f l cs) (hs : ∀ z ∈ l, z ∈ k) : CallsIn f k cs := fun c hc hn => hs _ (h c hc hn)
theorem jo.mono {f : aI} {l k : List Int} {rs : List bX} (h : jo f l rs) (hs : ∀ z ∈ l, z ∈ k) : jo f k rs := fun r hr => (h r hr).mono hs
theorem fU.add {f : aI} {fs : List ByteArray} {l : List Int} {i : Nat} {n : Int} (h : fU f fs l i) (hn : ic f fs n) (hl : n ∉ l) (hi : i ≤ l.length) : fU f fs (l ++ [n]) i where
 reach z hz := by
  rcases Gl hz with hz | hz
  ·exact h.reach z hz
  ·rw [Gk hz]; exact hn
 nodup := by
  rw [List.nodup_append]
  refine ⟨h.nodup, by simp, fun a ha b hb => ?_⟩
  rw [Gk hb]
  exact fun e => hl (e ▸ ha)
 base z hz h0 h1 := List.mem_append.2 (Or.inl (h.base z hz h0 h1))
 done j hj z hz x hx hk := by
  rw [List.getElem?_append_left (by omega)] at hz
  exact (h.done j hj z hz x hx hk).mono fun z hz => List.mem_append.2 (Or.inl hz)
theorem fU.end {f : aI} {fs : List ByteArray} {l : List Int} (h : fU f fs l l.length) : nk l f.Lookups.length = reachN f fs := by
 refine vj fun z h0 h1 => ⟨h.reach z, fun hr => ?_⟩
 clear h0 h1
 induction hr with
 | base ht hn hm h0 h1 => exact h.base _ (sD.2 ⟨_, ht, hn, hm⟩) h0 h1
 | call hm hl hk hr hc hn ih =>
  obtain ⟨j, hj⟩ := List.mem_iff_getElem?.1 ih
  exact h.done j (Gn hj).1 _ hj _ hl hk _ hr _ hc hn
theorem fU.next {f : aI} {fs : List ByteArray} {l : List Int} {i : Nat} {z : Int} {x : ba} (h : fU f fs l i) (hz : l[i]? = some z) (hx : f.Lookups[z.toNat]? = some x) (hd : x.Kind = 4 → jo f l x.Rules) : fU f fs l (i + 1) where
 reach := h.reach
 nodup := h.nodup
 base := h.base
 done j hj y hy w hw hk := by
  by_cases e : j = i
  ·subst e
   rw [hz] at hy
   injection hy with hy
   subst hy
   rw [hx] at hw
   injection hw with hw
   subst hw
   exact hd hk
  ·exact h.done j (by omega) y hy w hw hk
def gj (l : List Int) (n : Nat) : List AV := (List.range n).map fun (i : Nat) => cO (l.contains (i : Int))
theorem mW (l : List Int) (n : Nat) : (gj l n).length = n := by simp [gj]
theorem mV (l : List Int) (n : Nat) {z : Int} (h0 : 0 ≤ z) (h1 : z < n) : (gj l n)[0 + z.toNat * 1]? = some (cO (l.contains z)) := by
 rw [Nat.zero_add, Nat.mul_one]
 unfold gj
 rw [List.getElem?_map, List.getElem?_range (by omega)]
 simp only [Option.map_some]
 rw [show ((z.toNat : Nat) : Int) = z by omega]
theorem qN (l : List Int) (n : Nat) {z : Int} (h0 : 0 ≤ z) (h1 : z < n) : (gj l n).set (0 + z.toNat * 1) (cO true) = gj (l ++ [z]) n := by
 rw [Nat.zero_add, Nat.mul_one]
 apply List.ext_getElem?
 intro i
 rw [List.getElem?_set, mW]
 unfold gj
 by_cases hi : z.toNat = i
 ·subst hi
  rw [if_pos rfl, if_pos (by omega), List.getElem?_map, List.getElem?_range (by omega)]
  simp
  omega
 ·rw [if_neg hi, List.getElem?_map, List.getElem?_map]
  by_cases hn : i < n
  ·rw [List.getElem?_range hn]
   simp only [Option.map_some, Option.some.injEq]
   refine congrArg cO ?_
   rw [Bool.eq_iff_iff, List.contains_iff_mem, List.contains_iff_mem, List.mem_append, List.mem_singleton]
   constructor
   ·exact Or.inl
   ·rintro (h | h)
    ·exact h
    ·omega
  ·rw [List.getElem?_eq_none (by simp; omega)]
   rfl
theorem qM (n : Nat) : (List.replicate n [cO false]).flatten = gj [] n := by
 have : ∀ m, (List.replicate m [cO false]).flatten = List.replicate m (cO false) := by
  intro m
  induction m with
  | zero => rfl
  | succ m ih => rw [List.replicate_succ, List.flatten_cons, ih, List.replicate_succ]; rfl
 rw [this]
 unfold gj
 apply List.ext_getElem?
 intro i
 rw [List.getElem?_replicate, List.getElem?_map]
 by_cases h : i < n
 ·rw [if_pos h, List.getElem?_range h]; rfl
 ·rw [if_neg h, List.getElem?_eq_none (by simp; omega)]; rfl
def addOne (n : Nat) (l : List Int) (z : Int) : List Int := if 0 ≤ z ∧ z < n ∧ z ∉ l then l ++ [z] else l
def da (n : Nat) (l ns : List Int) : List Int := ns.foldl (addOne n) l
theorem qx {n : Nat} {l ns : List Int} {i : Nat} {z : Int} (h : ns[i]? = some z) : da n l (ns.take (i + 1)) = addOne n (da n l (ns.take i)) z := by
 unfold da
 rw [List.take_add_one, h, List.foldl_append]
 rfl
structure co (n : Nat) (l : List Int) : Prop where
 nodup : l.Nodup
 dom : ∀ z ∈ l, 0 ≤ z ∧ z < n
theorem co.len {n : Nat} {l : List Int} (h : co n l) : l.length ≤ n := gK h.nodup h.dom
theorem co.nil {n : Nat} : co n [] := ⟨by simp, by simp⟩
theorem co.one {n : Nat} {l : List Int} (h : co n l) (z : Int) : co n (addOne n l z) := by
 unfold addOne
 split
 ·rename_i hz
  refine ⟨?_, fun y hy => ?_⟩
  ·rw [List.nodup_append]
   refine ⟨h.nodup, by simp, fun a ha b hb => ?_⟩
   rw [Gk hb]
   exact fun e => hz.2.2 (e ▸ ha)
  ·rcases Gl hy with hy | hy
   ·exact h.dom y hy
   ·rw [Gk hy]; exact ⟨hz.1, hz.2.1⟩
 ·exact h
theorem co.add {n : Nat} {l : List Int} (h : co n l) (ns : List Int) : co n (da n l ns) := by
 unfold da
 induction ns generalizing l with
 | nil => exact h
 | cons z ns ih => exact ih (h.one z)
def dK (p b n : Nat) (k : Option (Nat × Nat)) (l : List Int) : AL := (p, .box [.sc (.slice (some ⟨b, 0, none⟩) n n), .vec k 1 (aT l)] 196) :: (b, .box (gj l n) 4) :: tok k 135 1 (aT l).length
abbrev fJ (p : Nat) : AV := .sc (.pointer (some ⟨p, 0, none⟩))
theorem CP (n : Nat) (hn : n ≤ 1000000) : AC Tryz.prog 47 [aM n] [] fun c L => ∃ p b, c = fJ p ∧ L = dK p b n none [] := by
 refine aQ Tryz.func47 rfl Tryz.ntmps47 rfl fun B => ?_
 repeat' (first|refine ae ?_|refine a6 ?_|refine a7 ?_|refine a8 ?_|refine aa a2 rfl rfl ?_)
 refine lm a2 n rfl rfl rfl rfl rfl rfl rfl (by omega) (by omega) rfl fun b => ?_
 rw [show (List.replicate n (List.map AV.sc [Value.bool false])).flatten = gj [] n from qM n]
 repeat' (first|refine aq ?_|refine a7 ?_|refine a8 ?_|refine aa a2 rfl rfl ?_|refine tq fun _=>?_|fail)
 refine be (br 0 (cs' := [.sc (.slice (some ⟨b, 0, none⟩) n n), .vec none 1 []]) rfl fun σ vs h => ?_) (aA rfl rfl ⟨_, b, rfl, rfl⟩)
 obtain ⟨v, ws, rfl, h1, h2⟩ := h.inv
 obtain ⟨v', ws', rfl, h3, h4⟩ := h2.inv
 exact .cons h1 (.cons (cy 1 h3) h4)
theorem yl (p b n : Nat) (k : Option (Nat × Nat)) (l ns : List Int) (hn : n ≤ 1000000) (hl : co n l) : AC Tryz.prog 48 [fJ p, .imm 1 (aT ns)] (dK p b n k l) fun _ L => ∃ k', L = dK p b n k' (da n l ns) := by
 refine aQ Tryz.func48 rfl Tryz.ntmps48 rfl fun B => ?_
 refine cG 1 rfl rfl fun hlen => ?_
 rw [aR] at hlen
 repeat' (first|refine ae ?_|refine a6 ?_|refine ak ?_|refine a7 ?_|refine a8 ?_|refine aa a2 rfl rfl ?_)
 refine aJ [0, 6, 7] (α := Nat × Option (Nat × Nat)) (fun x => [(8, aM x.1)]) (fun x => x.1 ≤ ns.length) (fun x => dK p b n x.2 (da n l (ns.take x.1))) (fun x => ns.length - x.1) (0, k) rfl ⟨rfl, trivial⟩ (Nat.zero_le _) (fun _ _ h => h) ?_
 rintro ⟨i, k⟩ hi
 dsimp only at hi ⊢
 have hok := hl.add (ns.take i)
 have hok1 := hok.len
 try dsimp only [Gr, Gq, Gp, Gj]
 repeat' (first|refine ae ?_|refine a6 ?_|refine a7 ?_|refine a8 ?_|refine aa a2 rfl rfl ?_)
 refine aw rfl (fun h => ?_) (fun h => ?_)
 ·have hil : i < ns.length := by have := Gz h; simp [aR] at this; omega
  obtain ⟨z, hz⟩ : ∃ z, ns[i]? = some z := ⟨_, Ee hil⟩
  have hzg := bW hz
  have had := qx (n := n) (l := l) hz
  generalize da n l (ns.take i) = l1 at *
  repeat' (first|refine ae ?_|refine a6 ?_|refine ak ?_|refine ar ?_|refine a7 ?_|refine a8 ?_|refine aa a2 rfl rfl ?_|(apply aX; first|refine aW a2 ?_|refine aP a2 ?_)|fail)
  refine dV [0, 5, 6, 7, 8] (0 ≤ z ∧ z < n ∧ z ∉ l1) rfl (fun Q' K => ?_) (fun hC => ?_) (fun hC => ?_)
  ·by_cases hin : 0 ≤ z ∧ z < n
   ·obtain ⟨hz0, hz1⟩ := hin
    have hfg := mV l1 n hz0 hz1
    clear had hok hl
    repeat' (first|refine a8 ?_|refine aa a2 rfl rfl ?_|refine aF rfl rfl ?_|refine aL rfl rfl rfl rfl ?_|(apply bK; first|refine aj a2 0 rfl rfl rfl rfl rfl ?_|refine aj a2 1 rfl rfl rfl rfl rfl ?_|refine aj a2 2 rfl rfl rfl rfl rfl ?_|refine aj a2 3 rfl rfl rfl rfl rfl ?_|refine aD a2 0 rfl rfl rfl rfl rfl ?_|refine aD a2 1 rfl rfl rfl rfl rfl ?_|refine aD a2 2 rfl rfl rfl rfl rfl ?_|refine aj a2 1 rfl rfl rfl (by assumption) rfl ?_|refine aj a2 0 rfl rfl rfl (by assumption) rfl ?_|fail)|(apply aX; first|refine aW a2 ?_|refine aP a2 ?_)|refine bf rfl rfl rfl (fun _ => ?_) (fun _ => ?_))
    all_goals exact K _ _ rfl rfl (by simp_all)
   ·clear had hok hl
    repeat' (first|refine a8 ?_|refine aa a2 rfl rfl ?_|refine aF rfl rfl ?_|refine aL rfl rfl rfl rfl ?_|(apply bK; first|refine aj a2 0 rfl rfl rfl rfl rfl ?_|refine aj a2 1 rfl rfl rfl rfl rfl ?_|refine aj a2 2 rfl rfl rfl rfl rfl ?_|refine aj a2 3 rfl rfl rfl rfl rfl ?_|refine aD a2 0 rfl rfl rfl rfl rfl ?_|refine aD a2 1 rfl rfl rfl rfl rfl ?_|refine aD a2 2 rfl rfl rfl rfl rfl ?_|refine aj a2 1 rfl rfl rfl (by assumption) rfl ?_|refine aj a2 0 rfl rfl rfl (by assumption) rfl ?_|fail)|refine bf rfl rfl rfl (fun _ => ?_) (fun _ => ?_))
    all_goals first
     | (refine K _ _ rfl rfl ?_; exact ⟨fun e => (by cases e), fun hh => absurd (And.intro hh.1 hh.2.1) hin⟩)
     | (rename_i e1 e2; exact absurd ⟨Gz e1, Gz e2⟩ hin)
  ·obtain ⟨hz0, hz1, hz2⟩ := hC
   have had' : da n l (ns.take (i + 1)) = l1 ++ [z] := by rw [had]; unfold addOne; rw [if_pos ⟨hz0, hz1, hz2⟩]
   repeat' (first|refine ae ?_|refine a6 ?_|refine aa a2 rfl rfl ?_|(apply bK; first|refine aj a2 0 rfl rfl rfl rfl rfl ?_|refine aj a2 1 rfl rfl rfl rfl rfl ?_|refine aj a2 2 rfl rfl rfl rfl rfl ?_|refine aj a2 3 rfl rfl rfl rfl rfl ?_|refine aD a2 0 rfl rfl rfl rfl rfl ?_|refine aD a2 1 rfl rfl rfl rfl rfl ?_|refine aD a2 2 rfl rfl rfl rfl rfl ?_|refine aj a2 1 rfl rfl rfl (by assumption) rfl ?_|refine aj a2 0 rfl rfl rfl (by assumption) rfl ?_|fail)|(apply aX; first|refine aW a2 ?_|refine aP a2 ?_)|fail)
   refine ai a2 1 rfl rfl rfl rfl rfl rfl (by rw [Nat.ble_eq, mW]; show _ + 1 ≤ n; omega) ?_
   rw [gM, qN l1 n hz0 hz1]
   repeat' (first|refine a6 ?_|refine a7 ?_|refine a8 ?_|refine aa a2 rfl rfl ?_|(apply bK; first|refine aj a2 0 rfl rfl rfl rfl rfl ?_|refine aj a2 1 rfl rfl rfl rfl rfl ?_|refine aj a2 2 rfl rfl rfl rfl rfl ?_|refine aj a2 3 rfl rfl rfl rfl rfl ?_|refine aD a2 0 rfl rfl rfl rfl rfl ?_|refine aD a2 1 rfl rfl rfl rfl rfl ?_|refine aD a2 2 rfl rfl rfl rfl rfl ?_|refine aj a2 1 rfl rfl rfl (by assumption) rfl ?_|refine aj a2 0 rfl rfl rfl (by assumption) rfl ?_|fail)|refine bG a2 ?_|fail)
   refine bE a2 [(p, .box [.sc (.slice (some ⟨b, 0, none⟩) n n), .vec k 1 (aT l1)] 196), (b, .box (gj (l1 ++ [z]) n) 4)] rfl rfl rfl rfl (List.perm_append_comm (l₁ := [(p, AB.box [.sc (.slice (some ⟨b, 0, none⟩) n n), .vec k 1 (aT l1)] 196), (b, AB.box (gj (l1 ++ [z]) n) 4)])) (by rw [aR]; simp; omega) (by rw [aR]; simp; omega) rfl fun k' => ?_
   refine aN (aK List.perm_append_comm) ?_
   repeat' (first|refine a6 ?_|refine a7 ?_|refine aH ?_|refine a8 ?_|refine aa a2 rfl rfl ?_|(apply aV; refine aU ?_)|(apply aG; first|refine ai a2 0 rfl rfl rfl rfl rfl rfl rfl ?_|refine ai a2 1 rfl rfl rfl rfl rfl rfl rfl ?_|refine ai a2 2 rfl rfl rfl rfl rfl rfl rfl ?_|refine ai a2 3 rfl rfl rfl rfl rfl rfl rfl ?_|fail))
   rw [show aT l1 ++ [[aM z]] = aT (l1 ++ [z]) from j3 l1 [z], ← had']
   refine aB (i + 1, k') rfl ⟨by rw [Gw]; rfl, trivial⟩ (by dsimp only; omega) (by dsimp only; omega) (fun _ _ h => h)
  ·have had' : da n l (ns.take (i + 1)) = l1 := by rw [had]; unfold addOne; rw [if_neg hC]
   repeat' (first|refine a6 ?_|refine ar ?_|refine a7 ?_|refine aH ?_|refine a8 ?_|refine aa a2 rfl rfl ?_|(apply aV; refine aU ?_)|fail)
   refine aB (i + 1, k) rfl ⟨by rw [Gw]; rfl, trivial⟩ (by dsimp only; omega) (by dsimp only; omega) (fun _ _ h => by dsimp only; rw [had']; exact h)
 ·have hil : i = ns.length := by have := Gy h; simp [aR] at this; omega
  subst hil
  rw [List.take_length]
  repeat' (first|refine aO ?_|refine au ?_|refine ay ?_|refine av ?_)
  exact dL rfl ⟨k, rfl⟩
end Go.Proofs.YtjjpkibjffmceaaGreat
