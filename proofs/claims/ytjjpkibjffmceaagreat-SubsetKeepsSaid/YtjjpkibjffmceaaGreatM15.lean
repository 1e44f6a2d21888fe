/-
  The program: a heap of numbers.
-/
import Derived.Test.YtjjpkibjffmceaaGreatM14
import Derived.Test.YtjjpkibjffmceaaGreatM10
import Derived.Test.YtjjpkibjffmceaaGreatM06
namespace Go.Proofs.YtjjpkibjffmceaaGreat
open Go.RowKit
attribute [local irreducible] AT bT AX AO Av Kt bk ej DA cX
theorem Gh {P : Program} {f : FuncId} {fn : Func} {c : Code} (hf : P.funcs[f]? = some fn) (hn : (fn.name == "runtime.NumGoroutine") = false := by kernel_rfl) (hb : fn.body = some c := by rfl) : bD P f := ⟨am hf hn hb⟩
instance : bD Tryz.prog 286 := Gh Tryz.func286
instance : bD Tryz.prog 287 := Gh Tryz.func287
instance : bD Tryz.prog 288 := Gh Tryz.func288
instance : bD Tryz.prog 289 := Gh Tryz.func289
instance : bD Tryz.prog 290 := Gh Tryz.func290
theorem yD : lp Tryz.prog 342 "Len" 286 false 337 := i9 (by kernel_rfl)
theorem oL : lp Tryz.prog 342 "Less" 287 false 337 := i9 (by kernel_rfl)
theorem oM : lp Tryz.prog 342 "Swap" 288 false 337 := i9 (by kernel_rfl)
theorem E8 : lp Tryz.prog 342 "Pop" 289 true 337 := i9 (by kernel_rfl)
theorem CS : lp Tryz.prog 342 "Push" 290 true 337 := i9 (by kernel_rfl)
section
variable {P : Program} {fr : ca} {d : Option Tmp} {ty t t' : TypeId} {pos : String} {af : Array Edge} {g : Option (Nat × Bool)} {x y : Operand}
theorem Cm {z : Int} {n : Nat} (hz : z = (n : Int) - 1) (hx : bH fr x = some (aM z)) (hy : bH fr y = some (aM 2)) (hn : n ≤ 9223372036854775807) : Av P ⟨d, .binOp .quo t x y t', ty, pos, af, g⟩ fr (aM (((n - 1) / 2 : Nat) : Int)) := by
 have h := uV (P := P) (d := d) (ty := ty) (pos := pos) (af := af) (g := g) (t := t) (t' := t') hx hy (by omega)
 have e : IntKind.i64.wrap (z.tdiv 2) = (((n - 1) / 2 : Nat) : Int) := by
  subst hz
  have : ((n : Int) - 1).tdiv 2 = (((n - 1) / 2 : Nat) : Int) := by
   cases n with
   | zero => rfl
   | succ m =>
    rw [show (((m + 1 : Nat) : Int) - 1) = (m : Int) by omega, Int.tdiv_eq_ediv_of_nonneg (by omega)]
    simp
  rw [this, mz (by omega)]
 rwa [e] at h
end
abbrev HI (p : Nat) : AV := .sc (.iface 342 (.pointer (some ⟨p, 0, none⟩)))
def sr (k : Option (Nat × List AV)) (n : Nat) : Value := match k with
 | none => .slice none 0 0
 | some (b, cs) => .slice (some ⟨b, 0, none⟩) n cs.length
def oD (k : Option (Nat × List AV)) : AL := match k with
 | none => []
 | some (b, cs) => [(b, .box cs 3)]
def hst (p : Nat) (k : Option (Nat × List AV)) (l : List Int) : AL := (p, .box [.sc (sr k l.length)] 337) :: oD k
def mX (k : Option (Nat × List AV)) (l : List Int) : Prop := match k with
 | none => l = []
 | some (_, cs) => cs.take l.length = l.map aM ∧ l.length ≤ cs.length ∧ 0 < cs.length
theorem mX.get {b : Nat} {cs : List AV} {l : List Int} (h : mX (some (b, cs)) l) {a : Int} (h0 : 0 ≤ a) (h1 : a < l.length) : ∃ x, l[a.toNat]? = some x ∧ cs[0 + a.toNat * 1]? = some (aM x) := by
 obtain ⟨x, hx⟩ : ∃ x, l[a.toNat]? = some x := ⟨_, Ds (by omega)⟩
 refine ⟨x, hx, ?_⟩
 have h2 := congrArg (fun q => q[a.toNat]?) h.1
 simp only [List.getElem?_take, List.getElem?_map, hx] at h2
 rw [if_pos (by omega)] at h2
 rw [Nat.zero_add, Nat.mul_one]
 exact h2
theorem uh (v : Value) (n c : Nat) (A : Option Addr) (hv : v = .slice A n c) : bO Tryz.prog 286 [.sc v] (aM n) := by
 subst hv
 refine aP Tryz.func286 rfl Tryz.ntmps286 rfl fun B => ?_
 repeat' (first|refine ah ?_|refine a7 ?_|refine ar ?_|refine a8 ?_|refine aa ?_|refine ae a6 rfl rfl ?_)
 exact aA rfl rfl rfl
theorem lO {b n c : Nat} {cs : List AV} {x y a e : Int} (ha : 0 ≤ a ∧ a < n) (he : 0 ≤ e ∧ e < n) (hx : cs[0 + a.toNat * 1]? = some (aM x)) (hy : cs[0 + e.toNat * 1]? = some (aM y)) : AC Tryz.prog 287 [.sc (.slice (some ⟨b, 0, none⟩) n c), aM a, aM e] [(b, .box cs 3)] fun r L => r = cF (decide (x < y)) ∧ L = [(b, .box cs 3)] := by
 refine aP Tryz.func287 rfl Tryz.ntmps287 rfl fun B => ?_
 repeat' (first|refine ah ?_|refine a7 ?_|refine a8 ?_|refine aa ?_|refine ae a6 rfl rfl ?_)
 refine bt 8 [(0, .v), (1, .v), (2, .v), (3, .l), (4, .v), (5, .v), (6, .v), (7, .l)] none ?_ trivial rfl (by kernel_rfl) (by kernel_rfl) (by kernel_rfl) mixed (by kernel_rfl) rfl
 repeat' (first|refine aE ?_|refine aZ a6 ?_|fail)
 refine f0 a6 rfl rfl rfl ha trivial ?_
 repeat' (first|refine aE ?_|fail)
 refine cI a6 0 rfl rfl rfl hx trivial ?_
 repeat' (first|refine aE ?_|refine aZ a6 ?_|fail)
 refine f0 a6 rfl rfl rfl he trivial ?_
 repeat' (first|refine aE ?_|fail)
 refine cI a6 0 rfl rfl rfl hy trivial ?_
 repeat' (first|fail)
 refine br [10, 14] rfl rfl ?_
 repeat' (first|refine ar ?_|refine a8 ?_|refine aa ?_|refine ae a6 rfl rfl ?_)
 exact aA rfl rfl ⟨rfl, rfl⟩
theorem mc {b n c : Nat} {cs : List AV} {x y a e : Int} (ha : 0 ≤ a ∧ a < n) (he : 0 ≤ e ∧ e < n) (hx : cs[0 + a.toNat * 1]? = some (aM x)) (hy : cs[0 + e.toNat * 1]? = some (aM y)) (hn : n ≤ cs.length) : AC Tryz.prog 288 [.sc (.slice (some ⟨b, 0, none⟩) n c), aM a, aM e] [(b, .box cs 3)] fun _ L => L = [(b, .box ((cs.set a.toNat (aM y)).set e.toNat (aM x)) 3)] := by
 refine aP Tryz.func288 rfl Tryz.ntmps288 rfl fun B => ?_
 repeat' (first|fail)
 refine bt 14 [(0, .v), (1, .v), (2, .v), (3, .v), (4, .v), (5, .v), (6, .v), (7, .l), (8, .v), (9, .v), (10, .v), (11, .l), (12, .v), (13, .e)] none ?_ trivial rfl (by kernel_rfl) (by kernel_rfl) (by kernel_rfl) mixed (by kernel_rfl) rfl
 repeat' (first|refine aE ?_|refine aZ a6 ?_|fail)
 refine f0 a6 rfl rfl rfl he trivial ?_
 repeat' (first|refine aE ?_|fail)
 refine cI a6 0 rfl rfl rfl hy trivial ?_
 repeat' (first|refine aE ?_|refine aZ a6 ?_|fail)
 refine f0 a6 rfl rfl rfl ha trivial ?_
 repeat' (first|refine aE ?_|fail)
 refine cI a6 0 rfl rfl rfl hx trivial ?_
 repeat' (first|refine aE ?_|fail)
 refine f0 a6 rfl rfl rfl ha trivial ?_
 repeat' (first|refine aE ?_|fail)
 refine xZ a6 0 rfl rfl rfl rfl rfl rfl (by rw [Nat.ble_eq]; show _ + 1 ≤ _; omega) trivial fun _ => ?_
 repeat' (first|fail)
 refine br [8, 9, 17] rfl rfl ?_
 repeat' (first|(apply aY; first|refine aX a6 ?_|refine aS a6 ?_)|fail)
 refine aj a6 0 rfl rfl rfl rfl rfl rfl (by rw [Nat.ble_eq]; show _ + 1 ≤ (gg _ _ _).length; rw [m5]; omega) ?_
 repeat' (first|refine aa ?_)
 refine dz rfl ?_
 simp only [fS, gg, Nat.zero_add, Nat.mul_one]
theorem mX.swap {b : Nat} {cs : List AV} {l : List Int} (h : mX (some (b, cs)) l) {a e x y : Int} (ha : 0 ≤ a ∧ a < l.length) (he : 0 ≤ e ∧ e < l.length) (hx : l[a.toNat]? = some x) (hy : l[e.toNat]? = some y) : mX (some (b, (cs.set a.toNat (aM y)).set e.toNat (aM x))) ((l.set a.toNat y).set e.toNat x) ∧ ((l.set a.toNat y).set e.toNat x).Perm l := by
 obtain ⟨h1, h2, h3⟩ := h
 refine ⟨⟨?_, by simpa using h2, by simpa using h3⟩, ?_⟩
 ·simp only [List.length_set]
  rw [List.take_set, List.take_set, h1, List.map_set, List.map_set]
 ·obtain ⟨hx1, hx2⟩ := Gn hx
  obtain ⟨hy1, hy2⟩ := Gn hy
  subst hx2; subst hy2
  exact List.set_set_perm hx1 hy1
set_option maxHeartbeats 4000000 in
theorem v8 (p b : Nat) (cs0 : List AV) (l0 : List Int) (h : mX (some (b, cs0)) l0) (i0 n : Nat) (hn : n ≤ l0.length) (hl : l0.length ≤ 1000000) (hi0 : i0 ≤ 1000000) : AC Tryz.prog 264 [HI p, aM i0, aM n] (hst p (some (b, cs0)) l0) fun _ L => ∃ cs' l', L = hst p (some (b, cs')) l' ∧ mX (some (b, cs')) l' ∧ l'.Perm l0 := by
 refine aP Tryz.func264 rfl Tryz.ntmps264 rfl fun B => ?_
 repeat' (first|refine ah ?_|refine a7 ?_|refine aq ?_|refine a8 ?_|refine aa ?_|refine ae a6 rfl rfl ?_)
 refine aN [0, 1, 2] (α := Nat × List AV × List Int) (fun x => [(7, aM x.1)]) (fun x => x.1 ≤ 1000000 ∧ mX (some (b, x.2.1)) x.2.2 ∧ x.2.2.Perm l0) (fun x => hst p (some (b, x.2.1)) x.2.2) (fun x => 1000001 - x.1) (i0, cs0, l0) rfl ⟨rfl, trivial⟩ ⟨hi0, h, Gm _⟩ (fun _ _ h => h) ?_
 rintro ⟨i, cs, l⟩ ⟨hi, hok, hpm⟩
 dsimp only at hi hok hpm ⊢
 have hll := hpm.length_eq
 unfold hst oD sr
 dsimp only
 try dsimp only [Gr, Gq, Gp, Gj]
 repeat' (first|refine ah ?_|refine a7 ?_|refine aq ?_|refine a8 ?_|refine aa ?_|refine ae a6 rfl rfl ?_|(apply aW; refine aV ?_)|fail)
 refine dJ [0, 1, 2, 7, 8] (¬ (2 * (i : Int) + 1 < n)) rfl (fun Q' K => ?_) (fun hC => ?_) (fun hC => ?_)
 ·repeat' (first|refine aa ?_|refine ae a6 rfl rfl ?_|refine aG rfl rfl ?_|refine aL rfl rfl rfl rfl ?_|refine bc rfl rfl rfl (fun _ => ?_) (fun _ => ?_))
  all_goals exact K _ _ rfl rfl (by clear K; simp_all <;> omega)
 ·repeat' (first|refine ah ?_|refine a7 ?_|refine ar ?_|refine aR ?_|refine a8 ?_|refine av ?_|refine aB ?_|refine fb rfl ?_|refine ay ?_|refine aa ?_|refine ae a6 rfl rfl ?_)
  exact aA rfl rfl ⟨cs, l, rfl, hok, hpm⟩
 have hC := Decidable.not_not.1 hC
 obtain ⟨x, hx, hxc⟩ := hok.get (a := i) (by omega) (by omega)
 repeat' (first|refine ah ?_|refine a7 ?_|refine au ?_|refine a8 ?_|refine aa ?_|refine ae a6 rfl rfl ?_|(apply aW; refine aV ?_)|fail)
 refine bc rfl rfl rfl (fun h2 => ?_) (fun h2 => ?_)
 ·have h2' := Gz h2
  obtain ⟨u, hu, huc⟩ := hok.get (a := 2 * (i : Int) + 1 + 1) (by omega) (by omega)
  obtain ⟨v, hv, hvc⟩ := hok.get (a := 2 * (i : Int) + 1) (by omega) (by omega)
  repeat' (first|refine ae a6 rfl rfl ?_|refine aG rfl rfl ?_)
  refine dQ 0 [(b, .box cs 3)] [(p, .box [.sc (.slice (some ⟨b, 0, none⟩) l.length cs.length)] 337)] oL (cU a6 rfl) rfl rfl rfl rfl (List.Perm.swap ..) (lO (x := u) (y := v) ⟨by omega, by omega⟩ ⟨by omega, by omega⟩ huc hvc) rfl rfl fun c L1 ⟨hc, hL⟩ => ?_
  subst hc; subst hL
  refine aO (aK (List.Perm.swap ..)) ?_
  repeat' (first|refine a8 ?_|refine aa ?_|refine ae a6 rfl rfl ?_)
  refine aw rfl (fun h3 => ?_) (fun h3 => ?_)
  ·clear h3
   repeat' (first|refine ah ?_|refine a7 ?_|refine a8 ?_|refine aa ?_|refine ae a6 rfl rfl ?_)
   obtain ⟨y, hy, hyc⟩ := hok.get (a := (2 * (i : Int) + 1 + 1)) (by omega) (by omega)
   refine dQ 0 [(b, .box cs 3)] [(p, .box [.sc (.slice (some ⟨b, 0, none⟩) l.length cs.length)] 337)] oL (cU a6 rfl) rfl rfl rfl rfl (List.Perm.swap ..) (lO (x := y) (y := x) ⟨by omega, by omega⟩ ⟨by omega, by omega⟩ hyc hxc) rfl rfl fun c L1 ⟨hc, hL⟩ => ?_
   subst hc; subst hL
   repeat' (first|refine a8 ?_|refine aa ?_|refine ae a6 rfl rfl ?_)
   refine aw rfl (fun h5 => ?_) (fun h5 => ?_)
   ·repeat' (first|refine ah ?_|refine a7 ?_|refine ar ?_|refine aR ?_|refine a8 ?_|refine av ?_|refine aB ?_|refine fb rfl ?_|refine ay ?_|refine aa ?_|refine ae a6 rfl rfl ?_)
    refine ba (aK (List.Perm.swap ..)) ?_
    exact aA rfl rfl ⟨cs, l, rfl, hok, hpm⟩
   repeat' (first|refine ah ?_|refine a7 ?_|refine au ?_|refine a8 ?_|refine ae a6 rfl rfl ?_)
   refine aO (aK (List.Perm.swap ..)) ?_
   refine dQ 0 [(b, .box cs 3)] [(p, .box [.sc (.slice (some ⟨b, 0, none⟩) l.length cs.length)] 337)] oM (cU a6 rfl) rfl rfl rfl rfl (List.Perm.swap ..) (mc (x := x) (y := y) ⟨by omega, by omega⟩ ⟨by omega, by omega⟩ hxc hyc hok.2.1) rfl rfl fun c L1 hL => ?_
   subst hL
   repeat' (first|refine a7 ?_|refine a8 ?_|refine aI ?_|refine aa ?_|refine ae a6 rfl rfl ?_)
   have hs := hok.swap (a := i) (e := (2 * (i : Int) + 1 + 1)) ⟨by omega, by omega⟩ ⟨by omega, by omega⟩ hx hy
   refine aC (((2 * (i : Int) + 1 + 1)).toNat, (cs.set ((i : Int)).toNat (aM y)).set ((2 * (i : Int) + 1 + 1)).toNat (aM x), (l.set ((i : Int)).toNat y).set ((2 * (i : Int) + 1 + 1)).toNat x) rfl ⟨by rw [show ((((2 * (i : Int) + 1 + 1)).toNat : Nat) : Int) = (2 * (i : Int) + 1 + 1) by omega]; rfl, trivial⟩ ⟨by dsimp only; omega, hs.1, hs.2.trans hpm⟩ (by dsimp only; omega) (fun σ w h => ?_)
   have h := h.perm (List.Perm.swap ..)
   simpa [hst, sr, oD, List.length_set] using h
  ·clear h3
   repeat' (first|refine ah ?_|refine a7 ?_|refine au ?_|refine a8 ?_|refine ae a6 rfl rfl ?_)
   obtain ⟨y, hy, hyc⟩ := hok.get (a := (2 * (i : Int) + 1)) (by omega) (by omega)
   refine dQ 0 [(b, .box cs 3)] [(p, .box [.sc (.slice (some ⟨b, 0, none⟩) l.length cs.length)] 337)] oL (cU a6 rfl) rfl rfl rfl rfl (List.Perm.swap ..) (lO (x := y) (y := x) ⟨by omega, by omega⟩ ⟨by omega, by omega⟩ hyc hxc) rfl rfl fun c L1 ⟨hc, hL⟩ => ?_
   subst hc; subst hL
   repeat' (first|refine a8 ?_|refine aa ?_|refine ae a6 rfl rfl ?_)
   refine aw rfl (fun h5 => ?_) (fun h5 => ?_)
   ·repeat' (first|refine ah ?_|refine a7 ?_|refine ar ?_|refine aR ?_|refine a8 ?_|refine av ?_|refine aB ?_|refine fb rfl ?_|refine ay ?_|refine aa ?_|refine ae a6 rfl rfl ?_)
    refine ba (aK (List.Perm.swap ..)) ?_
    exact aA rfl rfl ⟨cs, l, rfl, hok, hpm⟩
   repeat' (first|refine ah ?_|refine a7 ?_|refine au ?_|refine a8 ?_|refine ae a6 rfl rfl ?_)
   refine aO (aK (List.Perm.swap ..)) ?_
   refine dQ 0 [(b, .box cs 3)] [(p, .box [.sc (.slice (some ⟨b, 0, none⟩) l.length cs.length)] 337)] oM (cU a6 rfl) rfl rfl rfl rfl (List.Perm.swap ..) (mc (x := x) (y := y) ⟨by omega, by omega⟩ ⟨by omega, by omega⟩ hxc hyc hok.2.1) rfl rfl fun c L1 hL => ?_
   subst hL
   repeat' (first|refine a7 ?_|refine a8 ?_|refine aI ?_|refine aa ?_|refine ae a6 rfl rfl ?_)
   have hs := hok.swap (a := i) (e := (2 * (i : Int) + 1)) ⟨by omega, by omega⟩ ⟨by omega, by omega⟩ hx hy
   refine aC (((2 * (i : Int) + 1)).toNat, (cs.set ((i : Int)).toNat (aM y)).set ((2 * (i : Int) + 1)).toNat (aM x), (l.set ((i : Int)).toNat y).set ((2 * (i : Int) + 1)).toNat x) rfl ⟨by rw [show ((((2 * (i : Int) + 1)).toNat : Nat) : Int) = (2 * (i : Int) + 1) by omega]; rfl, trivial⟩ ⟨by dsimp only; omega, hs.1, hs.2.trans hpm⟩ (by dsimp only; omega) (fun σ w h => ?_)
   have h := h.perm (List.Perm.swap ..)
   simpa [hst, sr, oD, List.length_set] using h
 ·have h2' : ¬ (2 * (i : Int) + 1 + 1 < n) := Gy (by simpa using h2)
  repeat' (first|refine ah ?_|refine a7 ?_|refine au ?_|refine a8 ?_|refine aa ?_|refine ae a6 rfl rfl ?_|refine aL rfl rfl rfl rfl ?_|refine bv rfl ?_)
  obtain ⟨y, hy, hyc⟩ := hok.get (a := (2 * (i : Int) + 1)) (by omega) (by omega)
  refine dQ 0 [(b, .box cs 3)] [(p, .box [.sc (.slice (some ⟨b, 0, none⟩) l.length cs.length)] 337)] oL (cU a6 rfl) rfl rfl rfl rfl (List.Perm.swap ..) (lO (x := y) (y := x) ⟨by omega, by omega⟩ ⟨by omega, by omega⟩ hyc hxc) rfl rfl fun c L1 ⟨hc, hL⟩ => ?_
  subst hc; subst hL
  repeat' (first|refine a8 ?_|refine aa ?_|refine ae a6 rfl rfl ?_)
  refine aw rfl (fun h5 => ?_) (fun h5 => ?_)
  ·repeat' (first|refine ah ?_|refine a7 ?_|refine ar ?_|refine aR ?_|refine a8 ?_|refine av ?_|refine aB ?_|refine fb rfl ?_|refine ay ?_|refine aa ?_|refine ae a6 rfl rfl ?_)
   refine ba (aK (List.Perm.swap ..)) ?_
   exact aA rfl rfl ⟨cs, l, rfl, hok, hpm⟩
  repeat' (first|refine ah ?_|refine a7 ?_|refine au ?_|refine a8 ?_|refine ae a6 rfl rfl ?_)
  refine aO (aK (List.Perm.swap ..)) ?_
  refine dQ 0 [(b, .box cs 3)] [(p, .box [.sc (.slice (some ⟨b, 0, none⟩) l.length cs.length)] 337)] oM (cU a6 rfl) rfl rfl rfl rfl (List.Perm.swap ..) (mc (x := x) (y := y) ⟨by omega, by omega⟩ ⟨by omega, by omega⟩ hxc hyc hok.2.1) rfl rfl fun c L1 hL => ?_
  subst hL
  repeat' (first|refine a7 ?_|refine a8 ?_|refine aI ?_|refine aa ?_|refine ae a6 rfl rfl ?_)
  have hs := hok.swap (a := i) (e := (2 * (i : Int) + 1)) ⟨by omega, by omega⟩ ⟨by omega, by omega⟩ hx hy
  refine aC (((2 * (i : Int) + 1)).toNat, (cs.set ((i : Int)).toNat (aM y)).set ((2 * (i : Int) + 1)).toNat (aM x), (l.set ((i : Int)).toNat y).set ((2 * (i : Int) + 1)).toNat x) rfl ⟨by rw [show ((((2 * (i : Int) + 1)).toNat : Nat) : Int) = (2 * (i : Int) + 1) by omega]; rfl, trivial⟩ ⟨by dsimp only; omega, hs.1, hs.2.trans hpm⟩ (by dsimp only; omega) (fun σ w h => ?_)
  have h := h.perm (List.Perm.swap ..)
  simpa [hst, sr, oD, List.length_set] using h
theorem Ex (p b : Nat) (cs0 : List AV) (l0 : List Int) (h : mX (some (b, cs0)) l0) (j0 : Nat) (hj0 : j0 < l0.length) (hl : l0.length ≤ 1000000) : AC Tryz.prog 265 [HI p, aM j0] (hst p (some (b, cs0)) l0) fun _ L => ∃ cs' l', L = hst p (some (b, cs')) l' ∧ mX (some (b, cs')) l' ∧ l'.Perm l0 := by
 refine aP Tryz.func265 rfl Tryz.ntmps265 rfl fun B => ?_
 repeat' (first|refine aq ?_)
 refine aN [0] (α := Nat × List AV × List Int) (fun x => [(1, aM x.1)]) (fun x => x.1 < l0.length ∧ mX (some (b, x.2.1)) x.2.2 ∧ x.2.2.Perm l0) (fun x => hst p (some (b, x.2.1)) x.2.2) (fun x => x.1) (j0, cs0, l0) rfl ⟨rfl, trivial⟩ ⟨hj0, h, Gm _⟩ (fun _ _ h => h) ?_
 rintro ⟨j, cs, l⟩ ⟨hi, hok, hpm⟩
 dsimp only at hi hok hpm ⊢
 have hll := hpm.length_eq
 unfold hst oD sr
 dsimp only
 try dsimp only [Gr, Gq, Gp, Gj]
 repeat' (first|refine ah ?_|refine a7 ?_|refine aq ?_|refine ae a6 rfl rfl ?_|(apply aW; refine aV ?_)|fail)
 refine aV ?_ (Cm (n := j) rfl rfl rfl (by omega))
 obtain ⟨x, hx, hxc⟩ := hok.get (a := j) (by omega) (by omega)
 obtain ⟨y, hy, hyc⟩ := hok.get (a := (((j - 1) / 2 : Nat) : Int)) (by omega) (by omega)
 repeat' (first|refine ah ?_|refine a7 ?_|refine a8 ?_|refine aa ?_|refine ae a6 rfl rfl ?_)
 refine bc rfl rfl rfl (fun h2 => ?_) (fun h2 => ?_)
 ·have h2' := Gy h2
  repeat' (first|refine ae a6 rfl rfl ?_|refine aG rfl rfl ?_)
  refine dQ 0 [(b, .box cs 3)] [(p, .box [.sc (.slice (some ⟨b, 0, none⟩) l.length cs.length)] 337)] oL (cU a6 rfl) rfl rfl rfl rfl (List.Perm.swap ..) (lO (x := x) (y := y) ⟨by omega, by omega⟩ ⟨by omega, by omega⟩ hxc hyc) rfl rfl fun c L1 ⟨hc, hL⟩ => ?_
  subst hc; subst hL
  refine aO (aK (List.Perm.swap ..)) ?_
  repeat' (first|refine a8 ?_|refine aa ?_|refine ae a6 rfl rfl ?_|refine aG rfl rfl ?_)
  refine aw rfl (fun h3 => ?_) (fun h3 => ?_)
  ·repeat' (first|refine aR ?_|refine av ?_|refine aB ?_|refine fb rfl ?_|refine ay ?_)
   exact dz rfl ⟨cs, l, rfl, hok, hpm⟩
  repeat' (first|refine ah ?_|refine a7 ?_|refine au ?_|refine a8 ?_|refine ae a6 rfl rfl ?_)
  refine dQ 0 [(b, .box cs 3)] [(p, .box [.sc (.slice (some ⟨b, 0, none⟩) l.length cs.length)] 337)] oM (cU a6 rfl) rfl rfl rfl rfl (List.Perm.swap ..) (mc (x := y) (y := x) ⟨by omega, by omega⟩ ⟨by omega, by omega⟩ hyc hxc hok.2.1) rfl rfl fun c L1 hL => ?_
  subst hL
  repeat' (first|refine a7 ?_|refine a8 ?_|refine aI ?_|refine aa ?_|refine ae a6 rfl rfl ?_)
  have hs := hok.swap (a := (((j - 1) / 2 : Nat) : Int)) (e := j) ⟨by omega, by omega⟩ ⟨by omega, by omega⟩ hy hx
  refine aC ((j - 1) / 2, (cs.set (((j - 1) / 2 : Nat) : Int).toNat (aM x)).set (j : Int).toNat (aM y), (l.set (((j - 1) / 2 : Nat) : Int).toNat x).set (j : Int).toNat y) rfl ⟨rfl, trivial⟩ ⟨by dsimp only; omega, hs.1, hs.2.trans hpm⟩ (by dsimp only; omega) (fun σ w h => ?_)
  have h := h.perm (List.Perm.swap ..)
  simpa [hst, sr, oD, List.length_set] using h
 ·repeat' (first|refine aR ?_|refine a8 ?_|refine av ?_|refine aB ?_|refine fb rfl ?_|refine ay ?_|refine aa ?_|refine ae a6 rfl rfl ?_|refine aL rfl rfl rfl rfl ?_|refine bQ rfl ?_)
  exact dz rfl ⟨cs, l, rfl, hok, hpm⟩
theorem D4 (p b : Nat) (cs : List AV) (l : List Int) (h : mX (some (b, cs)) l) (h0 : 0 < l.length) (hl : l.length ≤ 1000000) : AC Tryz.prog 289 [.sc (.pointer (some ⟨p, 0, none⟩))] (hst p (some (b, cs)) l) fun c L => ∃ z l', c = .sc (.iface 3 (.int .i64 z)) ∧ L = hst p (some (b, cs)) l' ∧ mX (some (b, cs)) l' ∧ l = l' ++ [z] := by
 refine aP Tryz.func289 rfl Tryz.ntmps289 rfl fun B => ?_
 unfold hst oD sr
 dsimp only
 obtain ⟨z, hz, hzc⟩ := h.get (a := (l.length : Int) - 1) (by omega) (by omega)
 have hcl := h.2.1
 have hc1 := h.2.2
 repeat' (first|refine ah ?_|refine a7 ?_|refine a8 ?_|refine aa ?_|refine ae a6 rfl rfl ?_|(apply bB; first|refine ak a6 0 rfl rfl rfl rfl rfl ?_|refine ak a6 1 rfl rfl rfl rfl rfl ?_|refine ak a6 2 rfl rfl rfl rfl rfl ?_|refine ak a6 3 rfl rfl rfl rfl rfl ?_|refine aD a6 0 rfl rfl rfl rfl rfl ?_|refine aD a6 1 rfl rfl rfl rfl rfl ?_|refine aD a6 2 rfl rfl rfl rfl rfl ?_|refine ak a6 1 rfl rfl rfl (by assumption) rfl ?_|refine ak a6 0 rfl rfl rfl (by assumption) rfl ?_|fail)|(apply aW; refine aV ?_)|(apply aY; first|refine aX a6 ?_|refine aS a6 ?_)|fail)
 refine yQ a6 (l.length - 1) rfl rfl rfl (by omega) (by omega) (by omega) rfl ?_
 repeat' (first|refine ah ?_|refine a7 ?_|refine a8 ?_|refine aa ?_|refine ae a6 rfl rfl ?_|(apply aH; first|refine aj a6 0 rfl rfl rfl rfl rfl rfl rfl ?_|refine aj a6 1 rfl rfl rfl rfl rfl rfl rfl ?_|refine aj a6 2 rfl rfl rfl rfl rfl rfl rfl ?_|refine aj a6 3 rfl rfl rfl rfl rfl rfl rfl ?_|fail))
 refine lR (by kernel_rfl) rfl rfl ?_
 repeat' (first|refine ar ?_|refine a8 ?_|refine aa ?_|refine ae a6 rfl rfl ?_)
 have hlast : l.take (l.length - 1) ++ [z] = l := by
  have h1 : l.take (l.length - 1 + 1) = l := List.take_of_length_le (by omega)
  rw [List.take_add_one, show l[l.length - 1]? = some z by rw [← hz]; congr 1; omega] at h1
  exact h1
 have hlen : (l.take (l.length - 1)).length = l.length - 1 := by rw [List.length_take]; omega
 refine aA rfl rfl ⟨z, l.take (l.length - 1), rfl, ?_, ⟨?_, by rw [hlen]; omega, hc1⟩, hlast.symm⟩
 ·rw [hlen]
  rfl
 ·rw [hlen, List.map_take, ← h.1, List.take_take]
  congr 1
  omega
theorem Bi (p : Nat) (k : Option (Nat × List AV)) (l : List Int) (z : Int) (h : mX k l) (hl : l.length ≤ 1000000) : AC Tryz.prog 290 [.sc (.pointer (some ⟨p, 0, none⟩)), .sc (.iface 3 (.int .i64 z))] (hst p k l) fun _ L => ∃ b cs, L = hst p (some (b, cs)) (l ++ [z]) ∧ mX (some (b, cs)) (l ++ [z]) := by
 refine aP Tryz.func290 rfl Tryz.ntmps290 rfl fun B => ?_
 unfold hst oD sr
 cases k with
 | none =>
  have hl0 : l = [] := h
  subst hl0
  dsimp only
  repeat' (first|fail)
  refine bt 8 [(0, .v), (1, .v), (2, .v), (3, .l), (4, .v), (5, .v), (6, .v), (7, .e)] none ?_ trivial rfl (by kernel_rfl) (by kernel_rfl) (by kernel_rfl) mixed (by kernel_rfl) rfl
  repeat' (first|refine aE ?_|refine aZ a6 ?_|refine cI a6 0 rfl rfl rfl rfl (by first|trivial|rfl) ?_)
  refine sd (by kernel_rfl) rfl trivial ?_
  repeat' (first|refine aE ?_|refine ee a6 ?_|fail)
  refine wb a6 rfl rfl rfl rfl rfl rfl trivial fun b' cs' h1 h2 => ?_
  repeat' (first|fail)
  refine br [4, 11] rfl rfl ?_
  repeat' (first|refine aa ?_|refine ae a6 rfl rfl ?_|(apply aH; first|refine aj a6 0 rfl rfl rfl rfl rfl rfl rfl ?_|refine aj a6 1 rfl rfl rfl rfl rfl rfl rfl ?_|refine aj a6 2 rfl rfl rfl rfl rfl rfl rfl ?_|refine aj a6 3 rfl rfl rfl rfl rfl rfl rfl ?_|fail))
  exact ba (aK (List.Perm.swap ..)) (dz rfl ⟨b', cs', rfl, h1, h2, h2⟩)
 | some q =>
  obtain ⟨b, cs⟩ := q
  dsimp only
  repeat' (first|fail)
  refine bt 8 [(0, .v), (1, .v), (2, .v), (3, .l), (4, .v), (5, .v), (6, .v), (7, .e)] none ?_ trivial rfl (by kernel_rfl) (by kernel_rfl) (by kernel_rfl) mixed (by kernel_rfl) rfl
  repeat' (first|refine aE ?_|refine aZ a6 ?_|refine cI a6 0 rfl rfl rfl rfl (by first|trivial|rfl) ?_)
  refine sd (by kernel_rfl) rfl trivial ?_
  repeat' (first|refine aE ?_|refine ee a6 ?_|fail)
  refine w9 a6 1 rfl rfl rfl rfl rfl rfl rfl h.2.1 (by omega) (by omega) trivial fun b' cs' h1 h2 => ?_
  repeat' (first|fail)
  refine br [4, 11] rfl rfl ?_
  repeat' (first|refine aa ?_|refine ae a6 rfl rfl ?_|(apply aH; first|refine aj a6 0 rfl rfl rfl rfl rfl rfl rfl ?_|refine aj a6 1 rfl rfl rfl rfl rfl rfl rfl ?_|refine aj a6 2 rfl rfl rfl rfl rfl rfl rfl ?_|refine aj a6 3 rfl rfl rfl rfl rfl rfl rfl ?_|fail))
  refine ba (aK (List.Perm.swap ..)) (dz rfl ⟨b', cs', ?_, ?_, by simpa using h2, by omega⟩)
  ·rw [List.length_append]
   rfl
  ·rw [List.length_append, List.map_append, ← h.1]
   exact h1
theorem i5 (p b : Nat) (cs : List AV) (l : List Int) : hst p (some (b, cs)) l = [(p, .box [.sc (.slice (some ⟨b, 0, none⟩) l.length cs.length)] 337), (b, .box cs 3)] := rfl
set_option maxHeartbeats 1000000 in
theorem ym (p : Nat) (k : Option (Nat × List AV)) (l : List Int) (z : Int) (h : mX k l) (hl : l.length < 1000000) : AC Tryz.prog 254 [HI p, .sc (.iface 3 (.int .i64 z))] (hst p k l) fun _ L => ∃ b cs l', L = hst p (some (b, cs)) l' ∧ mX (some (b, cs)) l' ∧ l'.Perm (l ++ [z]) := by
 refine aP Tryz.func254 rfl Tryz.ntmps254 rfl fun B => ?_
 repeat' (first|refine ah ?_|refine a7 ?_|refine ae a6 rfl rfl ?_)
 refine sE (hst p k l) [] CS rfl rfl (by rw [List.append_nil]) (Bi p k l z h (by omega)) rfl rfl fun c L1 ⟨b, cs, hL, hok⟩ => ?_
 subst hL
 rw [List.append_nil, i5]
 have hll : (l ++ [z]).length = l.length + 1 := by simp
 repeat' (first|refine a7 ?_|refine a8 ?_|refine aa ?_|refine ae a6 rfl rfl ?_)
 refine dQ 0 [] [(p, .box [.sc (.slice (some ⟨b, 0, none⟩) (l ++ [z]).length cs.length)] 337), (b, .box cs 3)] yD (cU a6 rfl) rfl rfl rfl rfl (Gm _) (uh _ (l ++ [z]).length _ _ rfl) rfl rfl fun c L1 hc => ?_
 have hc : c = aM (l ++ [z]).length := hc
 subst hc
 refine aO (bY (List.sublist_append_right ..)) ?_
 rw [hll]
 repeat' (first|(apply aW; refine aV ?_)|fail)
 have hup := Ex p b cs (l ++ [z]) hok l.length (by rw [hll]; omega) (by rw [hll]; omega)
 rw [i5, hll] at hup
 rw [show (((l.length + 1 : Nat) : Int) - 1) = (l.length : Int) by omega]
 refine b7 _ [] hup rfl rfl (by rw [List.append_nil]) rfl fun c L1 ⟨cs', l', hL, hok', hpm⟩ => ?_
 subst hL
 rw [List.append_nil]
 repeat' (first|refine aa ?_)
 exact dz rfl ⟨b, cs', l', rfl, hok', hpm⟩
set_option maxHeartbeats 1000000 in
theorem B3 (p b : Nat) (cs : List AV) (l : List Int) (h : mX (some (b, cs)) l) (h0 : 0 < l.length) (hl : l.length ≤ 1000000) : AC Tryz.prog 253 [HI p] (hst p (some (b, cs)) l) fun c L => ∃ z cs' l', c = .sc (.iface 3 (.int .i64 z)) ∧ L = hst p (some (b, cs')) l' ∧ mX (some (b, cs')) l' ∧ (l' ++ [z]).Perm l := by
 refine aP Tryz.func253 rfl Tryz.ntmps253 rfl fun B => ?_
 rw [i5]
 repeat' (first|refine ah ?_|refine a7 ?_|refine a8 ?_|refine aa ?_|refine ae a6 rfl rfl ?_)
 refine dQ 0 [] [(p, .box [.sc (.slice (some ⟨b, 0, none⟩) l.length cs.length)] 337), (b, .box cs 3)] yD (cU a6 rfl) rfl rfl rfl rfl (Gm _) (uh _ l.length _ _ rfl) rfl rfl fun c L1 hc => ?_
 have hc : c = aM l.length := hc
 subst hc
 refine aO (bY (List.sublist_append_right ..)) ?_
 repeat' (first|refine ah ?_|refine a7 ?_|refine a8 ?_|refine aa ?_|refine ae a6 rfl rfl ?_|(apply aW; refine aV ?_)|fail)
 obtain ⟨x, hx, hxc⟩ := h.get (a := 0) (by omega) (by omega)
 obtain ⟨y, hy, hyc⟩ := h.get (a := (l.length : Int) - 1) (by omega) (by omega)
 refine dQ 0 [(b, .box cs 3)] [(p, .box [.sc (.slice (some ⟨b, 0, none⟩) l.length cs.length)] 337)] oM (cU a6 rfl) rfl rfl rfl rfl (List.Perm.swap ..) (mc (x := x) (y := y) ⟨by omega, by omega⟩ ⟨by omega, by omega⟩ hxc hyc h.2.1) rfl rfl fun c L1 hL => ?_
 subst hL
 have hs := h.swap (a := 0) (e := (l.length : Int) - 1) ⟨by omega, by omega⟩ ⟨by omega, by omega⟩ hx hy
 have hsl := hs.2.length_eq
 refine aO (aK (List.Perm.swap ..)) ?_
 repeat' (first|refine ah ?_|refine a7 ?_|refine a8 ?_|refine aa ?_|refine ae a6 rfl rfl ?_)
 have hdn := v8 p b _ _ hs.1 0 (l.length - 1) (by rw [hsl]; omega) (by rw [hsl]; omega) (by omega)
 rw [i5, hsl, show (((l.length - 1 : Nat)) : Int) = (l.length : Int) - 1 by omega] at hdn
 rw [show cs.length = ((cs.set (0 : Int).toNat (aM y)).set ((l.length : Int) - 1).toNat (aM x)).length by simp]
 refine b7 _ [] hdn rfl rfl (by rw [List.append_nil]) rfl fun c L1 ⟨cs', l', hL, hok', hpm⟩ => ?_
 subst hL
 rw [List.append_nil]
 repeat' (first|refine ah ?_|refine a7 ?_|refine a8 ?_|refine aa ?_|refine ae a6 rfl rfl ?_)
 have hl' := hpm.length_eq
 refine sE (hst p (some (b, cs')) l') [] E8 rfl rfl (by rw [List.append_nil]) (D4 p b cs' l' hok' (by omega) (by omega)) rfl rfl fun c L1 ⟨z, l2, hc, hL, hok2, he⟩ => ?_
 subst hc; subst hL
 rw [List.append_nil]
 repeat' (first|refine ar ?_|refine a8 ?_|refine aa ?_|refine ae a6 rfl rfl ?_)
 refine aA rfl rfl ⟨z, cs', l2, rfl, rfl, hok2, ?_⟩
 rw [← he]
 exact hpm.trans hs.2
theorem CL {k : Option (Nat × List AV)} {l : List Int} (h : mX k l) : ∃ A c, sr k l.length = .slice A l.length c := by
 cases k with
 | none => rw [show l = [] from h]; exact ⟨_, _, rfl⟩
 | some q => exact ⟨_, _, rfl⟩
section
variable {P : Program} {fr : ca} {d : Option Tmp} {ty t t' : TypeId} {pos : String} {af : Array Edge} {g : Option (Nat × Bool)} {x y : Operand}
theorem A0 {n : Nat} (hx : bH fr x = some (aM n)) (hy : bH fr y = some (aM 2)) (hn : n ≤ 9223372036854775807) : Av P ⟨d, .binOp .quo t x y t', ty, pos, af, g⟩ fr (aM ((n / 2 : Nat) : Int)) := by
 have h := uV (P := P) (d := d) (ty := ty) (pos := pos) (af := af) (g := g) (t := t) (t' := t') hx hy (by omega)
 have e : IntKind.i64.wrap ((n : Int).tdiv 2) = ((n / 2 : Nat) : Int) := by
  have : (n : Int).tdiv 2 = ((n / 2 : Nat) : Int) := by
   rw [Int.tdiv_eq_ediv_of_nonneg (by omega)]
   simp
  rw [this, mz (by omega)]
 rwa [e] at h
end
set_option maxHeartbeats 1000000 in
theorem yl (p : Nat) (k : Option (Nat × List AV)) (l : List Int) (h : mX k l) (hl : l.length ≤ 1000000) : AC Tryz.prog 252 [HI p] (hst p k l) fun _ L => ∃ k' l', L = hst p k' l' ∧ mX k' l' ∧ l'.Perm l := by
 refine aP Tryz.func252 rfl Tryz.ntmps252 rfl fun B => ?_
 obtain ⟨A, cc, hA⟩ := CL h
 repeat' (first|refine ah ?_|refine a7 ?_|refine ae a6 rfl rfl ?_)
 refine dQ 0 [] (hst p k l) yD (cU a6 rfl) rfl rfl rfl rfl (Gm _) (uh _ l.length cc A hA) rfl rfl fun c L1 hc => ?_
 have hc : c = aM l.length := hc
 subst hc
 refine aO (bY (List.sublist_append_right ..)) ?_
 repeat' (first|refine ah ?_|refine a7 ?_|refine a8 ?_|refine aa ?_|refine ae a6 rfl rfl ?_)
 refine aV ?_ (A0 (n := l.length) rfl rfl (by omega))
 repeat' (first|refine aq ?_|refine a8 ?_|refine aa ?_|refine ae a6 rfl rfl ?_|(apply aW; refine aV ?_)|fail)
 refine aN [0, 2] (α := Nat × Option (Nat × List AV) × List Int) (fun x => [(3, aM ((x.1 : Int) - 1))]) (fun x => x.1 ≤ l.length / 2 ∧ mX x.2.1 x.2.2 ∧ x.2.2.Perm l) (fun x => hst p x.2.1 x.2.2) (fun x => x.1) (l.length / 2, k, l) rfl ⟨rfl, trivial⟩ ⟨Nat.le_refl _, h, Gm _⟩ (fun _ _ h => h) ?_
 rintro ⟨m, k, l'⟩ ⟨hm, hok, hpm⟩
 dsimp only at hm hok hpm ⊢
 have hll := hpm.length_eq
 try dsimp only [Gr, Gq, Gp, Gj]
 repeat' (first|refine ah ?_|refine a7 ?_|refine a8 ?_|refine aa ?_|refine ae a6 rfl rfl ?_)
 refine aw rfl (fun h2 => ?_) (fun h2 => ?_)
 ·have h2' := Gz h2
  cases k with
  | none => rw [show l' = [] from hok] at hll; simp at hll; omega
  | some q =>
   obtain ⟨b, cs⟩ := q
   repeat' (first|refine ah ?_|refine a7 ?_|refine aq ?_|refine au ?_|refine a8 ?_|refine ae a6 rfl rfl ?_)
   have hdn := v8 p b cs l' hok (m - 1) l.length (by omega) (by omega) (by omega)
   rw [show (((m - 1 : Nat)) : Int) = (m : Int) - 1 by omega] at hdn
   refine b7 _ [] hdn rfl rfl (by rw [List.append_nil]) rfl fun c L1 ⟨cs', l2, hL, hok', hpm'⟩ => ?_
   subst hL
   rw [List.append_nil]
   repeat' (first|refine a7 ?_|refine a8 ?_|refine aI ?_|refine aa ?_|refine ae a6 rfl rfl ?_|(apply aW; refine aV ?_)|fail)
   exact aC (m - 1, some (b, cs'), l2) rfl ⟨by rw [show (((m - 1 : Nat)) : Int) = (m : Int) - 1 by omega]; rfl, trivial⟩ ⟨by dsimp only; omega, hok', hpm'.trans hpm⟩ (by dsimp only; omega) (fun _ _ h => h)
 ·repeat' (first|refine aR ?_|refine av ?_|refine aB ?_|refine ay ?_)
  exact dz rfl ⟨k, l', rfl, hok, hpm⟩
end Go.Proofs.YtjjpkibjffmceaaGreat
namespace Go.Proofs.YtjjpkibjffmceaaGreat
open Go.RowKit
attribute [local irreducible] AT bT AX AO Av Kt bk ej DA cX
def o8 (fs : List ByteArray) (l : List bL) : List Int := (l.map fun t => if gc fs t.Name then t.Lookups else []).flatten
theorem xK (fs : List ByteArray) (l : List bL) (i : Nat) {t : bL} (h : l[i]? = some t) : o8 fs (l.take (i + 1)) = o8 fs (l.take i) ++ (if gc fs t.Name then t.Lookups else []) := by
 unfold o8
 rw [List.take_add_one, h, List.map_append, List.flatten_append]
 simp
theorem rS {fs : List ByteArray} {l : List bL} {z : Int} : z ∈ o8 fs l ↔ ∃ t ∈ l, gc fs t.Name = true ∧ z ∈ t.Lookups := by
 unfold o8
 rw [List.mem_flatten]
 constructor
 ·rintro ⟨q, hq, hz⟩
  rw [List.mem_map] at hq
  obtain ⟨t, ht, rfl⟩ := hq
  refine ⟨t, ht, ?_⟩
  split at hz
  ·exact ⟨by assumption, hz⟩
  ·cases hz
 ·rintro ⟨t, ht, h1, h2⟩
  exact ⟨_, List.mem_map.2 ⟨t, ht, rfl⟩, by rw [if_pos h1]; exact h2⟩
def CallsIn (f : aJ) (l : List Int) (cs : List fF) : Prop := ∀ c ∈ cs, lA f c.Lookup = true → c.Lookup ∈ l
def iY (f : aJ) (l : List Int) (rs : List bV) : Prop := ∀ r ∈ rs, CallsIn f l r.Calls
structure fG (f : aJ) (fs : List ByteArray) (l : List Int) (i : Nat) : Prop where
 reach : ∀ z ∈ l, kB f fs z
 nodup : l.Nodup
 base : ∀ z ∈ o8 fs f.Features, 0 ≤ z → z < f.Lookups.length → z ∈ l
 done : ∀ j < i, ∀ z, l[j]? = some z → ∀ x, f.Lookups[z.toNat]? = some x → x.Kind = 4 → iY f l x.Rules
theorem CallsIn.mono {f : aJ} {l k : List Int} {cs : List fF} (h : CallsIn f l cs) (hs : ∀ z ∈ l, z ∈ k) : CallsIn f k cs := fun c hc hn => hs _ (h c hc hn)
theorem iY.mono {f : aJ} {l k : List Int} {rs : List bV} (h : iY f l rs) (hs : ∀ z ∈ l, z ∈ k) : iY f k rs := fun r hr => (h r hr).mono hs
theorem fG.add {f : aJ} {fs : List ByteArray} {l : List Int} {i : Nat} {n : Int} (h : fG f fs l i) (hn : kB f fs n) (hl : n ∉ l) (hi : i ≤ l.length) : fG f fs (l ++ [n]) i where
 reach z hz := by
  rcases Gl hz with hz | hz
  ·exact h.reach z hz
  ·rw [Gk hz]; exact hn
 nodup := by
  rw [List.nodup_append]
  refine ⟨h.nodup, by simp, fun a ha b hb => ?_⟩
  rw [Gk hb]
  exact fun e => hl (e ▸ ha)
 base z hz h0 h1 := List.mem_append.2 (Or.inl (h.base z hz h0 h1))
 done j hj z hz x hx hk := by
  rw [List.getElem?_append_left (by omega)] at hz
  exact (h.done j hj z hz x hx hk).mono fun z hz => List.mem_append.2 (Or.inl hz)
theorem fG.end {f : aJ} {fs : List ByteArray} {l : List Int} (h : fG f fs l l.length) : lb l f.Lookups.length = dx f fs := by
 refine uG fun z h0 h1 => ⟨h.reach z, fun hr => ?_⟩
 clear h0 h1
 induction hr with
 | base ht hn hm h0 h1 => exact h.base _ (rS.2 ⟨_, ht, hn, hm⟩) h0 h1
 | call hm hl hk hr hc hn ih =>
  obtain ⟨j, hj⟩ := List.mem_iff_getElem?.1 ih
  exact h.done j (Gn hj).1 _ hj _ hl hk _ hr _ hc hn
theorem fG.next {f : aJ} {fs : List ByteArray} {l : List Int} {i : Nat} {z : Int} {x : b9} (h : fG f fs l i) (hz : l[i]? = some z) (hx : f.Lookups[z.toNat]? = some x) (hd : x.Kind = 4 → iY f l x.Rules) : fG f fs l (i + 1) where
 reach := h.reach
 nodup := h.nodup
 base := h.base
 done j hj y hy w hw hk := by
  by_cases e : j = i
  ·subst e
   rw [hz] at hy
   injection hy with hy
   subst hy
   rw [hx] at hw
   injection hw with hw
   subst hw
   exact hd hk
  ·exact h.done j (by omega) y hy w hw hk
def fV (l : List Int) (n : Nat) : List AV := (List.range n).map fun (i : Nat) => cF (l.contains (i : Int))
theorem mB (l : List Int) (n : Nat) : (fV l n).length = n := by simp [fV]
theorem mA (l : List Int) (n : Nat) {z : Int} (h0 : 0 ≤ z) (h1 : z < n) : (fV l n)[0 + z.toNat * 1]? = some (cF (l.contains z)) := by
 rw [Nat.zero_add, Nat.mul_one]
 unfold fV
 rw [List.getElem?_map, List.getElem?_range (by omega)]
 simp only [Option.map_some]
 rw [show ((z.toNat : Nat) : Int) = z by omega]
theorem qe (l : List Int) (n : Nat) {z : Int} (h0 : 0 ≤ z) (h1 : z < n) : (fV l n).set (0 + z.toNat * 1) (cF true) = fV (l ++ [z]) n := by
 rw [Nat.zero_add, Nat.mul_one]
 apply List.ext_getElem?
 intro i
 rw [List.getElem?_set, mB]
 unfold fV
 by_cases hi : z.toNat = i
 ·subst hi
  rw [if_pos rfl, if_pos (by omega), List.getElem?_map, List.getElem?_range (by omega)]
  simp
  omega
 ·rw [if_neg hi, List.getElem?_map, List.getElem?_map]
  by_cases hn : i < n
  ·rw [List.getElem?_range hn]
   simp only [Option.map_some, Option.some.injEq]
   refine congrArg cF ?_
   rw [Bool.eq_iff_iff, List.contains_iff_mem, List.contains_iff_mem, List.mem_append, List.mem_singleton]
   constructor
   ·exact Or.inl
   ·rintro (h | h)
    ·exact h
    ·omega
  ·rw [List.getElem?_eq_none (by simp; omega)]
   rfl
theorem qd (n : Nat) : (List.replicate n [cF false]).flatten = fV [] n := by
 have : ∀ m, (List.replicate m [cF false]).flatten = List.replicate m (cF false) := by
  intro m
  induction m with
  | zero => rfl
  | succ m ih => rw [List.replicate_succ, List.flatten_cons, ih, List.replicate_succ]; rfl
 rw [this]
 unfold fV
 apply List.ext_getElem?
 intro i
 rw [List.getElem?_replicate, List.getElem?_map]
 by_cases h : i < n
 ·rw [if_pos h, List.getElem?_range h]; rfl
 ·rw [if_neg h, List.getElem?_eq_none (by simp; omega)]; rfl
def addOne (n : Nat) (l : List Int) (z : Int) : List Int := if 0 ≤ z ∧ z < n ∧ z ∉ l then l ++ [z] else l
def cS (n : Nat) (l ns : List Int) : List Int := ns.foldl (addOne n) l
theorem pS {n : Nat} {l ns : List Int} {i : Nat} {z : Int} (h : ns[i]? = some z) : cS n l (ns.take (i + 1)) = addOne n (cS n l (ns.take i)) z := by
 unfold cS
 rw [List.take_add_one, h, List.foldl_append]
 rfl
structure ce (n : Nat) (l : List Int) : Prop where
 nodup : l.Nodup
 dom : ∀ z ∈ l, 0 ≤ z ∧ z < n
theorem ce.len {n : Nat} {l : List Int} (h : ce n l) : l.length ≤ n := gw h.nodup h.dom
theorem ce.nil {n : Nat} : ce n [] := ⟨by simp, by simp⟩
theorem ce.one {n : Nat} {l : List Int} (h : ce n l) (z : Int) : ce n (addOne n l z) := by
 unfold addOne
 split
 ·rename_i hz
  refine ⟨?_, fun y hy => ?_⟩
  ·rw [List.nodup_append]
   refine ⟨h.nodup, by simp, fun a ha b hb => ?_⟩
   rw [Gk hb]
   exact fun e => hz.2.2 (e ▸ ha)
  ·rcases Gl hy with hy | hy
   ·exact h.dom y hy
   ·rw [Gk hy]; exact ⟨hz.1, hz.2.1⟩
 ·exact h
theorem ce.add {n : Nat} {l : List Int} (h : ce n l) (ns : List Int) : ce n (cS n l ns) := by
 unfold cS
 induction ns generalizing l with
 | nil => exact h
 | cons z ns ih => exact ih (h.one z)
def du (p b n : Nat) (k : Option (Nat × Nat)) (l : List Int) : AL := (p, .box [.sc (.slice (some ⟨b, 0, none⟩) n n), .vec k 1 (aU l)] 196) :: (b, .box (fV l n) 4) :: tok k 135 1 (aU l).length
abbrev fp (p : Nat) : AV := .sc (.pointer (some ⟨p, 0, none⟩))
theorem BX (n : Nat) (hn : n ≤ 1000000) : AC Tryz.prog 47 [aM n] [] fun c L => ∃ p b, c = fp p ∧ L = du p b n none [] := by
 refine aP Tryz.func47 rfl Tryz.ntmps47 rfl fun B => ?_
 repeat' (first|refine ah ?_|refine a7 ?_|refine a8 ?_|refine aa ?_|refine ae a6 rfl rfl ?_)
 refine l6 a6 n rfl rfl rfl rfl rfl rfl rfl (by omega) (by omega) rfl fun b => ?_
 rw [show (List.replicate n (List.map AV.sc [Value.bool false])).flatten = fV [] n from qd n]
 repeat' (first|refine ar ?_|refine a8 ?_|refine aa ?_|refine ae a6 rfl rfl ?_|refine sD fun _=>?_|fail)
 refine ba (bi 0 (cs' := [.sc (.slice (some ⟨b, 0, none⟩) n n), .vec none 1 []]) rfl fun σ vs h => ?_) (aA rfl rfl ⟨_, b, rfl, rfl⟩)
 obtain ⟨v, ws, rfl, h1, h2⟩ := h.inv
 obtain ⟨v', ws', rfl, h3, h4⟩ := h2.inv
 exact .cons h1 (.cons (co 1 h3) h4)
theorem xA (p b n : Nat) (k : Option (Nat × Nat)) (l ns : List Int) (hn : n ≤ 1000000) (hl : ce n l) : AC Tryz.prog 48 [fp p, .imm 1 (aU ns)] (du p b n k l) fun _ L => ∃ k', L = du p b n k' (cS n l ns) := by
 refine aP Tryz.func48 rfl Tryz.ntmps48 rfl fun B => ?_
 refine cz 1 rfl rfl fun hlen => ?_
 rw [aQ] at hlen
 repeat' (first|refine ah ?_|refine a7 ?_|refine aq ?_|refine a8 ?_|refine aa ?_|refine ae a6 rfl rfl ?_)
 refine aN [0, 6, 7] (α := Nat × Option (Nat × Nat)) (fun x => [(8, aM x.1)]) (fun x => x.1 ≤ ns.length) (fun x => du p b n x.2 (cS n l (ns.take x.1))) (fun x => ns.length - x.1) (0, k) rfl ⟨rfl, trivial⟩ (Nat.zero_le _) (fun _ _ h => h) ?_
 rintro ⟨i, k⟩ hi
 dsimp only at hi ⊢
 have hok := hl.add (ns.take i)
 have hok1 := hok.len
 try dsimp only [Gr, Gq, Gp, Gj]
 repeat' (first|refine ah ?_|refine a7 ?_|refine a8 ?_|refine aa ?_|refine ae a6 rfl rfl ?_)
 refine aw rfl (fun h => ?_) (fun h => ?_)
 ·have hil : i < ns.length := by have := Gz h; simp [aQ] at this; omega
  obtain ⟨z, hz⟩ : ∃ z, ns[i]? = some z := ⟨_, Ds hil⟩
  have hzg := bN hz
  have had := pS (n := n) (l := l) hz
  generalize cS n l (ns.take i) = l1 at *
  repeat' (first|refine ah ?_|refine a7 ?_|refine aq ?_|refine au ?_|refine a8 ?_|refine aa ?_|refine ae a6 rfl rfl ?_|(apply aY; first|refine aX a6 ?_|refine aS a6 ?_)|fail)
  refine dJ [0, 5, 6, 7, 8] (0 ≤ z ∧ z < n ∧ z ∉ l1) rfl (fun Q' K => ?_) (fun hC => ?_) (fun hC => ?_)
  ·by_cases hin : 0 ≤ z ∧ z < n
   ·obtain ⟨hz0, hz1⟩ := hin
    have hfg := mA l1 n hz0 hz1
    clear had hok hl
    repeat' (first|refine aa ?_|refine ae a6 rfl rfl ?_|refine aG rfl rfl ?_|refine aL rfl rfl rfl rfl ?_|(apply bB; first|refine ak a6 0 rfl rfl rfl rfl rfl ?_|refine ak a6 1 rfl rfl rfl rfl rfl ?_|refine ak a6 2 rfl rfl rfl rfl rfl ?_|refine ak a6 3 rfl rfl rfl rfl rfl ?_|refine aD a6 0 rfl rfl rfl rfl rfl ?_|refine aD a6 1 rfl rfl rfl rfl rfl ?_|refine aD a6 2 rfl rfl rfl rfl rfl ?_|refine ak a6 1 rfl rfl rfl (by assumption) rfl ?_|refine ak a6 0 rfl rfl rfl (by assumption) rfl ?_|fail)|(apply aY; first|refine aX a6 ?_|refine aS a6 ?_)|refine bc rfl rfl rfl (fun _ => ?_) (fun _ => ?_))
    all_goals exact K _ _ rfl rfl (by simp_all)
   ·clear had hok hl
    repeat' (first|refine aa ?_|refine ae a6 rfl rfl ?_|refine aG rfl rfl ?_|refine aL rfl rfl rfl rfl ?_|(apply bB; first|refine ak a6 0 rfl rfl rfl rfl rfl ?_|refine ak a6 1 rfl rfl rfl rfl rfl ?_|refine ak a6 2 rfl rfl rfl rfl rfl ?_|refine ak a6 3 rfl rfl rfl rfl rfl ?_|refine aD a6 0 rfl rfl rfl rfl rfl ?_|refine aD a6 1 rfl rfl rfl rfl rfl ?_|refine aD a6 2 rfl rfl rfl rfl rfl ?_|refine ak a6 1 rfl rfl rfl (by assumption) rfl ?_|refine ak a6 0 rfl rfl rfl (by assumption) rfl ?_|fail)|refine bc rfl rfl rfl (fun _ => ?_) (fun _ => ?_))
    all_goals first
     | (refine K _ _ rfl rfl ?_; exact ⟨fun e => (by cases e), fun hh => absurd (And.intro hh.1 hh.2.1) hin⟩)
     | (rename_i e1 e2; exact absurd ⟨Gz e1, Gz e2⟩ hin)
  ·obtain ⟨hz0, hz1, hz2⟩ := hC
   have had' : cS n l (ns.take (i + 1)) = l1 ++ [z] := by rw [had]; unfold addOne; rw [if_pos ⟨hz0, hz1, hz2⟩]
   repeat' (first|refine ah ?_|refine a7 ?_|refine ae a6 rfl rfl ?_|(apply bB; first|refine ak a6 0 rfl rfl rfl rfl rfl ?_|refine ak a6 1 rfl rfl rfl rfl rfl ?_|refine ak a6 2 rfl rfl rfl rfl rfl ?_|refine ak a6 3 rfl rfl rfl rfl rfl ?_|refine aD a6 0 rfl rfl rfl rfl rfl ?_|refine aD a6 1 rfl rfl rfl rfl rfl ?_|refine aD a6 2 rfl rfl rfl rfl rfl ?_|refine ak a6 1 rfl rfl rfl (by assumption) rfl ?_|refine ak a6 0 rfl rfl rfl (by assumption) rfl ?_|fail)|(apply aY; first|refine aX a6 ?_|refine aS a6 ?_)|fail)
   refine aj a6 1 rfl rfl rfl rfl rfl rfl (by rw [Nat.ble_eq, mB]; show _ + 1 ≤ n; omega) ?_
   rw [gy, qe l1 n hz0 hz1]
   repeat' (first|refine a7 ?_|refine a8 ?_|refine aa ?_|refine ae a6 rfl rfl ?_|(apply bB; first|refine ak a6 0 rfl rfl rfl rfl rfl ?_|refine ak a6 1 rfl rfl rfl rfl rfl ?_|refine ak a6 2 rfl rfl rfl rfl rfl ?_|refine ak a6 3 rfl rfl rfl rfl rfl ?_|refine aD a6 0 rfl rfl rfl rfl rfl ?_|refine aD a6 1 rfl rfl rfl rfl rfl ?_|refine aD a6 2 rfl rfl rfl rfl rfl ?_|refine ak a6 1 rfl rfl rfl (by assumption) rfl ?_|refine ak a6 0 rfl rfl rfl (by assumption) rfl ?_|fail)|refine bz a6 ?_|fail)
   refine bF a6 [(p, .box [.sc (.slice (some ⟨b, 0, none⟩) n n), .vec k 1 (aU l1)] 196), (b, .box (fV (l1 ++ [z]) n) 4)] rfl rfl rfl rfl (List.perm_append_comm (l₁ := [(p, AB.box [.sc (.slice (some ⟨b, 0, none⟩) n n), .vec k 1 (aU l1)] 196), (b, AB.box (fV (l1 ++ [z]) n) 4)])) (by rw [aQ]; simp; omega) (by rw [aQ]; simp; omega) rfl fun k' => ?_
   refine aO (aK List.perm_append_comm) ?_
   repeat' (first|refine a7 ?_|refine a8 ?_|refine aI ?_|refine aa ?_|refine ae a6 rfl rfl ?_|(apply aW; refine aV ?_)|(apply aH; first|refine aj a6 0 rfl rfl rfl rfl rfl rfl rfl ?_|refine aj a6 1 rfl rfl rfl rfl rfl rfl rfl ?_|refine aj a6 2 rfl rfl rfl rfl rfl rfl rfl ?_|refine aj a6 3 rfl rfl rfl rfl rfl rfl rfl ?_|fail))
   rw [show aU l1 ++ [[aM z]] = aU (l1 ++ [z]) from jQ l1 [z], ← had']
   refine aC (i + 1, k') rfl ⟨by rw [Gw]; rfl, trivial⟩ (by dsimp only; omega) (by dsimp only; omega) (fun _ _ h => h)
  ·have had' : cS n l (ns.take (i + 1)) = l1 := by rw [had]; unfold addOne; rw [if_neg hC]
   repeat' (first|refine a7 ?_|refine au ?_|refine a8 ?_|refine aI ?_|refine aa ?_|refine ae a6 rfl rfl ?_|(apply aW; refine aV ?_)|fail)
   refine aC (i + 1, k) rfl ⟨by rw [Gw]; rfl, trivial⟩ (by dsimp only; omega) (by dsimp only; omega) (fun _ _ h => by dsimp only; rw [had']; exact h)
 ·have hil : i = ns.length := by have := Gy h; simp [aQ] at this; omega
  subst hil
  rw [List.take_length]
  repeat' (first|refine aR ?_|refine av ?_|refine aB ?_|refine ay ?_)
  exact dz rfl ⟨k, rfl⟩
end Go.Proofs.YtjjpkibjffmceaaGreat
